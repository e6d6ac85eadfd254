import Derived.Test.YtonodamokacgiaaDoorQBcd
import Derived.Test.YtonodamokacgiaaDoorPAllx2
import Derived.Test.YtonodamokacgiaaDoorPAllx3
/- Two digits in one byte, and back. -/
namespace Go.Proofs.YtonodamokacgiaaDoor.Q
open Go.RowKit Go.Proofs.YtonodamokacgiaaDoorW.PrintWords Go.Proofs.YtonodamokacgiaaDoorW.PrintMore Go.Proofs.YtonodamokacgiaaDoor.PAll
set_option linter.unusedVariables false

abbrev ints (l : List UInt8) : List Int := l.map fun c => (c.toNat : Int)
theorem str_ints (l : List UInt8) : strOfNums (ints l) = S l := by
  unfold strOfNums
  rw [List.map_map]
  have : ((fun n : Int => UInt8.ofNat n.toNat) ∘ fun c : UInt8 => (c.toNat : Int)) = id := funext fun c => by simp
  rw [this, List.map_id]
/-- Two digits' byte. -/
def B (a b : Int) : Int := Go.bits .or .u8 (((a - 48) % 256 * 16) % 256) ((b - 48) % 256)
theorem B_back {a b : UInt8} (ha : IsDig a) (hb : IsDig b) : (48 + B (a.toNat : Int) (b.toNat : Int) / 16) % 256 = (a.toNat : Int) ∧ (48 + Go.bits .and .u8 (B (a.toNat : Int) (b.toNat : Int)) 15) % 256 = (b.toNat : Int) := by
  have : ∀ x y : Fin 10, (48 + B ((48 + x.val : Nat) : Int) ((48 + y.val : Nat) : Int) / 16) % 256 = ((48 + x.val : Nat) : Int) ∧ (48 + Go.bits .and .u8 (B ((48 + x.val : Nat) : Int) ((48 + y.val : Nat) : Int)) 15) % 256 = ((48 + y.val : Nat) : Int) := by decide +kernel
  unfold IsDig at ha hb
  have h := this ⟨a.toNat - 48, by omega⟩ ⟨b.toNat - 48, by omega⟩
  simp only [show 48 + (a.toNat - 48) = a.toNat by omega, show 48 + (b.toNat - 48) = b.toNat by omega] at h
  exact h
def pk (m : Nat) (l : List UInt8) : List Int := (List.range m).map fun j => B ((l.getD (2 * j) 0).toNat : Int) ((l.getD (2 * j + 1) 0).toNat : Int)
theorem pk_length (m : Nat) (l : List UInt8) : (pk m l).length = m := by simp [pk]
theorem pk_at {m j : Nat} {l : List UInt8} (hj : j < m) (hl : l.length = 2 * m) : (pk m l)[j]'(by rw [pk_length]; exact hj) = B ((l[2 * j]'(by omega)).toNat : Int) ((l[2 * j + 1]'(by omega)).toNat : Int) := by
  have h1 : 2 * j < l.length := by omega
  have h2 : 2 * j + 1 < l.length := by omega
  simp [pk, List.getD_eq_getElem?_getD, List.getElem?_eq_getElem h1, List.getElem?_eq_getElem h2]
theorem pack_l0 (m : Nat) (l : List UInt8) (hl : l.length = 2 * m) (hm : m ≤ 1000) (d : Nat) : ∀ j : Nat, m - j = d → j ≤ m → Ev (fun k => bcd_Pack.l0 k (S l) ((pk m l).take j) ((2 * j : Nat) : Int)) (pk m l, true) := by
  have hp := pk_length m l
  induction d with
  | zero =>
    intro j hd hj
    rw [List.take_of_length_le (show (pk m l).length ≤ j by omega)]
    exact Ev.step (f := fun _ => some (pk m l, true)) (fun k => by simp only [bcd_Pack.l0]; rw [if_neg (by rw [S_size]; omega)]) (Ev.now _)
  | succ d ih =>
    intro j hd hj
    have hlt : j < m := by omega
    have h1 : 2 * j < l.length := by omega
    have h2 : 2 * j + 1 < l.length := by omega
    have w1 : wrap64 (((2 * j : Nat) : Int) + 1) = ((2 * j + 1 : Nat) : Int) := by unfold wrap64; omega
    have w2 : wrap64 (((2 * j : Nat) : Int) + 2) = ((2 * (j + 1) : Nat) : Int) := by unfold wrap64; omega
    refine Ev.step (fun k => ?_) (ih (j + 1) (by omega) (by omega))
    simp only [bcd_Pack.l0]
    rw [w1, w2, if_pos (by rw [S_size]; omega), if_pos (by omega), if_pos (by omega), if_pos (by rw [S_size]; omega), if_pos (by rw [List.length_take]; omega), bt_lt h1, bt_lt h2]
    rw [List.take_succ_eq_append_getElem (show j < (pk m l).length by omega), pk_at hlt hl]
    rfl
theorem pack_j0 (m : Nat) (l : List UInt8) (hl : l.length = 2 * m) (hm : m ≤ 1000) : Ev (fun k => bcd_Pack.j0 k (S l)) (pk m l, true) := by
  refine Ev.step (f := fun k => bcd_Pack.l0 k (S l) [] 0) (fun k => by simp only [bcd_Pack.j0]) ?_
  exact pack_l0 m l hl hm _ 0 rfl (by omega)
theorem unpack_l0 (n : Int) (m : Nat) (l : List UInt8) (hl : l.length = 2 * m) (hm : m ≤ 1000) (hd : AllDig l) {r : ByteArray × Bool}
    (hn : Ev (fun k => bcd_Unpack.l0 k n (ints l) (pk m l) (m : Int) (m : Int)) r) (d : Nat) : ∀ j : Nat, m - j = d → j ≤ m → Ev (fun k => bcd_Unpack.l0 k n (ints (l.take (2 * j))) (pk m l) (m : Int) (j : Int)) r := by
  have hp := pk_length m l
  induction d with
  | zero =>
    intro j h1 hj
    obtain rfl : j = m := by omega
    rw [List.take_of_length_le (show l.length ≤ 2 * j by omega)]
    exact hn
  | succ d ih =>
    intro j h0 hj
    have hlt : j < m := by omega
    have h1 : 2 * j < l.length := by omega
    have h2 : 2 * j + 1 < l.length := by omega
    obtain ⟨b1, b2⟩ := B_back (hd l[2 * j] (List.getElem_mem h1)) (hd l[2 * j + 1] (List.getElem_mem h2))
    have h := ih (j + 1) (by omega) (by omega)
    rw [show l.take (2 * (j + 1)) = l.take (2 * j) ++ [l[2 * j], l[2 * j + 1]] from by
      rw [show 2 * (j + 1) = (2 * j + 1) + 1 from by omega, List.take_succ_eq_append_getElem h2, List.take_succ_eq_append_getElem h1, List.append_assoc]
      rfl] at h
    rw [show ints (l.take (2 * j) ++ [l[2 * j], l[2 * j + 1]]) = ints (l.take (2 * j)) ++ [(l[2 * j].toNat : Int), (l[2 * j + 1].toNat : Int)] from by simp [ints]] at h
    refine Ev.step (fun k => ?_) h
    simp only [bcd_Unpack.l0]
    rw [if_pos (by omega), if_pos (by omega), if_pos (by omega), rd_lt (show j < (pk m l).length by omega), pk_at hlt hl, b1, b2]
    simp only [Option.bind_some]
    rw [if_pos (by rw [List.length_map, List.length_take]; simp; omega), wrap_succ hlt (by omega)]
theorem pack_ev (l : List UInt8) (hd : AllDig l) (hl : l.length ≤ 100) : ∃ (m : Nat) (l' : List UInt8), Ev (fun k => bcd_Pack.f k (S l)) (pk m l', true) ∧ l'.length = 2 * m ∧ AllDig l' ∧ (l.length % 2 = 0 ∧ l' = l ∨ l.length % 2 = 1 ∧ l' = 48 :: l) := by
  have h48 : IsDig 48 := by unfold IsDig; decide
  rcases Nat.mod_two_eq_zero_or_one l.length with h | h
  · refine ⟨l.length / 2, l, ?_, by omega, hd, Or.inl ⟨h, rfl⟩⟩
    unfold bcd_Pack.f
    refine Ev.bind (bcd_digits_ev l (by omega)) (Ev.ite_pos (by simpa using hd) ?_)
    rw [S_size]
    exact Ev.ite_neg (by omega) (pack_j0 _ l (by omega) (by omega))
  · refine ⟨(l.length + 1) / 2, 48 :: l, ?_, by rw [List.length_cons]; omega, AllDig.cons.2 ⟨h48, hd⟩, Or.inr ⟨h, rfl⟩⟩
    unfold bcd_Pack.f
    refine Ev.bind (bcd_digits_ev l (by omega)) (Ev.ite_pos (by simpa using hd) ?_)
    rw [S_size]
    refine Ev.ite_pos (by omega) (Ev.ite_pos (by omega) ?_)
    rw [show (⟨#[48]⟩ : ByteArray) ++ S l = S (48 :: l) from S_append [48] l]
    exact pack_j0 _ (48 :: l) (by rw [List.length_cons]; omega) (by omega)
theorem unpack_ev (l : List UInt8) (hl : l.length ≤ 100) (m : Nat) (l' : List UInt8) (hl' : l'.length = 2 * m) (hd' : AllDig l') (hc : l.length % 2 = 0 ∧ l' = l ∨ l.length % 2 = 1 ∧ l' = 48 :: l) : Ev (fun k => bcd_Unpack.f k (pk m l') (l.length : Int)) (S l, true) := by
  have hlen : l'.length = l.length + l.length % 2 := by
    rcases hc with ⟨h, rfl⟩ | ⟨h, rfl⟩
    · omega
    · rw [List.length_cons]; omega
  have hm : m ≤ 100 := by omega
  unfold bcd_Unpack.f
  refine Ev.ite_neg (by omega) ?_
  rw [pk_length]
  have ht : Int.tmod (l.length : Int) 2 = ((l.length % 2 : Nat) : Int) := by rw [Int.tmod_eq_emod_of_nonneg (by omega)]; omega
  have hq : Int.tdiv (l.length : Int) 2 = ((l.length / 2 : Nat) : Int) := by rw [Int.tdiv_eq_ediv_of_nonneg (by omega)]; omega
  rw [ht, hq, show wrap64 (wrap64 ((l.length / 2 : Nat) : Int) + ((l.length % 2 : Nat) : Int)) = (m : Int) from by unfold wrap64; omega, bne_self_eq_false]
  refine Ev.step (f := fun k => bcd_Unpack.l0 k (l.length : Int) [] (pk m l') (m : Int) 0) (fun k => by simp only [bcd_Unpack.j0, Bool.false_eq_true, if_false]; rw [pk_length]) ?_
  refine unpack_l0 (l.length : Int) m l' hl' (by omega) hd' ?_ _ 0 rfl (by omega)
  refine Ev.step (f := fun k => (bcd_digits.f k (S l')).bind fun t => if t = true then some (S l, true) else some ((⟨#[]⟩ : ByteArray), false)) (fun k => ?_) (Ev.bind (bcd_digits_ev l' (by omega)) (Ev.ite_pos (by simpa using hd') (Ev.now _)))
  simp only [bcd_Unpack.l0]
  rw [if_neg (by omega), str_ints, ht]
  congr 1
  funext t
  by_cases c : t = true
  · rw [if_pos c, if_pos c]
    rcases hc with ⟨h, rfl⟩ | ⟨h, rfl⟩
    · rw [if_neg (by omega), if_pos (by omega), if_pos (by omega), h, S_size, S_extract]
      simp
    · rw [if_pos (by omega), if_pos (by rw [S_size, List.length_cons]; omega), if_pos (show bt (S (48 :: l)) 0 = 48 from bt_lt (i := 0) (by simp)), if_pos (by omega), if_pos (by rw [S_size, List.length_cons]; omega), h, S_size, S_extract]
      simp
  · rw [if_neg c, if_neg c]
theorem numR_digN {m u : Nat} (h1 : 1 ≤ m) (h2 : m ≤ 18) (h3 : u < 10 ^ m) : numR (digN m u) = ((u : Int), true) := by
  unfold numR
  rw [if_pos ⟨by rw [digN_length]; exact h1, by rw [digN_length]; exact h2, digN_dig m u⟩, val_digN_lt h3]
end Go.Proofs.YtonodamokacgiaaDoor.Q
