import Derived.Test.YtjbhgooakdpabaaDoorQMoney2
import Derived.Test.YtjbhgooakdpabaaDoorPAllx7
/- MoneyPoints: the last two digits stand behind the point, however great the amount. -/
namespace Go.Proofs.YtjbhgooakdpabaaDoor.Pure
open Go.RowKit Go.Proofs.YtjbhgooakdpabaaDoorW.PrintWords Go.Proofs.YtjbhgooakdpabaaDoorW.PrintMore Go.Proofs.YtjbhgooakdpabaaDoor.PAll Go.Proofs.YtjbhgooakdpabaaDoor.Q
set_option linter.unusedVariables false
open Go.Lib (decDigits)

theorem body_at (m : Nat) : (bodyT m)[(bodyT m).length - 3]? = some 46 ∧ (bodyT m).take ((bodyT m).length - 3) = decDigits (m / 100) ∧ (bodyT m).drop ((bodyT m).length - 2) = digN 2 m := by
  have e : (bodyT m).length = (decDigits (m / 100)).length + 3 := by
    unfold bodyT
    rw [List.length_append, List.length_cons, digN_length]
  rw [e, show (decDigits (m / 100)).length + 3 - 3 = (decDigits (m / 100)).length by omega, show (decDigits (m / 100)).length + 3 - 2 = (decDigits (m / 100)).length + 1 by omega]
  unfold bodyT
  refine ⟨?_, ?_, ?_⟩
  · rw [List.getElem?_append_right (Nat.le_refl _)]
    simp
  · simp
  · rw [← List.drop_drop]
    simp
theorem body_len {m : Nat} (h : m ≤ 9223372036854775808) : 4 ≤ (bodyT m).length ∧ (bodyT m).length ≤ 20 := by
  have h1 := len17 h
  have h2 := (dec_len (m / 100)).2
  unfold bodyT
  rw [List.length_append, List.length_cons, digN_length]
  omega
theorem num_2 (m : Nat) : numR (digN 2 m) = (((m % 100 : Nat) : Int), true) := by
  unfold numR
  rw [if_pos ⟨by rw [digN_length]; decide, by rw [digN_length]; decide, digN_dig 2 m⟩, val_digN]
theorem points_j2 (m : Nat) (hm : m ≤ 9223372036854775807) : Ev (fun k => guichetlaw16_MoneyPoints.j2 k (m : Int) false) true := by
  have hI : I64 (-(m : Int) - 1) := by unfold I64; omega
  have hT : moneyT (-(m : Int) - 1) = 45 :: bodyT (-(m : Int) - 1).natAbs := by
    unfold moneyT signT
    rw [if_pos (by omega)]
    rfl
  refine Ev.step (f := fun _ => some true) (fun k => ?_) (Ev.now _)
  simp only [guichetlaw16_MoneyPoints.j2]
  rw [if_neg (by simp), show wrap64 (wrap64 (-(m : Int)) - 1) = -(m : Int) - 1 from by unfold wrap64; omega, text_eq hI]
  simp only [Option.bind_some]
  rw [parse_money hI]
  simp only [Option.bind_some, if_true]
  rw [if_pos (by rw [S_size, hT, List.length_cons]; omega), hT, show bt (S (45 :: bodyT (-(m : Int) - 1).natAbs)) 0 = ((45 : UInt8).toNat : Int) from bt_lt (l := 45 :: bodyT (-(m : Int) - 1).natAbs) (i := 0) (by simp)]
  rfl
theorem points_j0 (m : Nat) (hm : m ≤ 9223372036854775807) : Ev (fun k => guichetlaw16_MoneyPoints.j0 k (m : Int)) true := by
  have hI : I64 (m : Int) := by unfold I64; omega
  have hT : moneyT (m : Int) = bodyT m := by
    unfold moneyT signT
    rw [if_neg (by omega), Int.natAbs_natCast]
    rfl
  obtain ⟨h4, h20⟩ := body_len (m := m) (by omega)
  obtain ⟨b1, b2, b3⟩ := body_at m
  have hlt : (bodyT m).length - 3 < (bodyT m).length := by omega
  rw [List.getElem?_eq_getElem hlt] at b1
  have b1' := Option.some.inj b1
  have hw2 : wrap64 (((bodyT m).length : Int) - 2) = (((bodyT m).length - 2 : Nat) : Int) := by unfold wrap64; omega
  have hw3 : wrap64 (((bodyT m).length : Int) - 3) = (((bodyT m).length - 3 : Nat) : Int) := by unfold wrap64; omega
  refine Ev.step (f := fun k => guichetlaw16_MoneyPoints.j1 k (m : Int) (S (bodyT m)) ((bodyT m).length : Int) false) (fun k => ?_) ?_
  · simp only [guichetlaw16_MoneyPoints.j0]
    rw [text_eq hI, hT]
    simp only [Option.bind_some]
    rw [S_size, if_neg (by omega), hw3, if_pos (by omega), if_pos (by omega), bt_lt hlt, b1']
    rfl
  have e1 : (S (bodyT m)).extract (((bodyT m).length - 2 : Nat) : Int).toNat (bodyT m).length = S (digN 2 m) := by
    rw [S_extract, List.take_length, Int.toNat_natCast, b3]
  have e2 : (S (bodyT m)).extract 0 (((bodyT m).length - 3 : Nat) : Int).toNat = S (decDigits (m / 100)) := by
    rw [S_extract, Int.toNat_natCast, b2]
    rfl
  have hd : wrap64 (Int.tdiv (m : Int) 100) = ((m / 100 : Nat) : Int) := by
    rw [Int.tdiv_eq_ediv_of_nonneg (by omega)]
    unfold wrap64
    omega
  have c0 : (0 : Int) ≤ (((bodyT m).length - 3 : Nat) : Int) := by omega
  have c1 : (((bodyT m).length - 3 : Nat) : Int) ≤ ((bodyT m).length : Int) := by omega
  have c2 : (0 : Int) ≤ (((bodyT m).length - 2 : Nat) : Int) := by omega
  have c3 : (((bodyT m).length - 2 : Nat) : Int) ≤ ((bodyT m).length : Int) := by omega
  refine Ev.step (f := fun k => (guichetref1_Num.f k (S (digN 2 m))).bind fun b => if b.2 = true then (if b.1 = Int.tmod (m : Int) 100 then (guichetref1_Dec.f k ((m / 100 : Nat) : Int)).bind fun t => guichetlaw16_MoneyPoints.j2 k (m : Int) ((S (decDigits (m / 100))).toList != t.toList) else guichetlaw16_MoneyPoints.j2 k (m : Int) true) else guichetlaw16_MoneyPoints.j2 k (m : Int) true) (fun k => ?_) ?_
  · simp only [guichetlaw16_MoneyPoints.j1, hw2, hw3, S_size, if_pos c0, if_pos c1, if_pos c2, if_pos c3, e1, e2, hd, Bool.false_eq_true, if_false]
  · refine Ev.bind (ref_num (digN 2 m) (by rw [digN_length]; decide)) ?_
    rw [num_2]
    refine Ev.ite_pos rfl (Ev.ite_pos (by rw [Int.tmod_eq_emod_of_nonneg (by omega)]; omega) ?_)
    refine Ev.bind (ref_dec_nat (m / 100) (by omega)) ?_
    rw [bne_self_eq_false]
    exact points_j2 m hm
theorem MoneyPoints : guichetlaw16_MoneyPoints.Pure := by
  intro a0 w0
  have hb : -9223372036854775808 ≤ a0 ∧ a0 ≤ 9223372036854775807 := by simpa [Lit.wf, IntKind.min, IntKind.max, IntKind.bits, IntKind.signed] using w0
  refine Ev.rounds (g := fun k => guichetlaw16_MoneyPoints.f k a0) ?_
  unfold guichetlaw16_MoneyPoints.f
  refine Ev.const_bind (show guichetlaw16_known.f = some true from rfl) (Ev.ite_pos rfl ?_)
  by_cases h : a0 < 0
  · refine Ev.ite_pos h ?_
    rw [show wrap64 (-(wrap64 (a0 + 1))) = (((-(a0 + 1)).toNat : Nat) : Int) from by unfold wrap64; omega]
    exact points_j0 _ (by omega)
  · refine Ev.ite_neg h ?_
    rw [show a0 = ((a0.toNat : Nat) : Int) from by omega]
    exact points_j0 _ (by omega)
end Go.Proofs.YtjbhgooakdpabaaDoor.Pure
