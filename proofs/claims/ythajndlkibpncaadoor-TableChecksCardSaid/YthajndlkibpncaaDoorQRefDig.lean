import Derived.Test.YthajndlkibpncaaDoorQText
import Derived.Test.YthajndlkibpncaaDoorPAllx8
import Derived.Test.YthajndlkibpncaaDoorPAllx7
/- The reference's numbers and digits (without decimals). -/
namespace Go.Proofs.YthajndlkibpncaaDoor.Q
open Go.RowKit Go.Proofs.YthajndlkibpncaaDoorW.PrintWords Go.Proofs.YthajndlkibpncaaDoorW.PrintMore Go.Proofs.YthajndlkibpncaaDoor.PAll
set_option linter.unusedVariables false

theorem ref_alldigits_l0 (l : List UInt8) (hl : l.length ≤ 140737488355328) (d : Nat) : ∀ i : Nat, l.length - i = d → i ≤ l.length → Ev (fun k => guichetref1_AllDigits.l0 k (S l) (i : Int)) (decide (AllDig (l.drop i))) := by
  induction d with
  | zero =>
    intro i hd hi
    have e : l.drop i = [] := List.drop_eq_nil_of_le (by omega)
    rw [e]
    exact Ev.step (f := fun _ => some true) (fun k => by simp only [guichetref1_AllDigits.l0]; rw [if_neg (by rw [S_size]; omega)]) (Ev.now _)
  | succ d ih =>
    intro i hd hi
    have hlt : i < l.length := by omega
    rw [List.drop_eq_getElem_cons hlt]
    refine Ev.step (f := fun k => if (l[i].toNat : Int) < 48 then some false else if (l[i].toNat : Int) > 57 then some false else guichetref1_AllDigits.l0 k (S l) ((i + 1 : Nat) : Int)) (fun k => ?_) ?_
    · simp only [guichetref1_AllDigits.l0]
      rw [if_pos (by rw [S_size]; omega), if_pos (by omega), bt_lt hlt, wrap_succ hlt hl]
    by_cases h : IsDig l[i]
    · have h' := h
      unfold IsDig at h'
      rw [show decide (AllDig (l[i] :: l.drop (i + 1))) = decide (AllDig (l.drop (i + 1))) from by rw [decide_eq_decide, AllDig.cons]; simp [h]]
      exact Ev.ite_neg (by omega) (Ev.ite_neg (by omega) (ih (i + 1) (by omega) (by omega)))
    · rw [show decide (AllDig (l[i] :: l.drop (i + 1))) = false from by rw [decide_eq_false_iff_not, AllDig.cons]; exact fun h' => h h'.1]
      unfold IsDig at h
      by_cases h1 : (l[i].toNat : Int) < 48
      · exact Ev.ite_pos h1 (Ev.now _)
      · exact Ev.ite_neg h1 (Ev.ite_pos (by omega) (Ev.now _))
theorem ref_alldigits (l : List UInt8) (hl : l.length ≤ 140737488355328) : Ev (fun k => guichetref1_AllDigits.f k (S l)) (decide (AllDig l)) := ref_alldigits_l0 l hl _ 0 rfl (by omega)

theorem val_take {l : List UInt8} {i : Nat} (h : i < l.length) : val (l.take (i + 1)) = val (l.take i) * 10 + (l[i].toNat - 48) := by rw [List.take_succ_eq_append_getElem h, val_snoc]
theorem ref_num_l0 (l : List UInt8) (hl : l.length ≤ 18) (hd : AllDig l) (d : Nat) : ∀ i : Nat, l.length - i = d → i ≤ l.length → Ev (fun k => guichetref1_Num.l0 k (S l) (val (l.take i) : Int) (i : Int)) ((val l : Int), true) := by
  induction d with
  | zero =>
    intro i h1 hi
    have e : l.take i = l := List.take_of_length_le (by omega)
    rw [e]
    exact Ev.step (f := fun _ => some ((val l : Int), true)) (fun k => by simp only [guichetref1_Num.l0]; rw [if_neg (by rw [S_size]; omega)]) (Ev.now _)
  | succ d ih =>
    intro i h1 hi
    have hlt : i < l.length := by omega
    have hv : val (l.take i) < 100000000000000000 := Nat.lt_of_lt_of_le (val_lt (l.take i).length (l.take i) rfl (fun c hc => hd c (List.mem_of_mem_take hc))) (Nat.le_trans (Nat.pow_le_pow_right (n := 10) (by decide) (show (l.take i).length ≤ 17 by rw [List.length_take]; omega)) (show 10 ^ 17 ≤ 100000000000000000 by decide))
    have hc := hd l[i] (List.getElem_mem hlt)
    unfold IsDig at hc
    refine Ev.step (f := fun k => guichetref1_Num.l0 k (S l) (val (l.take (i + 1)) : Int) ((i + 1 : Nat) : Int)) (fun k => ?_) (ih (i + 1) (by omega) (by omega))
    simp only [guichetref1_Num.l0]
    rw [if_pos (by rw [S_size]; omega), if_pos (by omega), bt_lt hlt, wrap_succ hlt (by omega), val_take hlt]
    have hx : ∀ x y : Nat, 48 ≤ x → x ≤ 57 → y < 100000000000000000 → wrap64 (wrap64 (10 * (y : Int)) + ((x : Int) - 48) % 256) = ((y * 10 + (x - 48) : Nat) : Int) := fun x y h1 h2 h3 => by
      rw [show wrap64 (10 * (y : Int)) = 10 * (y : Int) from by unfold wrap64; omega, show ((x : Int) - 48) % 256 = (x : Int) - 48 from by omega]
      unfold wrap64
      omega
    rw [hx _ _ hc.1 hc.2 hv]
theorem ref_num (l : List UInt8) (hl : l.length ≤ 140737488355328) : Ev (fun k => guichetref1_Num.f k (S l)) (numR l) := by
  have ht : Ev (fun k => guichetref1_Num.j0 k (S l) true) (0, false) := Ev.step (f := fun _ => some (0, false)) (fun k => by simp only [guichetref1_Num.j0, if_true]) (Ev.now _)
  unfold guichetref1_Num.f
  rw [S_size]
  by_cases h1 : l.length < 1
  · rw [show numR l = (0, false) from if_neg (by omega)]
    exact Ev.ite_pos (by omega) ht
  refine Ev.ite_neg (by omega) ?_
  by_cases h2 : l.length > 18
  · rw [show numR l = (0, false) from if_neg (by omega)]
    exact Ev.ite_pos (by omega) ht
  refine Ev.ite_neg (by omega) ?_
  refine Ev.bind (ref_alldigits l hl) ?_
  by_cases h3 : AllDig l
  · rw [show numR l = ((val l : Int), true) from if_pos ⟨by omega, by omega, h3⟩, show (!decide (AllDig l)) = false from by simp [h3]]
    refine Ev.step (f := fun k => guichetref1_Num.l0 k (S l) 0 0) (fun k => by simp only [guichetref1_Num.j0, Bool.false_eq_true, if_false]) ?_
    exact ref_num_l0 l (by omega) h3 _ 0 rfl (by omega)
  · rw [show numR l = (0, false) from if_neg (fun h => h3 h.2.2), show (!decide (AllDig l)) = true from by simp [h3]]
    exact ht

/-- The ten digits, one after another. -/
def tens : ByteArray := ⟨#[48, 49, 50, 51, 52, 53, 54, 55, 56, 57]⟩
theorem tens_at {d : Nat} (h : d < 10) : tens.extract d (d + 1) = S [dg d] := by
  have : ∀ e : Fin 10, (tens.extract e.val (e.val + 1)) = S [dg e.val] := by decide +kernel
  exact this ⟨d, h⟩
theorem tens_mod (n : Nat) : tens.extract (n % 10) (n % 10 + 1) = S [dg n] := by
  rw [tens_at (Nat.mod_lt _ (by decide))]
  unfold dg
  rw [Nat.mod_mod]
theorem digN_front : ∀ k n, digN (k + 1) n = dg (n / 10 ^ k) :: digN k n
  | 0, n => by simp [digN]
  | k + 1, n => by
    rw [digN, digN_front k (n / 10), digN, Nat.div_div_eq_div_mul, Nat.pow_succ, Nat.mul_comm 10]
    rfl
theorem tmod10 (q : Nat) : Int.tmod (q : Int) 10 = ((q % 10 : Nat) : Int) := by rw [Int.tmod_eq_emod_of_nonneg (by omega)]; omega
theorem wrap10 (q : Nat) : wrap64 (((q % 10 : Nat) : Int) + 1) = ((q % 10 + 1 : Nat) : Int) := by unfold wrap64; omega
theorem tdiv10 {q : Nat} (h : q ≤ 9223372036854775807) : wrap64 (Int.tdiv (q : Int) 10) = ((q / 10 : Nat) : Int) := by rw [Int.tdiv_eq_ediv_of_nonneg (by omega)]; unfold wrap64; omega
theorem ref_digits_step (q m i : Nat) (l : List UInt8) (hi : i < m) (hm : m ≤ 18) (hs : l.length ≤ 20) (hq : q ≤ 9223372036854775807) (k : Nat) :
    guichetref1_Digits.l0 (k + 1) (q : Int) (m : Int) (S l) (i : Int) = guichetref1_Digits.l0 k ((q / 10 : Nat) : Int) (m : Int) (S (dg q :: l)) ((i + 1 : Nat) : Int) := by
  simp only [guichetref1_Digits.l0, tmod10, wrap10, tdiv10 hq]
  rw [if_pos (by omega), if_pos (by omega), if_pos (by omega), if_pos (by omega)]
  rw [show ((⟨#[48, 49, 50, 51, 52, 53, 54, 55, 56, 57]⟩ : ByteArray).extract (((q % 10 : Nat) : Int).toNat) (((q % 10 + 1 : Nat) : Int).toNat)) = S [dg q] from tens_mod q]
  rw [if_pos (by simp only [S_size, List.length_singleton]; omega), S_append, wrap_succ hi (by omega)]
  rfl
theorem ref_digits_l0 (u m : Nat) (hm : m ≤ 18) (hu : u ≤ 9223372036854775807) (d : Nat) : ∀ i : Nat, m - i = d → i ≤ m → Ev (fun k => guichetref1_Digits.l0 k ((u / 10 ^ i : Nat) : Int) (m : Int) (S (digN i u)) (i : Int)) (if u < 10 ^ m then (S (digN m u), true) else (S [], false)) := by
  induction d with
  | zero =>
    intro i h1 hi
    obtain rfl : i = m := by omega
    by_cases h : u < 10 ^ i
    · rw [if_pos h, Nat.div_eq_of_lt h]
      exact Ev.step (f := fun _ => some (S (digN i u), true)) (fun k => by simp only [guichetref1_Digits.l0]; rw [if_neg (Int.lt_irrefl _), if_neg (by decide)]) (Ev.now _)
    · rw [if_neg h]
      have : 0 < u / 10 ^ i := Nat.div_pos (Nat.le_of_not_lt h) (Nat.pow_pos (by decide))
      exact Ev.step (f := fun _ => some (S [], false)) (fun k => by simp only [guichetref1_Digits.l0]; rw [if_neg (Int.lt_irrefl _), if_pos (show ((u / 10 ^ i : Nat) : Int) > 0 from Int.ofNat_lt.2 this)]) (Ev.now _)
  | succ d ih =>
    intro i h1 hi
    have hf : dg (u / 10 ^ i) :: digN i u = digN (i + 1) u := (digN_front i u).symm
    have hq10 : u / 10 ^ i / 10 = u / 10 ^ (i + 1) := by rw [Nat.pow_succ, ← Nat.div_div_eq_div_mul]
    have hle : u / 10 ^ i ≤ 9223372036854775807 := Nat.le_trans (Nat.div_le_self _ _) hu
    have him : i < m := by clear hf hq10 hle; omega
    refine Ev.step (f := fun k => guichetref1_Digits.l0 k ((u / 10 ^ (i + 1) : Nat) : Int) (m : Int) (S (digN (i + 1) u)) ((i + 1 : Nat) : Int)) (fun k => ?_) (ih (i + 1) (by clear hf hq10 hle; omega) him)
    rw [ref_digits_step (u / 10 ^ i) m i (digN i u) him hm (by rw [digN_length]; clear hf hq10 hle; omega) hle k, hf, hq10]
theorem digR_nat (u m : Nat) (h1 : 1 ≤ m) (h2 : m ≤ 18) : digR (u : Int) (m : Int) = (if u < 10 ^ m then (S (digN m u), true) else (S [], false)) := by
  unfold digR
  rw [Int.toNat_natCast, Int.toNat_natCast]
  generalize 10 ^ m = t
  by_cases h3 : u < t
  · rw [if_pos ⟨by omega, by omega, by omega, h3⟩, if_pos h3]
  · rw [if_neg (fun h => h3 h.2.2.2), if_neg h3]
theorem ref_digits (v n : Int) (hw : (Lit.int .i64 v).wf = true) : Ev (fun k => guichetref1_Digits.f k v n) (digR v n) := by
  have hb : -9223372036854775808 ≤ v ∧ v ≤ 9223372036854775807 := by simpa [Lit.wf, IntKind.min, IntKind.max, IntKind.bits, IntKind.signed] using hw
  have ht : Ev (fun k => guichetref1_Digits.j0 k v n true) (S [], false) := Ev.step (f := fun _ => some (S [], false)) (fun k => by simp only [guichetref1_Digits.j0, if_true]) (Ev.now _)
  unfold guichetref1_Digits.f
  by_cases h1 : n < 1
  · rw [show digR v n = (S [], false) from if_neg (by omega)]
    exact Ev.ite_pos h1 ht
  refine Ev.ite_neg h1 ?_
  by_cases h2 : n > 18
  · rw [show digR v n = (S [], false) from if_neg (by omega)]
    exact Ev.ite_pos h2 ht
  refine Ev.ite_neg h2 ?_
  by_cases h0 : v < 0
  · rw [decide_eq_true h0, show digR v n = (S [], false) from if_neg (by omega)]
    exact ht
  rw [decide_eq_false h0]
  obtain ⟨m, rfl⟩ := Int.eq_ofNat_of_zero_le (show 0 ≤ n by omega)
  obtain ⟨u, rfl⟩ := Int.eq_ofNat_of_zero_le (show 0 ≤ v by omega)
  refine Ev.step (f := fun k => guichetref1_Digits.l0 k (u : Int) (m : Int) (S []) 0) (fun k => by simp only [guichetref1_Digits.j0, Bool.false_eq_true, if_false]) ?_
  have h := ref_digits_l0 u m (by omega) (by omega) _ 0 rfl (by omega)
  rw [Nat.pow_zero, Nat.div_one] at h
  rw [digR_nat u m (by omega) (by omega)]
  exact h

end Go.Proofs.YthajndlkibpncaaDoor.Q
