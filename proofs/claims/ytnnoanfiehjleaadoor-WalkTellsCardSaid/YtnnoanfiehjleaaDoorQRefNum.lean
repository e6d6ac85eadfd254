import Derived.Test.YtnnoanfiehjleaaDoorQNum
import Derived.Test.YtnnoanfiehjleaaDoorPAllx5
import Derived.Test.YtnnoanfiehjleaaDoorPAllx9
/- The reference's numbers, and decimals without noughts ahead. -/
namespace Go.Proofs.YtnnoanfiehjleaaDoor.Q
open Go.RowKit Go.Proofs.YtnnoanfiehjleaaDoorW.PrintWords Go.Proofs.YtnnoanfiehjleaaDoorW.PrintMore Go.Proofs.YtnnoanfiehjleaaDoor.PAll
set_option linter.unusedVariables false

theorem ref_alldigits_l0 (l : List UInt8) (hl : l.length ≤ 140737488355328) (d : Nat) : ∀ i : Nat, l.length - i = d → i ≤ l.length → Ev (fun k => guichetref1_AllDigits.l0 k (S l) (i : Int)) (decide (AllDig (l.drop i))) := by
  induction d with
  | zero =>
    intro i hd hi
    have e : l.drop i = [] := List.drop_eq_nil_of_le (by omega)
    rw [e]
    exact Ev.step (f := fun _ => some true) (fun k => by simp only [guichetref1_AllDigits.l0]; rw [if_neg (by rw [S_size]; omega)]) (Ev.now _)
  | succ d ih =>
    intro i hd hi
    have hlt : i < l.length := by omega
    rw [List.drop_eq_getElem_cons hlt]
    refine Ev.step (f := fun k => if (l[i].toNat : Int) < 48 then some false else if (l[i].toNat : Int) > 57 then some false else guichetref1_AllDigits.l0 k (S l) ((i + 1 : Nat) : Int)) (fun k => ?_) ?_
    · simp only [guichetref1_AllDigits.l0]
      rw [if_pos (by rw [S_size]; omega), if_pos (by omega), bt_lt hlt, wrap_succ hlt hl]
    by_cases h : IsDig l[i]
    · have h' := h
      unfold IsDig at h'
      rw [show decide (AllDig (l[i] :: l.drop (i + 1))) = decide (AllDig (l.drop (i + 1))) from by rw [decide_eq_decide, AllDig.cons]; simp [h]]
      exact Ev.ite_neg (by omega) (Ev.ite_neg (by omega) (ih (i + 1) (by omega) (by omega)))
    · rw [show decide (AllDig (l[i] :: l.drop (i + 1))) = false from by rw [decide_eq_false_iff_not, AllDig.cons]; exact fun h' => h h'.1]
      unfold IsDig at h
      by_cases h1 : (l[i].toNat : Int) < 48
      · exact Ev.ite_pos h1 (Ev.now _)
      · exact Ev.ite_neg h1 (Ev.ite_pos (by omega) (Ev.now _))
theorem ref_alldigits (l : List UInt8) (hl : l.length ≤ 140737488355328) : Ev (fun k => guichetref1_AllDigits.f k (S l)) (decide (AllDig l)) := ref_alldigits_l0 l hl _ 0 rfl (by omega)

theorem val_take {l : List UInt8} {i : Nat} (h : i < l.length) : val (l.take (i + 1)) = val (l.take i) * 10 + (l[i].toNat - 48) := by rw [List.take_succ_eq_append_getElem h, val_snoc]
theorem ref_num_l0 (l : List UInt8) (hl : l.length ≤ 18) (hd : AllDig l) (d : Nat) : ∀ i : Nat, l.length - i = d → i ≤ l.length → Ev (fun k => guichetref1_Num.l0 k (S l) (val (l.take i) : Int) (i : Int)) ((val l : Int), true) := by
  induction d with
  | zero =>
    intro i h1 hi
    have e : l.take i = l := List.take_of_length_le (by omega)
    rw [e]
    exact Ev.step (f := fun _ => some ((val l : Int), true)) (fun k => by simp only [guichetref1_Num.l0]; rw [if_neg (by rw [S_size]; omega)]) (Ev.now _)
  | succ d ih =>
    intro i h1 hi
    have hlt : i < l.length := by omega
    have hv : val (l.take i) < 100000000000000000 := Nat.lt_of_lt_of_le (val_lt (l.take i).length (l.take i) rfl (fun c hc => hd c (List.mem_of_mem_take hc))) (Nat.le_trans (Nat.pow_le_pow_right (n := 10) (by decide) (show (l.take i).length ≤ 17 by rw [List.length_take]; omega)) (show 10 ^ 17 ≤ 100000000000000000 by decide))
    have hc := hd l[i] (List.getElem_mem hlt)
    unfold IsDig at hc
    refine Ev.step (f := fun k => guichetref1_Num.l0 k (S l) (val (l.take (i + 1)) : Int) ((i + 1 : Nat) : Int)) (fun k => ?_) (ih (i + 1) (by omega) (by omega))
    simp only [guichetref1_Num.l0]
    rw [if_pos (by rw [S_size]; omega), if_pos (by omega), bt_lt hlt, wrap_succ hlt (by omega), val_take hlt]
    have hx : ∀ x y : Nat, 48 ≤ x → x ≤ 57 → y < 100000000000000000 → wrap64 (wrap64 (10 * (y : Int)) + ((x : Int) - 48) % 256) = ((y * 10 + (x - 48) : Nat) : Int) := fun x y h1 h2 h3 => by
      rw [show wrap64 (10 * (y : Int)) = 10 * (y : Int) from by unfold wrap64; omega, show ((x : Int) - 48) % 256 = (x : Int) - 48 from by omega]
      unfold wrap64
      omega
    rw [hx _ _ hc.1 hc.2 hv]
theorem ref_num (l : List UInt8) (hl : l.length ≤ 140737488355328) : Ev (fun k => guichetref1_Num.f k (S l)) (numR l) := by
  have ht : Ev (fun k => guichetref1_Num.j0 k (S l) true) (0, false) := Ev.step (f := fun _ => some (0, false)) (fun k => by simp only [guichetref1_Num.j0, if_true]) (Ev.now _)
  unfold guichetref1_Num.f
  rw [S_size]
  by_cases h1 : l.length < 1
  · rw [show numR l = (0, false) from if_neg (by omega)]
    exact Ev.ite_pos (by omega) ht
  refine Ev.ite_neg (by omega) ?_
  by_cases h2 : l.length > 18
  · rw [show numR l = (0, false) from if_neg (by omega)]
    exact Ev.ite_pos (by omega) ht
  refine Ev.ite_neg (by omega) ?_
  refine Ev.bind (ref_alldigits l hl) ?_
  by_cases h3 : AllDig l
  · rw [show numR l = ((val l : Int), true) from if_pos ⟨by omega, by omega, h3⟩, show (!decide (AllDig l)) = false from by simp [h3]]
    refine Ev.step (f := fun k => guichetref1_Num.l0 k (S l) 0 0) (fun k => by simp only [guichetref1_Num.j0, Bool.false_eq_true, if_false]) ?_
    exact ref_num_l0 l (by omega) h3 _ 0 rfl (by omega)
  · rw [show numR l = (0, false) from if_neg (fun h => h3 h.2.2), show (!decide (AllDig l)) = true from by simp [h3]]
    exact ht

/-- The ten digits, one after another. -/
def tens : ByteArray := ⟨#[48, 49, 50, 51, 52, 53, 54, 55, 56, 57]⟩
theorem tens_at {d : Nat} (h : d < 10) : tens.extract d (d + 1) = S [dg d] := by
  have : ∀ e : Fin 10, (tens.extract e.val (e.val + 1)) = S [dg e.val] := by decide +kernel
  exact this ⟨d, h⟩
theorem tens_mod (n : Nat) : tens.extract (n % 10) (n % 10 + 1) = S [dg n] := by
  rw [tens_at (Nat.mod_lt _ (by decide))]
  unfold dg
  rw [Nat.mod_mod]
theorem tmod10 (q : Nat) : Int.tmod (q : Int) 10 = ((q % 10 : Nat) : Int) := by rw [Int.tmod_eq_emod_of_nonneg (by omega)]; omega
theorem wrap10 (q : Nat) : wrap64 (((q % 10 : Nat) : Int) + 1) = ((q % 10 + 1 : Nat) : Int) := by unfold wrap64; omega
theorem tdiv10 {q : Nat} (h : q ≤ 9223372036854775807) : wrap64 (Int.tdiv (q : Int) 10) = ((q / 10 : Nat) : Int) := by rw [Int.tdiv_eq_ediv_of_nonneg (by omega)]; unfold wrap64; omega
/-! ### Dec: decimals without noughts ahead -/
theorem u64_id {n : Int} (h0 : 0 ≤ n) (h1 : n < 18446744073709551616) : IntKind.u64.wrap n = n := by rw [IntKind.wrap_u64]; omega
theorem tens_get {d : Nat} (h : d < 10) : (⟨#[48, 49, 50, 51, 52, 53, 54, 55, 56, 57]⟩ : ByteArray).extract ((d : Int).toNat) (((d + 1 : Nat) : Int).toNat) = S [dg d] := tens_at h
theorem ref_dec_nat (u : Nat) : u ≤ 9223372036854775807 → Ev (fun k => guichetref1_Dec.f k (u : Int)) (S (Go.Lib.decDigits u)) := by
  induction u using Nat.strongRecOn with
  | _ u ih =>
    intro hu
    by_cases h : u < 10
    · rw [dec_small h]
      refine Ev.step (f := fun _ => some (S [dg u])) (fun k => ?_) (Ev.now _)
      simp only [guichetref1_Dec.f]
      rw [show wrap64 ((u : Int) + 1) = ((u + 1 : Nat) : Int) from by unfold wrap64; omega, if_neg (by omega), if_pos (by omega), if_pos (by omega), if_pos (by omega), if_pos (by omega), tens_get h]
    · rw [dec_step h]
      have hl := (pad_dec 19 (u / 10) (by decide) (by omega)).1
      refine Ev.step (f := fun k => (guichetref1_Dec.f k ((u / 10 : Nat) : Int)).bind fun t => if t.size + (S [dg u]).size ≤ 9223372036854775807 then some (t ++ S [dg u]) else none) (fun k => ?_) ?_
      · simp only [guichetref1_Dec.f, tmod10, wrap10, tdiv10 hu]
        rw [if_neg (by omega), if_neg (by omega)]
        simp only [show ((⟨#[48, 49, 50, 51, 52, 53, 54, 55, 56, 57]⟩ : ByteArray).extract (((u % 10 : Nat) : Int).toNat) (((u % 10 + 1 : Nat) : Int).toNat)) = S [dg u] from tens_mod u]
        congr 1
        funext t
        rw [if_pos (by omega), if_pos (by omega), if_pos (by omega)]
      · refine Ev.bind (ih (u / 10) (by omega) (by omega)) ?_
        refine Ev.ite_pos (by simp only [S_size, List.length_singleton]; omega) ?_
        rw [S_append]
        exact Ev.now _
end Go.Proofs.YtnnoanfiehjleaaDoor.Q
