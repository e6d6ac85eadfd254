import Derived.Test.YthajndlkibpncaaDoorQKnown14
import Derived.Test.YthajndlkibpncaaDoorPAllx7
/- TableLong: a hundred states and no more. -/
namespace Go.Proofs.YthajndlkibpncaaDoor.Pure
open Go.RowKit Go.Proofs.YthajndlkibpncaaDoorW.PrintWords Go.Proofs.YthajndlkibpncaaDoorW.PrintMore Go.Proofs.YthajndlkibpncaaDoor.PAll Go.Proofs.YthajndlkibpncaaDoor.Q
set_option linter.unusedVariables false
def oneL : List UInt8 := [48, 48, 49, 32, 90, 32, 48, 48, 48, 32, 48, 48, 48, 10]
def rep : Nat → List UInt8
  | 0 => []
  | n + 1 => oneL ++ rep n
theorem rep_len (n : Nat) : (rep n).length = 14 * n := by
  induction n with
  | zero => rfl
  | succ n ih => rw [rep, List.length_append, ih]; simp [oneL]; omega
theorem rep_snoc (n : Nat) : rep n ++ oneL = rep (n + 1) := by
  induction n with
  | zero => simp [rep]
  | succ n ih =>
    rw [rep, List.append_assoc, ih]
    rfl
theorem rep_good (r : List UInt8) : goodL (oneL ++ r) = true := by
  show (goodB [48, 48, 49, 32, 90, 32, 48, 48, 48, 32, 48, 48, 48] && decide (some (10 : UInt8) = some 10)) = true
  decide
theorem rep_end : ∀ (j f : Nat) (out : List S34), 14 * j < f → out.length ≤ 100 → (((parseT f (rep j) out).2.2 == 0) = decide (out.length + j ≤ 100))
  | 0, 0, out => fun h _ => by omega
  | 0, f + 1, out => fun h ho => by
    unfold parseT
    rw [if_pos (show rep 0 = [] from rfl)]
    simp
    omega
  | j + 1, 0, out => fun h _ => by omega
  | j + 1, f + 1, out => fun h ho => by
    unfold parseT
    rw [rep, if_neg (by simp [oneL]), rep_good, if_pos rfl]
    by_cases h100 : 100 ≤ out.length
    · rw [if_pos h100, decide_eq_false (by omega)]
      rfl
    · rw [if_neg h100]
      have hd : (oneL ++ rep j).drop 14 = rep j := rfl
      rw [hd, rep_end j f _ (by omega) (by simp; omega)]
      simp
      omega
theorem both_ev (s : List UInt8) (hl : s.length ≤ 1000000) (tail : (List S34 × Int × Int) → Bool) (ht : tail (parseS s) = true) : Ev (fun k => (table_Parse.f k (S s)).bind fun bt211 => ((guichetref12_TableParse.f k (S s)).bind fun bt216 => (if bt211.2.1 = bt216.2.1 then (if bt211.2.2 = bt216.2.2 then ((guichethelp_States.f k bt211.1 bt216.1).bind fun t221 => (if t221 = true then (some (tail bt211)) else (none))) else (none)) else (none)))) true := by
  refine Ev.bind (parse_f s hl) (Ev.bind (refparse_f s hl) (Ev.ite_pos rfl (Ev.ite_pos rfl (Ev.bind (states_ev _ ?_) (Ev.ite_pos rfl ?_)))))
  · have := parseT_len (s.length + 1) s [] (by simp)
    show (parseT (s.length + 1) s []).1.length ≤ 1000
    omega
  · rw [ht]
    exact Ev.now _
theorem long_l0 (bad : Bool) (K : Nat) (hK : K ≤ 200) (d : Nat) : ∀ i : Nat, K - i = d → i ≤ K → Ev (fun k => guichetlaw14_TableLong.l0 k bad (K : Int) (S (rep i)) (i : Int)) true := by
  induction d with
  | zero =>
    intro i hd hi
    obtain rfl : i = K := by omega
    have hlen := rep_len i
    cases bad with
    | true =>
      have hq := both_ev (rep i ++ [63]) (by rw [List.length_append, hlen]; simp; omega) (fun _ => true) rfl
      refine Ev.step (fun k => ?_) hq
      simp only [guichetlaw14_TableLong.l0]
      rw [if_neg (by omega), if_pos True.intro, if_pos (by rw [S_size]; omega), show (⟨#[63]⟩ : ByteArray) = S [63] from rfl, S_append]
    | false =>
      have hq := both_ev (rep i) (by omega) (fun r => (r.2.2 == 0) == decide ((i : Int) ≤ 100)) (by
        have := rep_end i ((rep i).length + 1) [] (by omega) (by simp)
        show (((parseT ((rep i).length + 1) (rep i) []).2.2 == 0) == decide ((i : Int) ≤ 100)) = true
        rw [this, beq_iff_eq]
        exact decide_eq_decide.mpr (by simp; omega))
      refine Ev.step (fun k => ?_) hq
      simp only [guichetlaw14_TableLong.l0]
      rw [if_neg (by omega), if_neg (by simp)]
  | succ d ih =>
    intro i hd hi
    have hlen := rep_len i
    refine Ev.step (fun k => ?_) (ih (i + 1) (by omega) (by omega))
    simp only [guichetlaw14_TableLong.l0]
    rw [if_pos (by omega), if_pos (by rw [S_size]; omega), show (⟨#[48, 48, 49, 32, 90, 32, 48, 48, 48, 32, 48, 48, 48, 10]⟩ : ByteArray) = S oneL from rfl, S_append, rep_snoc, wrap_succ (show i < K by omega) (by omega)]
theorem TableLong : guichetlaw14_TableLong.Pure := by
  intro n bad hn
  refine Ev.rounds (g := fun k => guichetlaw14_TableLong.f k n bad) ?_
  have hu := U8.of hn
  obtain ⟨m, rfl⟩ := Int.eq_ofNat_of_zero_le hu.1
  have hm : m ≤ 255 := by have := hu.2; omega
  have e : wrap64 (98 + wrap64 (Int.tmod (m : Int) 5)) = ((98 + m % 5 : Nat) : Int) := by
    rw [Int.tmod_eq_emod_of_nonneg (by omega)]
    unfold wrap64
    omega
  unfold guichetlaw14_TableLong.f
  refine Ev.bind known_true (Ev.ite_pos rfl ?_)
  rw [e]
  exact long_l0 bad _ (by omega) _ 0 rfl (by omega)
end Go.Proofs.YthajndlkibpncaaDoor.Pure
