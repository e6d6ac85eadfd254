import Derived.Test.YtnnoanfiehjleaaDoorQKnown15
import Derived.Test.YtnnoanfiehjleaaDoorPAllx8
/- A walk ends within so many steps. -/
namespace Go.Proofs.YtnnoanfiehjleaaDoor.Q
open Go.RowKit Go.Proofs.YtnnoanfiehjleaaDoorW.PrintWords Go.Proofs.YtnnoanfiehjleaaDoorW.PrintMore Go.Proofs.YtnnoanfiehjleaaDoor.PAll
set_option linter.unusedVariables false

def sts (m : Nat) (c : Int) (i : Nat) : List S34 := (List.range i).map fun j : Nat => (⟨(j : Int), c, (((j + 1) % m : Nat) : Int), 0⟩ : S34)
theorem sts_len (m : Nat) (c : Int) (i : Nat) : (sts m c i).length = i := by simp [sts]
theorem sts_succ (m : Nat) (c : Int) (i : Nat) : sts m c (i + 1) = sts m c i ++ [(⟨(i : Int), c, (((i + 1) % m : Nat) : Int), 0⟩ : S34)] := by simp [sts, List.range_succ]
theorem finS (c : Int) {m a : Nat} (hm : m ≤ 5) (h : a < m) : finG (sts m c m) (a : Int) = some ⟨(a : Int), c, (((a + 1) % m : Nat) : Int), 0⟩ := by
  rcases m with _ | _ | _ | _ | _ | _ | m
  all_goals rcases a with _ | _ | _ | _ | _ | a
  all_goals first | (exfalso; omega) | rfl
theorem goI {m : Nat} (hm : m ≤ 5) (inp : List ByteArray) (b : Bool) (p : ByteArray) (q : Int) : ∀ (d a : Nat) (n : Int), a < m → goG (sts m 73 m) d inp (S []) 0 (a : Int) n b p q = ((((a + d) % m : Nat) : Int), n + (d : Int), b, p, q)
  | 0, a, n, h => by
    rw [goG, Nat.add_zero, Nat.mod_eq_of_lt h]
    simp
  | d + 1, a, n, h => by
    have hs : stepG (⟨(a : Int), 73, (((a + 1) % m : Nat) : Int), 0⟩ : S34) inp (S []) 0 (a : Int) n b p q = (true, inp, S [], 0, (((a + 1) % m : Nat) : Int), n, b, p, q) := by
      unfold stepG
      rw [if_pos rfl, if_pos (toList_S [])]
    rw [goG, finS 73 hm h]
    dsimp only
    rw [hs]
    dsimp only
    rw [if_pos rfl, goI hm inp b p q d ((a + 1) % m) (n + 1) (Nat.mod_lt _ (by omega)), Nat.mod_add_mod, show a + 1 + d = a + (d + 1) by omega, show n + 1 + (d : Int) = n + ((d + 1 : Nat) : Int) by omega]
abbrev one : ByteArray := ⟨#[49]⟩
theorem goE {m : Nat} (hm : m ≤ 5) (pan : ByteArray) (amt : Int) (b : Bool) (p : ByteArray) (q : Int) : ∀ (c d a : Nat) (n : Int), a < m → c ≤ d → goG (sts m 69 m) d (List.replicate c one) pan amt (a : Int) n b p q = ((((a + c) % m : Nat) : Int), n + (c : Int), b, p, q)
  | 0, 0, a, n, h, _ => by
    rw [goG, Nat.add_zero, Nat.mod_eq_of_lt h]
    simp
  | 0, d + 1, a, n, h, _ => by
    have hs : stepG (⟨(a : Int), 69, (((a + 1) % m : Nat) : Int), 0⟩ : S34) [] pan amt (a : Int) n b p q = (false, [], pan, amt, (a : Int), n, b, p, q) := by
      unfold stepG
      rw [if_neg (by show ¬ (69 : Int) = 73; decide), if_pos (by show (69 : Int) = 65 ∨ (69 : Int) = 66 ∨ (69 : Int) = 68 ∨ (69 : Int) = 69; decide)]
    rw [List.replicate_zero, goG, finS 69 hm h]
    dsimp only
    rw [hs, Nat.add_zero, Nat.mod_eq_of_lt h]
    simp
  | c + 1, 0, a, n, h, hc => by omega
  | c + 1, d + 1, a, n, h, hc => by
    have hs : stepG (⟨(a : Int), 69, (((a + 1) % m : Nat) : Int), 0⟩ : S34) (one :: List.replicate c one) pan amt (a : Int) n b p q = (true, List.replicate c one, pan, amt, (((a + 1) % m : Nat) : Int), n, b, p, q) := by
      unfold stepG
      rw [if_neg (by show ¬ (69 : Int) = 73; decide), if_pos (by show (69 : Int) = 65 ∨ (69 : Int) = 66 ∨ (69 : Int) = 68 ∨ (69 : Int) = 69; decide)]
      rfl
    rw [List.replicate_succ, goG, finS 69 hm h]
    dsimp only
    rw [hs]
    dsimp only
    rw [if_pos rfl, goE hm pan amt b p q c d ((a + 1) % m) (n + 1) (Nat.mod_lt _ (by omega)) (by omega), Nat.mod_add_mod, show a + 1 + c = a + (c + 1) by omega, show n + 1 + (c : Int) = n + ((c + 1 : Nat) : Int) by omega]
theorem tmod_nat (a b : Nat) : Int.tmod (a : Int) (b : Int) = ((a % b : Nat) : Int) := by
  rw [Int.tmod_eq_emod_of_nonneg (by omega)]
  omega
theorem small_inputs (c : Nat) : ∀ x ∈ List.replicate c one, x.size ≤ 1000 := fun x hx => by
  rw [List.eq_of_mem_replicate hx]
  decide
theorem ends_end (m : Nat) (h1 : 1 ≤ m) (hm : m ≤ 5) (u v : Nat) (N : Nat) (hN : N = 95 + u % 12) :
    Ev (fun k => guichetlaw15_WalkEnds.l1 k (u : Int) (v : Int) (m : Int) (sts m (if v % 2 = 0 then 73 else 69) m) (List.replicate N one) (N : Int)) true := by
  have hu : u % 12 < 12 := Nat.mod_lt _ (by decide)
  refine Ev.succ ?_
  simp only [guichetlaw15_WalkEnds.l1]
  rw [show wrap64 (95 + wrap64 (Int.tmod (u : Int) 12)) = (N : Int) from by
    rw [show (12 : Int) = ((12 : Nat) : Int) from rfl, tmod_nat]
    unfold wrap64
    omega]
  refine Ev.ite_neg (by omega) ?_
  refine Ev.bind (run_ev _ (by rw [sts_len]; omega) 0 _ (small_inputs N)) ?_
  have ht : (List.replicate N one).take 100 = List.replicate (min 100 N) one := List.take_replicate ..
  have hmt : ∀ x : Nat, Int.tmod (x : Int) (m : Int) = ((x % m : Nat) : Int) := fun x => tmod_nat x m
  have h200 : Int.tmod 200 (m : Int) = ((200 % m : Nat) : Int) := hmt 200
  have hv : Int.tmod (v : Int) 2 = ((v % 2 : Nat) : Int) := tmod_nat v 2
  rw [hv]
  unfold runG
  rw [ht]
  by_cases h : v % 2 = 0
  · rw [if_pos h]
    have hg := goI hm (List.replicate (min 100 N) one) false (S []) 0 200 0 0 (by omega)
    rw [show ((0 : Nat) : Int) = 0 from rfl] at hg
    rw [hg]
    refine Ev.ite_pos (by omega) (Ev.ite_pos (by rfl) (Ev.ite_neg (by omega) ?_))
    rw [h200]
    exact Ev.ite_pos (by rw [Nat.zero_add]) (Ev.now _)
  · rw [if_neg h]
    have hg := goE hm (S []) 0 false (S []) 0 (min 100 N) 200 0 0 (by omega) (by omega)
    rw [show ((0 : Nat) : Int) = 0 from rfl] at hg
    rw [hg]
    have hmn : mn ((List.replicate N one).length : Int) 100 = ((min 100 N : Nat) : Int) := by
      rw [List.length_replicate]
      unfold mn
      split <;> omega
    refine Ev.ite_neg (by omega) (Ev.ite_pos (by rw [hmn]; simp) (Ev.ite_neg (by omega) ?_))
    dsimp only
    rw [show (0 : Int) + ((min 100 N : Nat) : Int) = ((min 100 N : Nat) : Int) by omega, hmt, Nat.zero_add]
    simp only [beq_self_eq_true]
    exact Ev.now _
theorem ends_l1 (m : Nat) (h1 : 1 ≤ m) (hm : m ≤ 5) (u v : Nat) (N : Nat) (hN : N = 95 + u % 12) (d : Nat) : ∀ i : Nat, N - i = d → i ≤ N →
    Ev (fun k => guichetlaw15_WalkEnds.l1 k (u : Int) (v : Int) (m : Int) (sts m (if v % 2 = 0 then 73 else 69) m) (List.replicate i one) (i : Int)) true := by
  have hu : u % 12 < 12 := Nat.mod_lt _ (by decide)
  induction d with
  | zero =>
    intro i hd hi
    obtain rfl : i = N := by omega
    exact ends_end m h1 hm u v i hN
  | succ d ih =>
    intro i hd hi
    have h := ih (i + 1) (by omega) (by omega)
    rw [List.replicate_succ'] at h
    refine Ev.succ ?_
    simp only [guichetlaw15_WalkEnds.l1]
    rw [show wrap64 (95 + wrap64 (Int.tmod (u : Int) 12)) = (N : Int) from by
      rw [show (12 : Int) = ((12 : Nat) : Int) from rfl, tmod_nat]
      unfold wrap64
      omega]
    refine Ev.ite_pos (by omega) (Ev.ite_pos (by rw [List.length_replicate]; omega) ?_)
    rw [wrap_succ (show i < N by omega) (by omega)]
    exact h
theorem ends_l0 (m : Nat) (h1 : 1 ≤ m) (hm : m ≤ 5) (u v : Nat) (d : Nat) : ∀ i : Nat, m - i = d → i ≤ m →
    Ev (fun k => guichetlaw15_WalkEnds.l0 k (u : Int) (v : Int) (m : Int) (sts m (if v % 2 = 0 then 73 else 69) i) (i : Int)) true := by
  induction d with
  | zero =>
    intro i hd hi
    obtain rfl : i = m := by omega
    refine Ev.succ ?_
    simp only [guichetlaw15_WalkEnds.l0]
    exact Ev.ite_neg (by omega) (ends_l1 i h1 hm u v _ rfl _ 0 rfl (by omega))
  | succ d ih =>
    intro i hd hi
    have h := ih (i + 1) (by omega) (by omega)
    rw [sts_succ] at h
    have hv : Int.tmod (v : Int) 2 = ((v % 2 : Nat) : Int) := tmod_nat v 2
    have hc : bt (⟨#[73, 69]⟩ : ByteArray) ((v % 2 : Nat) : Int) = (if v % 2 = 0 then 73 else 69) := by
      rcases Nat.mod_two_eq_zero_or_one v with h0 | h0
      · rw [h0]
        decide
      · rw [h0]
        decide
    refine Ev.succ ?_
    simp only [guichetlaw15_WalkEnds.l0]
    rw [hv, hc, wrap_succ (show i < m by omega) (by omega), tmod_nat]
    exact Ev.ite_pos (by omega) (Ev.ite_pos (by omega) (Ev.ite_pos (by omega) (Ev.ite_neg (by omega) (Ev.ite_pos (by rw [sts_len]; omega) h))))
end Go.Proofs.YtnnoanfiehjleaaDoor.Q
namespace Go.Proofs.YtnnoanfiehjleaaDoor.Pure
open Go.RowKit Go.Proofs.YtnnoanfiehjleaaDoorW.PrintWords Go.Proofs.YtnnoanfiehjleaaDoorW.PrintMore Go.Proofs.YtnnoanfiehjleaaDoor.PAll Go.Proofs.YtnnoanfiehjleaaDoor.Q
theorem WalkEnds : guichetlaw15_WalkEnds.Pure := by
  intro a0 a1 a2 h0 h1 h2
  refine Ev.rounds ?_
  unfold guichetlaw15_WalkEnds.f
  refine Ev.bind known15 (Ev.ite_pos rfl ?_)
  have u0 := U8.of h0
  have u1 := U8.of h1
  have u2 := U8.of h2
  unfold U8 at u0 u1 u2
  obtain ⟨n, rfl⟩ := Int.eq_ofNat_of_zero_le u0.1
  obtain ⟨u, rfl⟩ := Int.eq_ofNat_of_zero_le u1.1
  obtain ⟨v, rfl⟩ := Int.eq_ofNat_of_zero_le u2.1
  have hn : n % 5 < 5 := Nat.mod_lt _ (by decide)
  rw [show wrap64 (wrap64 (Int.tmod (n : Int) 5) + 1) = ((n % 5 + 1 : Nat) : Int) from by
    rw [show (5 : Int) = ((5 : Nat) : Int) from rfl, tmod_nat]
    unfold wrap64
    omega]
  exact ends_l0 (n % 5 + 1) (by omega) (by omega) u v _ 0 rfl (by omega)
end Go.Proofs.YtnnoanfiehjleaaDoor.Pure
