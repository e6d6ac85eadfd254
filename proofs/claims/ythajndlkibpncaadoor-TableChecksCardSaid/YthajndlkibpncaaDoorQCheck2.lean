import Derived.Test.YthajndlkibpncaaDoorQCheck
/- Which tables are right: the first two questions, and the program's check. -/
namespace Go.Proofs.YthajndlkibpncaaDoor.Q
open Go.RowKit Go.Proofs.YthajndlkibpncaaDoorW.PrintWords Go.Proofs.YthajndlkibpncaaDoorW.PrintMore Go.Proofs.YthajndlkibpncaaDoor.PAll
set_option linter.unusedVariables false

/-! ### the reference's -/
theorem dup_at {l : List S34} {i : Nat} (h : i < l.length) : dupB l i = (l.take i).any fun t => t.f0 == l[i].f0 := by
  unfold dupB
  rw [List.getElem?_eq_getElem h]
theorem lost_at {l : List S34} {i : Nat} (h : i < l.length) : lostB l i = (leadsB l[i]).any fun n => !(l.any fun t => t.f0 == n) := by
  unfold lostB
  rw [List.getElem?_eq_getElem h]
theorem ref_l1 (l : List S34) (hl : l.length ≤ 100000) (X : Int × Int) {i : Nat} (hi : i < l.length) (d : Nat) : ∀ j : Nat, i - j = d → j ≤ i → (if (((l.take i).drop j).any fun t => t.f0 == l[i].f0) = true then X = ((i : Int), 31) else Ev (fun k => guichetref12_Check.l0 k l ((i + 1 : Nat) : Int)) X) → Ev (fun k => guichetref12_Check.l1 k l (i : Int) (j : Int)) X := by
  have hlen : (l.take i).length = i := by rw [List.length_take]; omega
  induction d with
  | zero =>
    intro j h1 hj hX
    rw [List.drop_eq_nil_of_le (by omega), List.any_nil, if_neg (by simp)] at hX
    refine Ev.step (f := fun k => guichetref12_Check.l0 k l ((i + 1 : Nat) : Int)) (fun k => ?_) hX
    simp only [guichetref12_Check.l1]
    rw [if_neg (by omega), wrap_succ hi (by omega)]
  | succ d ih =>
    intro j h1 hj hX
    have hji : j < i := by omega
    have hjl : j < l.length := by omega
    have e : (l.take i)[j]'(by omega) = l[j] := List.getElem_take
    rw [List.drop_eq_getElem_cons (by omega : j < (l.take i).length), List.any_cons, e] at hX
    by_cases h : l[j].f0 = l[i].f0
    · rw [if_pos (by rw [h]; simp)] at hX
      subst hX
      refine Ev.step (f := fun _ => some ((i : Int), 31)) (fun k => ?_) (Ev.now _)
      simp only [guichetref12_Check.l1]
      rw [if_pos (by omega), if_pos (by omega), if_pos (by omega), if_pos (by omega), if_pos (by omega), rd_S hjl, rd_S hi, if_pos h]
    · rw [beq_eq_false_iff_ne.mpr h, Bool.false_or] at hX
      refine Ev.step (f := fun k => guichetref12_Check.l1 k l (i : Int) ((j + 1 : Nat) : Int)) (fun k => ?_) (ih (j + 1) (by omega) (by omega) hX)
      simp only [guichetref12_Check.l1]
      rw [if_pos (by omega), if_pos (by omega), if_pos (by omega), if_pos (by omega), if_pos (by omega), rd_S hjl, rd_S hi, if_neg h, wrap_succ hjl (by omega)]
theorem ref_l0 (l : List S34) (hl : l.length ≤ 100000) (X : Int × Int) (hX : Ev (fun k => guichetref12_Check.l2 k l ((0 : Nat) : Int)) X) (d : Nat) : ∀ i : Nat, l.length - i = d → i ≤ l.length → Ev (fun k => guichetref12_Check.l0 k l (i : Int)) (match firstB (dupB l) d i with | some j => ((j : Int), 31) | none => X) := by
  induction d with
  | zero =>
    intro i h1 hi
    exact Ev.step (f := fun k => guichetref12_Check.l2 k l ((0 : Nat) : Int)) (fun k => by simp only [guichetref12_Check.l0]; rw [if_neg (by omega)]; rfl) hX
  | succ d ih =>
    intro i h1 hi
    have hlt : i < l.length := by omega
    refine Ev.step (f := fun k => guichetref12_Check.l1 k l (i : Int) ((0 : Nat) : Int)) (fun k => by simp only [guichetref12_Check.l0]; rw [if_pos (by omega)]; rfl) ?_
    refine ref_l1 l hl _ hlt i 0 rfl (Nat.zero_le _) ?_
    rw [List.drop_zero, ← dup_at hlt, firstB]
    by_cases h : dupB l i = true
    · rw [if_pos h, if_pos h]
    · rw [if_neg h, if_neg h]
      exact ih (i + 1) (by omega) (by omega)
theorem lost_two (s : S34) (l : List S34) : ((leadsB s).any fun n => !(l.any fun t => t.f0 == n)) = ((!(s.f1 == 90) && !(l.any fun t => t.f0 == s.f2)) || (twoB s.f1 && !(l.any fun t => t.f0 == s.f3))) := by
  unfold leadsB
  by_cases h : s.f1 = 90
  · rw [if_pos h, h]
    rfl
  · rw [if_neg h, beq_eq_false_iff_ne.mpr h]
    cases twoB s.f1 <;> simp
theorem ref_l2 (l : List S34) (hl : l.length ≤ 100000) (hw : ∀ s ∈ l, WfS s) (X : Int × Int) (hX : Ev (fun k => guichetref12_Check.l3 k l (fun _ => false) ((0 : Nat) : Int)) X) (d : Nat) : ∀ i : Nat, l.length - i = d → i ≤ l.length → Ev (fun k => guichetref12_Check.l2 k l (i : Int)) (match firstB (lostB l) d i with | some j => ((j : Int), 32) | none => X) := by
  induction d with
  | zero =>
    intro i h1 hi
    exact Ev.step (f := fun k => guichetref12_Check.l3 k l (fun _ => false) ((0 : Nat) : Int)) (fun k => by simp only [guichetref12_Check.l2]; rw [if_neg (by omega)]; rfl) hX
  | succ d ih =>
    intro i h1 hi
    have hlt : i < l.length := by omega
    have hn := ih (i + 1) (by omega) (by omega)
    obtain ⟨a, ha, ha'⟩ := ref_find l hl l[i].f2 l.length 0 rfl (Nat.zero_le _)
    obtain ⟨b, hb, hb'⟩ := ref_find l hl l[i].f3 l.length 0 rfl (Nat.zero_le _)
    rw [List.drop_zero] at ha' hb'
    have hlost := lost_at hlt
    rw [lost_two, ← ha', ← hb'] at hlost
    rw [firstB, hlost]
    have htwo := two_ev (wf_at hw hlt)
    have ne : twoB 90 = false := rfl
    refine Ev.step (f := fun k => (guichetref12_Find.f k l l[i].f2).bind fun a => (guichetref12_Find.f k l l[i].f3).bind fun b => if l[i].f1 = 90 then ((guichetref12_two.f k l[i].f0 l[i].f1 l[i].f2 l[i].f3).bind fun t => (if t = true then (if b.2.2.2.2 = true then (guichetref12_Check.l2 k l ((i + 1 : Nat) : Int)) else (some ((i : Int), 32))) else (guichetref12_Check.l2 k l ((i + 1 : Nat) : Int)))) else (if a.2.2.2.2 = true then ((guichetref12_two.f k l[i].f0 l[i].f1 l[i].f2 l[i].f3).bind fun t => (if t = true then (if b.2.2.2.2 = true then (guichetref12_Check.l2 k l ((i + 1 : Nat) : Int)) else (some ((i : Int), 32))) else (guichetref12_Check.l2 k l ((i + 1 : Nat) : Int)))) else (some ((i : Int), 32)))) (fun k => ?_) ?_
    · simp only [guichetref12_Check.l2]
      rw [if_pos (by omega), if_pos (by omega), rd_S hlt, wrap_succ hlt (by omega)]
    refine Ev.bind ha (Ev.bind hb ?_)
    by_cases c : l[i].f1 = 90
    · rw [c, ne] at htwo ⊢
      refine Ev.ite_pos rfl (Ev.bind htwo (Ev.ite_neg (by simp) ?_))
      rw [if_neg (by simp)]
      exact hn
    refine Ev.ite_neg c ?_
    rw [beq_eq_false_iff_ne.mpr c]
    cases h1 : a.2.2.2.2 with
    | false =>
      rw [if_pos (by simp)]
      exact Ev.ite_neg (by simp) (Ev.now _)
    | true =>
      refine Ev.ite_pos rfl (Ev.bind htwo ?_)
      cases h2 : twoB l[i].f1 with
      | false =>
        rw [if_neg (by simp)]
        exact Ev.ite_neg (by simp) hn
      | true =>
        cases h3 : b.2.2.2.2 with
        | false =>
          rw [if_pos (by simp)]
          exact Ev.ite_pos rfl (Ev.ite_neg (by simp) (Ev.now _))
        | true =>
          rw [if_neg (by simp)]
          exact Ev.ite_pos rfl (Ev.ite_pos rfl hn)
theorem ref_check (l : List S34) (hl : l.length ≤ 100000) (hw : ∀ s ∈ l, WfS s) : Ev (fun k => guichetref12_Check.f k l) (checkB l) := by
  have h3 := ref_l3 l hl hw _ 0 rfl (Nat.zero_le _)
  have h2 := ref_l2 l hl hw _ h3 l.length 0 rfl (Nat.zero_le _)
  have h1 := ref_l0 l hl _ h2 l.length 0 rfl (Nat.zero_le _)
  unfold guichetref12_Check.f
  exact Ev.ite_pos (by omega) h1
end Go.Proofs.YthajndlkibpncaaDoor.Q
