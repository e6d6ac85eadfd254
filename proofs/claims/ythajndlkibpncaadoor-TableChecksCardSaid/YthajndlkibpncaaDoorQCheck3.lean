import Derived.Test.YthajndlkibpncaaDoorQCheck2
import Derived.Test.YthajndlkibpncaaDoorPAllx2
/- Which tables are right: the program's check. -/
namespace Go.Proofs.YthajndlkibpncaaDoor.Q
open Go.RowKit Go.Proofs.YthajndlkibpncaaDoorW.PrintWords Go.Proofs.YthajndlkibpncaaDoorW.PrintMore Go.Proofs.YthajndlkibpncaaDoor.PAll
set_option linter.unusedVariables false

def idM (l : List S34) : Nat → MF
  | 0 => fun _ => none
  | i + 1 => match l[i]? with | some s => (idM l i).put s.f0 (i : Int) | none => idM l i
theorem idM_succ {l : List S34} {i : Nat} (h : i < l.length) : idM l (i + 1) = (idM l i).put l[i].f0 (i : Int) := by
  rw [idM, List.getElem?_eq_getElem h]
theorem idM_is (l : List S34) (x : Int) : ∀ i, i ≤ l.length → (idM l i x).isSome = ((l.take i).any fun t => t.f0 == x)
  | 0, _ => rfl
  | i + 1, h => by
    have hlt : i < l.length := by omega
    rw [idM_succ hlt, List.take_succ_eq_append_getElem hlt, List.any_append, ← idM_is l x i (by omega)]
    unfold MF.put
    by_cases e : x = l[i].f0
    · rw [if_pos e, e]; simp
    · rw [if_neg e]
      have : (l[i].f0 == x) = false := beq_eq_false_iff_ne.mpr (fun h => e h.symm)
      simp [this]
theorem idM_val (l : List S34) (x v : Int) : ∀ i, i ≤ l.length → idM l i x = some v → ∃ (j : Nat) (h : j < l.length), v = (j : Int) ∧ l[j].f0 = x
  | 0, _, h => by cases h
  | i + 1, h, hv => by
    have hlt : i < l.length := by omega
    rw [idM_succ hlt] at hv
    unfold MF.put at hv
    by_cases e : x = l[i].f0
    · rw [if_pos e] at hv
      exact ⟨i, hlt, (Option.some.inj hv).symm, e.symm⟩
    · rw [if_neg e] at hv
      exact idM_val l x v i (by omega) hv
theorem prog_l0 (l : List S34) (hl : l.length ≤ 100000) (hw : ∀ s ∈ l, WfS s) (X : Int × Int) (hX : firstB (dupB l) l.length 0 = none → Ev (fun k => table_Check.l1 k l (idM l l.length) ((0 : Nat) : Int)) X) (d : Nat) : ∀ i : Nat, l.length - i = d → i ≤ l.length → firstB (dupB l) l.length 0 = firstB (dupB l) d i → Ev (fun k => table_Check.l0 k l (idM l i) (i : Int)) (match firstB (dupB l) d i with | some j => ((j : Int), 31) | none => X) := by
  induction d with
  | zero =>
    intro i h1 hi he
    obtain rfl : i = l.length := by omega
    exact Ev.step (f := fun k => table_Check.l1 k l (idM l l.length) ((0 : Nat) : Int)) (fun k => by simp only [table_Check.l0]; rw [if_neg (by omega)]; rfl) (hX he)
  | succ d ih =>
    intro i h1 hi he
    have hlt : i < l.length := by omega
    have w0 := (wf_at hw hlt).1
    have hM := idM_is l l[i].f0 i hi
    rw [← dup_at hlt] at hM
    rw [firstB] at he ⊢
    by_cases h : dupB l i = true
    · rw [if_pos h]
      refine Ev.step (f := fun _ => some ((i : Int), 31)) (fun k => ?_) (Ev.now _)
      simp only [table_Check.l0]
      rw [if_pos (by omega), if_pos (by omega), rd_S hlt, if_pos w0, hM, if_pos h]
    · rw [if_neg h] at he ⊢
      have hn := ih (i + 1) (by omega) (by omega) he
      rw [idM_succ hlt] at hn
      refine Ev.step (f := fun k => table_Check.l0 k l ((idM l i).put l[i].f0 (i : Int)) ((i + 1 : Nat) : Int)) (fun k => ?_) hn
      simp only [table_Check.l0]
      rw [if_pos (by omega), if_pos (by omega), rd_S hlt, if_pos w0, hM, if_neg h, wrap_succ hlt (by omega)]
theorem leads_f {s : S34} (h : WfS s) : table_Leads.f s.f0 s.f1 s.f2 s.f3 = some (leadsB s) := by
  obtain ⟨_, h1, _⟩ := h
  have h1 := U8.of h1
  unfold U8 at h1
  have hall : ∀ m : Fin 256, table_is.f ((m.val : Nat) : Int) (⟨#[66, 68, 69]⟩ : ByteArray) = some (twoB ((m.val : Nat) : Int)) := by decide +kernel
  have hi : table_is.f s.f1 (⟨#[66, 68, 69]⟩ : ByteArray) = some (twoB s.f1) := by
    obtain ⟨m, hm⟩ := Int.eq_ofNat_of_zero_le h1.1
    have := hall ⟨m, by omega⟩
    rw [hm]
    exact this
  unfold table_Leads.f leadsB
  rw [hi]
  by_cases c : s.f1 = 90
  · rw [if_pos c, if_pos c]
    cases twoB s.f1 <;> simp
  · rw [if_neg c, if_neg c]
    cases twoB s.f1 <;> simp
theorem leads_wf {s : S34} (h : WfS s) : ∀ n ∈ leadsB s, (Lit.int .i64 n).wf = true := by
  obtain ⟨_, _, h2, h3⟩ := h
  intro n hn
  unfold leadsB at hn
  rcases List.mem_append.mp hn with h | h
  · split at h
    · cases h
    · rw [List.mem_singleton.mp h]; exact h2
  · split at h
    · rw [List.mem_singleton.mp h]; exact h3
    · cases h
theorem prog_l2 (l : List S34) (M : MF) (hM : ∀ x, (M x).isSome = (l.any fun t => t.f0 == x)) (X : Int × Int) {i : Nat} (hi : i < l.length) (hl : l.length ≤ 100000) (ns : List Int) (hn : ns.length ≤ 10) (hw : ∀ n ∈ ns, (Lit.int .i64 n).wf = true) (d : Nat) : ∀ j : Nat, ns.length - j = d → j ≤ ns.length → (if ((ns.drop j).any fun n => !(l.any fun t => t.f0 == n)) = true then X = ((i : Int), 32) else Ev (fun k => table_Check.l1 k l M ((i + 1 : Nat) : Int)) X) → Ev (fun k => table_Check.l2 k l M (i : Int) ns (j : Int)) X := by
  induction d with
  | zero =>
    intro j h1 hj hX
    rw [List.drop_eq_nil_of_le (by omega), List.any_nil, if_neg (by simp)] at hX
    refine Ev.step (f := fun k => table_Check.l1 k l M ((i + 1 : Nat) : Int)) (fun k => ?_) hX
    simp only [table_Check.l2]
    rw [if_neg (by omega), wrap_succ hi (by omega)]
  | succ d ih =>
    intro j h1 hj hX
    have hlt : j < ns.length := by omega
    have w := hw _ (List.getElem_mem hlt)
    rw [List.drop_eq_getElem_cons hlt, List.any_cons, ← hM] at hX
    by_cases h : (M ns[j]).isSome = true
    · rw [h, show (!true) = false from rfl, Bool.false_or] at hX
      refine Ev.step (f := fun k => table_Check.l2 k l M (i : Int) ns ((j + 1 : Nat) : Int)) (fun k => ?_) (ih (j + 1) (by omega) (by omega) hX)
      simp only [table_Check.l2]
      rw [if_pos (by omega), if_pos (by omega), rd_lt hlt, if_pos w, if_pos h, wrap_succ hlt (by omega)]
    · rw [Bool.eq_false_iff.mpr h, if_pos (by simp)] at hX
      subst hX
      refine Ev.step (f := fun _ => some ((i : Int), 32)) (fun k => ?_) (Ev.now _)
      simp only [table_Check.l2]
      rw [if_pos (by omega), if_pos (by omega), rd_lt hlt, if_pos w, if_neg h]
theorem prog_l1 (l : List S34) (hl : l.length ≤ 100000) (hw : ∀ s ∈ l, WfS s) (M : MF) (hM : ∀ x, (M x).isSome = (l.any fun t => t.f0 == x)) (X : Int × Int) (hX : firstB (lostB l) l.length 0 = none → Ev (fun k => (table_ends.f k l M).bind fun bs => table_Check.l3 k bs 0) X) (d : Nat) : ∀ i : Nat, l.length - i = d → i ≤ l.length → firstB (lostB l) l.length 0 = firstB (lostB l) d i → Ev (fun k => table_Check.l1 k l M (i : Int)) (match firstB (lostB l) d i with | some j => ((j : Int), 32) | none => X) := by
  induction d with
  | zero =>
    intro i h1 hi he
    exact Ev.step (f := fun k => (table_ends.f k l M).bind fun bs => table_Check.l3 k bs 0) (fun k => by simp only [table_Check.l1]; rw [if_neg (by omega)]) (hX he)
  | succ d ih =>
    intro i h1 hi he
    have hlt : i < l.length := by omega
    have hs := wf_at hw hlt
    rw [firstB] at he ⊢
    refine Ev.step (f := fun k => table_Check.l2 k l M (i : Int) (leadsB l[i]) ((0 : Nat) : Int)) (fun k => ?_) ?_
    · simp only [table_Check.l1]
      rw [if_pos (by omega), if_pos (by omega), rd_S hlt, leads_f hs]
      rfl
    · refine prog_l2 l M hM _ hlt hl (leadsB l[i]) (by unfold leadsB; rw [List.length_append]; split <;> split <;> simp) (leads_wf hs) _ 0 rfl (Nat.zero_le _) ?_
      rw [List.drop_zero, ← lost_at hlt]
      by_cases h : lostB l i = true
      · rw [if_pos h, if_pos h]
      · rw [if_neg h] at he
        rw [if_neg h, if_neg h]
        exact ih (i + 1) (by omega) (by omega) he
end Go.Proofs.YthajndlkibpncaaDoor.Q
