import Derived.Test.YthajndlkibpncaaDoorQBase
import Derived.Test.YthajndlkibpncaaDoorPAllx2
import Derived.Test.YthajndlkibpncaaDoorPAllx12
/- Which tables are right: what the reference's and the program's checks compute, in plain lists. -/
namespace Go.Proofs.YthajndlkibpncaaDoor.Q
open Go.RowKit Go.Proofs.YthajndlkibpncaaDoorW.PrintWords Go.Proofs.YthajndlkibpncaaDoorW.PrintMore Go.Proofs.YthajndlkibpncaaDoor.PAll
set_option linter.unusedVariables false

def twoB (c : Int) : Bool := c == 66 || c == 68 || c == 69
def leadsB (s : S34) : List Int := (if s.f1 = 90 then [] else [s.f2]) ++ (if twoB s.f1 = true then [s.f3] else [])
/-- A state whose parts are what they can be. -/
def WfS (s : S34) : Prop := (Lit.int .i64 s.f0).wf = true ∧ (Lit.int .u8 s.f1).wf = true ∧ (Lit.int .i64 s.f2).wf = true ∧ (Lit.int .i64 s.f3).wf = true
def goesB (E : MB) (s : S34) : Bool := s.f1 == 90 || (leadsB s).any fun n => E n
def stepB (E : MB) (s : S34) : MB := if goesB E s = true then E.on s.f0 else E
def roundB (l : List S34) (E : MB) : MB := l.foldl stepB E
def iterB (l : List S34) : Nat → MB
  | 0 => fun _ => false
  | r + 1 => roundB l (iterB l r)
theorem on_true {E : MB} {k x : Int} : E.on k x = true ↔ x = k ∨ E x = true := by
  unfold MB.on
  by_cases h : x = k
  · rw [if_pos h]; simp [h]
  · rw [if_neg h]; simp [h]
theorem stepB_mono {E : MB} {s : S34} {x : Int} (h : E x = true) : stepB E s x = true := by
  unfold stepB
  split
  · exact on_true.mpr (.inr h)
  · exact h
theorem stepB_new {E : MB} {s : S34} {x : Int} (h : stepB E s x = true) : E x = true ∨ x = s.f0 := by
  unfold stepB at h
  split at h
  · rcases on_true.mp h with h | h
    · exact .inr h
    · exact .inl h
  · exact .inl h
theorem roundB_mono : ∀ (l : List S34) {E : MB} {x : Int}, E x = true → roundB l E x = true
  | [], _, _, h => h
  | s :: l, E, x, h => by
    show roundB l (stepB E s) x = true
    exact roundB_mono l (stepB_mono h)
theorem roundB_new : ∀ (l : List S34) {E : MB} {x : Int}, roundB l E x = true → E x = true ∨ ∃ s ∈ l, x = s.f0
  | [], _, _, h => .inl h
  | s :: l, E, x, h => by
    rcases roundB_new l (E := stepB E s) h with h | ⟨t, ht, e⟩
    · rcases stepB_new h with h | h
      · exact .inl h
      · exact .inr ⟨s, by simp, h⟩
    · exact .inr ⟨t, by simp [ht], e⟩
theorem count_lt (p q : S34 → Bool) : ∀ l : List S34, (∀ s ∈ l, p s = true → q s = true) → (∃ s ∈ l, q s = true ∧ p s = false) → l.countP p < l.countP q
  | [], _, h => by obtain ⟨s, hs, _⟩ := h; cases hs
  | t :: l, hm, h => by
    have hle : l.countP p ≤ l.countP q := List.countP_mono_left (fun s hs hp => hm s (by simp [hs]) hp)
    rw [List.countP_cons, List.countP_cons]
    obtain ⟨s, hs, hq, hp⟩ := h
    rcases List.mem_cons.mp hs with e | hs
    · subst e
      rw [hq, hp]
      simp
      omega
    · have := count_lt p q l (fun s hs => hm s (by simp [hs])) ⟨s, hs, hq, hp⟩
      have ht : p t = true → q t = true := hm t (by simp)
      cases hpt : p t with
      | false => cases hqt : q t <;> simp <;> omega
      | true => rw [ht hpt]; simp; omega
theorem round_or (l : List S34) (E : MB) : roundB l E = E ∨ l.countP (fun s => E s.f0) < l.countP (fun s => roundB l E s.f0) := by
  by_cases h : ∃ s ∈ l, roundB l E s.f0 = true ∧ E s.f0 = false
  · exact .inr (count_lt _ _ l (fun s _ hp => roundB_mono l hp) h)
  · refine .inl (funext fun x => ?_)
    cases hE : E x with
    | true => exact roundB_mono l hE
    | false =>
      cases hR : roundB l E x with
      | false => rfl
      | true =>
        rcases roundB_new l hR with h1 | ⟨s, hs, e⟩
        · rw [hE] at h1; cases h1
        · exact absurd ⟨s, hs, by rw [← e]; exact hR, by rw [← e]; exact hE⟩ h
theorem iter_or (l : List S34) : ∀ r, iterB l (r + 1) = iterB l r ∨ r + 1 ≤ l.countP (fun s => iterB l (r + 1) s.f0)
  | 0 => by
    rcases round_or l (iterB l 0) with h | h
    · exact .inl h
    · exact .inr (by show 0 + 1 ≤ l.countP (fun s => roundB l (iterB l 0) s.f0); omega)
  | r + 1 => by
    rcases iter_or l r with h | h
    · refine .inl ?_
      show roundB l (iterB l (r + 1)) = roundB l (iterB l r)
      rw [h]
    · rcases round_or l (iterB l (r + 1)) with h1 | h1
      · exact .inl h1
      · exact .inr (by show r + 1 + 1 ≤ l.countP (fun s => roundB l (iterB l (r + 1)) s.f0); omega)
/-- One round more than there are states says nothing new. -/
theorem iter_fix (l : List S34) : iterB l (l.length + 1) = iterB l l.length := by
  rcases iter_or l l.length with h | h
  · exact h
  · have := List.countP_le_length (p := fun s => iterB l (l.length + 1) s.f0) (l := l)
    omega

/-! ### the answer -/
def dupB (l : List S34) (i : Nat) : Bool := (l.take i).any fun t => match l[i]? with | some s => t.f0 == s.f0 | none => false
def lostB (l : List S34) (i : Nat) : Bool := match l[i]? with | some s => (leadsB s).any fun n => !(l.any fun t => t.f0 == n) | none => false
def deadB (l : List S34) (E : MB) (i : Nat) : Bool := match l[i]? with | some s => !(E s.f0) | none => false
/-- The first place of l, from i on, of which p holds. -/
def firstB (p : Nat → Bool) : Nat → Nat → Option Nat
  | 0, _ => none
  | d + 1, i => if p i = true then some i else firstB p d (i + 1)
def checkB (l : List S34) : Int × Int :=
  match firstB (dupB l) l.length 0 with
  | some i => ((i : Int), 31)
  | none => match firstB (lostB l) l.length 0 with
    | some i => ((i : Int), 32)
    | none => match firstB (deadB l (iterB l l.length)) l.length 0 with
      | some i => ((i : Int), 30)
      | none => (0, 0)

/-! ### the reference's -/
theorem rd_S {l : List S34} {i : Nat} (h : i < l.length) : rd_T34 l (i : Int) = l[i] := by
  unfold rd_T34
  rw [Int.toNat_natCast, List.getD_eq_getElem?_getD, List.getElem?_eq_getElem h]
  rfl
theorem two_ev {s : S34} (h : WfS s) : Ev (fun k => guichetref12_two.f k s.f0 s.f1 s.f2 s.f3) (twoB s.f1) := by
  obtain ⟨_, h1, _⟩ := h
  have h1 := U8.of h1
  unfold U8 at h1
  obtain ⟨m, hm⟩ := Int.eq_ofNat_of_zero_le h1.1
  have hall : ∀ m : Fin 256, guichetref12_two.f 10 s.f0 ((m.val : Nat) : Int) s.f2 s.f3 = some (twoB ((m.val : Nat) : Int)) := by
    intro m
    have : ∀ m : Fin 256, guichetref12_has.f 10 (⟨#[66, 68, 69]⟩ : ByteArray) ((m.val : Nat) : Int) = some (twoB ((m.val : Nat) : Int)) := by decide +kernel
    unfold guichetref12_two.f
    rw [this m]
    rfl
  have := hall ⟨m, by omega⟩
  rw [hm]
  exact Ev.of (fun k => guichetref12_two.mono _ _ _ _ k) this
theorem ref_find (l : List S34) (hl : l.length ≤ 100000) (n : Int) (d : Nat) : ∀ i : Nat, l.length - i = d → i ≤ l.length → ∃ r, Ev (fun k => guichetref12_Find.l0 k l n (i : Int)) r ∧ r.2.2.2.2 = ((l.drop i).any fun t => t.f0 == n) := by
  induction d with
  | zero =>
    intro i h1 hi
    rw [List.drop_eq_nil_of_le (by omega)]
    exact ⟨_, Ev.step (f := fun _ => some (0, 0, 0, 0, false)) (fun k => by simp only [guichetref12_Find.l0]; rw [if_neg (by omega)]) (Ev.now _), rfl⟩
  | succ d ih =>
    intro i h1 hi
    have hlt : i < l.length := by omega
    rw [List.drop_eq_getElem_cons hlt, List.any_cons]
    by_cases h : l[i].f0 = n
    · refine ⟨_, Ev.step (f := fun _ => some (l[i].f0, l[i].f1, l[i].f2, l[i].f3, true)) (fun k => ?_) (Ev.now _), ?_⟩
      · simp only [guichetref12_Find.l0]
        rw [if_pos (by omega), if_pos (by omega), rd_S hlt, if_pos h]
      · rw [h]; simp
    · obtain ⟨r, h2, h3⟩ := ih (i + 1) (by omega) (by omega)
      refine ⟨r, Ev.step (f := fun k => guichetref12_Find.l0 k l n ((i + 1 : Nat) : Int)) (fun k => ?_) h2, ?_⟩
      · simp only [guichetref12_Find.l0]
        rw [if_pos (by omega), if_pos (by omega), rd_S hlt, if_neg h, wrap_succ hlt (by omega)]
      · rw [h3, beq_eq_false_iff_ne.mpr h]
        rfl
theorem wf_at {l : List S34} (hw : ∀ s ∈ l, WfS s) {i : Nat} (h : i < l.length) : WfS l[i] := hw _ (List.getElem_mem h)
theorem ref_l4 (l : List S34) (hl : l.length ≤ 100000) (hw : ∀ s ∈ l, WfS s) (a : Int) (X : Int × Int) (d : Nat) : ∀ (i : Nat) (E : MB), l.length - i = d → i ≤ l.length → Ev (fun k => guichetref12_Check.l3 k l ((l.drop i).foldl stepB E) (wrap64 (a + 1))) X → Ev (fun k => guichetref12_Check.l4 k l E a (i : Int)) X := by
  induction d with
  | zero =>
    intro i E h1 hi hX
    rw [List.drop_eq_nil_of_le (by omega)] at hX
    exact Ev.step (f := fun k => guichetref12_Check.l3 k l E (wrap64 (a + 1))) (fun k => by simp only [guichetref12_Check.l4]; rw [if_neg (by omega)]) hX
  | succ d ih =>
    intro i E h1 hi hX
    have hlt : i < l.length := by omega
    have hs := wf_at hw hlt
    obtain ⟨w0, w1, w2, w3⟩ := hs
    rw [List.drop_eq_getElem_cons hlt, List.foldl_cons] at hX
    have hn := ih (i + 1) (stepB E l[i]) (by omega) (by omega) hX
    by_cases c1 : l[i].f1 = 90
    · have e : stepB E l[i] = E.on l[i].f0 := if_pos (by unfold goesB; rw [c1]; rfl)
      rw [e] at hn
      refine Ev.step (f := fun k => guichetref12_Check.l4 k l (E.on l[i].f0) a ((i + 1 : Nat) : Int)) (fun k => ?_) hn
      simp only [guichetref12_Check.l4]
      rw [if_pos (by omega), if_pos (by omega), rd_S hlt, if_pos w0, if_pos c1, wrap_succ hlt (by omega)]
    have hg : goesB E l[i] = (E l[i].f2 || (twoB l[i].f1 && E l[i].f3)) := by
      unfold goesB leadsB
      rw [beq_eq_false_iff_ne.mpr c1, if_neg c1]
      cases twoB l[i].f1 <;> simp
    by_cases c2 : E l[i].f2 = true
    · have e : stepB E l[i] = E.on l[i].f0 := if_pos (by rw [hg, c2]; rfl)
      rw [e] at hn
      refine Ev.step (f := fun k => guichetref12_Check.l4 k l (E.on l[i].f0) a ((i + 1 : Nat) : Int)) (fun k => ?_) hn
      simp only [guichetref12_Check.l4]
      rw [if_pos (by omega), if_pos (by omega), rd_S hlt, if_pos w0, if_neg c1, if_pos w2, if_pos c2, wrap_succ hlt (by omega)]
    have c2' : E l[i].f2 = false := Bool.eq_false_iff.mpr c2
    rw [c2', Bool.false_or] at hg
    refine Ev.step (f := fun k => (guichetref12_two.f k l[i].f0 l[i].f1 l[i].f2 l[i].f3).bind fun t => if t = true then (if E l[i].f3 = true then guichetref12_Check.l4 k l (E.on l[i].f0) a ((i + 1 : Nat) : Int) else guichetref12_Check.l4 k l E a ((i + 1 : Nat) : Int)) else guichetref12_Check.l4 k l E a ((i + 1 : Nat) : Int)) (fun k => ?_) ?_
    · simp only [guichetref12_Check.l4]
      rw [if_pos (by omega), if_pos (by omega), rd_S hlt, if_pos w0, if_neg c1, if_pos w2, if_neg c2, wrap_succ hlt (by omega)]
      simp only [if_pos w3]
    · refine Ev.bind (two_ev ⟨w0, w1, w2, w3⟩) ?_
      cases ht : twoB l[i].f1 with
      | false =>
        rw [show stepB E l[i] = E from if_neg (by rw [hg, ht]; simp)] at hn
        exact Ev.ite_neg (by simp) hn
      | true =>
        refine Ev.ite_pos rfl ?_
        by_cases c3 : E l[i].f3 = true
        · rw [show stepB E l[i] = E.on l[i].f0 from if_pos (by rw [hg, ht, c3]; rfl)] at hn
          exact Ev.ite_pos c3 hn
        · rw [show stepB E l[i] = E from if_neg (by rw [hg, ht]; simpa using c3)] at hn
          exact Ev.ite_neg c3 hn
theorem ref_l5 (l : List S34) (hl : l.length ≤ 100000) (hw : ∀ s ∈ l, WfS s) (E : MB) (d : Nat) : ∀ i : Nat, l.length - i = d → i ≤ l.length → Ev (fun k => guichetref12_Check.l5 k l E (i : Int)) (match firstB (deadB l E) d i with | some j => ((j : Int), 30) | none => (0, 0)) := by
  induction d with
  | zero =>
    intro i h1 hi
    exact Ev.step (f := fun _ => some (0, 0)) (fun k => by simp only [guichetref12_Check.l5]; rw [if_neg (by omega)]) (Ev.now _)
  | succ d ih =>
    intro i h1 hi
    have hlt : i < l.length := by omega
    have w0 := (wf_at hw hlt).1
    have hd : deadB l E i = !(E l[i].f0) := by unfold deadB; rw [List.getElem?_eq_getElem hlt]
    rw [firstB, hd]
    by_cases c : E l[i].f0 = true
    · rw [c, if_neg (by simp)]
      refine Ev.step (f := fun k => guichetref12_Check.l5 k l E ((i + 1 : Nat) : Int)) (fun k => ?_) (ih (i + 1) (by omega) (by omega))
      simp only [guichetref12_Check.l5]
      rw [if_pos (by omega), if_pos (by omega), rd_S hlt, if_pos w0, if_pos c, wrap_succ hlt (by omega)]
    · rw [Bool.eq_false_iff.mpr c, if_pos (by rfl)]
      refine Ev.step (f := fun _ => some ((i : Int), 30)) (fun k => ?_) (Ev.now _)
      simp only [guichetref12_Check.l5]
      rw [if_pos (by omega), if_pos (by omega), rd_S hlt, if_pos w0, if_neg c]
theorem ref_l3 (l : List S34) (hl : l.length ≤ 100000) (hw : ∀ s ∈ l, WfS s) (d : Nat) : ∀ a : Nat, l.length + 1 - a = d → a ≤ l.length + 1 → Ev (fun k => guichetref12_Check.l3 k l (iterB l a) (a : Int)) (match firstB (deadB l (iterB l l.length)) l.length 0 with | some j => ((j : Int), 30) | none => (0, 0)) := by
  induction d with
  | zero =>
    intro a h1 ha
    obtain rfl : a = l.length + 1 := by omega
    refine Ev.step (f := fun k => guichetref12_Check.l5 k l (iterB l (l.length + 1)) ((0 : Nat) : Int)) (fun k => ?_) ?_
    · simp only [guichetref12_Check.l3]
      rw [if_neg (by omega)]
      rfl
    · rw [iter_fix]
      exact ref_l5 l hl hw _ l.length 0 rfl (Nat.zero_le _)
  | succ d ih =>
    intro a h1 ha
    refine Ev.step (f := fun k => guichetref12_Check.l4 k l (iterB l a) (a : Int) ((0 : Nat) : Int)) (fun k => ?_) ?_
    · simp only [guichetref12_Check.l3]
      rw [if_pos (by omega)]
      rfl
    · refine ref_l4 l hl hw (a : Int) _ l.length 0 (iterB l a) rfl (Nat.zero_le _) ?_
      rw [List.drop_zero, show wrap64 ((a : Int) + 1) = ((a + 1 : Nat) : Int) from by unfold wrap64; omega]
      exact ih (a + 1) (by omega) (by omega)
end Go.Proofs.YthajndlkibpncaaDoor.Q
