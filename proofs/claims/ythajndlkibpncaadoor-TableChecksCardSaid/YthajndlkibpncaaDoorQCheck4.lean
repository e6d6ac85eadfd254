import Derived.Test.YthajndlkibpncaaDoorQCheck3
/- Which tables are right: the program's rounds are the reference's; both checks answer alike. -/
namespace Go.Proofs.YthajndlkibpncaaDoor.Q
open Go.RowKit Go.Proofs.YthajndlkibpncaaDoorW.PrintWords Go.Proofs.YthajndlkibpncaaDoorW.PrintMore Go.Proofs.YthajndlkibpncaaDoor.PAll
set_option linter.unusedVariables false

theorem first_none (p : Nat → Bool) : ∀ d i, firstB p d i = none → ∀ j, i ≤ j → j < i + d → p j = false
  | 0, i, _, j, h1, h2 => by omega
  | d + 1, i, h, j, h1, h2 => by
    rw [firstB] at h
    by_cases hp : p i = true
    · rw [if_pos hp] at h; cases h
    · rw [if_neg hp] at h
      by_cases e : j = i
      · rw [e]; exact Bool.eq_false_iff.mpr hp
      · exact first_none p d (i + 1) h j (by omega) (by omega)
/-- No number twice. -/
def Dist (l : List S34) : Prop := ∀ (i j : Nat) (hi : i < l.length) (hj : j < l.length), l[i].f0 = l[j].f0 → i = j
theorem dist_of {l : List S34} (h : firstB (dupB l) l.length 0 = none) : Dist l := by
  have lt : ∀ (i j : Nat) (hi : i < l.length) (hj : j < l.length), i < j → l[i].f0 ≠ l[j].f0 := fun i j hi hj hij he => by
    have hd := first_none _ _ _ h j (Nat.zero_le _) (by omega)
    rw [dup_at hj, List.any_eq_false] at hd
    have hm : l[i] ∈ l.take j := by
      have : (l.take j)[i]'(by rw [List.length_take]; omega) = l[i] := List.getElem_take
      rw [← this]
      exact List.getElem_mem _
    exact hd _ hm (by rw [he]; simp)
  intro i j hi hj he
  rcases Nat.lt_trichotomy i j with h1 | h1 | h1
  · exact absurd he (lt i j hi hj h1)
  · exact h1
  · exact absurd he.symm (lt j i hj hi h1)
def boolsB (l : List S34) (E : MB) : List Bool := l.map fun s => E s.f0
theorem bools_len (l : List S34) (E : MB) : (boolsB l E).length = l.length := List.length_map _
theorem bools_at {l : List S34} {E : MB} {i : Nat} (h : i < (boolsB l E).length) : (boolsB l E)[i] = E (l[i]'(by rw [bools_len] at h; exact h)).f0 := List.getElem_map _
theorem rdOf_get {bs : List Bool} {i : Nat} (h : i < bs.length) : rdOf false bs (i : Int) = bs[i] := by
  unfold rdOf
  rw [Int.toNat_natCast, List.getD_eq_getElem?_getD, List.getElem?_eq_getElem h]
  rfl
theorem set_self {l : List S34} {E : MB} {i : Nat} (h : i < l.length) : (boolsB l E).set i (E l[i].f0) = boolsB l E := by
  refine List.ext_getElem (by rw [List.length_set]) fun q h1 h2 => ?_
  rw [List.getElem_set]
  split
  · rename_i e
    subst e
    rw [bools_at]
  · rfl
theorem set_on {l : List S34} (hd : Dist l) {E : MB} {i : Nat} (h : i < l.length) : (boolsB l E).set i true = boolsB l (E.on l[i].f0) := by
  refine List.ext_getElem (by rw [List.length_set, bools_len, bools_len]) fun q h1 h2 => ?_
  rw [List.getElem_set]
  have hq : q < l.length := by rw [bools_len] at h2; exact h2
  split
  · rename_i e
    subst e
    rw [bools_at]
    exact (on_true.mpr (.inl rfl)).symm
  · rename_i e
    rw [bools_at, bools_at]
    unfold MB.on
    rw [if_neg (fun he => e (hd q i hq h he).symm)]
theorem ends_l3 (l : List S34) (hl : l.length ≤ 100000) (M : MF) (E : MB) {i : Nat} (hi : i < l.length) (ns : List Int) (hns : ns.length ≤ 10) (hw : ∀ n ∈ ns, (Lit.int .i64 n).wf = true) (hM : ∀ n ∈ ns, ∃ (q : Nat) (h : q < l.length), M n = some (q : Int) ∧ l[q].f0 = n) (i1 : Int) (X : List Bool) (d : Nat) :
    ∀ (j : Nat) (b : Bool), ns.length - j = d → j ≤ ns.length → (b = false → E l[i].f0 = false) → Ev (fun k => table_ends.l2 k l M i1 ((i + 1 : Nat) : Int) ((boolsB l E).set i (b || (ns.drop j).any fun n => E n))) X → Ev (fun k => table_ends.l3 k l M i1 (i : Int) ns (j : Int) ((boolsB l E).set i b)) X := by
  induction d with
  | zero =>
    intro j b h1 hj hb hX
    rw [List.drop_eq_nil_of_le (by omega), List.any_nil, Bool.or_false] at hX
    refine Ev.step (f := fun k => table_ends.l2 k l M i1 ((i + 1 : Nat) : Int) ((boolsB l E).set i b)) (fun k => ?_) hX
    simp only [table_ends.l3]
    rw [if_neg (by omega), wrap_succ hi (by omega)]
  | succ d ih =>
    intro j b h1 hj hb hX
    have hlt : j < ns.length := by omega
    have w := hw _ (List.getElem_mem hlt)
    obtain ⟨q, hq, hMq, hqn⟩ := hM _ (List.getElem_mem hlt)
    have hlen : ((boolsB l E).set i b).length = l.length := by rw [List.length_set, bools_len]
    have hbi : rdOf false ((boolsB l E).set i b) (i : Int) = b := by rw [rdOf_get (by omega), List.getElem_set_self]
    rw [List.drop_eq_getElem_cons hlt, List.any_cons] at hX
    cases b with
    | true =>
      refine Ev.step (f := fun k => table_ends.l3 k l M i1 (i : Int) ns ((j + 1 : Nat) : Int) ((boolsB l E).set i true)) (fun k => ?_) (ih (j + 1) true (by omega) (by omega) (fun h => by cases h) ?_)
      · simp only [table_ends.l3]
        rw [if_pos (by omega), if_pos (by omega), if_pos (by omega), if_pos (by omega), hbi, if_pos rfl, wrap_succ hlt (by omega), Int.toNat_natCast, List.set_set]
      · rw [Bool.true_or] at hX ⊢
        exact hX
    | false =>
      have hv : rdOf false ((boolsB l E).set i false) (q : Int) = E ns[j] := by
        rw [rdOf_get (by omega), List.getElem_set, ← hqn]
        split
        · rename_i e
          subst e
          exact (hb rfl).symm
        · rw [bools_at]
      rw [Bool.false_or] at hX
      refine Ev.step (f := fun k => table_ends.l3 k l M i1 (i : Int) ns ((j + 1 : Nat) : Int) ((boolsB l E).set i (E ns[j]))) (fun k => ?_) (ih (j + 1) (E ns[j]) (by omega) (by omega) (fun _ => hb rfl) hX)
      simp only [table_ends.l3]
      rw [if_pos (by omega), if_pos (by omega), if_pos (by omega), if_pos (by omega), hbi, if_neg (by simp), rd_lt hlt, if_pos w, hMq]
      simp only [Option.getD_some]
      rw [if_pos (by omega), if_pos (by omega), hv, wrap_succ hlt (by omega), Int.toNat_natCast, List.set_set]
theorem ends_l2 (l : List S34) (hl : l.length ≤ 100000) (hw : ∀ s ∈ l, WfS s) (hd : Dist l) (M : MF) (hM : ∀ s ∈ l, ∀ n ∈ leadsB s, ∃ (q : Nat) (h : q < l.length), M n = some (q : Int) ∧ l[q].f0 = n) (i1 : Int) (X : List Bool) (d : Nat) :
    ∀ (i : Nat) (E : MB), l.length - i = d → i ≤ l.length → Ev (fun k => table_ends.l1 k l M (wrap64 (i1 + 1)) (boolsB l ((l.drop i).foldl stepB E))) X → Ev (fun k => table_ends.l2 k l M i1 (i : Int) (boolsB l E)) X := by
  induction d with
  | zero =>
    intro i E h1 hi hX
    rw [List.drop_eq_nil_of_le (by omega)] at hX
    exact Ev.step (f := fun k => table_ends.l1 k l M (wrap64 (i1 + 1)) (boolsB l E)) (fun k => by simp only [table_ends.l2]; rw [if_neg (by omega)]) hX
  | succ d ih =>
    intro i E h1 hi hX
    have hlt : i < l.length := by omega
    have hs := wf_at hw hlt
    have hmem := List.getElem_mem hlt
    rw [List.drop_eq_getElem_cons hlt, List.foldl_cons] at hX
    have hn := ih (i + 1) (stepB E l[i]) (by omega) (by omega) hX
    have h10 : (leadsB l[i]).length ≤ 10 := by unfold leadsB; rw [List.length_append]; split <;> split <;> simp
    have go : ∀ b : Bool, (b = false → E l[i].f0 = false) → (boolsB l E).set i (b || (leadsB l[i]).any fun n => E n) = boolsB l (stepB E l[i]) → Ev (fun k => table_ends.l3 k l M i1 (i : Int) (leadsB l[i]) 0 ((boolsB l E).set i b)) X := fun b hb he => by
      refine ends_l3 l hl M E hlt (leadsB l[i]) h10 (leads_wf hs) (hM _ hmem) i1 X _ 0 b rfl (Nat.zero_le _) hb ?_
      rw [List.drop_zero, he]
      exact hn
    by_cases c : l[i].f1 = 90
    · refine Ev.step (f := fun k => table_ends.l3 k l M i1 (i : Int) (leadsB l[i]) 0 ((boolsB l E).set i true)) (fun k => ?_) (go true (fun h => by cases h) ?_)
      · simp only [table_ends.l2]
        rw [if_pos (by omega), if_pos (by omega), rd_S hlt, if_pos c, leads_f hs]
        simp only [Option.bind_some, Int.toNat_natCast]
      · rw [Bool.true_or, set_on hd hlt, show stepB E l[i] = E.on l[i].f0 from if_pos (by unfold goesB; rw [c]; rfl)]
    · refine Ev.step (f := fun k => table_ends.l3 k l M i1 (i : Int) (leadsB l[i]) 0 ((boolsB l E).set i (E l[i].f0))) (fun k => ?_) (go (E l[i].f0) (fun h => h) ?_)
      · simp only [table_ends.l2]
        rw [if_pos (by omega), if_pos (by omega), rd_S hlt, if_neg c, leads_f hs, set_self hlt]
        simp only [Option.bind_some]
      · have hg : goesB E l[i] = (leadsB l[i]).any fun n => E n := by
          unfold goesB
          rw [beq_eq_false_iff_ne.mpr c, Bool.false_or]
        unfold stepB
        rw [hg]
        cases ha : (leadsB l[i]).any fun n => E n with
        | true => rw [Bool.or_true, set_on hd hlt, if_pos rfl]
        | false => rw [Bool.or_false, set_self hlt, if_neg (by simp)]
theorem ends_l1 (l : List S34) (hl : l.length ≤ 100000) (hw : ∀ s ∈ l, WfS s) (hd : Dist l) (M : MF) (hM : ∀ s ∈ l, ∀ n ∈ leadsB s, ∃ (q : Nat) (h : q < l.length), M n = some (q : Int) ∧ l[q].f0 = n) (d : Nat) :
    ∀ r : Nat, l.length - r = d → r ≤ l.length → Ev (fun k => table_ends.l1 k l M (r : Int) (boolsB l (iterB l r))) (boolsB l (iterB l l.length)) := by
  induction d with
  | zero =>
    intro r h1 hr
    obtain rfl : r = l.length := by omega
    exact Ev.step (f := fun _ => some (boolsB l (iterB l l.length))) (fun k => by simp only [table_ends.l1]; rw [if_neg (by omega)]) (Ev.now _)
  | succ d ih =>
    intro r h1 hr
    refine Ev.step (f := fun k => table_ends.l2 k l M (r : Int) ((0 : Nat) : Int) (boolsB l (iterB l r))) (fun k => by simp only [table_ends.l1]; rw [if_pos (by omega)]; rfl) ?_
    refine ends_l2 l hl hw hd M hM (r : Int) _ _ 0 (iterB l r) rfl (Nat.zero_le _) ?_
    rw [List.drop_zero, wrap_succ (show r < l.length by omega) (by omega)]
    exact ih (r + 1) (by omega) (by omega)
theorem ends_f (l : List S34) (hl : l.length ≤ 100000) (hw : ∀ s ∈ l, WfS s) (hd : Dist l) (M : MF) (hM : ∀ s ∈ l, ∀ n ∈ leadsB s, ∃ (q : Nat) (h : q < l.length), M n = some (q : Int) ∧ l[q].f0 = n) : Ev (fun k => table_ends.f k l M) (boolsB l (iterB l l.length)) := by
  unfold table_ends.f
  refine Ev.ite_pos (by omega) ?_
  have h := ends_l1 l hl hw hd M hM _ 0 rfl (Nat.zero_le _)
  rw [show boolsB l (iterB l 0) = List.replicate l.length false from List.ext_getElem (by rw [bools_len, List.length_replicate]) (fun q h1 h2 => by rw [bools_at, List.getElem_replicate]; rfl)] at h
  exact h
theorem prog_l3 (l : List S34) (hl : l.length ≤ 100000) (E : MB) (d : Nat) : ∀ i : Nat, l.length - i = d → i ≤ l.length → Ev (fun k => table_Check.l3 k (boolsB l E) (i : Int)) (match firstB (deadB l E) d i with | some j => ((j : Int), 30) | none => (0, 0)) := by
  have hlen := bools_len l E
  induction d with
  | zero =>
    intro i h1 hi
    exact Ev.step (f := fun _ => some (0, 0)) (fun k => by simp only [table_Check.l3]; rw [if_neg (by omega)]) (Ev.now _)
  | succ d ih =>
    intro i h1 hi
    have hlt : i < l.length := by omega
    have hv : rdOf false (boolsB l E) (i : Int) = E l[i].f0 := by rw [rdOf_get (by omega), bools_at]
    have hdd : deadB l E i = !(E l[i].f0) := by unfold deadB; rw [List.getElem?_eq_getElem hlt]
    rw [firstB, hdd]
    by_cases c : E l[i].f0 = true
    · rw [c, if_neg (by simp)]
      refine Ev.step (f := fun k => table_Check.l3 k (boolsB l E) ((i + 1 : Nat) : Int)) (fun k => ?_) (ih (i + 1) (by omega) (by omega))
      simp only [table_Check.l3]
      rw [if_pos (by omega), if_pos (by omega), hv, if_pos c, wrap_succ hlt (by omega)]
    · rw [Bool.eq_false_iff.mpr c, if_pos (by rfl)]
      refine Ev.step (f := fun _ => some ((i : Int), 30)) (fun k => ?_) (Ev.now _)
      simp only [table_Check.l3]
      rw [if_pos (by omega), if_pos (by omega), hv, if_neg c]
/-- The program's check answers as the reference's does. -/
theorem prog_check (l : List S34) (hl : l.length ≤ 100000) (hw : ∀ s ∈ l, WfS s) : Ev (fun k => table_Check.f k l) (checkB l) := by
  unfold table_Check.f
  refine prog_l0 l hl hw _ (fun hdup => ?_) l.length 0 rfl (Nat.zero_le _) rfl
  have hM : ∀ x, (idM l l.length x).isSome = (l.any fun t => t.f0 == x) := fun x => by
    have := idM_is l x l.length (Nat.le_refl _)
    rw [List.take_length] at this
    exact this
  refine prog_l1 l hl hw _ hM _ (fun hlost => ?_) l.length 0 rfl (Nat.zero_le _) rfl
  refine Ev.bind (ends_f l hl hw (dist_of hdup) _ (fun s hs n hn => ?_)) (prog_l3 l hl _ l.length 0 rfl (Nat.zero_le _))
  obtain ⟨i, hi, rfl⟩ := List.getElem_of_mem hs
  have h1 := first_none _ _ _ hlost i (Nat.zero_le _) (by omega)
  rw [lost_at hi, List.any_eq_false] at h1
  have h2 := h1 n hn
  rw [← hM n] at h2
  cases hv : idM l l.length n with
  | none => rw [hv] at h2; simp at h2
  | some v =>
    obtain ⟨q, hq, e1, e2⟩ := idM_val l n v l.length (Nat.le_refl _) hv
    exact ⟨q, hq, by rw [e1], e2⟩
end Go.Proofs.YthajndlkibpncaaDoor.Q
