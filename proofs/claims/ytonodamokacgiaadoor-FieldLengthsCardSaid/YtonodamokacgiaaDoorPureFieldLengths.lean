/- Just how long a field's value may be. -/
import Derived.Test.YtonodamokacgiaaDoorQField
import Derived.Test.YtonodamokacgiaaDoorPAllx8
namespace Go.Proofs.YtonodamokacgiaaDoor.Pure
open Go.RowKit Go.Proofs.YtonodamokacgiaaDoorW.PrintWords Go.Proofs.YtonodamokacgiaaDoorW.PrintMore Go.Proofs.YtonodamokacgiaaDoor.PAll Go.Proofs.YtonodamokacgiaaDoor.Q
set_option linter.unusedVariables false

theorem mx_zero {s : Int} (h : 0 ≤ s) : mx s 0 = s := by unfold mx; omega
theorem ints_rep (m : Nat) (c : UInt8) : ints (List.replicate m c) = List.replicate m (c.toNat : Int) := by simp [ints]
theorem allDig_rep {m : Nat} (c : UInt8) (h : 1 ≤ m) : AllDig (List.replicate m c) ↔ IsDig c := by
  unfold AllDig
  exact ⟨fun hh => hh c (List.mem_replicate.2 ⟨by omega, rfl⟩), fun hh x hx => by rw [List.eq_of_mem_replicate hx]; exact hh⟩
theorem allTxt_rep {m : Nat} (c : UInt8) (h : 1 ≤ m) : AllTxt (List.replicate m c) ↔ IsTxt c := by
  unfold AllTxt
  exact ⟨fun hh => hh c (List.mem_replicate.2 ⟨by omega, rfl⟩), fun hh x hx => by rw [List.eq_of_mem_replicate hx]; exact hh⟩

section
variable (c : UInt8) (n : Int) (X : List Int) (d : Bool) (L V : Int) (i : Int)
theorem lengths_j3 (m : Nat) (hm : m ≤ 2000) (g : Bool) (hg : g = decide (RightR (formOf n) (List.replicate m c))) (hn : Ev (fun k => guichetlaw8_FieldLengths.l0 k (c.toNat : Int) n X (X.length : Int) (wrap64 (i + 1)) d L V) true) :
    Ev (fun k => guichetlaw8_FieldLengths.j3 k (c.toNat : Int) n (m : Int) (List.replicate m (c.toNat : Int)) g X (X.length : Int) i d L V) true := by
  rw [← ints_rep]
  obtain ⟨P, hP⟩ := field_put n (List.replicate m c) (by rw [List.length_replicate]; omega)
  have hR := field_right n (List.replicate m c) (by rw [List.length_replicate]; omega)
  refine Ev.step (f := fun k => (field_Put.f k n (S (List.replicate m c))).bind fun a => (field_Right.f k n (S (List.replicate m c))).bind fun t => if (t != g) = true then some false else if ((a.2 == 0) != g) = true then some false else guichetlaw8_FieldLengths.l0 k (c.toNat : Int) n X (X.length : Int) (wrap64 (i + 1)) d L V) (fun k => ?_) ?_
  · simp only [guichetlaw8_FieldLengths.j3]
    rw [if_neg (by omega), str_ints]
  · refine Ev.bind hP (Ev.bind hR ?_)
    rw [← hg]
    refine Ev.ite_neg (by simp) (Ev.ite_neg ?_ hn)
    by_cases h : RightR (formOf n) (List.replicate m c)
    · rw [hg, if_pos h, decide_eq_true h]; simp
    · rw [hg, if_neg h, decide_eq_false h]; simp
theorem lengths_j2 (m : Nat) (hm : m ≤ 2000) (hf : formOf n = (d, L, V, true)) (hL : 1 ≤ L) (hV : 0 ≤ V) (a : Bool) (ha : a = decide ((m : Int) = L ∨ V > 0 ∧ (m : Int) ≥ 1 ∧ (m : Int) ≤ L)) (hn : Ev (fun k => guichetlaw8_FieldLengths.l0 k (c.toNat : Int) n X (X.length : Int) (wrap64 (i + 1)) d L V) true) :
    Ev (fun k => guichetlaw8_FieldLengths.j2 k (c.toNat : Int) n (m : Int) (List.replicate m (c.toNat : Int)) a X (X.length : Int) i d L V) true := by
  have go : ∀ g : Bool, g = decide (RightR (formOf n) (List.replicate m c)) → Ev (fun k => guichetlaw8_FieldLengths.j3 k (c.toNat : Int) n (m : Int) (List.replicate m (c.toNat : Int)) g X (X.length : Int) i d L V) true := fun g hg => lengths_j3 c n X d L V i m hm g hg hn
  rw [hf] at go
  by_cases h : (m : Int) = L ∨ V > 0 ∧ (m : Int) ≥ 1 ∧ (m : Int) ≤ L
  · rw [ha, decide_eq_true h]
    have hm1 : 1 ≤ m := by omega
    have hz : ((m : Int) == 0) = false := beq_eq_false_iff_ne.2 (by omega)
    have e : RightR (d, L, V, true) (List.replicate m c) ↔ if d = true then IsDig c else IsTxt c := by
      unfold RightR
      simp only [List.length_replicate, allDig_rep c hm1, allTxt_rep c hm1, true_and]
      exact ⟨fun hh => hh.2.2.2, fun hh => ⟨by omega, by omega, fun h0 => by omega, hh⟩⟩
    refine Ev.step (f := fun k => if d = true then (if (c.toNat : Int) ≥ 48 then (if (c.toNat : Int) ≤ 57 then (guichetlaw8_FieldLengths.j3 k (c.toNat : Int) n (m : Int) (List.replicate m (c.toNat : Int)) true X (X.length : Int) i d L V) else (guichetlaw8_FieldLengths.j3 k (c.toNat : Int) n (m : Int) (List.replicate m (c.toNat : Int)) ((m : Int) == 0) X (X.length : Int) i d L V)) else (guichetlaw8_FieldLengths.j3 k (c.toNat : Int) n (m : Int) (List.replicate m (c.toNat : Int)) ((m : Int) == 0) X (X.length : Int) i d L V)) else (if (c.toNat : Int) ≥ 32 then (if (c.toNat : Int) ≤ 126 then (guichetlaw8_FieldLengths.j3 k (c.toNat : Int) n (m : Int) (List.replicate m (c.toNat : Int)) true X (X.length : Int) i d L V) else (guichetlaw8_FieldLengths.j3 k (c.toNat : Int) n (m : Int) (List.replicate m (c.toNat : Int)) ((m : Int) == 0) X (X.length : Int) i d L V)) else (guichetlaw8_FieldLengths.j3 k (c.toNat : Int) n (m : Int) (List.replicate m (c.toNat : Int)) ((m : Int) == 0) X (X.length : Int) i d L V))) (fun k => by simp only [guichetlaw8_FieldLengths.j2, if_true]) ?_
    rw [hz]
    have yes : (if d = true then IsDig c else IsTxt c) → Ev (fun k => guichetlaw8_FieldLengths.j3 k (c.toNat : Int) n (m : Int) (List.replicate m (c.toNat : Int)) true X (X.length : Int) i d L V) true := fun hh => go true (decide_eq_true (e.2 hh)).symm
    have no : ¬ (if d = true then IsDig c else IsTxt c) → Ev (fun k => guichetlaw8_FieldLengths.j3 k (c.toNat : Int) n (m : Int) (List.replicate m (c.toNat : Int)) false X (X.length : Int) i d L V) true := fun hh => go false (decide_eq_false (fun h' => hh (e.1 h'))).symm
    by_cases hd : d = true
    · rw [if_pos hd] at yes no
      refine Ev.ite_pos hd ?_
      unfold IsDig at yes no
      by_cases h1 : (c.toNat : Int) ≥ 48
      · refine Ev.ite_pos h1 ?_
        by_cases h2 : (c.toNat : Int) ≤ 57
        · exact Ev.ite_pos h2 (yes ⟨by omega, by omega⟩)
        · exact Ev.ite_neg h2 (no (by omega))
      · exact Ev.ite_neg h1 (no (by omega))
    · rw [if_neg hd] at yes no
      refine Ev.ite_neg hd ?_
      unfold IsTxt at yes no
      by_cases h1 : (c.toNat : Int) ≥ 32
      · refine Ev.ite_pos h1 ?_
        by_cases h2 : (c.toNat : Int) ≤ 126
        · exact Ev.ite_pos h2 (yes ⟨by omega, by omega⟩)
        · exact Ev.ite_neg h2 (no (by omega))
      · exact Ev.ite_neg h1 (no (by omega))
  · rw [ha, decide_eq_false h]
    refine Ev.step (f := fun k => guichetlaw8_FieldLengths.j3 k (c.toNat : Int) n (m : Int) (List.replicate m (c.toNat : Int)) false X (X.length : Int) i d L V) (fun k => by simp only [guichetlaw8_FieldLengths.j2, Bool.false_eq_true, if_false]) (go false ?_)
    rw [decide_eq_false]
    intro hR
    obtain ⟨_, h1, h2, h3, _⟩ := hR
    simp only [List.length_replicate] at h1 h2 h3
    by_cases h0 : V = 0
    · exact h (Or.inl (h3 h0))
    · exact h (Or.inr ⟨by omega, by omega, by omega⟩)
theorem lengths_l1 (m : Nat) (hm : m ≤ 2000) (hf : formOf n = (d, L, V, true)) (hL : 1 ≤ L) (hV : 0 ≤ V) (hn : Ev (fun k => guichetlaw8_FieldLengths.l0 k (c.toNat : Int) n X (X.length : Int) (wrap64 (i + 1)) d L V) true) (z : Nat) : ∀ j : Nat, m - j = z → j ≤ m →
    Ev (fun k => guichetlaw8_FieldLengths.l1 k (c.toNat : Int) n (m : Int) (List.replicate j (c.toNat : Int) ++ List.replicate (m - j) 0) (j : Int) X (X.length : Int) i d L V) true := by
  induction z with
  | zero =>
    intro j hz hj
    obtain rfl : j = m := by omega
    rw [Nat.sub_self, List.replicate_zero, List.append_nil]
    have go : ∀ a : Bool, a = decide ((j : Int) = L ∨ V > 0 ∧ (j : Int) ≥ 1 ∧ (j : Int) ≤ L) → _ := fun a ha => lengths_j2 c n X d L V i j hm hf hL hV a ha hn
    refine Ev.step (f := fun k => if (j : Int) = L then (guichetlaw8_FieldLengths.j2 k (c.toNat : Int) n (j : Int) (List.replicate j (c.toNat : Int)) true X (X.length : Int) i d L V) else if V > 0 then (if (j : Int) ≥ 1 then (guichetlaw8_FieldLengths.j2 k (c.toNat : Int) n (j : Int) (List.replicate j (c.toNat : Int)) (decide ((j : Int) ≤ L)) X (X.length : Int) i d L V) else (guichetlaw8_FieldLengths.j2 k (c.toNat : Int) n (j : Int) (List.replicate j (c.toNat : Int)) false X (X.length : Int) i d L V)) else (guichetlaw8_FieldLengths.j2 k (c.toNat : Int) n (j : Int) (List.replicate j (c.toNat : Int)) false X (X.length : Int) i d L V)) (fun k => ?_) ?_
    · simp only [guichetlaw8_FieldLengths.l1]
      rw [if_neg (by rw [List.length_replicate]; omega)]
    · by_cases h1 : (j : Int) = L
      · exact Ev.ite_pos h1 (go true (decide_eq_true (Or.inl h1)).symm)
      refine Ev.ite_neg h1 ?_
      by_cases h2 : V > 0
      · refine Ev.ite_pos h2 ?_
        by_cases h3 : (j : Int) ≥ 1
        · refine Ev.ite_pos h3 (go _ ?_)
          rw [decide_eq_decide]
          omega
        · exact Ev.ite_neg h3 (go false (decide_eq_false (by omega)).symm)
      · exact Ev.ite_neg h2 (go false (decide_eq_false (by omega)).symm)
  | succ z ih =>
    intro j hz hj
    have hlt : j < m := by omega
    have h := ih (j + 1) (by omega) (by omega)
    refine Ev.step (fun k => ?_) h
    simp only [guichetlaw8_FieldLengths.l1]
    rw [if_pos (by rw [List.length_append, List.length_replicate, List.length_replicate]; omega), if_pos (by omega), wrap_succ hlt (by omega), Int.toNat_natCast]
    have e : (List.replicate j (c.toNat : Int) ++ List.replicate (m - j) (0 : Int)).set j (c.toNat : Int) = List.replicate (j + 1) (c.toNat : Int) ++ List.replicate (m - (j + 1)) (0 : Int) := by
      rw [List.set_append_right _ _ (by rw [List.length_replicate]; omega), List.length_replicate, Nat.sub_self, show m - j = (m - (j + 1)) + 1 from by omega, List.replicate_succ, List.set_cons_zero, List.replicate_succ', List.append_assoc]
      rfl
    rw [e]
theorem lengths_l0 (hX : X.length ≤ 100) (hs : ∀ s ∈ X, 0 ≤ s ∧ s ≤ 2000) (hf : formOf n = (d, L, V, true)) (hL : 1 ≤ L) (hV : 0 ≤ V) (z : Nat) : ∀ j : Nat, X.length - j = z → j ≤ X.length →
    Ev (fun k => guichetlaw8_FieldLengths.l0 k (c.toNat : Int) n X (X.length : Int) (j : Int) d L V) true := by
  induction z with
  | zero =>
    intro j hz hj
    exact Ev.step (f := fun _ => some true) (fun k => by simp only [guichetlaw8_FieldLengths.l0]; rw [if_neg (by omega)]) (Ev.now _)
  | succ z ih =>
    intro j hz hj
    have hlt : j < X.length := by omega
    have hx := hs X[j] (List.getElem_mem hlt)
    have hr : rd X (j : Int) = X[j] := rd_lt hlt
    generalize X[j] = s at hx hr
    obtain ⟨m, rfl⟩ := Int.eq_ofNat_of_zero_le hx.1
    have hn := ih (j + 1) (by omega) (by omega)
    rw [← wrap_succ hlt (show X.length ≤ 140737488355328 by omega)] at hn
    have h := lengths_l1 c n X d L V (j : Int) m (by omega) hf hL hV hn _ 0 rfl (by omega)
    rw [List.replicate_zero, List.nil_append, Nat.sub_zero] at h
    refine Ev.step (fun k => ?_) h
    simp only [guichetlaw8_FieldLengths.l0]
    rw [hr, mx_zero hx.1, if_pos (by omega), if_pos (by omega), if_pos (by omega), if_pos hx.1, Int.toNat_natCast, if_pos (by omega)]
    rfl
end
theorem number_some (a : Int) (h : 0 ≤ a ∧ a ≤ 255) : ∃ n, guichetlaw8_number.f a = some n := by
  have e : ∀ y : Fin 256, (guichetlaw8_number.f (y.val : Int)).isSome = true := by decide +kernel
  obtain ⟨y, rfl⟩ := Int.eq_ofNat_of_zero_le h.1
  exact Option.isSome_iff_exists.1 (e ⟨y, by omega⟩)
theorem FieldLengths : guichetlaw8_FieldLengths.Pure := by
  intro a b x ha hb hx
  have ha' : 0 ≤ a ∧ a ≤ 255 := by simpa [Lit.wf, IntKind.min, IntKind.max, IntKind.bits, IntKind.signed] using ha
  have hb' : 0 ≤ b ∧ b ≤ 255 := by simpa [Lit.wf, IntKind.min, IntKind.max, IntKind.bits, IntKind.signed] using hb
  have hx' : 0 ≤ x ∧ x ≤ 255 := by simpa [Lit.wf, IntKind.min, IntKind.max, IntKind.bits, IntKind.signed] using hx
  obtain ⟨c, rfl⟩ : ∃ c : UInt8, x = (c.toNat : Int) := ⟨UInt8.ofNat x.toNat, by rw [UInt8.toNat_ofNat']; omega⟩
  refine Ev.rounds (g := fun k => guichetlaw8_FieldLengths.f k a b (c.toNat : Int)) ?_
  obtain ⟨n, hn⟩ := number_some a ha'
  unfold guichetlaw8_FieldLengths.f
  refine Ev.bind known_true (Ev.ite_pos rfl (Ev.const_bind hn (Ev.bind (ref_of n) ?_)))
  have hF := (of_eq n).2
  have hR := field_right n [49] (by simp)
  generalize hf : formOf n = f at hF hR ⊢
  obtain ⟨d, L, V, ok⟩ := f
  unfold Fits at hF
  simp only at hF
  by_cases h0 : ok = true
  · subst h0
    have hF' := hF.1 rfl
    refine Ev.ite_pos rfl (Ev.some_bind ?_)
    refine lengths_l0 c n [0, 1, wrap64 (L - 1), L, wrap64 (L + 1), wrap64 b] d L V (by simp) ?_ hf hF'.1 (by omega) _ 0 rfl (by simp)
    rw [show wrap64 (L - 1) = L - 1 from by unfold wrap64; omega, show wrap64 (L + 1) = L + 1 from by unfold wrap64; omega, show wrap64 b = b from by unfold wrap64; omega]
    simp only [List.mem_cons, List.not_mem_nil, or_false, forall_eq_or_imp, forall_eq]
    omega
  · refine Ev.ite_neg h0 ?_
    rw [decide_eq_false (fun h => h0 h.1)] at hR
    exact Ev.bind hR (Ev.now _)
end Go.Proofs.YtonodamokacgiaaDoor.Pure
