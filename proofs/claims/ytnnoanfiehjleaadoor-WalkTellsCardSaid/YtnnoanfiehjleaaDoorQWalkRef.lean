import Derived.Test.YtnnoanfiehjleaaDoorQWalk
/- The reference's walk tells what interp.Run tells. -/
namespace Go.Proofs.YtnnoanfiehjleaaDoor.Q
open Go.RowKit Go.Proofs.YtnnoanfiehjleaaDoorW.PrintWords Go.Proofs.YtnnoanfiehjleaaDoorW.PrintMore Go.Proofs.YtnnoanfiehjleaaDoor.PAll
set_option linter.unusedVariables false

theorem has_l0 (l : List UInt8) (hl : l.length ≤ 140737488355328) (c : Int) (d : Nat) : ∀ i : Nat, l.length - i = d → i ≤ l.length → Ev (fun k => guichetref12_has.l0 k (S l) c (i : Int)) ((l.drop i).any fun x => (x.toNat : Int) == c) := by
  induction d with
  | zero =>
    intro i hd hi
    rw [List.drop_eq_nil_of_le (by omega)]
    refine Ev.succ ?_
    simp only [guichetref12_has.l0]
    exact Ev.ite_neg (by rw [S_size]; omega) (Ev.now _)
  | succ d ih =>
    intro i hd hi
    have hlt : i < l.length := by omega
    rw [List.drop_eq_getElem_cons hlt, List.any_cons]
    refine Ev.succ ?_
    simp only [guichetref12_has.l0]
    rw [bt_lt hlt, wrap_succ hlt hl]
    refine Ev.ite_pos (by rw [S_size]; omega) (Ev.ite_pos (by omega) ?_)
    by_cases h : (l[i].toNat : Int) = c
    · rw [show ((l[i].toNat : Int) == c) = true from beq_iff_eq.2 h, Bool.true_or]
      exact Ev.ite_pos h (Ev.now _)
    · rw [show ((l[i].toNat : Int) == c) = false from beq_eq_false_iff_ne.2 h, Bool.false_or]
      exact Ev.ite_neg h (ih (i + 1) (by omega) (by omega))
def kindB (c : Int) : Bool := ([65, 66, 68, 69, 73, 90] : List UInt8).any fun x => (x.toNat : Int) == c
theorem kind_ev (c : Int) : Ev (fun k => guichetref12_kind.f k c) (kindB c) := by
  unfold guichetref12_kind.f
  exact Ev.bind (has_l0 [65, 66, 68, 69, 73, 90] (by decide) c _ 0 rfl (by decide)) (Ev.now _)
theorem kindB_iff (c : Int) : kindB c = true ↔ c = 65 ∨ c = 66 ∨ c = 68 ∨ c = 69 ∨ c = 73 ∨ c = 90 := by
  unfold kindB
  simp only [List.any_cons, List.any_nil, Bool.or_false, Bool.or_eq_true, beq_iff_eq]
  have h : ((65 : UInt8).toNat : Int) = 65 ∧ ((66 : UInt8).toNat : Int) = 66 ∧ ((68 : UInt8).toNat : Int) = 68 ∧ ((69 : UInt8).toNat : Int) = 69 ∧ ((73 : UInt8).toNat : Int) = 73 ∧ ((90 : UInt8).toNat : Int) = 90 := by decide
  rw [h.1, h.2.1, h.2.2.1, h.2.2.2.1, h.2.2.2.2.1, h.2.2.2.2.2]
  omega
theorem numB_44 (x : List UInt8) : numB x 4 4 = ((numR x).2 && decide (x.length = 4)) := by
  unfold numB
  rw [← Bool.decide_and]
  congr 1
  rw [decide_eq_decide]
  omega
theorem numB_17 (x : List UInt8) : numB x 1 7 = ((numR x).2 && decide (x.length ≤ 7)) := by
  unfold numB
  by_cases h : (numR x).2 = true
  · have h1 : 1 ≤ x.length := by
      unfold numR at h
      split at h
      · omega
      · cases h
    rw [decide_eq_true h1, Bool.true_and]
  · rw [show (numR x).2 = false from by simpa using h]
    rfl
theorem stop_j1 (l : List S34) (inp : List ByteArray) (pan : ByteArray) (amt a n : Int) (b : Bool) (p : ByteArray) (m f0 f1 f2 f3 : Int) : Ev (fun k => guichetref12_Run.j1 k l inp pan amt true a n b p m f0 f1 f2 f3) (a, n, b, p, m) := by
  refine Ev.succ ?_
  simp only [guichetref12_Run.j1]
  first | exact Ev.now _ | exact Ev.ite_pos trivial (Ev.now _)
theorem ref_l0 (l : List S34) (hl : l.length ≤ 140737488355328) : ∀ (d : Nat) (inp : List ByteArray) (pan : ByteArray) (amt a n : Int) (b : Bool) (p : ByteArray) (m : Int), (∀ x ∈ inp, x.size ≤ 1000) → 0 ≤ n → n + d = 200 →
    Ev (fun k => guichetref12_Run.l0 k l inp pan amt a n b p m) (goG l d inp pan amt a n b p m)
  | 0, inp, pan, amt, a, n, b, p, m, hx, h0, hn => by
    refine Ev.succ ?_
    simp only [guichetref12_Run.l0]
    exact Ev.ite_neg (by omega) (Ev.now _)
  | d + 1, inp, pan, amt, a, n, b, p, m, hx, h0, hn => by
    have ih := ref_l0 l hl d
    have hw : wrap64 (n + 1) = n + 1 := by unfold wrap64; omega
    refine Ev.succ ?_
    simp only [guichetref12_Run.l0]
    refine Ev.ite_pos (by omega) (Ev.bind (rfind_ev l hl a) ?_)
    rw [goG]
    cases hf : finG l a with
    | none => exact Ev.ite_neg (by simp [finR]) (stop_j1 _ _ _ _ _ _ _ _ _ _ _ _ _)
    | some s =>
      refine Ev.ite_pos rfl (Ev.bind (kind_ev s.f1) ?_)
      by_cases hk : s.f1 = 73 ∨ s.f1 = 65 ∨ s.f1 = 66 ∨ s.f1 = 68 ∨ s.f1 = 69
      · refine Ev.ite_pos ((kindB_iff _).2 (by omega)) ?_
        rw [show ((finR (some s)).2.1 == 90) = false from beq_eq_false_iff_ne.2 (show s.f1 ≠ 90 by omega)]
        refine Ev.succ ?_
        simp only [guichetref12_Run.j1]
        refine Ev.ite_neg (by decide) ?_
        dsimp only [finR]
        by_cases h73 : s.f1 = 73
        · refine Ev.ite_pos h73 ?_
          have hs : (stepG s inp pan amt a n b p m).1 = true := by unfold stepG; rw [if_pos h73]; repeat' split
                                                                   all_goals rfl
          rw [if_pos hs, hw]
          have hr := fun (b : Bool) (p : ByteArray) (m : Int) => ih inp pan amt s.f2 (n + 1) b p m hx (by omega) (by omega)
          unfold stepG
          rw [if_pos h73]
          by_cases h1 : pan.toList = []
          · rw [if_pos h1]
            exact Ev.ite_pos h1 (hr _ _ _)
          rw [if_neg h1]
          refine Ev.ite_neg h1 ?_
          by_cases h2 : amt = 0
          · rw [if_pos h2]
            exact Ev.ite_pos h2 (hr _ _ _)
          rw [if_neg h2]
          refine Ev.ite_neg h2 ?_
          by_cases h3 : b = true
          · rw [if_pos h3]
            exact Ev.ite_pos h3 (hr _ _ _)
          rw [if_neg h3]
          exact Ev.ite_neg h3 (hr _ _ _)
        · refine Ev.ite_neg h73 ?_
          have hk' : s.f1 = 65 ∨ s.f1 = 66 ∨ s.f1 = 68 ∨ s.f1 = 69 := by omega
          cases inp with
          | nil =>
            have hs : stepG s [] pan amt a n b p m = (false, [], pan, amt, a, n, b, p, m) := by unfold stepG; rw [if_neg h73, if_pos hk']
            rw [hs]
            exact Ev.ite_pos rfl (Ev.now _)
          | cons x r =>
            have hs : stepG s (x :: r) pan amt a n b p m = (true, r, (takG s pan amt x.data.toList).2.1, (takG s pan amt x.data.toList).2.2, (takG s pan amt x.data.toList).1, n, b, p, m) := by unfold stepG; rw [if_neg h73, if_pos hk']
            rw [hs, if_pos rfl, hw]
            refine Ev.ite_neg (by rw [List.length_cons]; omega) (Ev.ite_pos (by rw [List.length_cons]; omega) (Ev.ite_pos (by rw [List.length_cons]; omega) (Ev.some_bind ?_)))
            have e : rdOf ByteArray.empty (x :: r) 0 = S x.data.toList := rfl
            rw [e, show (x :: r).drop 1 = r from rfl]
            have hsx : x.data.toList.length ≤ 1000 := by rw [← size_list]; exact hx x (by simp)
            generalize x.data.toList = y at hsx ⊢
            have hr := fun (pan : ByteArray) (amt a : Int) => ih r pan amt a (n + 1) b p m (fun z hz => hx z (List.mem_cons_of_mem _ hz)) (by omega) (by omega)
            refine Ev.bind (ref_num y (by omega)) ?_
            unfold takG
            by_cases h1 : s.f1 = 65
            · rw [if_pos h1]
              refine Ev.ite_pos h1 (Ev.bind (refpan_ev y hsx) ?_)
              by_cases h : cardB y = true
              · simp only [if_pos h]
                exact hr _ _ _
              · simp only [if_neg h]
                exact hr _ _ _
            rw [if_neg h1]
            refine Ev.ite_neg h1 ?_
            by_cases h2 : s.f1 = 66
            · rw [if_pos h2, numB_44]
              refine Ev.ite_pos h2 ?_
              by_cases h4 : y.length = 4
              · rw [decide_eq_true h4, Bool.and_true]
                refine Ev.ite_pos (by rw [S_size]; omega) ?_
                by_cases h : (numR y).2 = true
                · simp only [if_pos h]
                  exact hr _ _ _
                · simp only [if_neg h]
                  exact hr _ _ _
              · rw [decide_eq_false h4, Bool.and_false]
                exact Ev.ite_neg (by rw [S_size]; omega) (hr _ _ _)
            rw [if_neg h2]
            refine Ev.ite_neg h2 ?_
            by_cases h3 : s.f1 = 68
            · rw [if_pos h3, numB_17]
              refine Ev.ite_pos h3 ?_
              by_cases h : (numR y).2 = true
              · rw [h, Bool.true_and]
                refine Ev.ite_pos rfl ?_
                by_cases h7 : y.length ≤ 7
                · rw [decide_eq_true h7]
                  exact Ev.ite_pos (by rw [S_size]; omega) (hr _ _ _)
                · rw [decide_eq_false h7]
                  exact Ev.ite_neg (by rw [S_size]; omega) (hr _ _ _)
              · rw [show (numR y).2 = false from by simpa using h, Bool.false_and]
                exact Ev.ite_neg (by decide) (hr _ _ _)
            rw [if_neg h3]
            refine Ev.ite_neg h3 ?_
            rw [toList_S]
            by_cases h5 : y = [50]
            · subst h5
              exact Ev.ite_pos rfl (hr _ _ _)
            refine Ev.ite_neg h5 ?_
            by_cases h6 : y = [49]
            · simp only [if_pos h6]
              exact hr _ _ _
            · simp only [if_neg h6, if_neg h5]
              exact hr _ _ _
      · have hs : stepG s inp pan amt a n b p m = (false, inp, pan, amt, a, n, b, p, m) := by unfold stepG; rw [if_neg (by omega), if_neg (by omega)]
        dsimp only
        rw [hs]
        by_cases h90 : s.f1 = 90
        · refine Ev.ite_pos ((kindB_iff _).2 (by omega)) ?_
          rw [show ((finR (some s)).2.1 == 90) = true from beq_iff_eq.2 h90]
          exact stop_j1 _ _ _ _ _ _ _ _ _ _ _ _ _
        · exact Ev.ite_neg (fun h => by have := (kindB_iff _).1 h; omega) (stop_j1 _ _ _ _ _ _ _ _ _ _ _ _ _)
theorem refrun_ev (l : List S34) (hl : l.length ≤ 140737488355328) (a : Int) (inp : List ByteArray) (hx : ∀ x ∈ inp, x.size ≤ 1000) : Ev (fun k => guichetref12_Run.f k l a inp) (runG l a inp) := by
  obtain ⟨h0, h1, h2⟩ := mn_take inp
  unfold guichetref12_Run.f
  refine Ev.ite_pos h0 (Ev.ite_pos h1 ?_)
  rw [h2]
  exact ref_l0 l hl 200 (inp.take 100) (S []) 0 a 0 false (S []) 0 (fun x h => hx x (List.mem_of_mem_take h)) (by decide) (by decide)
end Go.Proofs.YtnnoanfiehjleaaDoor.Q
