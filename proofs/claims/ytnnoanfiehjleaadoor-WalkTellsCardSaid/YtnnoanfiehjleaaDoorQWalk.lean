import Derived.Test.YtnnoanfiehjleaaDoorQPack
import Derived.Test.YtnnoanfiehjleaaDoorQRefNum
import Derived.Test.YtnnoanfiehjleaaDoorPAllx3
import Derived.Test.YtnnoanfiehjleaaDoorPAllx6
/- A walk through states: what interp.Run and the reference's Run tell. -/
namespace Go.Proofs.YtnnoanfiehjleaaDoor.Q
open Go.RowKit Go.Proofs.YtnnoanfiehjleaaDoorW.PrintWords Go.Proofs.YtnnoanfiehjleaaDoorW.PrintMore Go.Proofs.YtnnoanfiehjleaaDoor.PAll
set_option linter.unusedVariables false

theorem Ev.succ {α : Type} {g : Nat → Option α} {r : α} (h : Ev (fun k => g (k + 1)) r) : Ev g r := Ev.step (fun _ => rfl) h

/-- The first state of a number. -/
def finG (l : List S34) (i : Int) : Option S34 := l.find? fun s => s.f0 == i
def finR : Option S34 → Int × Int × Int × Int × Bool
  | none => (0, 0, 0, 0, false)
  | some s => (s.f0, s.f1, s.f2, s.f3, true)
theorem rdT_lt {l : List S34} {i : Nat} (h : i < l.length) : rd_T34 l (i : Int) = l[i] := by simp [rd_T34, List.getD_eq_getElem?_getD, List.getElem?_eq_getElem h]
theorem find_l0 (l : List S34) (hl : l.length ≤ 140737488355328) (a : Int) (d : Nat) : ∀ i : Nat, l.length - i = d → i ≤ l.length → Ev (fun k => table_Find.l0 k a l (l.length : Int) (i : Int)) (finR (finG (l.drop i) a)) := by
  induction d with
  | zero =>
    intro i hd hi
    rw [List.drop_eq_nil_of_le (by omega)]
    refine Ev.succ ?_
    simp only [table_Find.l0]
    exact Ev.ite_neg (by omega) (Ev.now _)
  | succ d ih =>
    intro i hd hi
    have hlt : i < l.length := by omega
    rw [List.drop_eq_getElem_cons hlt]
    refine Ev.succ ?_
    simp only [table_Find.l0]
    rw [rdT_lt hlt, wrap_succ hlt hl]
    refine Ev.ite_pos (by omega) (Ev.ite_pos (by omega) (Ev.ite_pos (by omega) ?_))
    unfold finG
    rw [List.find?_cons]
    by_cases h : l[i].f0 = a
    · rw [show (l[i].f0 == a) = true from beq_iff_eq.2 h]
      exact Ev.ite_pos h (Ev.now _)
    · rw [show (l[i].f0 == a) = false from beq_eq_false_iff_ne.2 h]
      exact Ev.ite_neg h (ih (i + 1) (by omega) (by omega))
theorem find_ev (l : List S34) (hl : l.length ≤ 140737488355328) (a : Int) : Ev (fun k => table_Find.f k l a) (finR (finG l a)) := find_l0 l hl a _ 0 rfl (by omega)
theorem rfind_l0 (l : List S34) (hl : l.length ≤ 140737488355328) (a : Int) (d : Nat) : ∀ i : Nat, l.length - i = d → i ≤ l.length → Ev (fun k => guichetref12_Find.l0 k l a (i : Int)) (finR (finG (l.drop i) a)) := by
  induction d with
  | zero =>
    intro i hd hi
    rw [List.drop_eq_nil_of_le (by omega)]
    refine Ev.succ ?_
    simp only [guichetref12_Find.l0]
    exact Ev.ite_neg (by omega) (Ev.now _)
  | succ d ih =>
    intro i hd hi
    have hlt : i < l.length := by omega
    rw [List.drop_eq_getElem_cons hlt]
    refine Ev.succ ?_
    simp only [guichetref12_Find.l0]
    rw [rdT_lt hlt, wrap_succ hlt hl]
    refine Ev.ite_pos (by omega) (Ev.ite_pos (by omega) ?_)
    unfold finG
    rw [List.find?_cons]
    by_cases h : l[i].f0 = a
    · rw [show (l[i].f0 == a) = true from beq_iff_eq.2 h]
      exact Ev.ite_pos h (Ev.now _)
    · rw [show (l[i].f0 == a) = false from beq_eq_false_iff_ne.2 h]
      exact Ev.ite_neg h (ih (i + 1) (by omega) (by omega))
theorem rfind_ev (l : List S34) (hl : l.length ≤ 140737488355328) (a : Int) : Ev (fun k => guichetref12_Find.f k l a) (finR (finG l a)) := rfind_l0 l hl a _ 0 rfl (by omega)

/-- Is a text a card's number? -/
def cardB (x : List UInt8) : Bool := decide (AllDig x) && (decide (1 ≤ x.length) && decide (x.length ≤ 19))
theorem card_ev (x : List UInt8) (hx : x.length ≤ 1000) : Ev (fun k => interp_card.f k (S x)) (cardB x) := by
  obtain ⟨p, hp⟩ := pack_ev x hx
  unfold interp_card.f
  refine Ev.bind hp ?_
  dsimp only
  unfold cardB
  by_cases h : AllDig x
  · rw [decide_eq_true h]
    refine Ev.ite_pos rfl ?_
    by_cases h1 : 1 ≤ x.length
    · rw [decide_eq_true h1]
      refine Ev.ite_pos (by rw [S_size]; omega) ?_
      rw [S_size, show decide ((x.length : Int) ≤ 19) = decide (x.length ≤ 19) from by rw [decide_eq_decide]; omega]
      exact Ev.now _
    · rw [decide_eq_false h1]
      exact Ev.ite_neg (by rw [S_size]; omega) (Ev.now _)
  · rw [decide_eq_false h]
    exact Ev.ite_neg (by simp) (Ev.now _)
theorem refpan_ev (x : List UInt8) (hx : x.length ≤ 1000) : Ev (fun k => guichetref1_Pan.f k (S x)) (cardB x) := by
  unfold guichetref1_Pan.f cardB
  rw [S_size]
  by_cases h1 : 1 ≤ x.length
  · refine Ev.ite_pos (by omega) ?_
    by_cases h2 : x.length ≤ 19
    · refine Ev.ite_pos (by omega) ?_
      rw [decide_eq_true h1, decide_eq_true h2, Bool.and_true, Bool.and_true]
      exact Ev.bind (ref_alldigits x (by omega)) (Ev.now _)
    · rw [decide_eq_false h2, Bool.and_false, Bool.and_false]
      exact Ev.ite_neg (by omega) (Ev.now _)
  · rw [decide_eq_false h1, Bool.false_and, Bool.and_false]
    exact Ev.ite_neg (by omega) (Ev.now _)
def numB (x : List UInt8) (a b : Nat) : Bool := (numR x).2 && (decide (a ≤ x.length) && decide (x.length ≤ b))
theorem number_ev (x : List UInt8) (hx : x.length ≤ 1000) (a b : Nat) : Ev (fun k => interp_number.f k (S x) (a : Int) (b : Int)) ((numR x).1, numB x a b) := by
  unfold interp_number.f numB
  refine Ev.bind (bcd_number x (by omega)) ?_
  rw [S_size]
  by_cases h : (numR x).2 = true
  · refine Ev.ite_pos h ?_
    rw [h]
    by_cases h1 : a ≤ x.length
    · rw [decide_eq_true h1, show decide ((x.length : Int) ≤ (b : Int)) = decide (x.length ≤ b) from by rw [decide_eq_decide]; omega]
      exact Ev.ite_pos (by omega) (Ev.now _)
    · rw [decide_eq_false h1]
      exact Ev.ite_neg (by omega) (Ev.now _)
  · have h' : (numR x).2 = false := by simpa using h
    rw [h']
    exact Ev.ite_neg (by simp) (Ev.now _)

/-- Where an input leads to: the next state, the card, the amount. -/
def takG (s : S34) (pan : ByteArray) (amt : Int) (x : List UInt8) : Int × ByteArray × Int :=
  if s.f1 = 65 then (if cardB x = true then (s.f2, S x, amt) else (s.f0, pan, amt))
  else if s.f1 = 66 then (if numB x 4 4 = true then (s.f2, pan, amt) else (s.f3, pan, amt))
  else if s.f1 = 68 then (if numB x 1 7 = true then (s.f2, pan, (numR x).1) else (s.f3, pan, amt))
  else if x = [49] then (s.f2, pan, amt) else if x = [50] then (s.f3, pan, amt) else (s.f0, pan, amt)
theorem takes_ev (s : S34) (h69 : s.f1 = 65 ∨ s.f1 = 66 ∨ s.f1 = 68 ∨ s.f1 = 69) (inp : List ByteArray) (pan : ByteArray) (amt a n : Int) (b : Bool) (p : ByteArray) (m : Int) (x : List UInt8) (hx : x.length ≤ 1000) :
    Ev (fun k => interp_walk_takes.f k inp pan amt a n b p m s.f0 s.f1 s.f2 s.f3 (S x)) ((takG s pan amt x).1, inp, (takG s pan amt x).2.1, (takG s pan amt x).2.2, a, n, b, p, m) := by
  unfold interp_walk_takes.f takG
  by_cases h1 : s.f1 = 65
  · rw [if_pos h1]
    refine Ev.ite_pos h1 (Ev.bind (card_ev x hx) ?_)
    by_cases h : cardB x = true
    · simp only [if_pos h]
      exact Ev.now _
    · simp only [if_neg h]
      exact Ev.now _
  rw [if_neg h1]
  refine Ev.ite_neg h1 ?_
  by_cases h2 : s.f1 = 66
  · rw [if_pos h2]
    refine Ev.ite_pos h2 (Ev.bind (number_ev x hx 4 4) ?_)
    by_cases h : numB x 4 4 = true
    · simp only [if_pos h]
      exact Ev.now _
    · simp only [if_neg h]
      exact Ev.now _
  rw [if_neg h2]
  refine Ev.ite_neg h2 ?_
  by_cases h3 : s.f1 = 68
  · rw [if_pos h3]
    refine Ev.ite_pos h3 (Ev.bind (number_ev x hx 1 7) ?_)
    by_cases h : numB x 1 7 = true
    · simp only [if_pos h]
      exact Ev.now _
    · simp only [if_neg h]
      exact Ev.now _
  rw [if_neg h3]
  refine Ev.ite_neg h3 (Ev.ite_pos (by omega) ?_)
  rw [toList_S]
  by_cases h : x = [49]
  · simp only [if_pos h]
    exact Ev.now _
  · simp only [if_neg h]
    by_cases h' : x = [50]
    · simp only [if_pos h']
      exact Ev.now _
    · simp only [if_neg h']
      exact Ev.now _

abbrev Sn := Bool × List ByteArray × ByteArray × Int × Int × Int × Bool × ByteArray × Int
/-- One step. -/
def stepG (s : S34) (inp : List ByteArray) (pan : ByteArray) (amt a n : Int) (b : Bool) (p : ByteArray) (m : Int) : Sn :=
  if s.f1 = 73 then (if pan.toList = [] then (true, inp, pan, amt, s.f2, n, b, p, m) else if amt = 0 then (true, inp, pan, amt, s.f2, n, b, p, m) else if b = true then (true, inp, pan, amt, s.f2, n, b, p, m) else (true, inp, pan, amt, s.f2, n, true, pan, amt))
  else if s.f1 = 65 ∨ s.f1 = 66 ∨ s.f1 = 68 ∨ s.f1 = 69 then
    (match inp with
    | [] => (false, inp, pan, amt, a, n, b, p, m)
    | x :: r => (true, r, (takG s pan amt x.data.toList).2.1, (takG s pan amt x.data.toList).2.2, (takG s pan amt x.data.toList).1, n, b, p, m))
  else (false, inp, pan, amt, a, n, b, p, m)
theorem step_ev (s : S34) (inp : List ByteArray) (pan : ByteArray) (amt a n : Int) (b : Bool) (p : ByteArray) (m : Int) (hx : ∀ x ∈ inp, x.size ≤ 1000) :
    Ev (fun k => interp_walk_step.f k inp pan amt a n b p m s.f0 s.f1 s.f2 s.f3) (stepG s inp pan amt a n b p m) := by
  unfold interp_walk_step.f stepG
  by_cases h1 : s.f1 = 73
  · rw [if_pos h1]
    refine Ev.ite_pos h1 ?_
    by_cases h2 : pan.toList = []
    · simp only [if_pos h2]
      exact Ev.now _
    simp only [if_neg h2]
    by_cases h3 : amt = 0
    · simp only [if_pos h3]
      exact Ev.now _
    simp only [if_neg h3]
    by_cases h4 : b = true
    · simp only [if_pos h4]
      exact Ev.now _
    simp only [if_neg h4]
    exact Ev.now _
  rw [if_neg h1]
  refine Ev.ite_neg h1 ?_
  by_cases h2 : s.f1 = 65 ∨ s.f1 = 66 ∨ s.f1 = 68 ∨ s.f1 = 69
  · rw [if_pos h2]
    refine Ev.ite_pos h2 ?_
    cases inp with
    | nil => exact Ev.ite_neg (by simp) (Ev.now _)
    | cons x r =>
      refine Ev.ite_pos (by rw [List.length_cons]; omega) ?_
      have e : rdOf ByteArray.empty (x :: r) 0 = S x.data.toList := rfl
      rw [e]
      refine Ev.bind (takes_ev s h2 (x :: r) pan amt a n b p m x.data.toList (by rw [← size_list]; exact hx x (by simp))) ?_
      exact Ev.ite_pos (by rw [List.length_cons]; omega) (Ev.now _)
  · rw [if_neg h2]
    exact Ev.ite_neg h2 (Ev.now _)

abbrev Rs := Int × Int × Bool × ByteArray × Int
/-- A walk of so many steps at most. -/
def goG (l : List S34) : Nat → List ByteArray → ByteArray → Int → Int → Int → Bool → ByteArray → Int → Rs
  | 0, _, _, _, a, n, b, p, m => (a, n, b, p, m)
  | d + 1, inp, pan, amt, a, n, b, p, m =>
    match finG l a with
    | none => (a, n, b, p, m)
    | some s => if (stepG s inp pan amt a n b p m).1 = true then goG l d (stepG s inp pan amt a n b p m).2.1 (stepG s inp pan amt a n b p m).2.2.1 (stepG s inp pan amt a n b p m).2.2.2.1 (stepG s inp pan amt a n b p m).2.2.2.2.1 (n + 1) (stepG s inp pan amt a n b p m).2.2.2.2.2.2.1 (stepG s inp pan amt a n b p m).2.2.2.2.2.2.2.1 (stepG s inp pan amt a n b p m).2.2.2.2.2.2.2.2
      else (a, n, b, p, m)
theorem stepG_stop {s : S34} {inp : List ByteArray} {pan : ByteArray} {amt a n : Int} {b : Bool} {p : ByteArray} {m : Int} (h : ¬ (stepG s inp pan amt a n b p m).1 = true) : stepG s inp pan amt a n b p m = (false, inp, pan, amt, a, n, b, p, m) := by
  unfold stepG at h ⊢
  repeat' split
  all_goals first | rfl | (exfalso; simp_all; done)
theorem stepG_n (s : S34) (inp : List ByteArray) (pan : ByteArray) (amt a n : Int) (b : Bool) (p : ByteArray) (m : Int) : (stepG s inp pan amt a n b p m).2.2.2.2.2.1 = n := by
  unfold stepG
  repeat' split
  all_goals rfl
theorem stepG_inp (s : S34) (inp : List ByteArray) (pan : ByteArray) (amt a n : Int) (b : Bool) (p : ByteArray) (m : Int) : ∀ x ∈ (stepG s inp pan amt a n b p m).2.1, x ∈ inp := by
  unfold stepG
  repeat' split
  all_goals intro x hx
  all_goals first | exact hx | exact List.mem_cons_of_mem _ hx
theorem run_l0 (l : List S34) (hl : l.length ≤ 140737488355328) : ∀ (d : Nat) (inp : List ByteArray) (pan : ByteArray) (amt a n : Int) (b : Bool) (p : ByteArray) (m : Int), (∀ x ∈ inp, x.size ≤ 1000) → 0 ≤ n → n + d = 200 →
    Ev (fun k => interp_Run.l0 k l inp pan amt a n b p m) (goG l d inp pan amt a n b p m)
  | 0, inp, pan, amt, a, n, b, p, m, hx, h0, hn => by
    refine Ev.succ ?_
    simp only [interp_Run.l0]
    exact Ev.ite_neg (by omega) (Ev.now _)
  | d + 1, inp, pan, amt, a, n, b, p, m, hx, h0, hn => by
    refine Ev.succ ?_
    simp only [interp_Run.l0]
    refine Ev.ite_pos (by omega) (Ev.bind (find_ev l hl a) ?_)
    rw [goG]
    cases hf : finG l a with
    | none => exact Ev.ite_neg (by simp [finR]) (Ev.now _)
    | some s =>
      refine Ev.ite_pos rfl (Ev.bind (step_ev s inp pan amt a n b p m hx) ?_)
      by_cases h : (stepG s inp pan amt a n b p m).1 = true
      · dsimp only
        rw [if_pos h]
        refine Ev.ite_pos h ?_
        rw [stepG_n, show wrap64 (n + 1) = n + 1 from by unfold wrap64; omega]
        exact run_l0 l hl d _ _ _ _ _ _ _ _ (fun x h' => hx x (stepG_inp _ _ _ _ _ _ _ _ _ x h')) (by omega) (by omega)
      · dsimp only
        rw [if_neg h]
        refine Ev.ite_neg h ?_
        rw [stepG_stop h]
        exact Ev.now _
/-- What a walk tells. -/
def runG (l : List S34) (a : Int) (inp : List ByteArray) : Rs := goG l 200 (inp.take 100) (S []) 0 a 0 false (S []) 0
theorem mn_take {α : Type} (l : List α) : 0 ≤ mn (l.length : Int) 100 ∧ mn (l.length : Int) 100 ≤ (l.length : Int) ∧ l.take (mn (l.length : Int) 100).toNat = l.take 100 := by
  unfold mn
  split
  · refine ⟨by omega, by omega, ?_⟩
    rfl
  · refine ⟨by omega, by omega, ?_⟩
    rw [Int.toNat_natCast, List.take_of_length_le (Nat.le_refl _), List.take_of_length_le (by omega)]
theorem run_ev (l : List S34) (hl : l.length ≤ 140737488355328) (a : Int) (inp : List ByteArray) (hx : ∀ x ∈ inp, x.size ≤ 1000) : Ev (fun k => interp_Run.f k l a inp) (runG l a inp) := by
  obtain ⟨h0, h1, h2⟩ := mn_take inp
  unfold interp_Run.f
  refine Ev.ite_pos h0 (Ev.ite_pos h1 ?_)
  rw [h2]
  exact run_l0 l hl 200 (inp.take 100) (S []) 0 a 0 false (S []) 0 (fun x h => hx x (List.mem_of_mem_take h)) (by decide) (by decide)
end Go.Proofs.YtnnoanfiehjleaaDoor.Q
