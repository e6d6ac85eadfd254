import Derived.Test.YtjbhgooakdpabaaDoorBS
/- Configurations: their parts in the abstract heap; digits; cassettes. -/
namespace Go.B.YtjbhgooakdpabaaDoor
open Go Go.B Go.Proofs
set_option maxRecDepth 100000
set_option maxHeartbeats 8000000
set_option linter.unusedSimpArgs false
set_option linter.unusedVariables false
def trueX (a : Array Value) : Option Value := if a.size = 0 then some (.bool true) else none
noncomputable def V : Env := { P := Tryd.prog, T := tab.get, X := fun f => if f = 6 then some (onlyVal trueX) else none }
theorem V_P : V.P = Tryd.prog := rfl

def isDig (b : UInt8) : Bool := decide (48 ≤ b.toNat) && decide (b.toNat ≤ 57)
def digs (s : ByteArray) : Bool := s.data.toList.all isDig
theorem digs_of {s : ByteArray} (h : ∀ j b, j < s.size → s[j]? = some b → isDig b = true) : digs s = true := by
  unfold digs
  rw [List.all_eq_true]
  intro x hx
  obtain ⟨j, hj, rfl⟩ := List.mem_iff_getElem.mp hx
  have hj' : j < s.size := by simpa using hj
  exact h j _ hj' (by rw [getElem?_pos s j hj']; rfl)
theorem digs_not {s : ByteArray} {j : Nat} {b : UInt8} (h : s[j]? = some b) (hb : isDig b = false) : digs s = false := by
  unfold digs
  rw [List.all_eq_false]
  have hj : j < s.size := by
    rcases Nat.lt_or_ge j s.size with h1 | h1
    · exact h1
    · rw [getElem?_neg s j (by omega)] at h; cases h
  rw [getElem?_pos s j hj] at h
  refine ⟨b, ?_, by simp [hb]⟩
  cases h
  exact Array.getElem_mem_toList _

theorem frame_Digits (s : ByteArray) (H : Heap) (hl : s.size ≤ maxLen) : ∃ v H', Ca V 27 #[.string s] H v H' ∧ v = .bool (digs s) ∧ H' = H := by
  have hl : s.size ≤ 9223372036854775807 := hl
  refine Ca_run rfl tab_27 rfl ?_
  simp (maxSteps := 5000000) (disch := omega) only [Tryd.f27, V_P, SX, W_block, exitW, goInt, yieldB, setCells, oneOf, cellOk, reduceIte, Nat.reduceLT, Nat.reduceLeDiff, Nat.reduceEqDiff, Nat.reduceAdd, Nat.reduceSub, Nat.reduceMul, Int.reduceToNat, Int.reduceLT, Int.reduceLE, Int.reduceAdd, Int.reduceSub, implies_true, ne_eq, if_true, if_false, reduceCtorEq]
  refine W_for (fun (i : Nat) t H2 => H2 = H ∧ t.get 0 = some (.string s) ∧ t.get 5 = some (.int .i64 s.size) ∧ t.get 6 = some (.int .i64 i) ∧ i ≤ s.size ∧ (∀ j b, j < i → s[j]? = some b → isDig b = true)) (fun i => s.size - i) 0 ?_ ?_
  · simp (maxSteps := 5000000) (disch := omega) only [V_P, SX, W_block, exitW, goInt, yieldB, setCells, oneOf, cellOk, reduceIte, Nat.reduceLT, Nat.reduceLeDiff, Nat.reduceEqDiff, Nat.reduceAdd, Nat.reduceSub, Nat.reduceMul, Int.reduceToNat, Int.reduceLT, Int.reduceLE, Int.reduceAdd, Int.reduceSub, implies_true, ne_eq, if_true, if_false, reduceCtorEq]
    exact ⟨rfl, Nat.zero_le _, fun j x h => absurd h (by omega)⟩
  rintro i t H2 ⟨rfl, g0, g5, g6, hi, hall⟩
  simp (maxSteps := 5000000) (disch := omega) only [g0, g5, g6, V_P, SX, W_block, exitW, goInt, yieldB, setCells, oneOf, cellOk, reduceIte, Nat.reduceLT, Nat.reduceLeDiff, Nat.reduceEqDiff, Nat.reduceAdd, Nat.reduceSub, Nat.reduceMul, Int.reduceToNat, Int.reduceLT, Int.reduceLE, Int.reduceAdd, Int.reduceSub, implies_true, ne_eq, if_true, if_false, reduceCtorEq]
  refine cW_dec (fun hlt => ?_) (fun hlt => ?_)
  · have hlt' : i < s.size := by omega
    have hb : s[i]? = some s[i] := getElem?_pos s i hlt'
    generalize s[i] = b at hb
    simp (maxSteps := 5000000) (disch := omega) only [g0, g5, g6, hb, V_P, SX, W_block, exitW, goInt, yieldB, setCells, oneOf, cellOk, reduceIte, Nat.reduceLT, Nat.reduceLeDiff, Nat.reduceEqDiff, Nat.reduceAdd, Nat.reduceSub, Nat.reduceMul, Int.reduceToNat, Int.reduceLT, Int.reduceLE, Int.reduceAdd, Int.reduceSub, implies_true, ne_eq, if_true, if_false, reduceCtorEq]
    repeat' (first
    | (refine gW_dec (fun h => ?_) (fun h => ?_) <;> simp (maxSteps := 5000000) (disch := omega) only [h, g0, g5, g6, hb, V_P, SX, W_block, exitW, goInt, yieldB, setCells, oneOf, cellOk, reduceIte, Nat.reduceLT, Nat.reduceLeDiff, Nat.reduceEqDiff, Nat.reduceAdd, Nat.reduceSub, Nat.reduceMul, Int.reduceToNat, Int.reduceLT, Int.reduceLE, Int.reduceAdd, Int.reduceSub, implies_true, ne_eq, if_true, if_false, reduceCtorEq])
    | (refine cW_dec (fun h => ?_) (fun h => ?_) <;> simp (maxSteps := 5000000) (disch := omega) only [h, g0, g5, g6, hb, V_P, SX, W_block, exitW, goInt, yieldB, setCells, oneOf, cellOk, reduceIte, Nat.reduceLT, Nat.reduceLeDiff, Nat.reduceEqDiff, Nat.reduceAdd, Nat.reduceSub, Nat.reduceMul, Int.reduceToNat, Int.reduceLT, Int.reduceLE, Int.reduceAdd, Int.reduceSub, implies_true, ne_eq, if_true, if_false, reduceCtorEq])
    | (refine gW_bool (fun h => ?_) (fun h => ?_) <;> simp (maxSteps := 5000000) (disch := omega) only [h, g0, g5, g6, hb, V_P, SX, W_block, exitW, goInt, yieldB, setCells, oneOf, cellOk, reduceIte, Nat.reduceLT, Nat.reduceLeDiff, Nat.reduceEqDiff, Nat.reduceAdd, Nat.reduceSub, Nat.reduceMul, Int.reduceToNat, Int.reduceLT, Int.reduceLE, Int.reduceAdd, Int.reduceSub, implies_true, ne_eq, if_true, if_false, reduceCtorEq])
    | (refine cW_bool (fun h => ?_) (fun h => ?_) <;> simp (maxSteps := 5000000) (disch := omega) only [h, g0, g5, g6, hb, V_P, SX, W_block, exitW, goInt, yieldB, setCells, oneOf, cellOk, reduceIte, Nat.reduceLT, Nat.reduceLeDiff, Nat.reduceEqDiff, Nat.reduceAdd, Nat.reduceSub, Nat.reduceMul, Int.reduceToNat, Int.reduceLT, Int.reduceLE, Int.reduceAdd, Int.reduceSub, implies_true, ne_eq, if_true, if_false, reduceCtorEq]))
    · rw [digs_not hb (by unfold isDig; simp; omega)]
    · rw [digs_not hb (by unfold isDig; simp; omega)]
    · refine ⟨i + 1, ⟨by simp, by omega, fun j c hj hc => ?_⟩, by omega⟩
      by_cases hji : j = i
      · subst hji; rw [hb] at hc; cases hc; unfold isDig; simp; omega
      · exact hall j c (by omega) hc
  · simp (maxSteps := 5000000) (disch := omega) only [g0, g5, g6, V_P, SX, W_block, exitW, goInt, yieldB, setCells, oneOf, cellOk, reduceIte, Nat.reduceLT, Nat.reduceLeDiff, Nat.reduceEqDiff, Nat.reduceAdd, Nat.reduceSub, Nat.reduceMul, Int.reduceToNat, Int.reduceLT, Int.reduceLE, Int.reduceAdd, Int.reduceSub, implies_true, ne_eq, if_true, if_false, reduceCtorEq]
    rw [digs_of (fun j b hj hb => hall j b (by omega) hb)]

theorem ref_AllDigits (s : ByteArray) (H : Heap) (hl : s.size ≤ maxLen) : ∃ v H', Ca V 23 #[.string s] H v H' ∧ v = .bool (digs s) ∧ H' = H := by
  have hl : s.size ≤ 9223372036854775807 := hl
  refine Ca_run rfl tab_23 rfl ?_
  simp (maxSteps := 5000000) (disch := omega) only [Tryd.f23, V_P, SX, W_block, exitW, goInt, yieldB, setCells, oneOf, cellOk, reduceIte, Nat.reduceLT, Nat.reduceLeDiff, Nat.reduceEqDiff, Nat.reduceAdd, Nat.reduceSub, Nat.reduceMul, Int.reduceToNat, Int.reduceLT, Int.reduceLE, Int.reduceAdd, Int.reduceSub, implies_true, ne_eq, if_true, if_false, reduceCtorEq]
  refine W_for (fun (i : Nat) t H2 => H2 = H ∧ t.get 0 = some (.string s) ∧ t.get 3 = some (.int .i64 i) ∧ i ≤ s.size ∧ (∀ j b, j < i → s[j]? = some b → isDig b = true)) (fun i => s.size - i) 0 ?_ ?_
  · simp (maxSteps := 5000000) (disch := omega) only [V_P, SX, W_block, exitW, goInt, yieldB, setCells, oneOf, cellOk, reduceIte, Nat.reduceLT, Nat.reduceLeDiff, Nat.reduceEqDiff, Nat.reduceAdd, Nat.reduceSub, Nat.reduceMul, Int.reduceToNat, Int.reduceLT, Int.reduceLE, Int.reduceAdd, Int.reduceSub, implies_true, ne_eq, if_true, if_false, reduceCtorEq]
    exact ⟨rfl, Nat.zero_le _, fun j x h => absurd h (by omega)⟩
  rintro i t H2 ⟨rfl, g0, g3, hi, hall⟩
  simp (maxSteps := 5000000) (disch := omega) only [g0, g3, V_P, SX, W_block, exitW, goInt, yieldB, setCells, oneOf, cellOk, reduceIte, Nat.reduceLT, Nat.reduceLeDiff, Nat.reduceEqDiff, Nat.reduceAdd, Nat.reduceSub, Nat.reduceMul, Int.reduceToNat, Int.reduceLT, Int.reduceLE, Int.reduceAdd, Int.reduceSub, implies_true, ne_eq, if_true, if_false, reduceCtorEq]
  refine cW_dec (fun hlt => ?_) (fun hlt => ?_)
  · have hlt' : i < s.size := by omega
    have hb : s[i]? = some s[i] := getElem?_pos s i hlt'
    generalize s[i] = b at hb
    simp (maxSteps := 5000000) (disch := omega) only [g0, g3, hb, V_P, SX, W_block, exitW, goInt, yieldB, setCells, oneOf, cellOk, reduceIte, Nat.reduceLT, Nat.reduceLeDiff, Nat.reduceEqDiff, Nat.reduceAdd, Nat.reduceSub, Nat.reduceMul, Int.reduceToNat, Int.reduceLT, Int.reduceLE, Int.reduceAdd, Int.reduceSub, implies_true, ne_eq, if_true, if_false, reduceCtorEq]
    repeat' (first
    | (refine gW_dec (fun h => ?_) (fun h => ?_) <;> simp (maxSteps := 5000000) (disch := omega) only [h, g0, g3, hb, V_P, SX, W_block, exitW, goInt, yieldB, setCells, oneOf, cellOk, reduceIte, Nat.reduceLT, Nat.reduceLeDiff, Nat.reduceEqDiff, Nat.reduceAdd, Nat.reduceSub, Nat.reduceMul, Int.reduceToNat, Int.reduceLT, Int.reduceLE, Int.reduceAdd, Int.reduceSub, implies_true, ne_eq, if_true, if_false, reduceCtorEq])
    | (refine cW_dec (fun h => ?_) (fun h => ?_) <;> simp (maxSteps := 5000000) (disch := omega) only [h, g0, g3, hb, V_P, SX, W_block, exitW, goInt, yieldB, setCells, oneOf, cellOk, reduceIte, Nat.reduceLT, Nat.reduceLeDiff, Nat.reduceEqDiff, Nat.reduceAdd, Nat.reduceSub, Nat.reduceMul, Int.reduceToNat, Int.reduceLT, Int.reduceLE, Int.reduceAdd, Int.reduceSub, implies_true, ne_eq, if_true, if_false, reduceCtorEq])
    | (refine gW_bool (fun h => ?_) (fun h => ?_) <;> simp (maxSteps := 5000000) (disch := omega) only [h, g0, g3, hb, V_P, SX, W_block, exitW, goInt, yieldB, setCells, oneOf, cellOk, reduceIte, Nat.reduceLT, Nat.reduceLeDiff, Nat.reduceEqDiff, Nat.reduceAdd, Nat.reduceSub, Nat.reduceMul, Int.reduceToNat, Int.reduceLT, Int.reduceLE, Int.reduceAdd, Int.reduceSub, implies_true, ne_eq, if_true, if_false, reduceCtorEq])
    | (refine cW_bool (fun h => ?_) (fun h => ?_) <;> simp (maxSteps := 5000000) (disch := omega) only [h, g0, g3, hb, V_P, SX, W_block, exitW, goInt, yieldB, setCells, oneOf, cellOk, reduceIte, Nat.reduceLT, Nat.reduceLeDiff, Nat.reduceEqDiff, Nat.reduceAdd, Nat.reduceSub, Nat.reduceMul, Int.reduceToNat, Int.reduceLT, Int.reduceLE, Int.reduceAdd, Int.reduceSub, implies_true, ne_eq, if_true, if_false, reduceCtorEq]))
    · rw [digs_not hb (by unfold isDig; simp; omega)]
    · rw [digs_not hb (by unfold isDig; simp; omega)]
    · refine ⟨i + 1, ⟨by simp, by omega, fun j c hj hc => ?_⟩, by omega⟩
      by_cases hji : j = i
      · subst hji; rw [hb] at hc; cases hc; unfold isDig; simp; omega
      · exact hall j c (by omega) hc
  · simp (maxSteps := 5000000) (disch := omega) only [g0, g3, V_P, SX, W_block, exitW, goInt, yieldB, setCells, oneOf, cellOk, reduceIte, Nat.reduceLT, Nat.reduceLeDiff, Nat.reduceEqDiff, Nat.reduceAdd, Nat.reduceSub, Nat.reduceMul, Int.reduceToNat, Int.reduceLT, Int.reduceLE, Int.reduceAdd, Int.reduceSub, implies_true, ne_eq, if_true, if_false, reduceCtorEq]
    rw [digs_of (fun j b hj hb => hall j b (by omega) hb)]

def panOk (s : ByteArray) : Bool := decide (1 ≤ s.size) && (decide (s.size ≤ 19) && digs s)
theorem ref_Pan (s : ByteArray) (H : Heap) (hl : s.size ≤ maxLen) : ∃ v H', Ca V 28 #[.string s] H v H' ∧ v = .bool (panOk s) ∧ H' = H := by
  refine Ca_run rfl tab_28 rfl ?_
  simp (maxSteps := 5000000) (disch := omega) only [Tryd.f28, V_P, SX, W_block, exitW, goInt, yieldB, setCells, oneOf, cellOk, reduceIte, Nat.reduceLT, Nat.reduceLeDiff, Nat.reduceEqDiff, Nat.reduceAdd, Nat.reduceSub, Nat.reduceMul, Int.reduceToNat, Int.reduceLT, Int.reduceLE, Int.reduceAdd, Int.reduceSub, implies_true, ne_eq, if_true, if_false, reduceCtorEq]
  repeat' (first
    | (refine gW_dec (fun h => ?_) (fun h => ?_) <;> simp (maxSteps := 5000000) (disch := omega) only [h, V_P, SX, W_block, exitW, goInt, yieldB, setCells, oneOf, cellOk, reduceIte, Nat.reduceLT, Nat.reduceLeDiff, Nat.reduceEqDiff, Nat.reduceAdd, Nat.reduceSub, Nat.reduceMul, Int.reduceToNat, Int.reduceLT, Int.reduceLE, Int.reduceAdd, Int.reduceSub, implies_true, ne_eq, if_true, if_false, reduceCtorEq])
    | (refine cW_dec (fun h => ?_) (fun h => ?_) <;> simp (maxSteps := 5000000) (disch := omega) only [h, V_P, SX, W_block, exitW, goInt, yieldB, setCells, oneOf, cellOk, reduceIte, Nat.reduceLT, Nat.reduceLeDiff, Nat.reduceEqDiff, Nat.reduceAdd, Nat.reduceSub, Nat.reduceMul, Int.reduceToNat, Int.reduceLT, Int.reduceLE, Int.reduceAdd, Int.reduceSub, implies_true, ne_eq, if_true, if_false, reduceCtorEq])
    | (refine gW_bool (fun h => ?_) (fun h => ?_) <;> simp (maxSteps := 5000000) (disch := omega) only [h, V_P, SX, W_block, exitW, goInt, yieldB, setCells, oneOf, cellOk, reduceIte, Nat.reduceLT, Nat.reduceLeDiff, Nat.reduceEqDiff, Nat.reduceAdd, Nat.reduceSub, Nat.reduceMul, Int.reduceToNat, Int.reduceLT, Int.reduceLE, Int.reduceAdd, Int.reduceSub, implies_true, ne_eq, if_true, if_false, reduceCtorEq])
    | (refine cW_bool (fun h => ?_) (fun h => ?_) <;> simp (maxSteps := 5000000) (disch := omega) only [h, V_P, SX, W_block, exitW, goInt, yieldB, setCells, oneOf, cellOk, reduceIte, Nat.reduceLT, Nat.reduceLeDiff, Nat.reduceEqDiff, Nat.reduceAdd, Nat.reduceSub, Nat.reduceMul, Int.reduceToNat, Int.reduceLT, Int.reduceLE, Int.reduceAdd, Int.reduceSub, implies_true, ne_eq, if_true, if_false, reduceCtorEq]))
  · refine W_callR rfl (by simp (maxSteps := 5000000) (disch := omega) only [V_P, SX, W_block, exitW, goInt, yieldB, setCells, oneOf, cellOk, reduceIte, Nat.reduceLT, Nat.reduceLeDiff, Nat.reduceEqDiff, Nat.reduceAdd, Nat.reduceSub, Nat.reduceMul, Int.reduceToNat, Int.reduceLT, Int.reduceLE, Int.reduceAdd, Int.reduceSub, implies_true, ne_eq, if_true, if_false, reduceCtorEq]) (ref_AllDigits s H hl) ?_
    rintro v H' ⟨rfl, rfl⟩
    simp (maxSteps := 5000000) (disch := omega) only [V_P, SX, W_block, exitW, goInt, yieldB, setCells, oneOf, cellOk, reduceIte, Nat.reduceLT, Nat.reduceLeDiff, Nat.reduceEqDiff, Nat.reduceAdd, Nat.reduceSub, Nat.reduceMul, Int.reduceToNat, Int.reduceLT, Int.reduceLE, Int.reduceAdd, Int.reduceSub, implies_true, ne_eq, if_true, if_false, reduceCtorEq]
    have h1 : 1 ≤ s.size := by omega
    have h2 : s.size ≤ 19 := by omega
    simp [panOk, h1, h2]
  · simp [panOk]; omega
  · simp [panOk]; omega

structure Cass where
  denom : Int
  loaded : Int
  given : Int
  rejected : Int
def Cass.cells (x : Cass) : List Value := [.int .i64 x.denom, .int .i64 x.loaded, .int .i64 x.given, .int .i64 x.rejected]
def cs16 (l : List Cass) : List Value := l.flatMap Cass.cells
def Cass.ok (x : Cass) : Bool := decide (1 ≤ x.denom ∧ x.denom ≤ 100000 ∧ 0 ≤ x.loaded ∧ x.loaded ≤ 10000 ∧ x.given = 0 ∧ x.rejected = 0)
theorem cs16_length {l : List Cass} (h : l.length = 4) : (cs16 l).length = 16 := by unfold cs16; rw [flat_length Cass.cells 4 (fun _ => rfl), h]
theorem cs16_take {l : List Cass} (h : l.length = 4) : (cs16 l).take 16 = cs16 l := by rw [List.take_of_length_le (by rw [cs16_length h]; exact Nat.le_refl _)]
theorem cs16_get {l : List Cass} {i : Nat} {x : Cass} (h : l[i]? = some x) : ((cs16 l).drop (i * 4)).take 4 = [.int .i64 x.denom, .int .i64 x.loaded, .int .i64 x.given, .int .i64 x.rejected] := flat_get Cass.cells 4 (fun _ => rfl) l i x h

theorem money_cassettes (l : List Cass) (h4 : l.length = 4) (H : Heap) (ok : Ok H) : ∃ v H', Ca V 26 #[.agg (cs16 l).toArray] H v H' ∧ v = .bool (l.all Cass.ok) ∧ Same H H' [] := by
  have hL := cs16_length h4
  have hT := cs16_take h4
  refine Ca_run rfl tab_26 rfl ?_
  simp (maxSteps := 5000000) (disch := omega) only [Tryd.f26, hL, hT, V_P, SX, W_block, exitW, goInt, yieldB, setCells, oneOf, cellOk, reduceIte, Nat.reduceLT, Nat.reduceLeDiff, Nat.reduceEqDiff, Nat.reduceAdd, Nat.reduceSub, Nat.reduceMul, Int.reduceToNat, Int.reduceLT, Int.reduceLE, Int.reduceAdd, Int.reduceSub, implies_true, ne_eq, if_true, if_false, reduceCtorEq]
  refine W_for (fun (i : Nat) t H2 => t.get 5 = some (.agg (cs16 l).toArray) ∧ t.get 6 = some (.int .i64 i) ∧ i ≤ 4 ∧ (∀ j x, j < i → l[j]? = some x → Cass.ok x = true) ∧ Same H H2 []) (fun i => 4 - i) 0 ?_ ?_
  · simp (maxSteps := 5000000) (disch := omega) only [hL, hT, V_P, SX, W_block, exitW, goInt, yieldB, setCells, oneOf, cellOk, reduceIte, Nat.reduceLT, Nat.reduceLeDiff, Nat.reduceEqDiff, Nat.reduceAdd, Nat.reduceSub, Nat.reduceMul, Int.reduceToNat, Int.reduceLT, Int.reduceLE, Int.reduceAdd, Int.reduceSub, implies_true, ne_eq, if_true, if_false, reduceCtorEq]
    refine ⟨rfl, fun j x h => absurd h (by omega), ?_⟩
    repeat (first | exact Same.same ok | refine Same.push ?_ _ | refine Same.room ?_ _ | (refine Same.make ?_ (by (try simp only [Heap.next_push, Heap.next_set, Heap.next_room]); omega) (by (try simp only [Heap.next_push, Heap.next_set, Heap.next_room]); omega)) | (refine Same.put ?_ (by simp (disch := omega) only [Heap.get_pushH, Heap.get_setH, hite_same, hite_ne, hite_eq, Heap.get_room, Heap.next_push, Heap.next_set, Heap.next_room, Option.isSome_some, *]) (fun z => by first | (simp; done) | (exfalso; (try simp only [Heap.next_push, Heap.next_set, Heap.next_room] at z); omega))))
  rintro i t H2 ⟨g5, g6, hi, hall, hs⟩
  simp (maxSteps := 5000000) (disch := omega) only [g5, g6, V_P, SX, W_block, exitW, goInt, yieldB, setCells, oneOf, cellOk, reduceIte, Nat.reduceLT, Nat.reduceLeDiff, Nat.reduceEqDiff, Nat.reduceAdd, Nat.reduceSub, Nat.reduceMul, Int.reduceToNat, Int.reduceLT, Int.reduceLE, Int.reduceAdd, Int.reduceSub, implies_true, ne_eq, if_true, if_false, reduceCtorEq]
  refine cW_dec (fun hlt => ?_) (fun hlt => ?_)
  · have hlt' : i < l.length := by omega
    obtain ⟨x, hx⟩ : ∃ x, l[i]? = some x := ⟨l[i], List.getElem?_eq_getElem hlt'⟩
    have hg := cs16_get hx
    have bad : Cass.ok x = false → l.all Cass.ok = false := fun h => by
      rw [List.all_eq_false]; exact ⟨x, List.mem_of_getElem? hx, by simp [h]⟩
    have hle := hs.le
    simp (maxSteps := 5000000) (disch := omega) only [g5, g6, hL, hg, V_P, SX, W_block, exitW, goInt, yieldB, setCells, oneOf, cellOk, reduceIte, Nat.reduceLT, Nat.reduceLeDiff, Nat.reduceEqDiff, Nat.reduceAdd, Nat.reduceSub, Nat.reduceMul, Int.reduceToNat, Int.reduceLT, Int.reduceLE, Int.reduceAdd, Int.reduceSub, implies_true, ne_eq, if_true, if_false, reduceCtorEq]
    repeat' (first
    | (refine gW_dec (fun h => ?_) (fun h => ?_) <;> simp (maxSteps := 5000000) (disch := omega) only [h, g5, g6, hL, hg, V_P, SX, W_block, exitW, goInt, yieldB, setCells, oneOf, cellOk, reduceIte, Nat.reduceLT, Nat.reduceLeDiff, Nat.reduceEqDiff, Nat.reduceAdd, Nat.reduceSub, Nat.reduceMul, Int.reduceToNat, Int.reduceLT, Int.reduceLE, Int.reduceAdd, Int.reduceSub, implies_true, ne_eq, if_true, if_false, reduceCtorEq])
    | (refine cW_dec (fun h => ?_) (fun h => ?_) <;> simp (maxSteps := 5000000) (disch := omega) only [h, g5, g6, hL, hg, V_P, SX, W_block, exitW, goInt, yieldB, setCells, oneOf, cellOk, reduceIte, Nat.reduceLT, Nat.reduceLeDiff, Nat.reduceEqDiff, Nat.reduceAdd, Nat.reduceSub, Nat.reduceMul, Int.reduceToNat, Int.reduceLT, Int.reduceLE, Int.reduceAdd, Int.reduceSub, implies_true, ne_eq, if_true, if_false, reduceCtorEq])
    | (refine gW_bool (fun h => ?_) (fun h => ?_) <;> simp (maxSteps := 5000000) (disch := omega) only [h, g5, g6, hL, hg, V_P, SX, W_block, exitW, goInt, yieldB, setCells, oneOf, cellOk, reduceIte, Nat.reduceLT, Nat.reduceLeDiff, Nat.reduceEqDiff, Nat.reduceAdd, Nat.reduceSub, Nat.reduceMul, Int.reduceToNat, Int.reduceLT, Int.reduceLE, Int.reduceAdd, Int.reduceSub, implies_true, ne_eq, if_true, if_false, reduceCtorEq])
    | (refine cW_bool (fun h => ?_) (fun h => ?_) <;> simp (maxSteps := 5000000) (disch := omega) only [h, g5, g6, hL, hg, V_P, SX, W_block, exitW, goInt, yieldB, setCells, oneOf, cellOk, reduceIte, Nat.reduceLT, Nat.reduceLeDiff, Nat.reduceEqDiff, Nat.reduceAdd, Nat.reduceSub, Nat.reduceMul, Int.reduceToNat, Int.reduceLT, Int.reduceLE, Int.reduceAdd, Int.reduceSub, implies_true, ne_eq, if_true, if_false, reduceCtorEq]))
    all_goals first
      | (refine ⟨by rw [bad]; unfold Cass.ok; simp; omega, ?_⟩; repeat (first | exact hs | refine Same.push ?_ _ | refine Same.room ?_ _ | (refine Same.make ?_ (by (try simp only [Heap.next_push, Heap.next_set, Heap.next_room]); omega) (by (try simp only [Heap.next_push, Heap.next_set, Heap.next_room]); omega)) | (refine Same.put ?_ (by simp (disch := omega) only [Heap.get_pushH, Heap.get_setH, hite_same, hite_ne, hite_eq, Heap.get_room, Heap.next_push, Heap.next_set, Heap.next_room, Option.isSome_some, *]) (fun z => by first | (simp; done) | (exfalso; (try simp only [Heap.next_push, Heap.next_set, Heap.next_room] at z); omega)))))
      | (refine ⟨i + 1, ⟨by simp, by omega, fun j y hj hy => ?_, ?_⟩, by omega⟩
         · by_cases hji : j = i
           · subst hji; rw [hx] at hy; cases hy; unfold Cass.ok; simp; omega
           · exact hall j y (by omega) hy
         · repeat (first | exact hs | refine Same.push ?_ _ | refine Same.room ?_ _ | (refine Same.make ?_ (by (try simp only [Heap.next_push, Heap.next_set, Heap.next_room]); omega) (by (try simp only [Heap.next_push, Heap.next_set, Heap.next_room]); omega)) | (refine Same.put ?_ (by simp (disch := omega) only [Heap.get_pushH, Heap.get_setH, hite_same, hite_ne, hite_eq, Heap.get_room, Heap.next_push, Heap.next_set, Heap.next_room, Option.isSome_some, *]) (fun z => by first | (simp; done) | (exfalso; (try simp only [Heap.next_push, Heap.next_set, Heap.next_room] at z); omega)))))
  · simp (maxSteps := 5000000) (disch := omega) only [g5, g6, V_P, SX, W_block, exitW, goInt, yieldB, setCells, oneOf, cellOk, reduceIte, Nat.reduceLT, Nat.reduceLeDiff, Nat.reduceEqDiff, Nat.reduceAdd, Nat.reduceSub, Nat.reduceMul, Int.reduceToNat, Int.reduceLT, Int.reduceLE, Int.reduceAdd, Int.reduceSub, implies_true, ne_eq, if_true, if_false, reduceCtorEq]
    refine ⟨?_, hs⟩
    congr 1
    symm
    rw [List.all_eq_true]
    intro x hx
    obtain ⟨j, hj, rfl⟩ := List.mem_iff_getElem.mp hx
    exact hall j _ (by omega) (List.getElem?_eq_getElem hj)
end Go.B.YtjbhgooakdpabaaDoor
