import Derived.Test.YteigefgobkdmgaaDoorBD3
/- Which messages are right, as the code tells it. -/
namespace Go.B.YteigefgobkdmgaaDoor
open Go Go.B Go.Proofs
set_option maxRecDepth 100000
set_option maxHeartbeats 16000000
set_option linter.unusedSimpArgs false
set_option linter.unusedVariables false
def Msg.n4 (m : Msg) (j : Nat) : N4 := ⟨m.c j, m.c (j + 1), m.c (j + 2), m.c (j + 3)⟩
/-- May a message be? -/
def Msg.right (m : Msg) : Bool :=
  decide (1 ≤ m.c 0 ∧ m.c 0 ≤ 7) && (m.same m.parts && (decide (m.c 2 ≤ 999999 ∧ 0 ≤ m.c 4 ∧ m.c 4 ≤ 1000000) && ((!decide (m.c 0 = 1) || panOk m.pan) && ([m.n4 5, m.n4 9, m.n4 22].all (N4.within 10000) && ([m.n4 13, m.n4 17].all (N4.within 2147483647) && decide (0 ≤ m.c 21 ∧ m.c 21 ≤ 1000000))))))
theorem kindS_nil (k : Int) : (kindS k = S []) ↔ ¬ (1 ≤ k ∧ k ≤ 7) := by
  constructor
  · intro h hk
    have h := S_inj h
    rcases (show k = 1 ∨ k = 2 ∨ k = 3 ∨ k = 4 ∨ k = 5 ∨ k = 6 ∨ k = 7 by omega) with rfl | rfl | rfl | rfl | rfl | rfl | rfl <;> exact absurd h (by decide)
  · intro hk
    simp only [kindS, kindL, if_neg (show ¬ k = 1 by omega), if_neg (show ¬ k = 2 by omega), if_neg (show ¬ k = 3 by omega), if_neg (show ¬ k = 4 by omega), if_neg (show ¬ k = 5 by omega), if_neg (show ¬ k = 6 by omega), if_neg (show ¬ k = 7 by omega)]
theorem isV_cells {m : Msg} : isV (.agg m.cells.toArray) := by rw [isV_agg', vs_cells]; trivial
theorem ndc_Right (m : Msg) (H : Heap) (ok : Ok H) (hp : m.pan.size ≤ maxLen) : ∃ v H', Ca V 11 #[.agg m.cells.toArray] H v H' ∧ v = .bool m.right ∧ Same H H' [] := by
  have okn : ∀ a, H.next ≤ a → H.get a = none := ok
  refine Ca_run rfl tab_11 rfl ?_
  simp (maxSteps := 5000000) (disch := omega) only [Tryd.f11, MX, V_P, SX, W_block, exitW, goInt, Int.reduceEq, setCells, oneOf, cellOk, reduceIte, Nat.reduceLT, Nat.reduceLeDiff, Nat.reduceEqDiff, Nat.reduceAdd, Nat.reduceSub, Nat.reduceMul, Int.reduceToNat, Int.reduceLT, Int.reduceLE, Int.reduceAdd, Int.reduceSub, implies_true, ne_eq, if_true, if_false, reduceCtorEq]
  refine W_drawR [[], [0], [1, 0], [2, 1, 0], [3, 2, 1, 0], [4, 3, 2, 1, 0], [4, 3, 2, 1, 0], [6, 4, 3, 2, 1, 0], [5, 4, 3, 2, 1, 0, 7, 6], [4, 3, 2, 1, 0, 8, 5, 7, 6], [9, 4, 3, 2, 1, 0, 8, 5, 7, 6], [10, 9, 4, 3, 2, 1, 0, 8, 5, 7, 6], [11, 10, 9, 4, 3, 2, 1, 0, 8, 5, 7, 6], [12, 11, 10, 9, 4, 3, 2, 1, 0, 8, 5, 7, 6], [10, 9, 4, 3, 2, 1, 0, 8, 5, 7, 6, 13, 12, 11], [14, 10, 9, 4, 3, 2, 1, 0, 8, 5, 7, 6, 13, 12, 11], [15, 14, 10, 9, 4, 3, 2, 1, 0, 8, 5, 7, 6, 13, 12, 11], [16, 15, 14, 10, 9, 4, 3, 2, 1, 0, 8, 5, 7, 6, 13, 12, 11], [17, 16, 15, 14, 10, 9, 4, 3, 2, 1, 0, 8, 5, 7, 6, 13, 12, 11], [15, 14, 10, 9, 4, 3, 2, 1, 0, 8, 5, 7, 6, 13, 12, 11, 18, 17, 16], [19, 15, 14, 10, 9, 4, 3, 2, 1, 0, 8, 5, 7, 6, 13, 12, 11, 18, 17, 16], [20, 19, 15, 14, 10, 9, 4, 3, 2, 1, 0, 8, 5, 7, 6, 13, 12, 11, 18, 17, 16], [21, 20, 19, 15, 14, 10, 9, 4, 3, 2, 1, 0, 8, 5, 7, 6, 13, 12, 11, 18, 17, 16], [22, 21, 20, 19, 15, 14, 10, 9, 4, 3, 2, 1, 0, 8, 5, 7, 6, 13, 12, 11, 18, 17, 16], [20, 19, 15, 14, 10, 9, 4, 3, 2, 1, 0, 8, 5, 7, 6, 13, 12, 11, 18, 17, 16, 23, 22, 21], [24, 20, 19, 15, 14, 10, 9, 4, 3, 2, 1, 0, 8, 5, 7, 6, 13, 12, 11, 18, 17, 16, 23, 22, 21]] [0, 1, 2, 3, 4, 6, 7, 5, 8, 9, 10, 11, 12, 13, 14, 15, 16, 17, 18, 19, 20, 21, 22, 23, 24, 25] (by decide +kernel) (by repeat (first | exact ok | refine Ok.push ?_ _ | refine Ok.room ?_ _ | (refine Ok.put ?_ _ (by simp (disch := omega) only [Heap.get_pushH, Heap.get_setH, hite_same, hite_ne, hite_eq, Heap.get_room, Heap.next_push, Heap.next_set, Heap.next_room, Option.isSome_some, *])))) ?_
  simp (maxSteps := 5000000) (disch := omega) only [MX, okn, V_P, SX, W_block, exitW, goInt, Int.reduceEq, setCells, oneOf, cellOk, reduceIte, Nat.reduceLT, Nat.reduceLeDiff, Nat.reduceEqDiff, Nat.reduceAdd, Nat.reduceSub, Nat.reduceMul, Int.reduceToNat, Int.reduceLT, Int.reduceLE, Int.reduceAdd, Int.reduceSub, implies_true, ne_eq, if_true, if_false, reduceCtorEq, DX, Nat.reduceBEq]
  refine DOpd_callR (by decide) rfl (by simp (maxSteps := 5000000) (disch := omega) only [MX, okn, V_P, SX, W_block, exitW, goInt, Int.reduceEq, setCells, oneOf, cellOk, reduceIte, Nat.reduceLT, Nat.reduceLeDiff, Nat.reduceEqDiff, Nat.reduceAdd, Nat.reduceSub, Nat.reduceMul, Int.reduceToNat, Int.reduceLT, Int.reduceLE, Int.reduceAdd, Int.reduceSub, implies_true, ne_eq, if_true, if_false, reduceCtorEq, DX, Nat.reduceBEq]) (ndc_kind (m.c 0) _) ?_
  rintro v H1 ⟨rfl, rfl⟩
  refine ⟨isV_string, KeepB.refl, ?_⟩
  simp (maxSteps := 5000000) (disch := omega) only [MX, okn, V_P, SX, W_block, exitW, goInt, Int.reduceEq, setCells, oneOf, cellOk, reduceIte, Nat.reduceLT, Nat.reduceLeDiff, Nat.reduceEqDiff, Nat.reduceAdd, Nat.reduceSub, Nat.reduceMul, Int.reduceToNat, Int.reduceLT, Int.reduceLE, Int.reduceAdd, Int.reduceSub, implies_true, ne_eq, if_true, if_false, reduceCtorEq, DX, Nat.reduceBEq]
  repeat' (first
    | (refine gW_dec (fun h => ?_) (fun h => ?_) <;> simp (maxSteps := 5000000) (disch := omega) only [h, MX, okn, V_P, SX, W_block, exitW, goInt, Int.reduceEq, setCells, oneOf, cellOk, reduceIte, Nat.reduceLT, Nat.reduceLeDiff, Nat.reduceEqDiff, Nat.reduceAdd, Nat.reduceSub, Nat.reduceMul, Int.reduceToNat, Int.reduceLT, Int.reduceLE, Int.reduceAdd, Int.reduceSub, implies_true, ne_eq, if_true, if_false, reduceCtorEq, DX, Nat.reduceBEq])
    | (refine cW_dec (fun h => ?_) (fun h => ?_) <;> simp (maxSteps := 5000000) (disch := omega) only [h, MX, okn, V_P, SX, W_block, exitW, goInt, Int.reduceEq, setCells, oneOf, cellOk, reduceIte, Nat.reduceLT, Nat.reduceLeDiff, Nat.reduceEqDiff, Nat.reduceAdd, Nat.reduceSub, Nat.reduceMul, Int.reduceToNat, Int.reduceLT, Int.reduceLE, Int.reduceAdd, Int.reduceSub, implies_true, ne_eq, if_true, if_false, reduceCtorEq, DX, Nat.reduceBEq])
    | (refine gW_bool (fun h => ?_) (fun h => ?_) <;> simp (maxSteps := 5000000) (disch := omega) only [h, MX, okn, V_P, SX, W_block, exitW, goInt, Int.reduceEq, setCells, oneOf, cellOk, reduceIte, Nat.reduceLT, Nat.reduceLeDiff, Nat.reduceEqDiff, Nat.reduceAdd, Nat.reduceSub, Nat.reduceMul, Int.reduceToNat, Int.reduceLT, Int.reduceLE, Int.reduceAdd, Int.reduceSub, implies_true, ne_eq, if_true, if_false, reduceCtorEq, DX, Nat.reduceBEq])
    | (refine cW_bool (fun h => ?_) (fun h => ?_) <;> simp (maxSteps := 5000000) (disch := omega) only [h, MX, okn, V_P, SX, W_block, exitW, goInt, Int.reduceEq, setCells, oneOf, cellOk, reduceIte, Nat.reduceLT, Nat.reduceLeDiff, Nat.reduceEqDiff, Nat.reduceAdd, Nat.reduceSub, Nat.reduceMul, Int.reduceToNat, Int.reduceLT, Int.reduceLE, Int.reduceAdd, Int.reduceSub, implies_true, ne_eq, if_true, if_false, reduceCtorEq, DX, Nat.reduceBEq])
    | (refine gD_dec (fun h => ?_) (fun h => ?_) <;> simp (maxSteps := 5000000) (disch := omega) only [h, MX, okn, V_P, SX, W_block, exitW, goInt, Int.reduceEq, setCells, oneOf, cellOk, reduceIte, Nat.reduceLT, Nat.reduceLeDiff, Nat.reduceEqDiff, Nat.reduceAdd, Nat.reduceSub, Nat.reduceMul, Int.reduceToNat, Int.reduceLT, Int.reduceLE, Int.reduceAdd, Int.reduceSub, implies_true, ne_eq, if_true, if_false, reduceCtorEq, DX, Nat.reduceBEq]))
  · refine ⟨?_, by repeat (first | exact Same.same ok | refine Same.push ?_ _ | refine Same.room ?_ _ | (refine Same.make ?_ (by (try simp only [Heap.next_push, Heap.next_set, Heap.next_room]); omega) (by (try simp only [Heap.next_push, Heap.next_set, Heap.next_room]); omega)) | (refine Same.put ?_ (by simp (disch := omega) only [Heap.get_pushH, Heap.get_setH, hite_same, hite_ne, hite_eq, Heap.get_room, Heap.next_push, Heap.next_set, Heap.next_room, Option.isSome_some, *]) (fun z => by first | (simp; done) | (exfalso; (try simp only [Heap.next_push, Heap.next_set, Heap.next_room] at z); omega))))⟩
    have hk := (kindS_nil (m.c 0)).mp h
    have : m.right = false := by unfold Msg.right; rw [decide_eq_false hk]; rfl
    rw [this]
  have hk : 1 ≤ m.c 0 ∧ m.c 0 ≤ 7 := Decidable.not_not.mp (fun z => h ((kindS_nil (m.c 0)).mpr z))
  refine DOpd_callR (by decide) rfl (by simp (maxSteps := 5000000) (disch := omega) only [MX, okn, V_P, SX, W_block, exitW, goInt, Int.reduceEq, setCells, oneOf, cellOk, reduceIte, Nat.reduceLT, Nat.reduceLeDiff, Nat.reduceEqDiff, Nat.reduceAdd, Nat.reduceSub, Nat.reduceMul, Int.reduceToNat, Int.reduceLT, Int.reduceLE, Int.reduceAdd, Int.reduceSub, implies_true, ne_eq, if_true, if_false, reduceCtorEq, DX, Nat.reduceBEq]) (ndc_parts m _ (by repeat (first | exact ok | refine Ok.push ?_ _ | refine Ok.room ?_ _ | (refine Ok.put ?_ _ (by simp (disch := omega) only [Heap.get_pushH, Heap.get_setH, hite_same, hite_ne, hite_eq, Heap.get_room, Heap.next_push, Heap.next_set, Heap.next_room, Option.isSome_some, *]))))) ?_
  rintro v H1 ⟨rfl, hs⟩
  refine ⟨isV_cells, hs.keep (by simp only [Heap.next_push, Heap.next_room]; exact Nat.le_refl _), ?_⟩
  have h0 : H1.get H.next = some (mO m) := by
    rw [hs.get H.next (by simp only [Heap.next_push, Heap.next_room]; omega) (by simp)]
    simp only [Heap.get_room, Heap.get_pushH, hite_same]
  have hs0 : Same H H1 [] := (by repeat (first | exact Same.same ok | refine Same.push ?_ _ | refine Same.room ?_ _ | (refine Same.make ?_ (by (try simp only [Heap.next_push, Heap.next_set, Heap.next_room]); omega) (by (try simp only [Heap.next_push, Heap.next_set, Heap.next_room]); omega)) | (refine Same.put ?_ (by simp (disch := omega) only [Heap.get_pushH, Heap.get_setH, hite_same, hite_ne, hite_eq, Heap.get_room, Heap.next_push, Heap.next_set, Heap.next_room, Option.isSome_some, *]) (fun z => by first | (simp; done) | (exfalso; (try simp only [Heap.next_push, Heap.next_set, Heap.next_room] at z); omega)))) : Same H ((H.push (mO m)).room 26) []).trans hs (by simp)
  have hn1 : H.next + 1 ≤ H1.next := by have := hs.le; simp only [Heap.next_push, Heap.next_room] at this; omega
  cases hq : m.same m.parts
  · simp (maxSteps := 5000000) (disch := omega) only [MX, okn, h0, hq, V_P, SX, W_block, exitW, goInt, Int.reduceEq, setCells, oneOf, cellOk, reduceIte, Nat.reduceLT, Nat.reduceLeDiff, Nat.reduceEqDiff, Nat.reduceAdd, Nat.reduceSub, Nat.reduceMul, Int.reduceToNat, Int.reduceLT, Int.reduceLE, Int.reduceAdd, Int.reduceSub, implies_true, ne_eq, if_true, if_false, reduceCtorEq, DX, Nat.reduceBEq]
    refine ⟨?_, hs0⟩
    unfold Msg.right; rw [hq]; simp
  simp (maxSteps := 5000000) (disch := omega) only [MX, okn, h0, hq, V_P, SX, W_block, exitW, goInt, Int.reduceEq, setCells, oneOf, cellOk, reduceIte, Nat.reduceLT, Nat.reduceLeDiff, Nat.reduceEqDiff, Nat.reduceAdd, Nat.reduceSub, Nat.reduceMul, Int.reduceToNat, Int.reduceLT, Int.reduceLE, Int.reduceAdd, Int.reduceSub, implies_true, ne_eq, if_true, if_false, reduceCtorEq, DX, Nat.reduceBEq]
  repeat' (first
    | (refine gW_dec (fun h => ?_) (fun h => ?_) <;> simp (maxSteps := 5000000) (disch := omega) only [h, MX, okn, h0, hq, V_P, SX, W_block, exitW, goInt, Int.reduceEq, setCells, oneOf, cellOk, reduceIte, Nat.reduceLT, Nat.reduceLeDiff, Nat.reduceEqDiff, Nat.reduceAdd, Nat.reduceSub, Nat.reduceMul, Int.reduceToNat, Int.reduceLT, Int.reduceLE, Int.reduceAdd, Int.reduceSub, implies_true, ne_eq, if_true, if_false, reduceCtorEq, DX, Nat.reduceBEq])
    | (refine cW_dec (fun h => ?_) (fun h => ?_) <;> simp (maxSteps := 5000000) (disch := omega) only [h, MX, okn, h0, hq, V_P, SX, W_block, exitW, goInt, Int.reduceEq, setCells, oneOf, cellOk, reduceIte, Nat.reduceLT, Nat.reduceLeDiff, Nat.reduceEqDiff, Nat.reduceAdd, Nat.reduceSub, Nat.reduceMul, Int.reduceToNat, Int.reduceLT, Int.reduceLE, Int.reduceAdd, Int.reduceSub, implies_true, ne_eq, if_true, if_false, reduceCtorEq, DX, Nat.reduceBEq])
    | (refine gW_bool (fun h => ?_) (fun h => ?_) <;> simp (maxSteps := 5000000) (disch := omega) only [h, MX, okn, h0, hq, V_P, SX, W_block, exitW, goInt, Int.reduceEq, setCells, oneOf, cellOk, reduceIte, Nat.reduceLT, Nat.reduceLeDiff, Nat.reduceEqDiff, Nat.reduceAdd, Nat.reduceSub, Nat.reduceMul, Int.reduceToNat, Int.reduceLT, Int.reduceLE, Int.reduceAdd, Int.reduceSub, implies_true, ne_eq, if_true, if_false, reduceCtorEq, DX, Nat.reduceBEq])
    | (refine cW_bool (fun h => ?_) (fun h => ?_) <;> simp (maxSteps := 5000000) (disch := omega) only [h, MX, okn, h0, hq, V_P, SX, W_block, exitW, goInt, Int.reduceEq, setCells, oneOf, cellOk, reduceIte, Nat.reduceLT, Nat.reduceLeDiff, Nat.reduceEqDiff, Nat.reduceAdd, Nat.reduceSub, Nat.reduceMul, Int.reduceToNat, Int.reduceLT, Int.reduceLE, Int.reduceAdd, Int.reduceSub, implies_true, ne_eq, if_true, if_false, reduceCtorEq, DX, Nat.reduceBEq])
    | (refine gD_dec (fun h => ?_) (fun h => ?_) <;> simp (maxSteps := 5000000) (disch := omega) only [h, MX, okn, h0, hq, V_P, SX, W_block, exitW, goInt, Int.reduceEq, setCells, oneOf, cellOk, reduceIte, Nat.reduceLT, Nat.reduceLeDiff, Nat.reduceEqDiff, Nat.reduceAdd, Nat.reduceSub, Nat.reduceMul, Int.reduceToNat, Int.reduceLT, Int.reduceLE, Int.reduceAdd, Int.reduceSub, implies_true, ne_eq, if_true, if_false, reduceCtorEq, DX, Nat.reduceBEq]))
  · refine ⟨?_, hs0⟩
    unfold Msg.right; rw [decide_eq_false (p := m.c 2 ≤ 999999 ∧ _) (by omega)]; simp
  · refine ⟨?_, hs0⟩
    unfold Msg.right; rw [decide_eq_false (p := m.c 2 ≤ 999999 ∧ _) (by omega)]; simp
  · refine ⟨?_, hs0⟩
    unfold Msg.right; rw [decide_eq_false (p := m.c 2 ≤ 999999 ∧ _) (by omega)]; simp
  · refine ⟨?_, hs0⟩
    have : (!decide (m.c 0 = 1) || panOk m.pan) = false := by unfold panOk; simp; omega
    unfold Msg.right; rw [this]; simp
  · refine ⟨?_, hs0⟩
    have : (!decide (m.c 0 = 1) || panOk m.pan) = false := by unfold panOk; simp; omega
    unfold Msg.right; rw [this]; simp
  · refine W_callR rfl (by simp (maxSteps := 5000000) (disch := omega) only [MX, h0, V_P, SX, W_block, exitW, goInt, Int.reduceEq, setCells, oneOf, cellOk, reduceIte, Nat.reduceLT, Nat.reduceLeDiff, Nat.reduceEqDiff, Nat.reduceAdd, Nat.reduceSub, Nat.reduceMul, Int.reduceToNat, Int.reduceLT, Int.reduceLE, Int.reduceAdd, Int.reduceSub, implies_true, ne_eq, if_true, if_false, reduceCtorEq]) (frame_Digits m.pan H1 hp) ?_
    rintro v H2 ⟨rfl, e2⟩
    obtain rfl := e2.symm
    cases hd : digs m.pan
    · simp (maxSteps := 5000000) (disch := omega) only [MX, okn, h0, hq, hd, V_P, SX, W_block, exitW, goInt, Int.reduceEq, setCells, oneOf, cellOk, reduceIte, Nat.reduceLT, Nat.reduceLeDiff, Nat.reduceEqDiff, Nat.reduceAdd, Nat.reduceSub, Nat.reduceMul, Int.reduceToNat, Int.reduceLT, Int.reduceLE, Int.reduceAdd, Int.reduceSub, implies_true, ne_eq, if_true, if_false, reduceCtorEq]
      refine ⟨?_, hs0⟩
      have : (!decide (m.c 0 = 1) || panOk m.pan) = false := by unfold panOk; rw [hd]; simp; omega
      unfold Msg.right; rw [this]; simp
    have hpan : (!decide (m.c 0 = 1) || panOk m.pan) = true := by unfold panOk; rw [hd]; simp; omega
    simp (maxSteps := 5000000) (disch := omega) only [MX, okn, h0, hq, hd, V_P, SX, W_block, exitW, goInt, Int.reduceEq, setCells, oneOf, cellOk, reduceIte, Nat.reduceLT, Nat.reduceLeDiff, Nat.reduceEqDiff, Nat.reduceAdd, Nat.reduceSub, Nat.reduceMul, Int.reduceToNat, Int.reduceLT, Int.reduceLE, Int.reduceAdd, Int.reduceSub, implies_true, ne_eq, if_true, if_false, reduceCtorEq]
    refine W_callR rfl (by simp (maxSteps := 5000000) (disch := omega) only [MX, okn, h0, hq, V_P, SX, W_block, exitW, goInt, Int.reduceEq, setCells, oneOf, cellOk, reduceIte, Nat.reduceLT, Nat.reduceLeDiff, Nat.reduceEqDiff, Nat.reduceAdd, Nat.reduceSub, Nat.reduceMul, Int.reduceToNat, Int.reduceLT, Int.reduceLE, Int.reduceAdd, Int.reduceSub, implies_true, ne_eq, if_true, if_false, reduceCtorEq]) (ndc_within 10000 [m.n4 5, m.n4 9, m.n4 22] _ (by repeat (first | exact hs0.ok | refine Ok.push ?_ _ | refine Ok.room ?_ _ | (refine Ok.put ?_ _ (by simp (disch := omega) only [Heap.get_pushH, Heap.get_setH, hite_same, hite_ne, hite_eq, Heap.get_room, Heap.next_push, Heap.next_set, Heap.next_room, Option.isSome_some, *])))) H1.next 3 false (by simp only [Heap.get_pushH, hite_same]; rfl) (by simp)) ?_
    rintro v H2 ⟨rfl, hs2⟩
    have h2 : H2.get H.next = some (mO m) := by
      rw [hs2.get H.next (by simp only [Heap.next_push]; omega) (by simp), Heap.get_push, if_neg (by omega), h0]
    have hs3 : Same H H2 [] := (hs0.push _).trans hs2 (by simp)
    have hn2 := hs2.le
    simp only [Heap.next_push] at hn2
    cases hw : [m.n4 5, m.n4 9, m.n4 22].all (N4.within 10000)
    · simp (maxSteps := 5000000) (disch := omega) only [MX, okn, h0, hq, h2, hw, V_P, SX, W_block, exitW, goInt, Int.reduceEq, setCells, oneOf, cellOk, reduceIte, Nat.reduceLT, Nat.reduceLeDiff, Nat.reduceEqDiff, Nat.reduceAdd, Nat.reduceSub, Nat.reduceMul, Int.reduceToNat, Int.reduceLT, Int.reduceLE, Int.reduceAdd, Int.reduceSub, implies_true, ne_eq, if_true, if_false, reduceCtorEq]
      refine ⟨?_, hs3⟩
      unfold Msg.right; rw [hw]; simp
    simp (maxSteps := 5000000) (disch := omega) only [MX, okn, h0, hq, h2, hw, V_P, SX, W_block, exitW, goInt, Int.reduceEq, setCells, oneOf, cellOk, reduceIte, Nat.reduceLT, Nat.reduceLeDiff, Nat.reduceEqDiff, Nat.reduceAdd, Nat.reduceSub, Nat.reduceMul, Int.reduceToNat, Int.reduceLT, Int.reduceLE, Int.reduceAdd, Int.reduceSub, implies_true, ne_eq, if_true, if_false, reduceCtorEq]
    refine W_callR rfl (by simp (maxSteps := 5000000) (disch := omega) only [MX, okn, h0, hq, h2, hw, V_P, SX, W_block, exitW, goInt, Int.reduceEq, setCells, oneOf, cellOk, reduceIte, Nat.reduceLT, Nat.reduceLeDiff, Nat.reduceEqDiff, Nat.reduceAdd, Nat.reduceSub, Nat.reduceMul, Int.reduceToNat, Int.reduceLT, Int.reduceLE, Int.reduceAdd, Int.reduceSub, implies_true, ne_eq, if_true, if_false, reduceCtorEq]) (ndc_within 2147483647 [m.n4 13, m.n4 17] _ (by repeat (first | exact hs3.ok | refine Ok.push ?_ _ | refine Ok.room ?_ _ | (refine Ok.put ?_ _ (by simp (disch := omega) only [Heap.get_pushH, Heap.get_setH, hite_same, hite_ne, hite_eq, Heap.get_room, Heap.next_push, Heap.next_set, Heap.next_room, Option.isSome_some, *])))) H2.next 2 false (by simp only [Heap.get_pushH, hite_same]; rfl) (by simp)) ?_
    rintro v H3 ⟨rfl, hs4⟩
    have h3 : H3.get H.next = some (mO m) := by
      rw [hs4.get H.next (by simp only [Heap.next_push]; omega) (by simp), Heap.get_push, if_neg (by omega), h2]
    have hs5 : Same H H3 [] := (hs3.push _).trans hs4 (by simp)
    cases hv : [m.n4 13, m.n4 17].all (N4.within 2147483647)
    · simp (maxSteps := 5000000) (disch := omega) only [MX, okn, h0, hq, h3, hv, V_P, SX, W_block, exitW, goInt, Int.reduceEq, setCells, oneOf, cellOk, reduceIte, Nat.reduceLT, Nat.reduceLeDiff, Nat.reduceEqDiff, Nat.reduceAdd, Nat.reduceSub, Nat.reduceMul, Int.reduceToNat, Int.reduceLT, Int.reduceLE, Int.reduceAdd, Int.reduceSub, implies_true, ne_eq, if_true, if_false, reduceCtorEq]
      refine ⟨?_, hs5⟩
      unfold Msg.right; rw [hv]; simp
    simp (maxSteps := 5000000) (disch := omega) only [MX, okn, h0, hq, h3, hv, V_P, SX, W_block, exitW, goInt, Int.reduceEq, setCells, oneOf, cellOk, reduceIte, Nat.reduceLT, Nat.reduceLeDiff, Nat.reduceEqDiff, Nat.reduceAdd, Nat.reduceSub, Nat.reduceMul, Int.reduceToNat, Int.reduceLT, Int.reduceLE, Int.reduceAdd, Int.reduceSub, implies_true, ne_eq, if_true, if_false, reduceCtorEq]
    repeat' (first
    | (refine gW_dec (fun h => ?_) (fun h => ?_) <;> simp (maxSteps := 5000000) (disch := omega) only [h, MX, okn, h0, hq, h3, hv, V_P, SX, W_block, exitW, goInt, Int.reduceEq, setCells, oneOf, cellOk, reduceIte, Nat.reduceLT, Nat.reduceLeDiff, Nat.reduceEqDiff, Nat.reduceAdd, Nat.reduceSub, Nat.reduceMul, Int.reduceToNat, Int.reduceLT, Int.reduceLE, Int.reduceAdd, Int.reduceSub, implies_true, ne_eq, if_true, if_false, reduceCtorEq])
    | (refine cW_dec (fun h => ?_) (fun h => ?_) <;> simp (maxSteps := 5000000) (disch := omega) only [h, MX, okn, h0, hq, h3, hv, V_P, SX, W_block, exitW, goInt, Int.reduceEq, setCells, oneOf, cellOk, reduceIte, Nat.reduceLT, Nat.reduceLeDiff, Nat.reduceEqDiff, Nat.reduceAdd, Nat.reduceSub, Nat.reduceMul, Int.reduceToNat, Int.reduceLT, Int.reduceLE, Int.reduceAdd, Int.reduceSub, implies_true, ne_eq, if_true, if_false, reduceCtorEq])
    | (refine gW_bool (fun h => ?_) (fun h => ?_) <;> simp (maxSteps := 5000000) (disch := omega) only [h, MX, okn, h0, hq, h3, hv, V_P, SX, W_block, exitW, goInt, Int.reduceEq, setCells, oneOf, cellOk, reduceIte, Nat.reduceLT, Nat.reduceLeDiff, Nat.reduceEqDiff, Nat.reduceAdd, Nat.reduceSub, Nat.reduceMul, Int.reduceToNat, Int.reduceLT, Int.reduceLE, Int.reduceAdd, Int.reduceSub, implies_true, ne_eq, if_true, if_false, reduceCtorEq])
    | (refine cW_bool (fun h => ?_) (fun h => ?_) <;> simp (maxSteps := 5000000) (disch := omega) only [h, MX, okn, h0, hq, h3, hv, V_P, SX, W_block, exitW, goInt, Int.reduceEq, setCells, oneOf, cellOk, reduceIte, Nat.reduceLT, Nat.reduceLeDiff, Nat.reduceEqDiff, Nat.reduceAdd, Nat.reduceSub, Nat.reduceMul, Int.reduceToNat, Int.reduceLT, Int.reduceLE, Int.reduceAdd, Int.reduceSub, implies_true, ne_eq, if_true, if_false, reduceCtorEq]))
    all_goals (refine ⟨?_, hs5⟩; unfold Msg.right; rw [hq, hw, hv, hpan]; congr 1; rw [Bool.eq_iff_iff]; simp; omega)
  · have hpan : (!decide (m.c 0 = 1) || panOk m.pan) = true := by simp; omega

    refine W_callR rfl (by simp (maxSteps := 5000000) (disch := omega) only [MX, okn, h0, hq, V_P, SX, W_block, exitW, goInt, Int.reduceEq, setCells, oneOf, cellOk, reduceIte, Nat.reduceLT, Nat.reduceLeDiff, Nat.reduceEqDiff, Nat.reduceAdd, Nat.reduceSub, Nat.reduceMul, Int.reduceToNat, Int.reduceLT, Int.reduceLE, Int.reduceAdd, Int.reduceSub, implies_true, ne_eq, if_true, if_false, reduceCtorEq]) (ndc_within 10000 [m.n4 5, m.n4 9, m.n4 22] _ (by repeat (first | exact hs0.ok | refine Ok.push ?_ _ | refine Ok.room ?_ _ | (refine Ok.put ?_ _ (by simp (disch := omega) only [Heap.get_pushH, Heap.get_setH, hite_same, hite_ne, hite_eq, Heap.get_room, Heap.next_push, Heap.next_set, Heap.next_room, Option.isSome_some, *])))) H1.next 3 false (by simp only [Heap.get_pushH, hite_same]; rfl) (by simp)) ?_
    rintro v H2 ⟨rfl, hs2⟩
    have h2 : H2.get H.next = some (mO m) := by
      rw [hs2.get H.next (by simp only [Heap.next_push]; omega) (by simp), Heap.get_push, if_neg (by omega), h0]
    have hs3 : Same H H2 [] := (hs0.push _).trans hs2 (by simp)
    have hn2 := hs2.le
    simp only [Heap.next_push] at hn2
    cases hw : [m.n4 5, m.n4 9, m.n4 22].all (N4.within 10000)
    · simp (maxSteps := 5000000) (disch := omega) only [MX, okn, h0, hq, h2, hw, V_P, SX, W_block, exitW, goInt, Int.reduceEq, setCells, oneOf, cellOk, reduceIte, Nat.reduceLT, Nat.reduceLeDiff, Nat.reduceEqDiff, Nat.reduceAdd, Nat.reduceSub, Nat.reduceMul, Int.reduceToNat, Int.reduceLT, Int.reduceLE, Int.reduceAdd, Int.reduceSub, implies_true, ne_eq, if_true, if_false, reduceCtorEq]
      refine ⟨?_, hs3⟩
      unfold Msg.right; rw [hw]; simp
    simp (maxSteps := 5000000) (disch := omega) only [MX, okn, h0, hq, h2, hw, V_P, SX, W_block, exitW, goInt, Int.reduceEq, setCells, oneOf, cellOk, reduceIte, Nat.reduceLT, Nat.reduceLeDiff, Nat.reduceEqDiff, Nat.reduceAdd, Nat.reduceSub, Nat.reduceMul, Int.reduceToNat, Int.reduceLT, Int.reduceLE, Int.reduceAdd, Int.reduceSub, implies_true, ne_eq, if_true, if_false, reduceCtorEq]
    refine W_callR rfl (by simp (maxSteps := 5000000) (disch := omega) only [MX, okn, h0, hq, h2, hw, V_P, SX, W_block, exitW, goInt, Int.reduceEq, setCells, oneOf, cellOk, reduceIte, Nat.reduceLT, Nat.reduceLeDiff, Nat.reduceEqDiff, Nat.reduceAdd, Nat.reduceSub, Nat.reduceMul, Int.reduceToNat, Int.reduceLT, Int.reduceLE, Int.reduceAdd, Int.reduceSub, implies_true, ne_eq, if_true, if_false, reduceCtorEq]) (ndc_within 2147483647 [m.n4 13, m.n4 17] _ (by repeat (first | exact hs3.ok | refine Ok.push ?_ _ | refine Ok.room ?_ _ | (refine Ok.put ?_ _ (by simp (disch := omega) only [Heap.get_pushH, Heap.get_setH, hite_same, hite_ne, hite_eq, Heap.get_room, Heap.next_push, Heap.next_set, Heap.next_room, Option.isSome_some, *])))) H2.next 2 false (by simp only [Heap.get_pushH, hite_same]; rfl) (by simp)) ?_
    rintro v H3 ⟨rfl, hs4⟩
    have h3 : H3.get H.next = some (mO m) := by
      rw [hs4.get H.next (by simp only [Heap.next_push]; omega) (by simp), Heap.get_push, if_neg (by omega), h2]
    have hs5 : Same H H3 [] := (hs3.push _).trans hs4 (by simp)
    cases hv : [m.n4 13, m.n4 17].all (N4.within 2147483647)
    · simp (maxSteps := 5000000) (disch := omega) only [MX, okn, h0, hq, h3, hv, V_P, SX, W_block, exitW, goInt, Int.reduceEq, setCells, oneOf, cellOk, reduceIte, Nat.reduceLT, Nat.reduceLeDiff, Nat.reduceEqDiff, Nat.reduceAdd, Nat.reduceSub, Nat.reduceMul, Int.reduceToNat, Int.reduceLT, Int.reduceLE, Int.reduceAdd, Int.reduceSub, implies_true, ne_eq, if_true, if_false, reduceCtorEq]
      refine ⟨?_, hs5⟩
      unfold Msg.right; rw [hv]; simp
    simp (maxSteps := 5000000) (disch := omega) only [MX, okn, h0, hq, h3, hv, V_P, SX, W_block, exitW, goInt, Int.reduceEq, setCells, oneOf, cellOk, reduceIte, Nat.reduceLT, Nat.reduceLeDiff, Nat.reduceEqDiff, Nat.reduceAdd, Nat.reduceSub, Nat.reduceMul, Int.reduceToNat, Int.reduceLT, Int.reduceLE, Int.reduceAdd, Int.reduceSub, implies_true, ne_eq, if_true, if_false, reduceCtorEq]
    repeat' (first
    | (refine gW_dec (fun h => ?_) (fun h => ?_) <;> simp (maxSteps := 5000000) (disch := omega) only [h, MX, okn, h0, hq, h3, hv, V_P, SX, W_block, exitW, goInt, Int.reduceEq, setCells, oneOf, cellOk, reduceIte, Nat.reduceLT, Nat.reduceLeDiff, Nat.reduceEqDiff, Nat.reduceAdd, Nat.reduceSub, Nat.reduceMul, Int.reduceToNat, Int.reduceLT, Int.reduceLE, Int.reduceAdd, Int.reduceSub, implies_true, ne_eq, if_true, if_false, reduceCtorEq])
    | (refine cW_dec (fun h => ?_) (fun h => ?_) <;> simp (maxSteps := 5000000) (disch := omega) only [h, MX, okn, h0, hq, h3, hv, V_P, SX, W_block, exitW, goInt, Int.reduceEq, setCells, oneOf, cellOk, reduceIte, Nat.reduceLT, Nat.reduceLeDiff, Nat.reduceEqDiff, Nat.reduceAdd, Nat.reduceSub, Nat.reduceMul, Int.reduceToNat, Int.reduceLT, Int.reduceLE, Int.reduceAdd, Int.reduceSub, implies_true, ne_eq, if_true, if_false, reduceCtorEq])
    | (refine gW_bool (fun h => ?_) (fun h => ?_) <;> simp (maxSteps := 5000000) (disch := omega) only [h, MX, okn, h0, hq, h3, hv, V_P, SX, W_block, exitW, goInt, Int.reduceEq, setCells, oneOf, cellOk, reduceIte, Nat.reduceLT, Nat.reduceLeDiff, Nat.reduceEqDiff, Nat.reduceAdd, Nat.reduceSub, Nat.reduceMul, Int.reduceToNat, Int.reduceLT, Int.reduceLE, Int.reduceAdd, Int.reduceSub, implies_true, ne_eq, if_true, if_false, reduceCtorEq])
    | (refine cW_bool (fun h => ?_) (fun h => ?_) <;> simp (maxSteps := 5000000) (disch := omega) only [h, MX, okn, h0, hq, h3, hv, V_P, SX, W_block, exitW, goInt, Int.reduceEq, setCells, oneOf, cellOk, reduceIte, Nat.reduceLT, Nat.reduceLeDiff, Nat.reduceEqDiff, Nat.reduceAdd, Nat.reduceSub, Nat.reduceMul, Int.reduceToNat, Int.reduceLT, Int.reduceLE, Int.reduceAdd, Int.reduceSub, implies_true, ne_eq, if_true, if_false, reduceCtorEq]))
    all_goals (refine ⟨?_, hs5⟩; unfold Msg.right; rw [hq, hw, hv, hpan]; congr 1; rw [Bool.eq_iff_iff]; simp; omega)
end Go.B.YteigefgobkdmgaaDoor
