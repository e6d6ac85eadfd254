import Derived.Test.YteigefgobkdmgaaDoorBD5
/- The document's Right answers as the code's. -/
namespace Go.B.YteigefgobkdmgaaDoor
open Go Go.B Go.Proofs
set_option maxRecDepth 100000
set_option maxHeartbeats 16000000
set_option linter.unusedSimpArgs false
set_option linter.unusedVariables false
def N4.isZ (n : N4) : Bool := (n.a == 0) && ((n.b == 0) && ((n.c == 0) && (n.d == 0)))
def grpOk (m : Msg) (i : Nat) : Bool := N4.within (mostG i) (m.n4 (grp i)) && (keep (m.c 0) (grp i) || (m.n4 (grp i)).isZ)
def Msg.right2 (m : Msg) : Bool :=
  decide (1 ≤ m.c 0 ∧ m.c 0 ≤ 7) && (decide (m.c 2 ≤ 999999 ∧ 0 ≤ m.c 4 ∧ m.c 4 ≤ 1000000 ∧ 0 ≤ m.c 21 ∧ m.c 21 ≤ 1000000) &&
    ((keep (m.c 0) 2 || decide (m.c 2 = 0)) && ((keep (m.c 0) 4 || decide (m.c 4 = 0)) && ((keep (m.c 0) 21 || decide (m.c 21 = 0)) && ((if m.c 0 = 1 then panOk m.pan else decide (m.pan = S [])) && (List.range 5).all (grpOk m))))))
theorem keep_grp (k : Int) {g j : Nat} (h : (g = 5 ∨ g = 9 ∨ g = 13 ∨ g = 17 ∨ g = 22) ∧ g ≤ j ∧ j < g + 4) : keep k j = keep k g := by
  obtain ⟨hg, h1, h2⟩ := h
  rcases hg with rfl | rfl | rfl | rfl | rfl
  · rcases (show j = 5 ∨ j = 6 ∨ j = 7 ∨ j = 8 by omega) with rfl | rfl | rfl | rfl <;> simp [keep]
  · rcases (show j = 9 ∨ j = 10 ∨ j = 11 ∨ j = 12 by omega) with rfl | rfl | rfl | rfl <;> simp [keep]
  · rcases (show j = 13 ∨ j = 14 ∨ j = 15 ∨ j = 16 by omega) with rfl | rfl | rfl | rfl <;> simp [keep]
  · rcases (show j = 17 ∨ j = 18 ∨ j = 19 ∨ j = 20 by omega) with rfl | rfl | rfl | rfl <;> simp [keep]
  · rcases (show j = 22 ∨ j = 23 ∨ j = 24 ∨ j = 25 by omega) with rfl | rfl | rfl | rfl <;> simp [keep]
theorem same_parts (m : Msg) : m.same m.parts = true ↔ (m.c 0 = 1 ∨ m.pan = S []) ∧ ∀ j, j < 26 → j ≠ 3 → (keep (m.c 0) j = true ∨ m.c j = 0) := by
  rw [same_iff]
  refine and_congr ?_ (forall_congr' fun j => forall_congr' fun h1 => forall_congr' fun h2 => ?_)
  · show m.pan = (if m.c 0 = 1 then m.pan else S []) ↔ _
    by_cases h : m.c 0 = 1 <;> simp [h]
  · show m.c j = (if keep (m.c 0) j = true then m.c j else 0) ↔ _
    by_cases h : keep (m.c 0) j = true <;> simp [h]
theorem isZ_iff {n : N4} : n.isZ = true ↔ n.a = 0 ∧ n.b = 0 ∧ n.c = 0 ∧ n.d = 0 := by unfold N4.isZ; simp
theorem right_iff (m : Msg) : m.right = true ↔ (1 ≤ m.c 0 ∧ m.c 0 ≤ 7) ∧ (m.c 2 ≤ 999999 ∧ 0 ≤ m.c 4 ∧ m.c 4 ≤ 1000000 ∧ 0 ≤ m.c 21 ∧ m.c 21 ≤ 1000000) ∧
    (∀ j, j < 26 → j ≠ 3 → (keep (m.c 0) j = true ∨ m.c j = 0)) ∧ (m.c 0 = 1 ∧ panOk m.pan = true ∨ m.c 0 ≠ 1 ∧ m.pan = S []) ∧ (∀ i, i < 5 → N4.within (mostG i) (m.n4 (grp i)) = true) := by
  unfold Msg.right
  rw [Bool.and_eq_true, Bool.and_eq_true, Bool.and_eq_true, Bool.and_eq_true, Bool.and_eq_true, Bool.and_eq_true, same_parts]
  simp only [decide_eq_true_eq, List.all_cons, List.all_nil, Bool.and_true, Bool.and_eq_true, Bool.or_eq_true, Bool.not_eq_true', decide_eq_false_iff_not]
  constructor
  · rintro ⟨h1, ⟨h2, h3⟩, h4, h5, ⟨a, b, e⟩, ⟨c, d⟩, h6⟩
    refine ⟨h1, ⟨h4.1, h4.2.1, h4.2.2, h6.1, h6.2⟩, h3, ?_, fun i hi => ?_⟩
    · by_cases hk : m.c 0 = 1
      · exact .inl ⟨hk, h5.resolve_left (fun z => z hk)⟩
      · exact .inr ⟨hk, h2.resolve_left hk⟩
    · rcases (show i = 0 ∨ i = 1 ∨ i = 2 ∨ i = 3 ∨ i = 4 by omega) with rfl | rfl | rfl | rfl | rfl <;> assumption
  · rintro ⟨h1, h2, h3, h4, h5⟩
    refine ⟨h1, ⟨?_, h3⟩, ⟨h2.1, h2.2.1, h2.2.2.1⟩, ?_, ⟨h5 0 (by decide), h5 1 (by decide), h5 4 (by decide)⟩, ⟨h5 2 (by decide), h5 3 (by decide)⟩, h2.2.2.2⟩
    · rcases h4 with ⟨a, b⟩ | ⟨a, b⟩
      · exact .inl a
      · exact .inr b
    · rcases h4 with ⟨a, b⟩ | ⟨a, b⟩
      · exact .inr b
      · exact .inl a
theorem right_eq (m : Msg) : m.right = m.right2 := by
  rw [Bool.eq_iff_iff, right_iff]
  unfold Msg.right2
  simp only [Bool.and_eq_true, decide_eq_true_eq, Bool.or_eq_true, List.all_eq_true, List.mem_range, grpOk]
  constructor
  · rintro ⟨h1, h2, h3, h4, h5⟩
    refine ⟨h1, h2, h3 2 (by decide) (by decide), h3 4 (by decide) (by decide), h3 21 (by decide) (by decide), ?_, fun i hi => ⟨h5 i hi, ?_⟩⟩
    · rcases h4 with ⟨a, b⟩ | ⟨a, b⟩
      · rw [if_pos a]; exact b
      · rw [if_neg a]; simpa using b
    · have hg : (grp i = 5 ∨ grp i = 9 ∨ grp i = 13 ∨ grp i = 17 ∨ grp i = 22) := by
        rcases (show i = 0 ∨ i = 1 ∨ i = 2 ∨ i = 3 ∨ i = 4 by omega) with rfl | rfl | rfl | rfl | rfl <;> decide
      have e0 := h3 (grp i) (by omega) (by omega)
      have e1 := h3 (grp i + 1) (by omega) (by omega)
      have e2 := h3 (grp i + 2) (by omega) (by omega)
      have e3 := h3 (grp i + 3) (by omega) (by omega)
      rw [keep_grp _ ⟨hg, by omega, by omega⟩] at e1 e2 e3
      cases hk : keep (m.c 0) (grp i)
      · rw [hk] at e0 e1 e2 e3
        refine .inr (isZ_iff.mpr ⟨?_, ?_, ?_, ?_⟩)
        · exact e0.resolve_left (by simp)
        · exact e1.resolve_left (by simp)
        · exact e2.resolve_left (by simp)
        · exact e3.resolve_left (by simp)
      · exact .inl rfl
  · rintro ⟨h1, h2, h3, h4, h5, h6, h7⟩
    refine ⟨h1, h2, fun j hj h3' => ?_, ?_, fun i hi => (h7 i hi).1⟩
    · have hcase : j = 0 ∨ j = 1 ∨ j = 2 ∨ j = 4 ∨ j = 21 ∨ ∃ i, i < 5 ∧ grp i ≤ j ∧ j < grp i + 4 := by
        by_cases a : 5 ≤ j ∧ j < 9
        · exact .inr (.inr (.inr (.inr (.inr ⟨0, by decide, a⟩))))
        by_cases b : 9 ≤ j ∧ j < 13
        · exact .inr (.inr (.inr (.inr (.inr ⟨1, by decide, b⟩))))
        by_cases c : 13 ≤ j ∧ j < 17
        · exact .inr (.inr (.inr (.inr (.inr ⟨2, by decide, c⟩))))
        by_cases d : 17 ≤ j ∧ j < 21
        · exact .inr (.inr (.inr (.inr (.inr ⟨3, by decide, d⟩))))
        by_cases e : 22 ≤ j ∧ j < 26
        · exact .inr (.inr (.inr (.inr (.inr ⟨4, by decide, e⟩))))
        omega
      rcases hcase with rfl | rfl | rfl | rfl | rfl | ⟨i, hi, ha, hb⟩
      · exact .inl rfl
      · exact .inl rfl
      · exact h3
      · exact h4
      · exact h5
      · have hg : (grp i = 5 ∨ grp i = 9 ∨ grp i = 13 ∨ grp i = 17 ∨ grp i = 22) := by
          rcases (show i = 0 ∨ i = 1 ∨ i = 2 ∨ i = 3 ∨ i = 4 by omega) with rfl | rfl | rfl | rfl | rfl <;> decide
        rw [keep_grp _ ⟨hg, ha, hb⟩]
        rcases (h7 i hi).2 with hk | hz
        · exact .inl hk
        · obtain ⟨z0, z1, z2, z3⟩ := isZ_iff.mp hz
          right
          rcases (show j = grp i ∨ j = grp i + 1 ∨ j = grp i + 2 ∨ j = grp i + 3 by omega) with rfl | rfl | rfl | rfl <;> assumption
    · by_cases hk : m.c 0 = 1
      · rw [if_pos hk] at h6; exact .inl ⟨hk, h6⟩
      · rw [if_neg hk] at h6; exact .inr ⟨hk, by simpa using h6⟩

theorem ref_Right (m : Msg) (H : Heap) (ok : Ok H) (hp : m.pan.size ≤ maxLen) : ∃ v H', Ca V 12 #[.agg m.cells.toArray] H v H' ∧ v = .bool m.right ∧ Same H H' [] := by
  have okn : ∀ a, H.next ≤ a → H.get a = none := ok
  refine Ca_run rfl tab_12 rfl ?_
  rw [right_eq]
  simp (maxSteps := 5000000) (disch := omega) only [Tryd.f12, MX, V_P, SX, W_block, exitW, goInt, Int.reduceEq, setCells, oneOf, cellOk, reduceIte, Nat.reduceLT, Nat.reduceLeDiff, Nat.reduceEqDiff, Nat.reduceAdd, Nat.reduceSub, Nat.reduceMul, Int.reduceToNat, Int.reduceLT, Int.reduceLE, Int.reduceAdd, Int.reduceSub, implies_true, ne_eq, if_true, if_false, reduceCtorEq]
  refine W_callR rfl (by simp (maxSteps := 5000000) (disch := omega) only [MX, V_P, SX, W_block, exitW, goInt, Int.reduceEq, setCells, oneOf, cellOk, reduceIte, Nat.reduceLT, Nat.reduceLeDiff, Nat.reduceEqDiff, Nat.reduceAdd, Nat.reduceSub, Nat.reduceMul, Int.reduceToNat, Int.reduceLT, Int.reduceLE, Int.reduceAdd, Int.reduceSub, implies_true, ne_eq, if_true, if_false, reduceCtorEq]) (ref_parts (m.c 0) _) ?_
  rintro v H1 ⟨rfl, rfl⟩
  by_cases hk : 1 ≤ m.c 0 ∧ m.c 0 ≤ 7
  rotate_left
  · rw [decide_eq_false hk]
    simp (maxSteps := 5000000) (disch := omega) only [MX, V_P, SX, W_block, exitW, goInt, Int.reduceEq, setCells, oneOf, cellOk, reduceIte, Nat.reduceLT, Nat.reduceLeDiff, Nat.reduceEqDiff, Nat.reduceAdd, Nat.reduceSub, Nat.reduceMul, Int.reduceToNat, Int.reduceLT, Int.reduceLE, Int.reduceAdd, Int.reduceSub, implies_true, ne_eq, if_true, if_false, reduceCtorEq]
    refine ⟨?_, by repeat (first | exact Same.same ok | refine Same.push ?_ _ | refine Same.room ?_ _ | (refine Same.make ?_ (by (try simp only [Heap.next_push, Heap.next_set, Heap.next_room]); omega) (by (try simp only [Heap.next_push, Heap.next_set, Heap.next_room]); omega)) | (refine Same.put ?_ (by simp (disch := omega) only [Heap.get_pushH, Heap.get_setH, hite_same, hite_ne, hite_eq, Heap.get_room, Heap.next_push, Heap.next_set, Heap.next_room, Option.isSome_some, *]) (fun z => by first | (simp; done) | (exfalso; (try simp only [Heap.next_push, Heap.next_set, Heap.next_room] at z); omega))))⟩
    unfold Msg.right2; rw [decide_eq_false hk]; rfl
  rw [decide_eq_true hk]
  have hlen : (letL (m.c 0)).length ≤ maxLen := Nat.le_trans (letL_length _) (by decide)
  have hg : (H.push (mO m)).get H.next = some (mO m) := by simp only [Heap.get_pushH, hite_same]
  simp (maxSteps := 5000000) (disch := omega) only [MX, V_P, SX, W_block, exitW, goInt, Int.reduceEq, setCells, oneOf, cellOk, reduceIte, Nat.reduceLT, Nat.reduceLeDiff, Nat.reduceEqDiff, Nat.reduceAdd, Nat.reduceSub, Nat.reduceMul, Int.reduceToNat, Int.reduceLT, Int.reduceLE, Int.reduceAdd, Int.reduceSub, implies_true, ne_eq, if_true, if_false, reduceCtorEq]
  repeat' (first
    | (refine gW_dec (fun h => ?_) (fun h => ?_) <;> simp (maxSteps := 5000000) (disch := omega) only [h, MX, V_P, SX, W_block, exitW, goInt, Int.reduceEq, setCells, oneOf, cellOk, reduceIte, Nat.reduceLT, Nat.reduceLeDiff, Nat.reduceEqDiff, Nat.reduceAdd, Nat.reduceSub, Nat.reduceMul, Int.reduceToNat, Int.reduceLT, Int.reduceLE, Int.reduceAdd, Int.reduceSub, implies_true, ne_eq, if_true, if_false, reduceCtorEq])
    | (refine cW_dec (fun h => ?_) (fun h => ?_) <;> simp (maxSteps := 5000000) (disch := omega) only [h, MX, V_P, SX, W_block, exitW, goInt, Int.reduceEq, setCells, oneOf, cellOk, reduceIte, Nat.reduceLT, Nat.reduceLeDiff, Nat.reduceEqDiff, Nat.reduceAdd, Nat.reduceSub, Nat.reduceMul, Int.reduceToNat, Int.reduceLT, Int.reduceLE, Int.reduceAdd, Int.reduceSub, implies_true, ne_eq, if_true, if_false, reduceCtorEq])
    | (refine gW_bool (fun h => ?_) (fun h => ?_) <;> simp (maxSteps := 5000000) (disch := omega) only [h, MX, V_P, SX, W_block, exitW, goInt, Int.reduceEq, setCells, oneOf, cellOk, reduceIte, Nat.reduceLT, Nat.reduceLeDiff, Nat.reduceEqDiff, Nat.reduceAdd, Nat.reduceSub, Nat.reduceMul, Int.reduceToNat, Int.reduceLT, Int.reduceLE, Int.reduceAdd, Int.reduceSub, implies_true, ne_eq, if_true, if_false, reduceCtorEq])
    | (refine cW_bool (fun h => ?_) (fun h => ?_) <;> simp (maxSteps := 5000000) (disch := omega) only [h, MX, V_P, SX, W_block, exitW, goInt, Int.reduceEq, setCells, oneOf, cellOk, reduceIte, Nat.reduceLT, Nat.reduceLeDiff, Nat.reduceEqDiff, Nat.reduceAdd, Nat.reduceSub, Nat.reduceMul, Int.reduceToNat, Int.reduceLT, Int.reduceLE, Int.reduceAdd, Int.reduceSub, implies_true, ne_eq, if_true, if_false, reduceCtorEq]))
  · refine ⟨?_, by repeat (first | exact Same.same ok | refine Same.push ?_ _ | refine Same.room ?_ _ | (refine Same.make ?_ (by (try simp only [Heap.next_push, Heap.next_set, Heap.next_room]); omega) (by (try simp only [Heap.next_push, Heap.next_set, Heap.next_room]); omega)) | (refine Same.put ?_ (by simp (disch := omega) only [Heap.get_pushH, Heap.get_setH, hite_same, hite_ne, hite_eq, Heap.get_room, Heap.next_push, Heap.next_set, Heap.next_room, Option.isSome_some, *]) (fun z => by first | (simp; done) | (exfalso; (try simp only [Heap.next_push, Heap.next_set, Heap.next_room] at z); omega))))⟩
    unfold Msg.right2; rw [decide_eq_false (p := m.c 2 ≤ 999999 ∧ _) (by omega)]; simp
  · refine ⟨?_, by repeat (first | exact Same.same ok | refine Same.push ?_ _ | refine Same.room ?_ _ | (refine Same.make ?_ (by (try simp only [Heap.next_push, Heap.next_set, Heap.next_room]); omega) (by (try simp only [Heap.next_push, Heap.next_set, Heap.next_room]); omega)) | (refine Same.put ?_ (by simp (disch := omega) only [Heap.get_pushH, Heap.get_setH, hite_same, hite_ne, hite_eq, Heap.get_room, Heap.next_push, Heap.next_set, Heap.next_room, Option.isSome_some, *]) (fun z => by first | (simp; done) | (exfalso; (try simp only [Heap.next_push, Heap.next_set, Heap.next_room] at z); omega))))⟩
    unfold Msg.right2; rw [decide_eq_false (p := m.c 2 ≤ 999999 ∧ _) (by omega)]; simp
  · refine ⟨?_, by repeat (first | exact Same.same ok | refine Same.push ?_ _ | refine Same.room ?_ _ | (refine Same.make ?_ (by (try simp only [Heap.next_push, Heap.next_set, Heap.next_room]); omega) (by (try simp only [Heap.next_push, Heap.next_set, Heap.next_room]); omega)) | (refine Same.put ?_ (by simp (disch := omega) only [Heap.get_pushH, Heap.get_setH, hite_same, hite_ne, hite_eq, Heap.get_room, Heap.next_push, Heap.next_set, Heap.next_room, Option.isSome_some, *]) (fun z => by first | (simp; done) | (exfalso; (try simp only [Heap.next_push, Heap.next_set, Heap.next_room] at z); omega))))⟩
    unfold Msg.right2; rw [decide_eq_false (p := m.c 2 ≤ 999999 ∧ _) (by omega)]; simp
  · refine ⟨?_, by repeat (first | exact Same.same ok | refine Same.push ?_ _ | refine Same.room ?_ _ | (refine Same.make ?_ (by (try simp only [Heap.next_push, Heap.next_set, Heap.next_room]); omega) (by (try simp only [Heap.next_push, Heap.next_set, Heap.next_room]); omega)) | (refine Same.put ?_ (by simp (disch := omega) only [Heap.get_pushH, Heap.get_setH, hite_same, hite_ne, hite_eq, Heap.get_room, Heap.next_push, Heap.next_set, Heap.next_room, Option.isSome_some, *]) (fun z => by first | (simp; done) | (exfalso; (try simp only [Heap.next_push, Heap.next_set, Heap.next_room] at z); omega))))⟩
    unfold Msg.right2; rw [decide_eq_false (p := m.c 2 ≤ 999999 ∧ _) (by omega)]; simp
  · refine ⟨?_, by repeat (first | exact Same.same ok | refine Same.push ?_ _ | refine Same.room ?_ _ | (refine Same.make ?_ (by (try simp only [Heap.next_push, Heap.next_set, Heap.next_room]); omega) (by (try simp only [Heap.next_push, Heap.next_set, Heap.next_room]); omega)) | (refine Same.put ?_ (by simp (disch := omega) only [Heap.get_pushH, Heap.get_setH, hite_same, hite_ne, hite_eq, Heap.get_room, Heap.next_push, Heap.next_set, Heap.next_room, Option.isSome_some, *]) (fun z => by first | (simp; done) | (exfalso; (try simp only [Heap.next_push, Heap.next_set, Heap.next_room] at z); omega))))⟩
    unfold Msg.right2; rw [decide_eq_false (p := m.c 2 ≤ 999999 ∧ _) (by omega)]; simp
  have hr : m.c 2 ≤ 999999 ∧ 0 ≤ m.c 4 ∧ m.c 4 ≤ 1000000 ∧ 0 ≤ m.c 21 ∧ m.c 21 ≤ 1000000 := by omega
  refine W_cutO 8 (fun t H2 => H2 = H.push (mO m) ∧ t.get 1 = some (.pointer (some ⟨H.next, 0, none⟩)) ∧ t.get 2 = some (.bool false) ∧ t.get 4 = some (.string (S (letL (m.c 0)))) ∧ t.get 52 = some (.bool (!(keep (m.c 0) 2 || decide (m.c 2 = 0))))) ?_ ?_
  · simp (maxSteps := 5000000) (disch := omega) only [MX, V_P, SX, W_block, exitW, goInt, Int.reduceEq, setCells, oneOf, cellOk, reduceIte, Nat.reduceLT, Nat.reduceLeDiff, Nat.reduceEqDiff, Nat.reduceAdd, Nat.reduceSub, Nat.reduceMul, Int.reduceToNat, Int.reduceLT, Int.reduceLE, Int.reduceAdd, Int.reduceSub, implies_true, ne_eq, if_true, if_false, reduceCtorEq]
    refine W_callR rfl (by simp (maxSteps := 5000000) (disch := omega) only [MX, V_P, SX, W_block, exitW, goInt, Int.reduceEq, setCells, oneOf, cellOk, reduceIte, Nat.reduceLT, Nat.reduceLeDiff, Nat.reduceEqDiff, Nat.reduceAdd, Nat.reduceSub, Nat.reduceMul, Int.reduceToNat, Int.reduceLT, Int.reduceLE, Int.reduceAdd, Int.reduceSub, implies_true, ne_eq, if_true, if_false, reduceCtorEq]) (ref_has (letL (m.c 0)) 115 _ hlen) ?_
    rintro v H2 ⟨rfl, rfl⟩
    rw [has_stan hk]
    cases hk2 : keep (m.c 0) 2
    · simp (maxSteps := 5000000) (disch := omega) only [MX, hk2, hg, V_P, SX, W_block, exitW, goInt, Int.reduceEq, setCells, oneOf, cellOk, reduceIte, Nat.reduceLT, Nat.reduceLeDiff, Nat.reduceEqDiff, Nat.reduceAdd, Nat.reduceSub, Nat.reduceMul, Int.reduceToNat, Int.reduceLT, Int.reduceLE, Int.reduceAdd, Int.reduceSub, implies_true, ne_eq, if_true, if_false, reduceCtorEq]
      (try simp [hk2])
    · simp (maxSteps := 5000000) (disch := omega) only [MX, hk2, hg, V_P, SX, W_block, exitW, goInt, Int.reduceEq, setCells, oneOf, cellOk, reduceIte, Nat.reduceLT, Nat.reduceLeDiff, Nat.reduceEqDiff, Nat.reduceAdd, Nat.reduceSub, Nat.reduceMul, Int.reduceToNat, Int.reduceLT, Int.reduceLE, Int.reduceAdd, Int.reduceSub, implies_true, ne_eq, if_true, if_false, reduceCtorEq]
      (try simp [hk2])
  rintro t H2 ⟨rfl, g1, g2, g4, g5⟩
  refine W_cutO 10 (fun t H2 => H2 = H.push (mO m) ∧ t.get 1 = some (.pointer (some ⟨H.next, 0, none⟩)) ∧ t.get 2 = some (.bool false) ∧ t.get 4 = some (.string (S (letL (m.c 0)))) ∧ t.get 62 = some (.bool (!((keep (m.c 0) 2 || decide (m.c 2 = 0)) && (keep (m.c 0) 4 || decide (m.c 4 = 0)))))) ?_ ?_
  · cases hc : (keep (m.c 0) 2 || decide (m.c 2 = 0))
    · simp (maxSteps := 5000000) (disch := omega) only [MX, g1, g2, g4, g5, hc, V_P, SX, W_block, exitW, goInt, Int.reduceEq, setCells, oneOf, cellOk, reduceIte, Nat.reduceLT, Nat.reduceLeDiff, Nat.reduceEqDiff, Nat.reduceAdd, Nat.reduceSub, Nat.reduceMul, Int.reduceToNat, Int.reduceLT, Int.reduceLE, Int.reduceAdd, Int.reduceSub, implies_true, ne_eq, if_true, if_false, reduceCtorEq]
      rfl
    simp (maxSteps := 5000000) (disch := omega) only [MX, g1, g2, g4, g5, hc, V_P, SX, W_block, exitW, goInt, Int.reduceEq, setCells, oneOf, cellOk, reduceIte, Nat.reduceLT, Nat.reduceLeDiff, Nat.reduceEqDiff, Nat.reduceAdd, Nat.reduceSub, Nat.reduceMul, Int.reduceToNat, Int.reduceLT, Int.reduceLE, Int.reduceAdd, Int.reduceSub, implies_true, ne_eq, if_true, if_false, reduceCtorEq]
    refine W_callR rfl (by simp (maxSteps := 5000000) (disch := omega) only [MX, g1, g2, g4, g5, hc, V_P, SX, W_block, exitW, goInt, Int.reduceEq, setCells, oneOf, cellOk, reduceIte, Nat.reduceLT, Nat.reduceLeDiff, Nat.reduceEqDiff, Nat.reduceAdd, Nat.reduceSub, Nat.reduceMul, Int.reduceToNat, Int.reduceLT, Int.reduceLE, Int.reduceAdd, Int.reduceSub, implies_true, ne_eq, if_true, if_false, reduceCtorEq]) (ref_has (letL (m.c 0)) 97 _ hlen) ?_
    rintro v H2 ⟨rfl, rfl⟩
    rw [has_amount hk]
    cases hk2 : keep (m.c 0) 4
    · simp (maxSteps := 5000000) (disch := omega) only [MX, hk2, hg, g1, g2, g4, g5, hc, V_P, SX, W_block, exitW, goInt, Int.reduceEq, setCells, oneOf, cellOk, reduceIte, Nat.reduceLT, Nat.reduceLeDiff, Nat.reduceEqDiff, Nat.reduceAdd, Nat.reduceSub, Nat.reduceMul, Int.reduceToNat, Int.reduceLT, Int.reduceLE, Int.reduceAdd, Int.reduceSub, implies_true, ne_eq, if_true, if_false, reduceCtorEq]
      (try simp [hk2])
    · simp (maxSteps := 5000000) (disch := omega) only [MX, hk2, hg, g1, g2, g4, g5, hc, V_P, SX, W_block, exitW, goInt, Int.reduceEq, setCells, oneOf, cellOk, reduceIte, Nat.reduceLT, Nat.reduceLeDiff, Nat.reduceEqDiff, Nat.reduceAdd, Nat.reduceSub, Nat.reduceMul, Int.reduceToNat, Int.reduceLT, Int.reduceLE, Int.reduceAdd, Int.reduceSub, implies_true, ne_eq, if_true, if_false, reduceCtorEq]
      (try simp [hk2])
  rintro t H2 ⟨rfl, g1, g2, g4, g5⟩
  refine W_cutO 10 (fun t H2 => H2 = H.push (mO m) ∧ t.get 1 = some (.pointer (some ⟨H.next, 0, none⟩)) ∧ t.get 2 = some (.bool false) ∧ t.get 4 = some (.string (S (letL (m.c 0)))) ∧ t.get 72 = some (.bool (!(((keep (m.c 0) 2 || decide (m.c 2 = 0)) && (keep (m.c 0) 4 || decide (m.c 4 = 0))) && (keep (m.c 0) 21 || decide (m.c 21 = 0)))))) ?_ ?_
  · cases hc : ((keep (m.c 0) 2 || decide (m.c 2 = 0)) && (keep (m.c 0) 4 || decide (m.c 4 = 0)))
    · simp (maxSteps := 5000000) (disch := omega) only [MX, g1, g2, g4, g5, hc, V_P, SX, W_block, exitW, goInt, Int.reduceEq, setCells, oneOf, cellOk, reduceIte, Nat.reduceLT, Nat.reduceLeDiff, Nat.reduceEqDiff, Nat.reduceAdd, Nat.reduceSub, Nat.reduceMul, Int.reduceToNat, Int.reduceLT, Int.reduceLE, Int.reduceAdd, Int.reduceSub, implies_true, ne_eq, if_true, if_false, reduceCtorEq]
      rfl
    simp (maxSteps := 5000000) (disch := omega) only [MX, g1, g2, g4, g5, hc, V_P, SX, W_block, exitW, goInt, Int.reduceEq, setCells, oneOf, cellOk, reduceIte, Nat.reduceLT, Nat.reduceLeDiff, Nat.reduceEqDiff, Nat.reduceAdd, Nat.reduceSub, Nat.reduceMul, Int.reduceToNat, Int.reduceLT, Int.reduceLE, Int.reduceAdd, Int.reduceSub, implies_true, ne_eq, if_true, if_false, reduceCtorEq]
    refine W_callR rfl (by simp (maxSteps := 5000000) (disch := omega) only [MX, g1, g2, g4, g5, hc, V_P, SX, W_block, exitW, goInt, Int.reduceEq, setCells, oneOf, cellOk, reduceIte, Nat.reduceLT, Nat.reduceLeDiff, Nat.reduceEqDiff, Nat.reduceAdd, Nat.reduceSub, Nat.reduceMul, Int.reduceToNat, Int.reduceLT, Int.reduceLE, Int.reduceAdd, Int.reduceSub, implies_true, ne_eq, if_true, if_false, reduceCtorEq]) (ref_has (letL (m.c 0)) 108 _ hlen) ?_
    rintro v H2 ⟨rfl, rfl⟩
    rw [has_loads hk]
    cases hk2 : keep (m.c 0) 21
    · simp (maxSteps := 5000000) (disch := omega) only [MX, hk2, hg, g1, g2, g4, g5, hc, V_P, SX, W_block, exitW, goInt, Int.reduceEq, setCells, oneOf, cellOk, reduceIte, Nat.reduceLT, Nat.reduceLeDiff, Nat.reduceEqDiff, Nat.reduceAdd, Nat.reduceSub, Nat.reduceMul, Int.reduceToNat, Int.reduceLT, Int.reduceLE, Int.reduceAdd, Int.reduceSub, implies_true, ne_eq, if_true, if_false, reduceCtorEq]
      (try simp [hk2])
    · simp (maxSteps := 5000000) (disch := omega) only [MX, hk2, hg, g1, g2, g4, g5, hc, V_P, SX, W_block, exitW, goInt, Int.reduceEq, setCells, oneOf, cellOk, reduceIte, Nat.reduceLT, Nat.reduceLeDiff, Nat.reduceEqDiff, Nat.reduceAdd, Nat.reduceSub, Nat.reduceMul, Int.reduceToNat, Int.reduceLT, Int.reduceLE, Int.reduceAdd, Int.reduceSub, implies_true, ne_eq, if_true, if_false, reduceCtorEq]
      (try simp [hk2])
  rintro t H2 ⟨rfl, g1, g2, g4, g5⟩
  refine W_cutO 10 (fun t H2 => H2 = H.push (mO m) ∧ t.get 1 = some (.pointer (some ⟨H.next, 0, none⟩)) ∧ t.get 2 = some (.bool false) ∧ t.get 4 = some (.string (S (letL (m.c 0)))) ∧ t.get 82 = some (.bool (!((((keep (m.c 0) 2 || decide (m.c 2 = 0)) && (keep (m.c 0) 4 || decide (m.c 4 = 0))) && (keep (m.c 0) 21 || decide (m.c 21 = 0))) && (!decide (m.c 0 = 1) || panOk m.pan))))) ?_ ?_
  · cases hc : (((keep (m.c 0) 2 || decide (m.c 2 = 0)) && (keep (m.c 0) 4 || decide (m.c 4 = 0))) && (keep (m.c 0) 21 || decide (m.c 21 = 0)))
    · simp (maxSteps := 5000000) (disch := omega) only [MX, g1, g2, g4, g5, hc, V_P, SX, W_block, exitW, goInt, Int.reduceEq, setCells, oneOf, cellOk, reduceIte, Nat.reduceLT, Nat.reduceLeDiff, Nat.reduceEqDiff, Nat.reduceAdd, Nat.reduceSub, Nat.reduceMul, Int.reduceToNat, Int.reduceLT, Int.reduceLE, Int.reduceAdd, Int.reduceSub, implies_true, ne_eq, if_true, if_false, reduceCtorEq]
      rfl
    simp (maxSteps := 5000000) (disch := omega) only [MX, g1, g2, g4, g5, hc, V_P, SX, W_block, exitW, goInt, Int.reduceEq, setCells, oneOf, cellOk, reduceIte, Nat.reduceLT, Nat.reduceLeDiff, Nat.reduceEqDiff, Nat.reduceAdd, Nat.reduceSub, Nat.reduceMul, Int.reduceToNat, Int.reduceLT, Int.reduceLE, Int.reduceAdd, Int.reduceSub, implies_true, ne_eq, if_true, if_false, reduceCtorEq]
    refine W_callR rfl (by simp (maxSteps := 5000000) (disch := omega) only [MX, g1, g2, g4, g5, hc, V_P, SX, W_block, exitW, goInt, Int.reduceEq, setCells, oneOf, cellOk, reduceIte, Nat.reduceLT, Nat.reduceLeDiff, Nat.reduceEqDiff, Nat.reduceAdd, Nat.reduceSub, Nat.reduceMul, Int.reduceToNat, Int.reduceLT, Int.reduceLE, Int.reduceAdd, Int.reduceSub, implies_true, ne_eq, if_true, if_false, reduceCtorEq]) (ref_has (letL (m.c 0)) 112 _ hlen) ?_
    rintro v H2 ⟨rfl, rfl⟩
    rw [has_pan hk]
    by_cases h1 : m.c 0 = 1
    · rw [decide_eq_true h1]
      simp (maxSteps := 5000000) (disch := omega) only [MX, hg, g1, g2, g4, g5, hc, V_P, SX, W_block, exitW, goInt, Int.reduceEq, setCells, oneOf, cellOk, reduceIte, Nat.reduceLT, Nat.reduceLeDiff, Nat.reduceEqDiff, Nat.reduceAdd, Nat.reduceSub, Nat.reduceMul, Int.reduceToNat, Int.reduceLT, Int.reduceLE, Int.reduceAdd, Int.reduceSub, implies_true, ne_eq, if_true, if_false, reduceCtorEq]
      refine W_callR rfl (by simp (maxSteps := 5000000) (disch := omega) only [MX, hg, g1, g2, g4, g5, hc, V_P, SX, W_block, exitW, goInt, Int.reduceEq, setCells, oneOf, cellOk, reduceIte, Nat.reduceLT, Nat.reduceLeDiff, Nat.reduceEqDiff, Nat.reduceAdd, Nat.reduceSub, Nat.reduceMul, Int.reduceToNat, Int.reduceLT, Int.reduceLE, Int.reduceAdd, Int.reduceSub, implies_true, ne_eq, if_true, if_false, reduceCtorEq]) (ref_Pan m.pan _ hp) ?_
      rintro v H2 ⟨rfl, rfl⟩
      simp (maxSteps := 5000000) (disch := omega) only [MX, hg, g1, g2, g4, g5, hc, V_P, SX, W_block, exitW, goInt, Int.reduceEq, setCells, oneOf, cellOk, reduceIte, Nat.reduceLT, Nat.reduceLeDiff, Nat.reduceEqDiff, Nat.reduceAdd, Nat.reduceSub, Nat.reduceMul, Int.reduceToNat, Int.reduceLT, Int.reduceLE, Int.reduceAdd, Int.reduceSub, implies_true, ne_eq, if_true, if_false, reduceCtorEq]
      (try simp [h1])
    · rw [decide_eq_false h1]
      simp (maxSteps := 5000000) (disch := omega) only [MX, hg, g1, g2, g4, g5, hc, V_P, SX, W_block, exitW, goInt, Int.reduceEq, setCells, oneOf, cellOk, reduceIte, Nat.reduceLT, Nat.reduceLeDiff, Nat.reduceEqDiff, Nat.reduceAdd, Nat.reduceSub, Nat.reduceMul, Int.reduceToNat, Int.reduceLT, Int.reduceLE, Int.reduceAdd, Int.reduceSub, implies_true, ne_eq, if_true, if_false, reduceCtorEq]
      (try simp [h1])
  rintro t H2 ⟨rfl, g1, g2, g4, g5⟩
  refine W_cutO 9 (fun t H2 => H2 = H.push (mO m) ∧ t.get 1 = some (.pointer (some ⟨H.next, 0, none⟩)) ∧ t.get 2 = some (.bool false) ∧ t.get 4 = some (.string (S (letL (m.c 0)))) ∧ t.get 91 = some (.bool (!(((((keep (m.c 0) 2 || decide (m.c 2 = 0)) && (keep (m.c 0) 4 || decide (m.c 4 = 0))) && (keep (m.c 0) 21 || decide (m.c 21 = 0))) && (!decide (m.c 0 = 1) || panOk m.pan)) && (decide (m.c 0 = 1) || decide (m.pan = S [])))))) ?_ ?_
  · cases hc : ((((keep (m.c 0) 2 || decide (m.c 2 = 0)) && (keep (m.c 0) 4 || decide (m.c 4 = 0))) && (keep (m.c 0) 21 || decide (m.c 21 = 0))) && (!decide (m.c 0 = 1) || panOk m.pan))
    · simp (maxSteps := 5000000) (disch := omega) only [MX, g1, g2, g4, g5, hc, V_P, SX, W_block, exitW, goInt, Int.reduceEq, setCells, oneOf, cellOk, reduceIte, Nat.reduceLT, Nat.reduceLeDiff, Nat.reduceEqDiff, Nat.reduceAdd, Nat.reduceSub, Nat.reduceMul, Int.reduceToNat, Int.reduceLT, Int.reduceLE, Int.reduceAdd, Int.reduceSub, implies_true, ne_eq, if_true, if_false, reduceCtorEq]
      rfl
    simp (maxSteps := 5000000) (disch := omega) only [MX, g1, g2, g4, g5, hc, V_P, SX, W_block, exitW, goInt, Int.reduceEq, setCells, oneOf, cellOk, reduceIte, Nat.reduceLT, Nat.reduceLeDiff, Nat.reduceEqDiff, Nat.reduceAdd, Nat.reduceSub, Nat.reduceMul, Int.reduceToNat, Int.reduceLT, Int.reduceLE, Int.reduceAdd, Int.reduceSub, implies_true, ne_eq, if_true, if_false, reduceCtorEq]
    refine W_callR rfl (by simp (maxSteps := 5000000) (disch := omega) only [MX, g1, g2, g4, g5, hc, V_P, SX, W_block, exitW, goInt, Int.reduceEq, setCells, oneOf, cellOk, reduceIte, Nat.reduceLT, Nat.reduceLeDiff, Nat.reduceEqDiff, Nat.reduceAdd, Nat.reduceSub, Nat.reduceMul, Int.reduceToNat, Int.reduceLT, Int.reduceLE, Int.reduceAdd, Int.reduceSub, implies_true, ne_eq, if_true, if_false, reduceCtorEq]) (ref_has (letL (m.c 0)) 112 _ hlen) ?_
    rintro v H2 ⟨rfl, rfl⟩
    rw [has_pan hk]
    by_cases h1 : m.c 0 = 1
    · rw [decide_eq_true h1]
      simp (maxSteps := 5000000) (disch := omega) only [MX, hg, g1, g2, g4, g5, hc, V_P, SX, W_block, exitW, goInt, Int.reduceEq, setCells, oneOf, cellOk, reduceIte, Nat.reduceLT, Nat.reduceLeDiff, Nat.reduceEqDiff, Nat.reduceAdd, Nat.reduceSub, Nat.reduceMul, Int.reduceToNat, Int.reduceLT, Int.reduceLE, Int.reduceAdd, Int.reduceSub, implies_true, ne_eq, if_true, if_false, reduceCtorEq]
      (try simp [h1])
    · rw [decide_eq_false h1]
      simp (maxSteps := 5000000) (disch := omega) only [MX, hg, g1, g2, g4, g5, hc, V_P, SX, W_block, exitW, goInt, Int.reduceEq, setCells, oneOf, cellOk, reduceIte, Nat.reduceLT, Nat.reduceLeDiff, Nat.reduceEqDiff, Nat.reduceAdd, Nat.reduceSub, Nat.reduceMul, Int.reduceToNat, Int.reduceLT, Int.reduceLE, Int.reduceAdd, Int.reduceSub, implies_true, ne_eq, if_true, if_false, reduceCtorEq]
      (try simp [h1])
  rintro t H2 ⟨rfl, g1, g2, g4, g5⟩
  have e2 : m.right2 = ((((((keep (m.c 0) 2 || decide (m.c 2 = 0)) && (keep (m.c 0) 4 || decide (m.c 4 = 0))) && (keep (m.c 0) 21 || decide (m.c 21 = 0))) && (!decide (m.c 0 = 1) || panOk m.pan)) && (decide (m.c 0 = 1) || decide (m.pan = S []))) && (List.range 5).all (grpOk m)) := by
    unfold Msg.right2; rw [decide_eq_true hk, decide_eq_true hr]
    by_cases h1 : m.c 0 = 1
    · simp [h1, Bool.and_assoc]
    · simp [h1, Bool.and_assoc]
  cases hc : (((((keep (m.c 0) 2 || decide (m.c 2 = 0)) && (keep (m.c 0) 4 || decide (m.c 4 = 0))) && (keep (m.c 0) 21 || decide (m.c 21 = 0))) && (!decide (m.c 0 = 1) || panOk m.pan)) && (decide (m.c 0 = 1) || decide (m.pan = S [])))
  · simp (maxSteps := 5000000) (disch := omega) only [MX, g1, g2, g4, g5, hc, V_P, SX, W_block, exitW, goInt, Int.reduceEq, setCells, oneOf, cellOk, reduceIte, Nat.reduceLT, Nat.reduceLeDiff, Nat.reduceEqDiff, Nat.reduceAdd, Nat.reduceSub, Nat.reduceMul, Int.reduceToNat, Int.reduceLT, Int.reduceLE, Int.reduceAdd, Int.reduceSub, implies_true, ne_eq, if_true, if_false, reduceCtorEq]
    refine ⟨?_, by repeat (first | exact Same.same ok | refine Same.push ?_ _ | refine Same.room ?_ _ | (refine Same.make ?_ (by (try simp only [Heap.next_push, Heap.next_set, Heap.next_room]); omega) (by (try simp only [Heap.next_push, Heap.next_set, Heap.next_room]); omega)) | (refine Same.put ?_ (by simp (disch := omega) only [Heap.get_pushH, Heap.get_setH, hite_same, hite_ne, hite_eq, Heap.get_room, Heap.next_push, Heap.next_set, Heap.next_room, Option.isSome_some, *]) (fun z => by first | (simp; done) | (exfalso; (try simp only [Heap.next_push, Heap.next_set, Heap.next_room] at z); omega))))⟩
    rw [e2, hc]; rfl
  rw [hc, Bool.true_and] at e2
  simp (maxSteps := 5000000) (disch := omega) only [MX, g1, g2, g4, g5, hc, V_P, SX, W_block, exitW, goInt, Int.reduceEq, setCells, oneOf, cellOk, reduceIte, Nat.reduceLT, Nat.reduceLeDiff, Nat.reduceEqDiff, Nat.reduceAdd, Nat.reduceSub, Nat.reduceMul, Int.reduceToNat, Int.reduceLT, Int.reduceLE, Int.reduceAdd, Int.reduceSub, implies_true, ne_eq, if_true, if_false, reduceCtorEq]
  refine W_for (fun (i : Nat) t H2 => t.get 1 = some (.pointer (some ⟨H.next, 0, none⟩)) ∧ t.get 4 = some (.string (S (letL (m.c 0)))) ∧ t.get 6 = some (.int .i64 i) ∧ i ≤ 5 ∧ (∀ j, j < i → grpOk m j = true) ∧ Same H H2 [] ∧ H.next < H2.next ∧ H2.get H.next = some (mO m)) (fun i => 5 - i) 0 ?_ ?_
  · simp (maxSteps := 5000000) (disch := omega) only [g1, g4, hg, V_P, SX, W_block, exitW, goInt, Int.reduceEq, setCells, oneOf, cellOk, reduceIte, Nat.reduceLT, Nat.reduceLeDiff, Nat.reduceEqDiff, Nat.reduceAdd, Nat.reduceSub, Nat.reduceMul, Int.reduceToNat, Int.reduceLT, Int.reduceLE, Int.reduceAdd, Int.reduceSub, implies_true, ne_eq, if_true, if_false, reduceCtorEq]
    exact ⟨rfl, fun j h => absurd h (by omega), by repeat (first | exact Same.same ok | refine Same.push ?_ _ | refine Same.room ?_ _ | (refine Same.make ?_ (by (try simp only [Heap.next_push, Heap.next_set, Heap.next_room]); omega) (by (try simp only [Heap.next_push, Heap.next_set, Heap.next_room]); omega)) | (refine Same.put ?_ (by simp (disch := omega) only [Heap.get_pushH, Heap.get_setH, hite_same, hite_ne, hite_eq, Heap.get_room, Heap.next_push, Heap.next_set, Heap.next_room, Option.isSome_some, *]) (fun z => by first | (simp; done) | (exfalso; (try simp only [Heap.next_push, Heap.next_set, Heap.next_room] at z); omega)))), Nat.lt_succ_self _⟩
  rintro i t H2 ⟨g1, g4, g6, hi, hall, hs, hn, hgm⟩
  have ok2 := hs.ok
  simp (maxSteps := 5000000) (disch := omega) only [MX, g1, g4, g6, hgm, V_P, SX, W_block, exitW, goInt, Int.reduceEq, setCells, oneOf, cellOk, reduceIte, Nat.reduceLT, Nat.reduceLeDiff, Nat.reduceEqDiff, Nat.reduceAdd, Nat.reduceSub, Nat.reduceMul, Int.reduceToNat, Int.reduceLT, Int.reduceLE, Int.reduceAdd, Int.reduceSub, implies_true, ne_eq, if_true, if_false, reduceCtorEq]
  refine cW_dec (fun hlt => ?_) (fun hlt => ?_)
  rotate_left
  · simp (maxSteps := 5000000) (disch := omega) only [MX, g1, g4, g6, hgm, V_P, SX, W_block, exitW, goInt, Int.reduceEq, setCells, oneOf, cellOk, reduceIte, Nat.reduceLT, Nat.reduceLeDiff, Nat.reduceEqDiff, Nat.reduceAdd, Nat.reduceSub, Nat.reduceMul, Int.reduceToNat, Int.reduceLT, Int.reduceLE, Int.reduceAdd, Int.reduceSub, implies_true, ne_eq, if_true, if_false, reduceCtorEq]
    refine ⟨?_, hs⟩
    rw [e2]
    congr 1
    symm
    rw [List.all_eq_true]
    intro j hj
    exact hall j (by have := List.mem_range.mp hj; omega)
  have hi5 : i < 5 := by omega
  have hle : (⟨#[110, 114, 99, 100, 109]⟩ : ByteArray)[i]? = some (lett i) := by
    rcases (show i = 0 ∨ i = 1 ∨ i = 2 ∨ i = 3 ∨ i = 4 by omega) with rfl | rfl | rfl | rfl | rfl <;> rfl
  have hgr : gcV (grp i) 4 (H2.get H.next) = some [.int .i64 (m.c (grp i)), .int .i64 (m.c (grp i + 1)), .int .i64 (m.c (grp i + 2)), .int .i64 (m.c (grp i + 3))] := by
    rw [hgm]
    rcases (show i = 0 ∨ i = 1 ∨ i = 2 ∨ i = 3 ∨ i = 4 by omega) with rfl | rfl | rfl | rfl | rfl <;> rfl
  simp (maxSteps := 5000000) (disch := omega) only [MX, g1, g4, g6, hle, V_P, SX, W_block, exitW, goInt, Int.reduceEq, setCells, oneOf, cellOk, reduceIte, Nat.reduceLT, Nat.reduceLeDiff, Nat.reduceEqDiff, Nat.reduceAdd, Nat.reduceSub, Nat.reduceMul, Int.reduceToNat, Int.reduceLT, Int.reduceLE, Int.reduceAdd, Int.reduceSub, implies_true, ne_eq, if_true, if_false, reduceCtorEq]
  refine W_callR rfl (by simp (maxSteps := 5000000) (disch := omega) only [MX, g1, g4, g6, hle, V_P, SX, W_block, exitW, goInt, Int.reduceEq, setCells, oneOf, cellOk, reduceIte, Nat.reduceLT, Nat.reduceLeDiff, Nat.reduceEqDiff, Nat.reduceAdd, Nat.reduceSub, Nat.reduceMul, Int.reduceToNat, Int.reduceLT, Int.reduceLE, Int.reduceAdd, Int.reduceSub, implies_true, ne_eq, if_true, if_false, reduceCtorEq]) (ref_notes H.next i hi5 _) ?_
  rintro v H3 ⟨rfl, e3⟩
  obtain rfl := e3.symm
  simp (maxSteps := 5000000) (disch := omega) only [MX, g1, g4, g6, hle, hgr, V_P, SX, W_block, exitW, goInt, Int.reduceEq, setCells, oneOf, cellOk, reduceIte, Nat.reduceLT, Nat.reduceLeDiff, Nat.reduceEqDiff, Nat.reduceAdd, Nat.reduceSub, Nat.reduceMul, Int.reduceToNat, Int.reduceLT, Int.reduceLE, Int.reduceAdd, Int.reduceSub, implies_true, ne_eq, if_true, if_false, reduceCtorEq]
  refine W_callR rfl (by simp (maxSteps := 5000000) (disch := omega) only [MX, g1, g4, g6, hle, hgr, Msg.n4, V_P, SX, W_block, exitW, goInt, Int.reduceEq, setCells, oneOf, cellOk, reduceIte, Nat.reduceLT, Nat.reduceLeDiff, Nat.reduceEqDiff, Nat.reduceAdd, Nat.reduceSub, Nat.reduceMul, Int.reduceToNat, Int.reduceLT, Int.reduceLE, Int.reduceAdd, Int.reduceSub, implies_true, ne_eq, if_true, if_false, reduceCtorEq]) (ref_within (m.n4 (grp i)) (mostG i) _ ok2) ?_
  rintro v H4 ⟨rfl, hs4⟩
  have hgm4 : H4.get H.next = some (mO m) := by rw [hs4.get _ hn (by simp), hgm]
  have hgr4 : gcV (grp i) 4 (H4.get H.next) = some [.int .i64 (m.c (grp i)), .int .i64 (m.c (grp i + 1)), .int .i64 (m.c (grp i + 2)), .int .i64 (m.c (grp i + 3))] := by rw [hs4.get _ hn (by simp)]; exact hgr
  have hs5 : Same H H4 [] := hs.trans hs4 (by simp)
  have bad : grpOk m i = false → m.right2 = false := fun h => by
    rw [e2, List.all_eq_false]
    exact ⟨i, List.mem_range.mpr hi5, by simp [h]⟩
  have hle4 := hs4.le
  cases hw : (m.n4 (grp i)).within (mostG i)
  · simp (maxSteps := 5000000) (disch := omega) only [MX, g1, g4, g6, hle, hgr4, hw, V_P, SX, W_block, exitW, goInt, Int.reduceEq, setCells, oneOf, cellOk, reduceIte, Nat.reduceLT, Nat.reduceLeDiff, Nat.reduceEqDiff, Nat.reduceAdd, Nat.reduceSub, Nat.reduceMul, Int.reduceToNat, Int.reduceLT, Int.reduceLE, Int.reduceAdd, Int.reduceSub, implies_true, ne_eq, if_true, if_false, reduceCtorEq]
    refine ⟨?_, hs5⟩
    rw [bad (by unfold grpOk; rw [hw]; rfl)]
  simp (maxSteps := 5000000) (disch := omega) only [MX, g1, g4, g6, hle, hgr4, hw, V_P, SX, W_block, exitW, goInt, Int.reduceEq, setCells, oneOf, cellOk, reduceIte, Nat.reduceLT, Nat.reduceLeDiff, Nat.reduceEqDiff, Nat.reduceAdd, Nat.reduceSub, Nat.reduceMul, Int.reduceToNat, Int.reduceLT, Int.reduceLE, Int.reduceAdd, Int.reduceSub, implies_true, ne_eq, if_true, if_false, reduceCtorEq]
  refine W_callR rfl (by simp (maxSteps := 5000000) (disch := omega) only [MX, g1, g4, g6, hle, hgr4, hw, V_P, SX, W_block, exitW, goInt, Int.reduceEq, setCells, oneOf, cellOk, reduceIte, Nat.reduceLT, Nat.reduceLeDiff, Nat.reduceEqDiff, Nat.reduceAdd, Nat.reduceSub, Nat.reduceMul, Int.reduceToNat, Int.reduceLT, Int.reduceLE, Int.reduceAdd, Int.reduceSub, implies_true, ne_eq, if_true, if_false, reduceCtorEq]) (ref_has (letL (m.c 0)) (lett i).toNat _ hlen) ?_
  rintro v H5 ⟨rfl, e5⟩
  obtain rfl := e5.symm
  rw [has_grp hk hi5]
  cases hk2 : keep (m.c 0) (grp i)
  · cases hz : (m.n4 (grp i)).isZ
    · have hz2 := hz
      unfold N4.isZ Msg.n4 at hz2
      simp (maxSteps := 5000000) (disch := omega) only [MX, g1, g4, g6, hle, hgr4, hw, hk2, hz2, V_P, SX, W_block, exitW, goInt, Int.reduceEq, setCells, oneOf, cellOk, reduceIte, Nat.reduceLT, Nat.reduceLeDiff, Nat.reduceEqDiff, Nat.reduceAdd, Nat.reduceSub, Nat.reduceMul, Int.reduceToNat, Int.reduceLT, Int.reduceLE, Int.reduceAdd, Int.reduceSub, implies_true, ne_eq, if_true, if_false, reduceCtorEq]
      refine ⟨?_, hs5⟩
      rw [bad (by unfold grpOk; rw [hw, hk2, hz]; rfl)]
    · have hz2 := hz
      unfold N4.isZ Msg.n4 at hz2
      simp (maxSteps := 5000000) (disch := omega) only [MX, g1, g4, g6, hle, hgr4, hw, hk2, hz2, V_P, SX, W_block, exitW, goInt, Int.reduceEq, setCells, oneOf, cellOk, reduceIte, Nat.reduceLT, Nat.reduceLeDiff, Nat.reduceEqDiff, Nat.reduceAdd, Nat.reduceSub, Nat.reduceMul, Int.reduceToNat, Int.reduceLT, Int.reduceLE, Int.reduceAdd, Int.reduceSub, implies_true, ne_eq, if_true, if_false, reduceCtorEq]
      refine ⟨i + 1, ⟨by simp, by omega, fun j hj => ?_, hs5, by omega, hgm4⟩, by omega⟩
      by_cases hji : j = i
      · subst hji; unfold grpOk; rw [hw, hk2, hz]; rfl
      · exact hall j (by omega)
  · simp (maxSteps := 5000000) (disch := omega) only [MX, g1, g4, g6, hle, hgr4, hw, hk2, V_P, SX, W_block, exitW, goInt, Int.reduceEq, setCells, oneOf, cellOk, reduceIte, Nat.reduceLT, Nat.reduceLeDiff, Nat.reduceEqDiff, Nat.reduceAdd, Nat.reduceSub, Nat.reduceMul, Int.reduceToNat, Int.reduceLT, Int.reduceLE, Int.reduceAdd, Int.reduceSub, implies_true, ne_eq, if_true, if_false, reduceCtorEq]
    refine ⟨i + 1, ⟨by simp, by omega, fun j hj => ?_, hs5, by omega, hgm4⟩, by omega⟩
    by_cases hji : j = i
    · subst hji; unfold grpOk; rw [hw, hk2]; rfl
    · exact hall j (by omega)
end Go.B.YteigefgobkdmgaaDoor
