import Derived.Test.YteigefgobkdmgaaDoorBD10
/- A message's bytes: the code's Put. -/
namespace Go.B.YteigefgobkdmgaaDoor
open Go Go.B Go.Proofs
set_option maxRecDepth 100000
set_option maxHeartbeats 16000000
set_option linter.unusedSimpArgs false
set_option linter.unusedVariables false
theorem ndc_Put (m : Msg) (H : Heap) (ok : Ok H) (hw : m.wf) : ∃ v H', Ca V 9 #[.agg m.cells.toArray] H v H' ∧ PutR m H v H' := by
  have okn : ∀ a, H.next ≤ a → H.get a = none := ok
  refine Ca_run rfl tab_9 rfl ?_
  simp (maxSteps := 5000000) (disch := omega) only [Tryd.f9, MX, V_P, SX, W_block, exitW, goInt, Int.reduceEq, setCells, oneOf, cellOk, reduceIte, Nat.reduceLT, Nat.reduceLeDiff, Nat.reduceEqDiff, Nat.reduceAdd, Nat.reduceSub, Nat.reduceMul, Int.reduceToNat, Int.reduceLT, Int.reduceLE, Int.reduceAdd, Int.reduceSub, implies_true, ne_eq, if_true, if_false, reduceCtorEq]
  refine W_callR rfl (by simp (maxSteps := 5000000) (disch := omega) only [MX, V_P, SX, W_block, exitW, goInt, Int.reduceEq, setCells, oneOf, cellOk, reduceIte, Nat.reduceLT, Nat.reduceLeDiff, Nat.reduceEqDiff, Nat.reduceAdd, Nat.reduceSub, Nat.reduceMul, Int.reduceToNat, Int.reduceLT, Int.reduceLE, Int.reduceAdd, Int.reduceSub, implies_true, ne_eq, if_true, if_false, reduceCtorEq]) (ndc_Right m _ (by repeat (first | exact ok | refine Ok.push ?_ _ | refine Ok.room ?_ _ | (refine Ok.put ?_ _ (by simp (disch := omega) only [Heap.get_pushH, Heap.get_setH, hite_same, hite_ne, hite_eq, Heap.get_room, Heap.next_push, Heap.next_set, Heap.next_room, Option.isSome_some, *])))) hw.pan) ?_
  rintro v H1 ⟨rfl, hs⟩
  have hg : H1.get H.next = some (mO m) := by
    rw [hs.get H.next (by simp only [Heap.next_push]; omega) (by simp)]
    simp only [Heap.get_pushH, hite_same]
  have hs1 : Same H H1 [] := (by repeat (first | exact Same.same ok | refine Same.push ?_ _ | refine Same.room ?_ _ | (refine Same.make ?_ (by (try simp only [Heap.next_push, Heap.next_set, Heap.next_room]); omega) (by (try simp only [Heap.next_push, Heap.next_set, Heap.next_room]); omega)) | (refine Same.put ?_ (by simp (disch := omega) only [Heap.get_pushH, Heap.get_setH, hite_same, hite_ne, hite_eq, Heap.get_room, Heap.next_push, Heap.next_set, Heap.next_room, Option.isSome_some, *]) (fun z => by first | (simp; done) | (exfalso; (try simp only [Heap.next_push, Heap.next_set, Heap.next_room] at z); omega)))) : Same H (H.push (mO m)) []).trans hs (by simp)
  have hn1 : H.next < H1.next := by have := hs.le; simp only [Heap.next_push] at this; omega
  cases hr : m.right
  · simp (maxSteps := 5000000) (disch := omega) only [MX, hg, hr, V_P, SX, W_block, exitW, goInt, Int.reduceEq, setCells, oneOf, cellOk, reduceIte, Nat.reduceLT, Nat.reduceLeDiff, Nat.reduceEqDiff, Nat.reduceAdd, Nat.reduceSub, Nat.reduceMul, Int.reduceToNat, Int.reduceLT, Int.reduceLE, Int.reduceAdd, Int.reduceSub, implies_true, ne_eq, if_true, if_false, reduceCtorEq]
    refine ⟨fun _ => rfl, fun h => (by rw [hr] at h; cases h), hs1⟩
  obtain ⟨tk1, tk2, tk3⟩ := texts_ok hr hw
  have hri := fun j => right_i64 hr hw (j := j)
  have ok1 := hs1.ok
  have okn1 : ∀ a, H1.next ≤ a → H1.get a = none := ok1
  have ht := hw.term
  have hst := hw.stan
  simp (maxSteps := 5000000) (disch := omega) only [MX, hg, hr, V_P, SX, W_block, exitW, goInt, Int.reduceEq, setCells, oneOf, cellOk, reduceIte, Nat.reduceLT, Nat.reduceLeDiff, Nat.reduceEqDiff, Nat.reduceAdd, Nat.reduceSub, Nat.reduceMul, Int.reduceToNat, Int.reduceLT, Int.reduceLE, Int.reduceAdd, Int.reduceSub, implies_true, ne_eq, if_true, if_false, reduceCtorEq]
  refine W_drawR [[], [0], [1, 0], [], [3], [4, 3], [5, 4, 3, 2, 1, 0], [2, 1, 0, 6, 5, 4, 3], [7, 2, 1, 0, 6, 5, 4, 3]] [0, 1, 2, 3, 4, 5, 6, 7, 8] (by decide +kernel) (by repeat (first | exact ok1 | refine Ok.push ?_ _ | refine Ok.room ?_ _ | (refine Ok.put ?_ _ (by simp (disch := omega) only [Heap.get_pushH, Heap.get_setH, hite_same, hite_ne, hite_eq, Heap.get_room, Heap.next_push, Heap.next_set, Heap.next_room, Option.isSome_some, *])))) ?_
  simp (maxSteps := 5000000) (disch := omega) only [MX, okn1, hg, V_P, SX, W_block, exitW, goInt, Int.reduceEq, setCells, oneOf, cellOk, reduceIte, Nat.reduceLT, Nat.reduceLeDiff, Nat.reduceEqDiff, Nat.reduceAdd, Nat.reduceSub, Nat.reduceMul, Int.reduceToNat, Int.reduceLT, Int.reduceLE, Int.reduceAdd, Int.reduceSub, implies_true, ne_eq, if_true, if_false, reduceCtorEq, DX, Nat.reduceBEq]
  refine DOpd_callR (by decide) rfl (by simp (maxSteps := 5000000) (disch := omega) only [MX, okn1, hg, V_P, SX, W_block, exitW, goInt, Int.reduceEq, setCells, oneOf, cellOk, reduceIte, Nat.reduceLT, Nat.reduceLeDiff, Nat.reduceEqDiff, Nat.reduceAdd, Nat.reduceSub, Nat.reduceMul, Int.reduceToNat, Int.reduceLT, Int.reduceLE, Int.reduceAdd, Int.reduceSub, implies_true, ne_eq, if_true, if_false, reduceCtorEq, DX, Nat.reduceBEq]) (ndc_kind (m.c 0) _) ?_
  rintro v H2 ⟨rfl, rfl⟩
  refine ⟨isV_string, KeepB.refl, ?_⟩
  simp (maxSteps := 5000000) (disch := omega) only [MX, okn1, hg, V_P, SX, W_block, exitW, goInt, Int.reduceEq, setCells, oneOf, cellOk, reduceIte, Nat.reduceLT, Nat.reduceLeDiff, Nat.reduceEqDiff, Nat.reduceAdd, Nat.reduceSub, Nat.reduceMul, Int.reduceToNat, Int.reduceLT, Int.reduceLE, Int.reduceAdd, Int.reduceSub, implies_true, ne_eq, if_true, if_false, reduceCtorEq, DX, Nat.reduceBEq]
  refine DOpd_callR (by decide) rfl (by simp (maxSteps := 5000000) (disch := omega) only [MX, okn1, hg, V_P, SX, W_block, exitW, goInt, Int.reduceEq, setCells, oneOf, cellOk, reduceIte, Nat.reduceLT, Nat.reduceLeDiff, Nat.reduceEqDiff, Nat.reduceAdd, Nat.reduceSub, Nat.reduceMul, Int.reduceToNat, Int.reduceLT, Int.reduceLE, Int.reduceAdd, Int.reduceSub, implies_true, ne_eq, if_true, if_false, reduceCtorEq, DX, Nat.reduceBEq]) (Ca_is (c_Itoa (m.c 1) _ (hri 1 (by decide) (by decide)).1 (hri 1 (by decide) (by decide)).2)) ?_
  rintro v H2 ⟨rfl, rfl⟩
  refine ⟨isV_string, KeepB.refl, ?_⟩
  simp (maxSteps := 5000000) (disch := omega) only [MX, okn1, hg, V_P, SX, W_block, exitW, goInt, Int.reduceEq, setCells, oneOf, cellOk, reduceIte, Nat.reduceLT, Nat.reduceLeDiff, Nat.reduceEqDiff, Nat.reduceAdd, Nat.reduceSub, Nat.reduceMul, Int.reduceToNat, Int.reduceLT, Int.reduceLE, Int.reduceAdd, Int.reduceSub, implies_true, ne_eq, if_true, if_false, reduceCtorEq, DX, Nat.reduceBEq]
  have hq : (((H1.room 9).set (H1.next + 7) (.cells [.string (kindS (m.c 0)), .string (S (Lib.itoa (m.c 1)))] 9 false))).get H.next = some (mO m) := by
    rw [Heap.get_set, if_neg (by omega), Heap.get_room, hg]
  refine cW_merge (fun t H2 => ∃ b n c, t.get 1 = some (.pointer (some ⟨H.next, 0, none⟩)) ∧ t.get 4 = some (.slice b n c) ∧ n = (if m.c 0 = 3 then 2 else 3) ∧ GRow H2 H.next 9 b n c ((kindS (m.c 0) :: txt (m.c 1) :: (if m.c 0 = 3 then [] else [txt (m.c 2)])).map Value.string) ∧ Same H H2 [] ∧ H.next < H2.next ∧ H2.get H.next = some (mO m)) (fun hc => ?_) (fun hc => ?_) ?_
  · have hk3 : ¬ m.c 0 = 3 := of_decide_eq_true hc
    simp (maxSteps := 5000000) (disch := omega) only [MX, hq, V_P, SX, W_block, exitW, goInt, Int.reduceEq, setCells, oneOf, cellOk, reduceIte, Nat.reduceLT, Nat.reduceLeDiff, Nat.reduceEqDiff, Nat.reduceAdd, Nat.reduceSub, Nat.reduceMul, Int.reduceToNat, Int.reduceLT, Int.reduceLE, Int.reduceAdd, Int.reduceSub, implies_true, ne_eq, if_true, if_false, reduceCtorEq]
    refine W_callR rfl (by simp (maxSteps := 5000000) (disch := omega) only [MX, hq, V_P, SX, W_block, exitW, goInt, Int.reduceEq, setCells, oneOf, cellOk, reduceIte, Nat.reduceLT, Nat.reduceLeDiff, Nat.reduceEqDiff, Nat.reduceAdd, Nat.reduceSub, Nat.reduceMul, Int.reduceToNat, Int.reduceLT, Int.reduceLE, Int.reduceAdd, Int.reduceSub, implies_true, ne_eq, if_true, if_false, reduceCtorEq]) (Ca_is (c_FormatUint (m.c 2) _ hst.1 (by omega))) ?_
    rintro v H2 ⟨rfl, rfl⟩
    simp (maxSteps := 5000000) (disch := omega) only [MX, hq, V_P, SX, W_block, exitW, goInt, Int.reduceEq, setCells, oneOf, cellOk, reduceIte, Nat.reduceLT, Nat.reduceLeDiff, Nat.reduceEqDiff, Nat.reduceAdd, Nat.reduceSub, Nat.reduceMul, Int.reduceToNat, Int.reduceLT, Int.reduceLE, Int.reduceAdd, Int.reduceSub, implies_true, ne_eq, if_true, if_false, reduceCtorEq]
    rw [if_neg hk3, if_neg hk3]
    refine ⟨_, _, _, rfl, rfl, .own (by rw [Heap.get_push, if_pos (by simp only [Heap.next_push, Heap.next_set, Heap.next_room])]; rfl) (by omega) (by decide), by repeat (first | exact hs1 | refine Same.push ?_ _ | refine Same.room ?_ _ | (refine Same.make ?_ (by (try simp only [Heap.next_push, Heap.next_set, Heap.next_room]); omega) (by (try simp only [Heap.next_push, Heap.next_set, Heap.next_room]); omega)) | (refine Same.put ?_ (by simp (disch := omega) only [Heap.get_pushH, Heap.get_setH, hite_same, hite_ne, hite_eq, Heap.get_room, Heap.next_push, Heap.next_set, Heap.next_room, Option.isSome_some, *]) (fun z => by first | (simp; done) | (exfalso; (try simp only [Heap.next_push, Heap.next_set, Heap.next_room] at z); omega)))), by omega⟩
  · have hk3 : m.c 0 = 3 := Decidable.not_not.mp (of_decide_eq_false hc)
    simp (maxSteps := 5000000) (disch := omega) only [MX, hq, V_P, SX, W_block, exitW, goInt, Int.reduceEq, setCells, oneOf, cellOk, reduceIte, Nat.reduceLT, Nat.reduceLeDiff, Nat.reduceEqDiff, Nat.reduceAdd, Nat.reduceSub, Nat.reduceMul, Int.reduceToNat, Int.reduceLT, Int.reduceLE, Int.reduceAdd, Int.reduceSub, implies_true, ne_eq, if_true, if_false, reduceCtorEq]
    rw [if_pos hk3, if_pos hk3]
    refine ⟨_, _, _, rfl, rfl, .full (by rw [Heap.get_set, if_pos rfl]; rfl) (by omega) (by decide), by repeat (first | exact hs1 | refine Same.push ?_ _ | refine Same.room ?_ _ | (refine Same.make ?_ (by (try simp only [Heap.next_push, Heap.next_set, Heap.next_room]); omega) (by (try simp only [Heap.next_push, Heap.next_set, Heap.next_room]); omega)) | (refine Same.put ?_ (by simp (disch := omega) only [Heap.get_pushH, Heap.get_setH, hite_same, hite_ne, hite_eq, Heap.get_room, Heap.next_push, Heap.next_set, Heap.next_room, Option.isSome_some, *]) (fun z => by first | (simp; done) | (exfalso; (try simp only [Heap.next_push, Heap.next_set, Heap.next_room] at z); omega)))), by omega⟩
  rintro t H2 ⟨b, n, c, g1, g4, hn, hm, hs2, hn2, hg2⟩
  have ok2 := hs2.ok
  have okn2 : ∀ a, H2.next ≤ a → H2.get a = none := ok2
  have hri4 := hri 4 (by decide) (by decide)
  simp (maxSteps := 5000000) (disch := omega) only [MX, g1, g4, hg2, V_P, SX, W_block, exitW, goInt, Int.reduceEq, setCells, oneOf, cellOk, reduceIte, Nat.reduceLT, Nat.reduceLeDiff, Nat.reduceEqDiff, Nat.reduceAdd, Nat.reduceSub, Nat.reduceMul, Int.reduceToNat, Int.reduceLT, Int.reduceLE, Int.reduceAdd, Int.reduceSub, implies_true, ne_eq, if_true, if_false, reduceCtorEq]
  refine W_callR rfl (by simp (maxSteps := 5000000) (disch := omega) only [MX, g1, g4, hg2, V_P, SX, W_block, exitW, goInt, Int.reduceEq, setCells, oneOf, cellOk, reduceIte, Nat.reduceLT, Nat.reduceLeDiff, Nat.reduceEqDiff, Nat.reduceAdd, Nat.reduceSub, Nat.reduceMul, Int.reduceToNat, Int.reduceLT, Int.reduceLE, Int.reduceAdd, Int.reduceSub, implies_true, ne_eq, if_true, if_false, reduceCtorEq]) (Ca_is (c_FormatInt (m.c 4) _ hri4.1 hri4.2)) ?_
  rintro v H3 ⟨rfl, e3⟩
  obtain rfl := e3.symm
  generalize hpre : kindS (m.c 0) :: txt (m.c 1) :: (if m.c 0 = 3 then [] else [txt (m.c 2)]) = pre at hm
  have hpl : pre.length = n := by rw [← hpre, hn]; split <;> rfl
  have hcl : (pre.map Value.string).length = n := by rw [List.length_map]; exact hpl
  have hn3 : n ≤ 3 := by rw [hn]; split <;> omega
  have hne := mrow_ne hm hg2 (by decide)
  have hwf := fun i => right_n4 hr (i := i)
  simp (maxSteps := 5000000) (disch := omega) only [MX, g1, g4, hg2, V_P, SX, exitW, goInt, Int.reduceEq, setCells, oneOf, cellOk, reduceIte, Nat.reduceLT, Nat.reduceLeDiff, Nat.reduceEqDiff, Nat.reduceAdd, Nat.reduceSub, Nat.reduceMul, Int.reduceToNat, Int.reduceLT, Int.reduceLE, Int.reduceAdd, Int.reduceSub, implies_true, ne_eq, if_true, if_false, reduceCtorEq]
  refine W_cutL [_] (fun t H3 => ∃ b n c, t.get 4 = some (.slice b n c) ∧ n = m.texts.length ∧ GRow H3 H.next 9 b n c (m.texts.map Value.string) ∧ Same H H3 []) ?_ ?_
  · simp (maxSteps := 5000000) (disch := omega) only [MX, g1, g4, hg2, V_P, SX, W_block, exitW, goInt, Int.reduceEq, setCells, oneOf, cellOk, reduceIte, Nat.reduceLT, Nat.reduceLeDiff, Nat.reduceEqDiff, Nat.reduceAdd, Nat.reduceSub, Nat.reduceMul, Int.reduceToNat, Int.reduceLT, Int.reduceLE, Int.reduceAdd, Int.reduceSub, implies_true, ne_eq, if_true, if_false, reduceCtorEq]
    refine cW_dec (fun h1 => ?_) (fun h1 => ?_)
    · simp (maxSteps := 5000000) (disch := omega) only [MX, g1, g4, hg2, V_P, SX, W_block, exitW, goInt, Int.reduceEq, setCells, oneOf, cellOk, reduceIte, Nat.reduceLT, Nat.reduceLeDiff, Nat.reduceEqDiff, Nat.reduceAdd, Nat.reduceSub, Nat.reduceMul, Int.reduceToNat, Int.reduceLT, Int.reduceLE, Int.reduceAdd, Int.reduceSub, implies_true, ne_eq, if_true, if_false, reduceCtorEq]
      obtain ⟨H4, b4, ap, hm4, hs4, nx, ot, eb, ps, hps⟩ := mrow_app (new := [.string m.pan, .string (S (Lib.itoa (m.c 4)))]) (k := 2) (hs2.push (.cells [.string m.pan, .string (S (Lib.itoa (m.c 4)))] 9 false)) (mrow_push hm ok2 (.cells [.string m.pan, .string (S (Lib.itoa (m.c 4)))] 9 false)) hcl (by decide) (by omega) rfl
      simp (maxSteps := 5000000) (disch := omega) only [MX, g1, g4, hg2, ap, V_P, SX, W_block, exitW, goInt, Int.reduceEq, setCells, oneOf, cellOk, reduceIte, Nat.reduceLT, Nat.reduceLeDiff, Nat.reduceEqDiff, Nat.reduceAdd, Nat.reduceSub, Nat.reduceMul, Int.reduceToNat, Int.reduceLT, Int.reduceLE, Int.reduceAdd, Int.reduceSub, implies_true, ne_eq, if_true, if_false, reduceCtorEq]
      have ht : m.texts = pre ++ [m.pan, txt (m.c 4)] := by
        rw [← hpre]; unfold Msg.texts; rw [h1]; rfl
      refine ⟨_, _, _, rfl, by rw [ht, List.length_append, hpl]; rfl, ?_, hs4⟩
      rw [ht, List.map_append]; exact hm4
    simp (maxSteps := 5000000) (disch := omega) only [MX, g1, g4, hg2, V_P, SX, W_block, exitW, goInt, Int.reduceEq, setCells, oneOf, cellOk, reduceIte, Nat.reduceLT, Nat.reduceLeDiff, Nat.reduceEqDiff, Nat.reduceAdd, Nat.reduceSub, Nat.reduceMul, Int.reduceToNat, Int.reduceLT, Int.reduceLE, Int.reduceAdd, Int.reduceSub, implies_true, ne_eq, if_true, if_false, reduceCtorEq]
    refine cW_dec (fun h2 => ?_) (fun h2 => ?_)
    · simp (maxSteps := 5000000) (disch := omega) only [MX, g1, g4, hg2, V_P, SX, W_block, exitW, goInt, Int.reduceEq, setCells, oneOf, cellOk, reduceIte, Nat.reduceLT, Nat.reduceLeDiff, Nat.reduceEqDiff, Nat.reduceAdd, Nat.reduceSub, Nat.reduceMul, Int.reduceToNat, Int.reduceLT, Int.reduceLE, Int.reduceAdd, Int.reduceSub, implies_true, ne_eq, if_true, if_false, reduceCtorEq]
      refine W_callR rfl (by simp (maxSteps := 5000000) (disch := omega) only [MX, g1, g4, hg2, V_P, SX, W_block, exitW, goInt, Int.reduceEq, setCells, oneOf, cellOk, reduceIte, Nat.reduceLT, Nat.reduceLeDiff, Nat.reduceEqDiff, Nat.reduceAdd, Nat.reduceSub, Nat.reduceMul, Int.reduceToNat, Int.reduceLT, Int.reduceLE, Int.reduceAdd, Int.reduceSub, implies_true, ne_eq, if_true, if_false, reduceCtorEq]) (ndc_notes [m.n4 5, m.n4 9] H2.next 2 false _ (by repeat (first | exact ok2 | refine Ok.push ?_ _ | refine Ok.room ?_ _ | (refine Ok.put ?_ _ (by simp (disch := omega) only [Heap.get_pushH, Heap.get_setH, hite_same, hite_ne, hite_eq, Heap.get_room, Heap.next_push, Heap.next_set, Heap.next_room, Option.isSome_some, *])))) (by rw [Heap.get_push, if_pos rfl]; rfl) (by show 2 ≤ 8; decide) (by intro x hx; simp at hx; rcases hx with rfl | rfl; exact hwf 0 (by decide); exact hwf 1 (by decide))) ?_
      rintro v H3 ⟨⟨b3, n3, c3, rfl, hn3', hm3⟩, hs3⟩
      obtain rfl : n3 = 8 := hn3'
      have hF := mrow_first hm3 (by rfl)
      have hs5 : Same H H3 [] := (hs2.push _).trans hs3 (by simp)
      obtain ⟨H4, b4, ap, hm4, hs4, nx, ot, eb, ps, hps⟩ := mrow_app (k := 8) (new := (([m.n4 5, m.n4 9].flatMap N4.texts).map Value.string)) hs5 (mrow_same (mrow_push hm ok2 _) (by repeat (first | exact ok2 | refine Ok.push ?_ _ | refine Ok.room ?_ _ | (refine Ok.put ?_ _ (by simp (disch := omega) only [Heap.get_pushH, Heap.get_setH, hite_same, hite_ne, hite_eq, Heap.get_room, Heap.next_push, Heap.next_set, Heap.next_room, Option.isSome_some, *])))) hs3) hcl (by decide) (by omega) rfl
      simp (maxSteps := 5000000) (disch := omega) only [MX, g1, g4, hg2, hF, ap, V_P, SX, W_block, exitW, goInt, Int.reduceEq, setCells, oneOf, cellOk, reduceIte, Nat.reduceLT, Nat.reduceLeDiff, Nat.reduceEqDiff, Nat.reduceAdd, Nat.reduceSub, Nat.reduceMul, Int.reduceToNat, Int.reduceLT, Int.reduceLE, Int.reduceAdd, Int.reduceSub, implies_true, ne_eq, if_true, if_false, reduceCtorEq]
      have ht : m.texts = pre ++ [m.n4 5, m.n4 9].flatMap N4.texts := by
        rw [← hpre]; unfold Msg.texts; rw [h2]; rfl
      refine ⟨_, _, _, rfl, by rw [ht, List.length_append, hpl]; rfl, ?_, hs4⟩
      rw [ht, List.map_append]; exact hm4
    simp (maxSteps := 5000000) (disch := omega) only [MX, g1, g4, hg2, V_P, SX, W_block, exitW, goInt, Int.reduceEq, setCells, oneOf, cellOk, reduceIte, Nat.reduceLT, Nat.reduceLeDiff, Nat.reduceEqDiff, Nat.reduceAdd, Nat.reduceSub, Nat.reduceMul, Int.reduceToNat, Int.reduceLT, Int.reduceLE, Int.reduceAdd, Int.reduceSub, implies_true, ne_eq, if_true, if_false, reduceCtorEq]
    refine cW_dec (fun h4 => ?_) (fun h4 => ?_)
    · simp (maxSteps := 5000000) (disch := omega) only [MX, g1, g4, hg2, V_P, SX, W_block, exitW, goInt, Int.reduceEq, setCells, oneOf, cellOk, reduceIte, Nat.reduceLT, Nat.reduceLeDiff, Nat.reduceEqDiff, Nat.reduceAdd, Nat.reduceSub, Nat.reduceMul, Int.reduceToNat, Int.reduceLT, Int.reduceLE, Int.reduceAdd, Int.reduceSub, implies_true, ne_eq, if_true, if_false, reduceCtorEq]
      refine W_callR rfl (by simp (maxSteps := 5000000) (disch := omega) only [MX, g1, g4, hg2, V_P, SX, W_block, exitW, goInt, Int.reduceEq, setCells, oneOf, cellOk, reduceIte, Nat.reduceLT, Nat.reduceLeDiff, Nat.reduceEqDiff, Nat.reduceAdd, Nat.reduceSub, Nat.reduceMul, Int.reduceToNat, Int.reduceLT, Int.reduceLE, Int.reduceAdd, Int.reduceSub, implies_true, ne_eq, if_true, if_false, reduceCtorEq]) (ndc_notes [m.n4 5, m.n4 9, m.n4 13, m.n4 17] H2.next 4 false _ (by repeat (first | exact ok2 | refine Ok.push ?_ _ | refine Ok.room ?_ _ | (refine Ok.put ?_ _ (by simp (disch := omega) only [Heap.get_pushH, Heap.get_setH, hite_same, hite_ne, hite_eq, Heap.get_room, Heap.next_push, Heap.next_set, Heap.next_room, Option.isSome_some, *])))) (by rw [Heap.get_push, if_pos rfl]; rfl) (by show 4 ≤ 8; decide) (by intro x hx; simp at hx; rcases hx with rfl | rfl | rfl | rfl; exact hwf 0 (by decide); exact hwf 1 (by decide); exact hwf 2 (by decide); exact hwf 3 (by decide))) ?_
      rintro v H3 ⟨⟨b3, n3, c3, rfl, hn3', hm3⟩, hs3⟩
      obtain rfl : n3 = 16 := hn3'
      have hF := mrow_first hm3 (by rfl)
      have hs5 : Same H H3 [] := (hs2.push _).trans hs3 (by simp)
      have hmA := mrow_same (mrow_push hm ok2 (.cells (rows4 [m.n4 5, m.n4 9, m.n4 13, m.n4 17]) 25 false)) (by repeat (first | exact ok2 | refine Ok.push ?_ _ | refine Ok.room ?_ _ | (refine Ok.put ?_ _ (by simp (disch := omega) only [Heap.get_pushH, Heap.get_setH, hite_same, hite_ne, hite_eq, Heap.get_room, Heap.next_push, Heap.next_set, Heap.next_room, Option.isSome_some, *])))) hs3
      have hg3 : H3.get H.next = some (mO m) := by rw [hs3.get _ (by rw [Heap.next_push]; omega) (by simp), Heap.get_push, if_neg (by omega), hg2]
      have hn3n := hs3.le
      rw [Heap.next_push] at hn3n
      have hneA := mrow_ne hmA hg3 (by decide)
      obtain ⟨HA, bA, apA, hmB, hsB, nxB, otB, ebB, psB, hpsB⟩ := mrow_app (k := 16) (new := (([m.n4 5, m.n4 9, m.n4 13, m.n4 17].flatMap N4.texts).map Value.string)) hs5 hmA hcl (by decide) (by omega) rfl
      have hgB : HA.get H.next = some (mO m) := by rw [otB _ (by omega) hneA, hg3]
      have okB := hsB.ok
      have oknB : ∀ a, HA.next ≤ a → HA.get a = none := okB
      have hclB : (pre.map Value.string ++ ([m.n4 5, m.n4 9, m.n4 13, m.n4 17].flatMap N4.texts).map Value.string).length = n + 16 := by rw [List.length_append, hcl]; rfl
      have hneB := mrow_ne hmB hgB (by decide)
      simp (maxSteps := 5000000) (disch := omega) only [MX, g1, g4, hg2, hF, apA, V_P, SX, W_block, exitW, goInt, Int.reduceEq, setCells, oneOf, cellOk, reduceIte, Nat.reduceLT, Nat.reduceLeDiff, Nat.reduceEqDiff, Nat.reduceAdd, Nat.reduceSub, Nat.reduceMul, Int.reduceToNat, Int.reduceLT, Int.reduceLE, Int.reduceAdd, Int.reduceSub, implies_true, ne_eq, if_true, if_false, reduceCtorEq]
      refine W_drawLR [[], [], [1], [2, 1], [3, 2, 1], [0, 4, 3, 2, 1], [], [6], [7, 6], [8, 7, 6, 5, 0, 4, 3, 2, 1], [5, 0, 4, 3, 2, 1, 9, 8, 7, 6], [10, 5, 0, 4, 3, 2, 1, 9, 8, 7, 6]] [1, 2, 3, 0, 4, 5, 6, 7, 8, 9, 10, 11] (by decide +kernel) (by repeat (first | exact okB | refine Ok.push ?_ _ | refine Ok.room ?_ _ | (refine Ok.put ?_ _ (by simp (disch := omega) only [Heap.get_pushH, Heap.get_setH, hite_same, hite_ne, hite_eq, Heap.get_room, Heap.next_push, Heap.next_set, Heap.next_room, Option.isSome_some, *])))) ?_
      simp (maxSteps := 5000000) (disch := omega) only [MX, oknB, g1, hgB, V_P, SX, W_block, exitW, goInt, Int.reduceEq, setCells, oneOf, cellOk, reduceIte, Nat.reduceLT, Nat.reduceLeDiff, Nat.reduceEqDiff, Nat.reduceAdd, Nat.reduceSub, Nat.reduceMul, Int.reduceToNat, Int.reduceLT, Int.reduceLE, Int.reduceAdd, Int.reduceSub, implies_true, ne_eq, if_true, if_false, reduceCtorEq, DX, Nat.reduceBEq]
      refine DOpd_callR (by decide) rfl (by simp (maxSteps := 5000000) (disch := omega) only [MX, oknB, g1, hgB, V_P, SX, W_block, exitW, goInt, Int.reduceEq, setCells, oneOf, cellOk, reduceIte, Nat.reduceLT, Nat.reduceLeDiff, Nat.reduceEqDiff, Nat.reduceAdd, Nat.reduceSub, Nat.reduceMul, Int.reduceToNat, Int.reduceLT, Int.reduceLE, Int.reduceAdd, Int.reduceSub, implies_true, ne_eq, if_true, if_false, reduceCtorEq, DX, Nat.reduceBEq]) (Ca_is (c_Itoa (m.c 21) _ (hri 21 (by decide) (by decide)).1 (hri 21 (by decide) (by decide)).2)) ?_
      rintro v H9 ⟨rfl, rfl⟩
      refine ⟨isV_string, KeepB.refl, ?_⟩
      simp (maxSteps := 5000000) (disch := omega) only [MX, oknB, g1, hgB, V_P, SX, W_block, exitW, goInt, Int.reduceEq, setCells, oneOf, cellOk, reduceIte, Nat.reduceLT, Nat.reduceLeDiff, Nat.reduceEqDiff, Nat.reduceAdd, Nat.reduceSub, Nat.reduceMul, Int.reduceToNat, Int.reduceLT, Int.reduceLE, Int.reduceAdd, Int.reduceSub, implies_true, ne_eq, if_true, if_false, reduceCtorEq, DX, Nat.reduceBEq]
      have hd2 : Same HA ((HA.room 12).set (HA.next + 4) (.cells [.string (S (Lib.itoa (m.c 21)))] 9 false)) [] := by repeat (first | exact Same.refl okB | refine Same.push ?_ _ | refine Same.room ?_ _ | (refine Same.make ?_ (by (try simp only [Heap.next_push, Heap.next_set, Heap.next_room]); omega) (by (try simp only [Heap.next_push, Heap.next_set, Heap.next_room]); omega)) | (refine Same.put ?_ (by simp (disch := omega) only [Heap.get_pushH, Heap.get_setH, hite_same, hite_ne, hite_eq, Heap.get_room, Heap.next_push, Heap.next_set, Heap.next_room, Option.isSome_some, *]) (fun z => by first | (simp; done) | (exfalso; (try simp only [Heap.next_push, Heap.next_set, Heap.next_room] at z); omega))))
      generalize hHd : (HA.room 12).set (HA.next + 4) (.cells [.string (S (Lib.itoa (m.c 21)))] 9 false) = Hd at hd2
      have hdn : Hd.next = HA.next + 12 := by rw [← hHd]; rfl
      have hdg : ∀ i, Hd.get i = if i = HA.next + 4 then some (.cells [.string (S (Lib.itoa (m.c 21)))] 9 false) else HA.get i := fun i => by rw [← hHd, Heap.get_set, Heap.get_room]
      obtain ⟨H4, b4, ap, hm4, hs4, nx, ot, eb, ps, hps⟩ := mrow_app (new := [.string (S (Lib.itoa (m.c 21)))]) (k := 1) (hsB.trans hd2 (by simp)) (mrow_same hmB okB hd2) hclB (by decide) (by omega) rfl
      have hot : ∀ i, i < Hd.next → HA.next ≤ i ∨ i = H.next → H4.get i = Hd.get i := fun i hi h => ot i hi fun j hj => by
        rcases h with h | h
        · subst hj
          rcases hmB.ways with ⟨h, _⟩ | ⟨j', h, _, _, _, hg⟩
          · cases h
          · cases h; have := okB.lt hg; omega
        · rw [h]; exact hneB j hj
      have hg4 : H4.get H.next = some (mO m) := by rw [hot _ (by omega) (.inr rfl), hdg, if_neg (by omega), hgB]
      have q2 : H4.get (HA.next + 4) = some (.cells [.string (S (Lib.itoa (m.c 21)))] 9 false) := by rw [hot _ (by omega) (.inl (by omega)), hdg, if_pos rfl]
      have q6 : H4.get (HA.next + 8) = none := by rw [hot _ (by omega) (.inl (by omega)), hdg, if_neg (by omega), oknB _ (by omega)]
      simp (maxSteps := 5000000) (disch := omega) only [MX, oknB, g1, hgB, ap, V_P, SX, W_block, exitW, goInt, Int.reduceEq, setCells, oneOf, cellOk, reduceIte, Nat.reduceLT, Nat.reduceLeDiff, Nat.reduceEqDiff, Nat.reduceAdd, Nat.reduceSub, Nat.reduceMul, Int.reduceToNat, Int.reduceLT, Int.reduceLE, Int.reduceAdd, Int.reduceSub, implies_true, ne_eq, if_true, if_false, reduceCtorEq, DX, Nat.reduceBEq]
      refine ⟨hps.keep (by omega), ?_⟩
      simp (maxSteps := 5000000) (disch := omega) only [MX, oknB, g1, hgB, hg4, q2, q6, hdg, V_P, SX, W_block, exitW, goInt, Int.reduceEq, setCells, oneOf, cellOk, reduceIte, Nat.reduceLT, Nat.reduceLeDiff, Nat.reduceEqDiff, Nat.reduceAdd, Nat.reduceSub, Nat.reduceMul, Int.reduceToNat, Int.reduceLT, Int.reduceLE, Int.reduceAdd, Int.reduceSub, implies_true, ne_eq, if_true, if_false, reduceCtorEq, DX, Nat.reduceBEq]
      have hs5 : Same H (H4.set (HA.next + 8) (.cells [.int .i64 (m.c 22), .int .i64 (m.c 23), .int .i64 (m.c 24), .int .i64 (m.c 25)] 25 false)) [] := by repeat (first | exact hs4 | refine Same.push ?_ _ | refine Same.room ?_ _ | (refine Same.make ?_ (by (try simp only [Heap.next_push, Heap.next_set, Heap.next_room]); omega) (by (try simp only [Heap.next_push, Heap.next_set, Heap.next_room]); omega)) | (refine Same.put ?_ (by simp (disch := omega) only [Heap.get_pushH, Heap.get_setH, hite_same, hite_ne, hite_eq, Heap.get_room, Heap.next_push, Heap.next_set, Heap.next_room, Option.isSome_some, *]) (fun z => by first | (simp; done) | (exfalso; (try simp only [Heap.next_push, Heap.next_set, Heap.next_room] at z); omega))))
      have hm5 := hm4.mono (H2 := H4.set (HA.next + 8) (.cells [.int .i64 (m.c 22), .int .i64 (m.c 23), .int .i64 (m.c 24), .int .i64 (m.c 25)] 25 false)) fun j hj => by
        rw [eb] at hj; cases hj; rw [Heap.get_set, if_neg (by omega)]
      refine DOpd_callR (by decide) rfl (by simp (maxSteps := 5000000) (disch := omega) only [MX, oknB, g1, V_P, SX, W_block, exitW, goInt, Int.reduceEq, setCells, oneOf, cellOk, reduceIte, Nat.reduceLT, Nat.reduceLeDiff, Nat.reduceEqDiff, Nat.reduceAdd, Nat.reduceSub, Nat.reduceMul, Int.reduceToNat, Int.reduceLT, Int.reduceLE, Int.reduceAdd, Int.reduceSub, implies_true, ne_eq, if_true, if_false, reduceCtorEq, DX, Nat.reduceBEq]) (ndc_notes [m.n4 22] (HA.next + 8) 1 false _ hs5.ok (by rw [Heap.get_set, if_pos rfl]; rfl) (by show 1 ≤ 8; decide) (by intro x hx; simp at hx; rcases hx with rfl; exact hwf 4 (by decide))) ?_
      rintro v H6 ⟨⟨b3, n3, c3, rfl, hn3', hm6⟩, hs6⟩
      obtain rfl : n3 = 4 := hn3'
      have hn6 := hs6.le
      rw [Heap.next_set] at hn6
      refine ⟨isV_slice, hs6.keep (by rw [Heap.next_set]; show HA.next + 12 ≤ _; omega), ?_⟩
      have hF := mrow_first hm6 (by rfl)
      obtain ⟨H7, b7, ap7, hm7, hs7, nx7, ot7, eb7, ps7, hps7⟩ := mrow_app (k := 4) (new := (([m.n4 22].flatMap N4.texts).map Value.string)) (hs5.trans hs6 (by simp)) (mrow_same hm5 hs5.ok hs6) (by rw [List.length_append, hclB]; rfl) (by decide) (by omega) rfl
      simp (maxSteps := 5000000) (disch := omega) only [MX, oknB, g1, hF, ap7, V_P, SX, W_block, exitW, goInt, Int.reduceEq, setCells, oneOf, cellOk, reduceIte, Nat.reduceLT, Nat.reduceLeDiff, Nat.reduceEqDiff, Nat.reduceAdd, Nat.reduceSub, Nat.reduceMul, Int.reduceToNat, Int.reduceLT, Int.reduceLE, Int.reduceAdd, Int.reduceSub, implies_true, ne_eq, if_true, if_false, reduceCtorEq, DX, Nat.reduceBEq]
      refine ⟨hps7.keep (by omega), ?_⟩
      have ht : m.texts = pre ++ [m.n4 5, m.n4 9, m.n4 13, m.n4 17].flatMap N4.texts ++ [txt (m.c 21)] ++ [m.n4 22].flatMap N4.texts := by
        rw [← hpre]; unfold Msg.texts; rw [h4]; rfl
      refine ⟨_, _, _, rfl, by rw [ht, List.length_append, List.length_append, List.length_append, hpl]; rfl, ?_, hs7⟩
      rw [ht, List.map_append, List.map_append, List.map_append]; exact hm7
    simp (maxSteps := 5000000) (disch := omega) only [MX, g1, g4, hg2, V_P, SX, W_block, exitW, goInt, Int.reduceEq, setCells, oneOf, cellOk, reduceIte, Nat.reduceLT, Nat.reduceLeDiff, Nat.reduceEqDiff, Nat.reduceAdd, Nat.reduceSub, Nat.reduceMul, Int.reduceToNat, Int.reduceLT, Int.reduceLE, Int.reduceAdd, Int.reduceSub, implies_true, ne_eq, if_true, if_false, reduceCtorEq]
    refine cW_dec (fun h5 => ?_) (fun h5 => ?_)
    · simp (maxSteps := 5000000) (disch := omega) only [MX, g1, g4, hg2, V_P, SX, W_block, exitW, goInt, Int.reduceEq, setCells, oneOf, cellOk, reduceIte, Nat.reduceLT, Nat.reduceLeDiff, Nat.reduceEqDiff, Nat.reduceAdd, Nat.reduceSub, Nat.reduceMul, Int.reduceToNat, Int.reduceLT, Int.reduceLE, Int.reduceAdd, Int.reduceSub, implies_true, ne_eq, if_true, if_false, reduceCtorEq]
      refine W_drawLR [[], [], [1], [0, 2, 1], [], [4], [5, 4], [6, 5, 4, 3, 0, 2, 1], [3, 0, 2, 1, 7, 6, 5, 4], [8, 3, 0, 2, 1, 7, 6, 5, 4]] [0, 1, 2, 3, 4, 5, 6, 7, 8, 9] (by decide +kernel) (by repeat (first | exact ok2 | refine Ok.push ?_ _ | refine Ok.room ?_ _ | (refine Ok.put ?_ _ (by simp (disch := omega) only [Heap.get_pushH, Heap.get_setH, hite_same, hite_ne, hite_eq, Heap.get_room, Heap.next_push, Heap.next_set, Heap.next_room, Option.isSome_some, *])))) ?_
      simp (maxSteps := 5000000) (disch := omega) only [MX, okn2, g1, g4, hg2, V_P, SX, W_block, exitW, goInt, Int.reduceEq, setCells, oneOf, cellOk, reduceIte, Nat.reduceLT, Nat.reduceLeDiff, Nat.reduceEqDiff, Nat.reduceAdd, Nat.reduceSub, Nat.reduceMul, Int.reduceToNat, Int.reduceLT, Int.reduceLE, Int.reduceAdd, Int.reduceSub, implies_true, ne_eq, if_true, if_false, reduceCtorEq, DX, Nat.reduceBEq]
      have hd2 : Same H2 ((H2.room 10).set (H2.next + 2) (.cells [.string (S (Lib.itoa (m.c 4)))] 9 false)) [] := by repeat (first | exact Same.refl ok2 | refine Same.push ?_ _ | refine Same.room ?_ _ | (refine Same.make ?_ (by (try simp only [Heap.next_push, Heap.next_set, Heap.next_room]); omega) (by (try simp only [Heap.next_push, Heap.next_set, Heap.next_room]); omega)) | (refine Same.put ?_ (by simp (disch := omega) only [Heap.get_pushH, Heap.get_setH, hite_same, hite_ne, hite_eq, Heap.get_room, Heap.next_push, Heap.next_set, Heap.next_room, Option.isSome_some, *]) (fun z => by first | (simp; done) | (exfalso; (try simp only [Heap.next_push, Heap.next_set, Heap.next_room] at z); omega))))
      generalize hHd : (H2.room 10).set (H2.next + 2) (.cells [.string (S (Lib.itoa (m.c 4)))] 9 false) = Hd at hd2
      have hdn : Hd.next = H2.next + 10 := by rw [← hHd]; rfl
      have hdg : ∀ i, Hd.get i = if i = H2.next + 2 then some (.cells [.string (S (Lib.itoa (m.c 4)))] 9 false) else H2.get i := fun i => by rw [← hHd, Heap.get_set, Heap.get_room]
      obtain ⟨H4, b4, ap, hm4, hs4, nx, ot, eb, ps, hps⟩ := mrow_app (new := [.string (S (Lib.itoa (m.c 4)))]) (k := 1) (hs2.trans hd2 (by simp)) (mrow_same hm ok2 hd2) hcl (by decide) (by omega) rfl
      have hot : ∀ i, i < Hd.next → H2.next ≤ i ∨ i = H.next → H4.get i = Hd.get i := fun i hi h => ot i hi fun j hj => by
        rcases h with h | h
        · subst hj
          rcases hm.ways with ⟨h, _⟩ | ⟨j', h, _, _, _, hg⟩
          · cases h
          · cases h; have := ok2.lt hg; omega
        · rw [h]; exact hne j hj
      have hg4 : H4.get H.next = some (mO m) := by rw [hot _ (by omega) (.inr rfl), hdg, if_neg (by omega), hg2]
      have q2 : H4.get (H2.next + 2) = some (.cells [.string (S (Lib.itoa (m.c 4)))] 9 false) := by rw [hot _ (by omega) (.inl (by omega)), hdg, if_pos rfl]
      have q6 : H4.get (H2.next + 6) = none := by rw [hot _ (by omega) (.inl (by omega)), hdg, if_neg (by omega), okn2 _ (by omega)]
      simp (maxSteps := 5000000) (disch := omega) only [MX, okn2, g1, g4, hg2, ap, V_P, SX, W_block, exitW, goInt, Int.reduceEq, setCells, oneOf, cellOk, reduceIte, Nat.reduceLT, Nat.reduceLeDiff, Nat.reduceEqDiff, Nat.reduceAdd, Nat.reduceSub, Nat.reduceMul, Int.reduceToNat, Int.reduceLT, Int.reduceLE, Int.reduceAdd, Int.reduceSub, implies_true, ne_eq, if_true, if_false, reduceCtorEq, DX, Nat.reduceBEq]
      refine ⟨hps.keep (by omega), ?_⟩
      simp (maxSteps := 5000000) (disch := omega) only [MX, okn2, g1, g4, hg2, hg4, q2, q6, hdg, V_P, SX, W_block, exitW, goInt, Int.reduceEq, setCells, oneOf, cellOk, reduceIte, Nat.reduceLT, Nat.reduceLeDiff, Nat.reduceEqDiff, Nat.reduceAdd, Nat.reduceSub, Nat.reduceMul, Int.reduceToNat, Int.reduceLT, Int.reduceLE, Int.reduceAdd, Int.reduceSub, implies_true, ne_eq, if_true, if_false, reduceCtorEq, DX, Nat.reduceBEq]
      have hs5 : Same H (H4.set (H2.next + 6) (.cells [.int .i64 (m.c 5), .int .i64 (m.c 6), .int .i64 (m.c 7), .int .i64 (m.c 8)] 25 false)) [] := by repeat (first | exact hs4 | refine Same.push ?_ _ | refine Same.room ?_ _ | (refine Same.make ?_ (by (try simp only [Heap.next_push, Heap.next_set, Heap.next_room]); omega) (by (try simp only [Heap.next_push, Heap.next_set, Heap.next_room]); omega)) | (refine Same.put ?_ (by simp (disch := omega) only [Heap.get_pushH, Heap.get_setH, hite_same, hite_ne, hite_eq, Heap.get_room, Heap.next_push, Heap.next_set, Heap.next_room, Option.isSome_some, *]) (fun z => by first | (simp; done) | (exfalso; (try simp only [Heap.next_push, Heap.next_set, Heap.next_room] at z); omega))))
      have hm5 : GRow (H4.set (H2.next + 6) (.cells [.int .i64 (m.c 5), .int .i64 (m.c 6), .int .i64 (m.c 7), .int .i64 (m.c 8)] 25 false)) H.next 9 b4 (n + 1) capU (pre.map Value.string ++ [.string (S (Lib.itoa (m.c 4)))]) := hm4.mono fun j hj => by
        rw [eb] at hj; cases hj; rw [Heap.get_set, if_neg (by omega)]
      refine DOpd_callR (by decide) rfl (by simp (maxSteps := 5000000) (disch := omega) only [MX, okn2, g1, g4, hg2, V_P, SX, W_block, exitW, goInt, Int.reduceEq, setCells, oneOf, cellOk, reduceIte, Nat.reduceLT, Nat.reduceLeDiff, Nat.reduceEqDiff, Nat.reduceAdd, Nat.reduceSub, Nat.reduceMul, Int.reduceToNat, Int.reduceLT, Int.reduceLE, Int.reduceAdd, Int.reduceSub, implies_true, ne_eq, if_true, if_false, reduceCtorEq, DX, Nat.reduceBEq]) (ndc_notes [m.n4 5] (H2.next + 6) 1 false _ hs5.ok (by rw [Heap.get_set, if_pos rfl]; rfl) (by show 1 ≤ 8; decide) (by intro x hx; simp at hx; rcases hx with rfl; exact hwf 0 (by decide))) ?_
      rintro v H6 ⟨⟨b3, n3, c3, rfl, hn3', hm6⟩, hs6⟩
      obtain rfl : n3 = 4 := hn3'
      have hn6 := hs6.le
      rw [Heap.next_set] at hn6
      refine ⟨isV_slice, hs6.keep (by rw [Heap.next_set]; show H2.next + 10 ≤ _; omega), ?_⟩
      have hF := mrow_first hm6 (by rfl)
      obtain ⟨H7, b7, ap7, hm7, hs7, nx7, ot7, eb7, ps7, hps7⟩ := mrow_app (k := 4) (new := (([m.n4 5].flatMap N4.texts).map Value.string)) (hs5.trans hs6 (by simp)) (mrow_same hm5 hs5.ok hs6) (by rw [List.length_append, hcl]; rfl) (by decide) (by omega) rfl
      simp (maxSteps := 5000000) (disch := omega) only [MX, okn2, g1, g4, hF, ap7, V_P, SX, W_block, exitW, goInt, Int.reduceEq, setCells, oneOf, cellOk, reduceIte, Nat.reduceLT, Nat.reduceLeDiff, Nat.reduceEqDiff, Nat.reduceAdd, Nat.reduceSub, Nat.reduceMul, Int.reduceToNat, Int.reduceLT, Int.reduceLE, Int.reduceAdd, Int.reduceSub, implies_true, ne_eq, if_true, if_false, reduceCtorEq, DX, Nat.reduceBEq]
      refine ⟨hps7.keep (by omega), ?_⟩
      have ht : m.texts = pre ++ [txt (m.c 4)] ++ [m.n4 5].flatMap N4.texts := by
        rw [← hpre]; unfold Msg.texts; rw [h5]; rfl
      refine ⟨_, _, _, rfl, by rw [ht, List.length_append, List.length_append, hpl]; rfl, ?_, hs7⟩
      rw [ht, List.map_append, List.map_append]; exact hm7
    simp (maxSteps := 5000000) (disch := omega) only [MX, g1, g4, hg2, V_P, SX, W_block, exitW, goInt, Int.reduceEq, setCells, oneOf, cellOk, reduceIte, Nat.reduceLT, Nat.reduceLeDiff, Nat.reduceEqDiff, Nat.reduceAdd, Nat.reduceSub, Nat.reduceMul, Int.reduceToNat, Int.reduceLT, Int.reduceLE, Int.reduceAdd, Int.reduceSub, implies_true, ne_eq, if_true, if_false, reduceCtorEq]
    have hk := ((right_iff m).mp hr).1
    have ht : m.texts = pre := by
      rw [← hpre]; unfold Msg.texts
      rcases (show m.c 0 = 3 ∨ m.c 0 = 6 ∨ m.c 0 = 7 by omega) with h | h | h <;> rw [h] <;> rfl
    refine ⟨_, _, _, rfl, by rw [ht, hpl], ?_, hs2⟩
    rw [ht]; exact hm
  rintro t H5 ⟨b, n, c, g4, hn5, hm5, hs5⟩
  have ok5 := hs5.ok
  subst hn5
  simp (maxSteps := 5000000) (disch := omega) only [g4, V_P, SX, W_block, exitW, goInt, Int.reduceEq, setCells, oneOf, cellOk, reduceIte, Nat.reduceLT, Nat.reduceLeDiff, Nat.reduceEqDiff, Nat.reduceAdd, Nat.reduceSub, Nat.reduceMul, Int.reduceToNat, Int.reduceLT, Int.reduceLE, Int.reduceAdd, Int.reduceSub, implies_true, ne_eq, if_true, if_false, reduceCtorEq]
  refine W_callR rfl (by simp (maxSteps := 5000000) (disch := omega) only [g4, V_P, SX, W_block, exitW, goInt, Int.reduceEq, setCells, oneOf, cellOk, reduceIte, Nat.reduceLT, Nat.reduceLeDiff, Nat.reduceEqDiff, Nat.reduceAdd, Nat.reduceSub, Nat.reduceMul, Int.reduceToNat, Int.reduceLT, Int.reduceLE, Int.reduceAdd, Int.reduceSub, implies_true, ne_eq, if_true, if_false, reduceCtorEq]) (wire_Join m.texts b c _ ok5 (mrow_row hm5 (by rw [List.length_map]) sz_9) tk1 tk2 tk3) ?_
  rintro v H6 ⟨⟨i, hi, rfl, hgi⟩, hs6⟩
  simp (maxSteps := 5000000) (disch := omega) only [g4, V_P, SX, W_block, exitW, goInt, Int.reduceEq, setCells, oneOf, cellOk, reduceIte, Nat.reduceLT, Nat.reduceLeDiff, Nat.reduceEqDiff, Nat.reduceAdd, Nat.reduceSub, Nat.reduceMul, Int.reduceToNat, Int.reduceLT, Int.reduceLE, Int.reduceAdd, Int.reduceSub, implies_true, ne_eq, if_true, if_false, reduceCtorEq]
  exact ⟨fun h => (by rw [hr] at h; cases h), fun _ => ⟨i, Nat.le_trans hs5.le hi, rfl, hgi⟩, hs5.trans hs6 (by simp)⟩
end Go.B.YteigefgobkdmgaaDoor
