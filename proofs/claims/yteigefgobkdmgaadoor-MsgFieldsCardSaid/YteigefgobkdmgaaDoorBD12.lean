import Derived.Test.YteigefgobkdmgaaDoorBD11
/- A message's bytes: the document's Put. -/
namespace Go.B.YteigefgobkdmgaaDoor
open Go Go.B Go.Proofs
set_option maxRecDepth 100000
set_option maxHeartbeats 16000000
set_option linter.unusedSimpArgs false
set_option linter.unusedVariables false
theorem ref_DecI {v : Int} (h0 : 0 ≤ v) (h1 : v ≤ 9223372036854775807) (H : Heap) (ok : Ok H) : ∃ v' H', Ca V 25 #[.int .i64 v] H v' H' ∧ v' = .string (txt v) ∧ Same H H' [] := by
  obtain ⟨n, rfl⟩ := Int.eq_ofNat_of_zero_le h0
  obtain ⟨v', H', hc, h2, h3⟩ := ref_Dec n (by omega) H ok
  exact ⟨v', H', hc, by rw [h2, txt, itoa_nat], h3⟩
/-- The cells of a letter. -/
def sl (x : UInt8) : List Nat := if x = 116 then [1] else if x = 115 then [2] else if x = 112 then [3] else if x = 97 then [4] else if x = 108 then [21] else if x = 110 then [5, 6, 7, 8] else if x = 114 then [9, 10, 11, 12] else if x = 99 then [13, 14, 15, 16] else if x = 100 then [17, 18, 19, 20] else [22, 23, 24, 25]
theorem slots_sl {k : Int} (h : 1 ≤ k ∧ k ≤ 7) : slots k = (letL k).flatMap sl := by
  rcases (show k = 1 ∨ k = 2 ∨ k = 3 ∨ k = 4 ∨ k = 5 ∨ k = 6 ∨ k = 7 by omega) with rfl | rfl | rfl | rfl | rfl | rfl | rfl <;> decide
def isLet (x : UInt8) : Prop := x = 116 ∨ x = 115 ∨ x = 112 ∨ x = 97 ∨ x = 108 ∨ ∃ g, g < 5 ∧ x = lett g
theorem letL_let (k : Int) : ∀ x ∈ letL k, isLet x := by
  have h5 : ∀ x : UInt8, x = 116 ∨ x = 115 ∨ x = 112 ∨ x = 97 ∨ x = 108 ∨ x = 110 ∨ x = 114 ∨ x = 99 ∨ x = 100 ∨ x = 109 → isLet x := by
    rintro x (h | h | h | h | h | h | h | h | h | h)
    · exact .inl h
    · exact .inr (.inl h)
    · exact .inr (.inr (.inl h))
    · exact .inr (.inr (.inr (.inl h)))
    · exact .inr (.inr (.inr (.inr (.inl h))))
    · exact .inr (.inr (.inr (.inr (.inr ⟨0, by decide, h⟩))))
    · exact .inr (.inr (.inr (.inr (.inr ⟨1, by decide, h⟩))))
    · exact .inr (.inr (.inr (.inr (.inr ⟨2, by decide, h⟩))))
    · exact .inr (.inr (.inr (.inr (.inr ⟨3, by decide, h⟩))))
    · exact .inr (.inr (.inr (.inr (.inr ⟨4, by decide, h⟩))))
  have hb : (letL k).all (fun x => x == 116 || (x == 115 || (x == 112 || (x == 97 || (x == 108 || (x == 110 || (x == 114 || (x == 99 || (x == 100 || x == 109))))))))) = true := by
    unfold letL
    repeat' split
    all_goals decide
  intro x hx
  have := List.all_eq_true.mp hb x hx
  simp only [Bool.or_eq_true, beq_iff_eq] at this
  exact h5 x this
theorem sl_grp {g : Nat} (h : g < 5) : sl (lett g) = [grp g, grp g + 1, grp g + 2, grp g + 3] := by
  rcases (show g = 0 ∨ g = 1 ∨ g = 2 ∨ g = 3 ∨ g = 4 by omega) with rfl | rfl | rfl | rfl | rfl <;> decide
theorem lett_ne {g : Nat} (h : g < 5) : ((lett g).toNat : Int) ≠ 116 ∧ ((lett g).toNat : Int) ≠ 115 ∧ ((lett g).toNat : Int) ≠ 112 ∧ ((lett g).toNat : Int) ≠ 97 ∧ ((lett g).toNat : Int) ≠ 108 := by
  rcases (show g = 0 ∨ g = 1 ∨ g = 2 ∨ g = 3 ∨ g = 4 by omega) with rfl | rfl | rfl | rfl | rfl <;> decide
theorem mO_at {m : Msg} {g k : Nat} (hg : g < 5) (hk : k < 4) : gcV (grp g + k) 1 (some (mO m)) = some [.int .i64 (m.c (grp g + k))] := by
  rcases (show g = 0 ∨ g = 1 ∨ g = 2 ∨ g = 3 ∨ g = 4 by omega) with rfl | rfl | rfl | rfl | rfl <;> rcases (show k = 0 ∨ k = 1 ∨ k = 2 ∨ k = 3 by omega) with rfl | rfl | rfl | rfl <;> rfl
theorem flat_le {l : List UInt8} : (l.flatMap sl).length ≤ l.length * 4 := by
  induction l with
  | nil => simp
  | cons x l ih =>
    rw [List.flatMap_cons, List.length_append, List.length_cons]
    have : (sl x).length ≤ 4 := by unfold sl; repeat' split
                                   all_goals decide
    omega
theorem S_get {l : List UInt8} {i : Nat} (h : i < l.length) : (S l)[i]? = some l[i] := by
  rw [getElem?_pos (S l) i (by rw [S_size]; exact h)]
  rfl
theorem ref_Put (m : Msg) (H : Heap) (ok : Ok H) (hw : m.wf) : ∃ v H', Ca V 10 #[.agg m.cells.toArray] H v H' ∧ PutR m H v H' := by
  have okn : ∀ a, H.next ≤ a → H.get a = none := ok
  refine Ca_run rfl tab_10 rfl ?_
  simp (maxSteps := 5000000) (disch := omega) only [Tryd.f10, MX, V_P, SX, W_block, exitW, goInt, Int.reduceEq, setCells, oneOf, cellOk, reduceIte, Nat.reduceLT, Nat.reduceLeDiff, Nat.reduceEqDiff, Nat.reduceAdd, Nat.reduceSub, Nat.reduceMul, Int.reduceToNat, Int.reduceLT, Int.reduceLE, Int.reduceAdd, Int.reduceSub, implies_true, ne_eq, if_true, if_false, reduceCtorEq]
  refine W_callR rfl (by simp (maxSteps := 5000000) (disch := omega) only [MX, V_P, SX, W_block, exitW, goInt, Int.reduceEq, setCells, oneOf, cellOk, reduceIte, Nat.reduceLT, Nat.reduceLeDiff, Nat.reduceEqDiff, Nat.reduceAdd, Nat.reduceSub, Nat.reduceMul, Int.reduceToNat, Int.reduceLT, Int.reduceLE, Int.reduceAdd, Int.reduceSub, implies_true, ne_eq, if_true, if_false, reduceCtorEq]) (ref_Right m _ (by repeat (first | exact ok | refine Ok.push ?_ _ | refine Ok.room ?_ _ | (refine Ok.put ?_ _ (by simp (disch := omega) only [Heap.get_pushH, Heap.get_setH, hite_same, hite_ne, hite_eq, Heap.get_room, Heap.next_push, Heap.next_set, Heap.next_room, Option.isSome_some, *])))) hw.pan) ?_
  rintro v H1 ⟨rfl, hs⟩
  have hg : H1.get H.next = some (mO m) := by
    rw [hs.get H.next (by simp only [Heap.next_push]; omega) (by simp)]
    simp only [Heap.get_pushH, hite_same]
  have hs1 : Same H H1 [] := (by repeat (first | exact Same.same ok | refine Same.push ?_ _ | refine Same.room ?_ _ | (refine Same.make ?_ (by (try simp only [Heap.next_push, Heap.next_set, Heap.next_room]); omega) (by (try simp only [Heap.next_push, Heap.next_set, Heap.next_room]); omega)) | (refine Same.put ?_ (by simp (disch := omega) only [Heap.get_pushH, Heap.get_setH, hite_same, hite_ne, hite_eq, Heap.get_room, Heap.next_push, Heap.next_set, Heap.next_room, Option.isSome_some, *]) (fun z => by first | (simp; done) | (exfalso; (try simp only [Heap.next_push, Heap.next_set, Heap.next_room] at z); omega)))) : Same H (H.push (mO m)) []).trans hs (by simp)
  have hn1 : H.next < H1.next := by have := hs.le; simp only [Heap.next_push] at this; omega
  cases hr : m.right
  · simp (maxSteps := 5000000) (disch := omega) only [MX, hg, hr, V_P, SX, W_block, exitW, goInt, Int.reduceEq, setCells, oneOf, cellOk, reduceIte, Nat.reduceLT, Nat.reduceLeDiff, Nat.reduceEqDiff, Nat.reduceAdd, Nat.reduceSub, Nat.reduceMul, Int.reduceToNat, Int.reduceLT, Int.reduceLE, Int.reduceAdd, Int.reduceSub, implies_true, ne_eq, if_true, if_false, reduceCtorEq]
    refine ⟨fun _ => rfl, fun h => (by rw [hr] at h; cases h), hs1⟩
  obtain ⟨tk1, tk2, tk3⟩ := texts_ok hr hw
  have hri := fun j => right_i64 hr hw (j := j)
  have hrf := (right_iff m).mp hr
  have hk := hrf.1
  have ok1 := hs1.ok
  have ht := hw.term
  have hst := hw.stan
  simp (maxSteps := 5000000) (disch := omega) only [MX, hg, hr, V_P, SX, W_block, exitW, goInt, Int.reduceEq, setCells, oneOf, cellOk, reduceIte, Nat.reduceLT, Nat.reduceLeDiff, Nat.reduceEqDiff, Nat.reduceAdd, Nat.reduceSub, Nat.reduceMul, Int.reduceToNat, Int.reduceLT, Int.reduceLE, Int.reduceAdd, Int.reduceSub, implies_true, ne_eq, if_true, if_false, reduceCtorEq]
  refine W_callR rfl (by simp (maxSteps := 5000000) (disch := omega) only [MX, hg, hr, V_P, SX, W_block, exitW, goInt, Int.reduceEq, setCells, oneOf, cellOk, reduceIte, Nat.reduceLT, Nat.reduceLeDiff, Nat.reduceEqDiff, Nat.reduceAdd, Nat.reduceSub, Nat.reduceMul, Int.reduceToNat, Int.reduceLT, Int.reduceLE, Int.reduceAdd, Int.reduceSub, implies_true, ne_eq, if_true, if_false, reduceCtorEq]) (ref_parts (m.c 0) _) ?_
  rintro v H2 ⟨rfl, e2⟩
  obtain rfl := e2.symm
  simp (maxSteps := 5000000) (disch := omega) only [MX, hg, hr, V_P, SX, W_block, exitW, goInt, Int.reduceEq, setCells, oneOf, cellOk, reduceIte, Nat.reduceLT, Nat.reduceLeDiff, Nat.reduceEqDiff, Nat.reduceAdd, Nat.reduceSub, Nat.reduceMul, Int.reduceToNat, Int.reduceLT, Int.reduceLE, Int.reduceAdd, Int.reduceSub, implies_true, ne_eq, if_true, if_false, reduceCtorEq]
  refine W_for (fun (i : Nat) t H2 => ∃ b n c, t.get 1 = some (.pointer (some ⟨H.next, 0, none⟩)) ∧ t.get 5 = some (.string (S (letL (m.c 0)))) ∧ t.get 7 = some (.slice b n c) ∧ t.get 8 = some (.int .i64 i) ∧ i ≤ (letL (m.c 0)).length ∧ n = 1 + (((letL (m.c 0)).take i).flatMap sl).length ∧ GRow H2 H.next 9 b n c ((kindS (m.c 0) :: (((letL (m.c 0)).take i).flatMap sl).map m.text).map Value.string) ∧ Same H H2 [] ∧ H.next < H2.next ∧ H2.get H.next = some (mO m)) (fun i => (letL (m.c 0)).length - i) 0 ?_ ?_
  · simp (maxSteps := 5000000) (disch := omega) only [MX, hg, V_P, SX, W_block, exitW, goInt, Int.reduceEq, setCells, oneOf, cellOk, reduceIte, Nat.reduceLT, Nat.reduceLeDiff, Nat.reduceEqDiff, Nat.reduceAdd, Nat.reduceSub, Nat.reduceMul, Int.reduceToNat, Int.reduceLT, Int.reduceLE, Int.reduceAdd, Int.reduceSub, implies_true, ne_eq, if_true, if_false, reduceCtorEq]
    exact ⟨_, _, _, rfl, rfl, Nat.zero_le _, rfl, .full (by rw [Heap.get_push, if_pos rfl]; rfl) (by omega) (by decide), by repeat (first | exact hs1 | refine Same.push ?_ _ | refine Same.room ?_ _ | (refine Same.make ?_ (by (try simp only [Heap.next_push, Heap.next_set, Heap.next_room]); omega) (by (try simp only [Heap.next_push, Heap.next_set, Heap.next_room]); omega)) | (refine Same.put ?_ (by simp (disch := omega) only [Heap.get_pushH, Heap.get_setH, hite_same, hite_ne, hite_eq, Heap.get_room, Heap.next_push, Heap.next_set, Heap.next_room, Option.isSome_some, *]) (fun z => by first | (simp; done) | (exfalso; (try simp only [Heap.next_push, Heap.next_set, Heap.next_room] at z); omega)))), by omega⟩
  rintro i t H2 ⟨b, n, c, g1, g5, g7, g8, hi, hn, hm, hs2, hn2, hg2⟩
  have ok2 := hs2.ok
  have hl8 := letL_length (m.c 0)
  have hsz : (S (letL (m.c 0))).size = (letL (m.c 0)).length := rfl
  simp (maxSteps := 5000000) (disch := omega) only [g1, g5, g7, g8, hsz, V_P, SX, W_block, exitW, goInt, Int.reduceEq, setCells, oneOf, cellOk, reduceIte, Nat.reduceLT, Nat.reduceLeDiff, Nat.reduceEqDiff, Nat.reduceAdd, Nat.reduceSub, Nat.reduceMul, Int.reduceToNat, Int.reduceLT, Int.reduceLE, Int.reduceAdd, Int.reduceSub, implies_true, ne_eq, if_true, if_false, reduceCtorEq]
  refine cW_dec (fun hlt => ?_) (fun hlt => ?_)
  rotate_left
  · obtain rfl : i = (letL (m.c 0)).length := by omega
    rw [List.take_of_length_le (Nat.le_refl _)] at hn hm
    have htx : m.texts = kindS (m.c 0) :: ((letL (m.c 0)).flatMap sl).map m.text := by unfold Msg.texts; rw [slots_sl hk]
    rw [← htx] at hm
    have hn' : n = m.texts.length := by rw [htx, List.length_cons, List.length_map]; omega
    subst hn'
    simp (maxSteps := 5000000) (disch := omega) only [g1, g5, g7, g8, hsz, V_P, SX, W_block, exitW, goInt, Int.reduceEq, setCells, oneOf, cellOk, reduceIte, Nat.reduceLT, Nat.reduceLeDiff, Nat.reduceEqDiff, Nat.reduceAdd, Nat.reduceSub, Nat.reduceMul, Int.reduceToNat, Int.reduceLT, Int.reduceLE, Int.reduceAdd, Int.reduceSub, implies_true, ne_eq, if_true, if_false, reduceCtorEq]
    refine W_callR rfl (by simp (maxSteps := 5000000) (disch := omega) only [g1, g5, g7, g8, hsz, V_P, SX, W_block, exitW, goInt, Int.reduceEq, setCells, oneOf, cellOk, reduceIte, Nat.reduceLT, Nat.reduceLeDiff, Nat.reduceEqDiff, Nat.reduceAdd, Nat.reduceSub, Nat.reduceMul, Int.reduceToNat, Int.reduceLT, Int.reduceLE, Int.reduceAdd, Int.reduceSub, implies_true, ne_eq, if_true, if_false, reduceCtorEq]) (ref_Join m.texts b c _ ok2 (mrow_row hm (by rw [List.length_map]) sz_9) tk1 tk2 tk3 (by unfold Msg.texts; simp) (by
      show 0 < (kindL (m.c 0)).length
      rcases (show m.c 0 = 1 ∨ m.c 0 = 2 ∨ m.c 0 = 3 ∨ m.c 0 = 4 ∨ m.c 0 = 5 ∨ m.c 0 = 6 ∨ m.c 0 = 7 by omega) with h | h | h | h | h | h | h <;> rw [h] <;> decide)) ?_
    rintro v H6 ⟨⟨j, hj, rfl, hgj⟩, hs6⟩
    simp (maxSteps := 5000000) (disch := omega) only [g1, g5, g7, g8, hsz, V_P, SX, W_block, exitW, goInt, Int.reduceEq, setCells, oneOf, cellOk, reduceIte, Nat.reduceLT, Nat.reduceLeDiff, Nat.reduceEqDiff, Nat.reduceAdd, Nat.reduceSub, Nat.reduceMul, Int.reduceToNat, Int.reduceLT, Int.reduceLE, Int.reduceAdd, Int.reduceSub, implies_true, ne_eq, if_true, if_false, reduceCtorEq]
    exact ⟨fun h => (by rw [hr] at h; cases h), fun _ => ⟨j, Nat.le_trans hs2.le hj, rfl, hgj⟩, hs2.trans hs6 (by simp)⟩
  have hlt' : i < (letL (m.c 0)).length := by omega
  have hx := letL_let (m.c 0) _ (List.getElem_mem hlt')
  have hgx := S_get hlt'
  have htk : (letL (m.c 0)).take (i + 1) = (letL (m.c 0)).take i ++ [(letL (m.c 0))[i]] := List.take_succ_eq_append_getElem hlt'
  generalize (letL (m.c 0))[i] = x at hx hgx htk
  have hfl : ((letL (m.c 0)).take (i + 1)).flatMap sl = ((letL (m.c 0)).take i).flatMap sl ++ sl x := by
    rw [htk, List.flatMap_append, List.flatMap_cons, List.flatMap_nil, List.append_nil]
  have hbd : (((letL (m.c 0)).take i).flatMap sl).length ≤ 32 := by
    have := flat_le (l := (letL (m.c 0)).take i)
    rw [List.length_take] at this
    omega
  generalize hpre : ((letL (m.c 0)).take i).flatMap sl = pre at hn hm hfl hbd
  have hcl : ((kindS (m.c 0) :: pre.map m.text).map Value.string).length = n := by simp; omega
  have hne := mrow_ne hm hg2 (by decide)
  simp (maxSteps := 5000000) (disch := omega) only [g1, g5, g7, g8, hsz, hgx, V_P, SX, W_block, exitW, goInt, Int.reduceEq, setCells, oneOf, cellOk, reduceIte, Nat.reduceLT, Nat.reduceLeDiff, Nat.reduceEqDiff, Nat.reduceAdd, Nat.reduceSub, Nat.reduceMul, Int.reduceToNat, Int.reduceLT, Int.reduceLE, Int.reduceAdd, Int.reduceSub, implies_true, ne_eq, if_true, if_false, reduceCtorEq]
  rcases hx with rfl | rfl | rfl | rfl | rfl | ⟨g, hg5, rfl⟩
  · rw [show ((116 : UInt8).toNat : Int) = 116 from rfl]
    simp (maxSteps := 5000000) (disch := omega) only [MX, g1, g5, g7, g8, hsz, hg2, V_P, SX, W_block, exitW, goInt, Int.reduceEq, setCells, oneOf, cellOk, reduceIte, Nat.reduceLT, Nat.reduceLeDiff, Nat.reduceEqDiff, Nat.reduceAdd, Nat.reduceSub, Nat.reduceMul, Int.reduceToNat, Int.reduceLT, Int.reduceLE, Int.reduceAdd, Int.reduceSub, implies_true, ne_eq, if_true, if_false, reduceCtorEq]
    refine W_callR rfl (by simp (maxSteps := 5000000) (disch := omega) only [MX, g1, g5, g7, g8, hsz, hg2, V_P, SX, W_block, exitW, goInt, Int.reduceEq, setCells, oneOf, cellOk, reduceIte, Nat.reduceLT, Nat.reduceLeDiff, Nat.reduceEqDiff, Nat.reduceAdd, Nat.reduceSub, Nat.reduceMul, Int.reduceToNat, Int.reduceLT, Int.reduceLE, Int.reduceAdd, Int.reduceSub, implies_true, ne_eq, if_true, if_false, reduceCtorEq]) (ref_DecI (v := m.c 1) (by omega) (by omega) _ ok2) ?_
    rintro v H3 ⟨rfl, hs3⟩
    have hg3 : H3.get H.next = some (mO m) := by rw [hs3.get _ hn2 (by simp), hg2]
    have hsA := (hs2.trans hs3 (by simp))
    have hmA := (mrow_same hm ok2 hs3)
    have okA := hsA.ok
    have hneA := mrow_ne hmA hg3 (by decide)
    obtain ⟨H4, b4, ap, hm4, hs4, nx, ot, eb, ps, hps⟩ := mrow_app (new := [.string (txt (m.c 1))]) (k := 1) (hsA.push (.cells [.string (txt (m.c 1))] 9 false)) (mrow_push hmA okA (.cells [.string (txt (m.c 1))] 9 false)) hcl (by decide) (by omega) rfl
    have hlA : H.next < H3.next := by have := hsA.le; have := hs3.le; omega
    have hg4 : H4.get H.next = some (mO m) := by rw [ot _ (by rw [Heap.next_push]; omega) hneA, Heap.get_push, if_neg (by omega), hg3]
    simp (maxSteps := 5000000) (disch := omega) only [MX, g1, g5, g7, g8, hsz, hg2, ap, V_P, SX, W_block, exitW, goInt, Int.reduceEq, setCells, oneOf, cellOk, reduceIte, Nat.reduceLT, Nat.reduceLeDiff, Nat.reduceEqDiff, Nat.reduceAdd, Nat.reduceSub, Nat.reduceMul, Int.reduceToNat, Int.reduceLT, Int.reduceLE, Int.reduceAdd, Int.reduceSub, implies_true, ne_eq, if_true, if_false, reduceCtorEq]
    refine ⟨i + 1, ⟨_, _, _, rfl, by simp, by omega, ?_, ?_, hs4, by rw [nx, Heap.next_push]; omega, hg4⟩, by omega⟩
    · rw [hfl, List.length_append]; simp [sl]; omega
    · rw [hfl]
      simpa [sl, Msg.text] using hm4
  · rw [show ((115 : UInt8).toNat : Int) = 115 from rfl]
    simp (maxSteps := 5000000) (disch := omega) only [MX, g1, g5, g7, g8, hsz, hg2, V_P, SX, W_block, exitW, goInt, Int.reduceEq, setCells, oneOf, cellOk, reduceIte, Nat.reduceLT, Nat.reduceLeDiff, Nat.reduceEqDiff, Nat.reduceAdd, Nat.reduceSub, Nat.reduceMul, Int.reduceToNat, Int.reduceLT, Int.reduceLE, Int.reduceAdd, Int.reduceSub, implies_true, ne_eq, if_true, if_false, reduceCtorEq]
    refine W_callR rfl (by simp (maxSteps := 5000000) (disch := omega) only [MX, g1, g5, g7, g8, hsz, hg2, V_P, SX, W_block, exitW, goInt, Int.reduceEq, setCells, oneOf, cellOk, reduceIte, Nat.reduceLT, Nat.reduceLeDiff, Nat.reduceEqDiff, Nat.reduceAdd, Nat.reduceSub, Nat.reduceMul, Int.reduceToNat, Int.reduceLT, Int.reduceLE, Int.reduceAdd, Int.reduceSub, implies_true, ne_eq, if_true, if_false, reduceCtorEq]) (ref_DecI (v := m.c 2) (by omega) (by omega) _ ok2) ?_
    rintro v H3 ⟨rfl, hs3⟩
    have hg3 : H3.get H.next = some (mO m) := by rw [hs3.get _ hn2 (by simp), hg2]
    have hsA := (hs2.trans hs3 (by simp))
    have hmA := (mrow_same hm ok2 hs3)
    have okA := hsA.ok
    have hneA := mrow_ne hmA hg3 (by decide)
    obtain ⟨H4, b4, ap, hm4, hs4, nx, ot, eb, ps, hps⟩ := mrow_app (new := [.string (txt (m.c 2))]) (k := 1) (hsA.push (.cells [.string (txt (m.c 2))] 9 false)) (mrow_push hmA okA (.cells [.string (txt (m.c 2))] 9 false)) hcl (by decide) (by omega) rfl
    have hlA : H.next < H3.next := by have := hsA.le; have := hs3.le; omega
    have hg4 : H4.get H.next = some (mO m) := by rw [ot _ (by rw [Heap.next_push]; omega) hneA, Heap.get_push, if_neg (by omega), hg3]
    simp (maxSteps := 5000000) (disch := omega) only [MX, g1, g5, g7, g8, hsz, hg2, ap, V_P, SX, W_block, exitW, goInt, Int.reduceEq, setCells, oneOf, cellOk, reduceIte, Nat.reduceLT, Nat.reduceLeDiff, Nat.reduceEqDiff, Nat.reduceAdd, Nat.reduceSub, Nat.reduceMul, Int.reduceToNat, Int.reduceLT, Int.reduceLE, Int.reduceAdd, Int.reduceSub, implies_true, ne_eq, if_true, if_false, reduceCtorEq]
    refine ⟨i + 1, ⟨_, _, _, rfl, by simp, by omega, ?_, ?_, hs4, by rw [nx, Heap.next_push]; omega, hg4⟩, by omega⟩
    · rw [hfl, List.length_append]; simp [sl]; omega
    · rw [hfl]
      simpa [sl, Msg.text] using hm4
  · rw [show ((112 : UInt8).toNat : Int) = 112 from rfl]
    simp (maxSteps := 5000000) (disch := omega) only [MX, g1, g5, g7, g8, hsz, hg2, V_P, SX, W_block, exitW, goInt, Int.reduceEq, setCells, oneOf, cellOk, reduceIte, Nat.reduceLT, Nat.reduceLeDiff, Nat.reduceEqDiff, Nat.reduceAdd, Nat.reduceSub, Nat.reduceMul, Int.reduceToNat, Int.reduceLT, Int.reduceLE, Int.reduceAdd, Int.reduceSub, implies_true, ne_eq, if_true, if_false, reduceCtorEq]
    have hg3 := hg2
    have hsA := hs2
    have hmA := hm
    have okA := hsA.ok
    have hneA := mrow_ne hmA hg3 (by decide)
    obtain ⟨H4, b4, ap, hm4, hs4, nx, ot, eb, ps, hps⟩ := mrow_app (new := [.string (m.pan)]) (k := 1) (hsA.push (.cells [.string (m.pan)] 9 false)) (mrow_push hmA okA (.cells [.string (m.pan)] 9 false)) hcl (by decide) (by omega) rfl
    have hlA : H.next < H2.next := by have := hsA.le; exact hn2
    have hg4 : H4.get H.next = some (mO m) := by rw [ot _ (by rw [Heap.next_push]; omega) hneA, Heap.get_push, if_neg (by omega), hg3]
    simp (maxSteps := 5000000) (disch := omega) only [MX, g1, g5, g7, g8, hsz, hg2, ap, V_P, SX, W_block, exitW, goInt, Int.reduceEq, setCells, oneOf, cellOk, reduceIte, Nat.reduceLT, Nat.reduceLeDiff, Nat.reduceEqDiff, Nat.reduceAdd, Nat.reduceSub, Nat.reduceMul, Int.reduceToNat, Int.reduceLT, Int.reduceLE, Int.reduceAdd, Int.reduceSub, implies_true, ne_eq, if_true, if_false, reduceCtorEq]
    refine ⟨i + 1, ⟨_, _, _, rfl, by simp, by omega, ?_, ?_, hs4, by rw [nx, Heap.next_push]; omega, hg4⟩, by omega⟩
    · rw [hfl, List.length_append]; simp [sl]; omega
    · rw [hfl]
      simpa [sl, Msg.text] using hm4
  · rw [show ((97 : UInt8).toNat : Int) = 97 from rfl]
    simp (maxSteps := 5000000) (disch := omega) only [MX, g1, g5, g7, g8, hsz, hg2, V_P, SX, W_block, exitW, goInt, Int.reduceEq, setCells, oneOf, cellOk, reduceIte, Nat.reduceLT, Nat.reduceLeDiff, Nat.reduceEqDiff, Nat.reduceAdd, Nat.reduceSub, Nat.reduceMul, Int.reduceToNat, Int.reduceLT, Int.reduceLE, Int.reduceAdd, Int.reduceSub, implies_true, ne_eq, if_true, if_false, reduceCtorEq]
    refine W_callR rfl (by simp (maxSteps := 5000000) (disch := omega) only [MX, g1, g5, g7, g8, hsz, hg2, V_P, SX, W_block, exitW, goInt, Int.reduceEq, setCells, oneOf, cellOk, reduceIte, Nat.reduceLT, Nat.reduceLeDiff, Nat.reduceEqDiff, Nat.reduceAdd, Nat.reduceSub, Nat.reduceMul, Int.reduceToNat, Int.reduceLT, Int.reduceLE, Int.reduceAdd, Int.reduceSub, implies_true, ne_eq, if_true, if_false, reduceCtorEq]) (ref_DecI (v := m.c 4) (by omega) (by omega) _ ok2) ?_
    rintro v H3 ⟨rfl, hs3⟩
    have hg3 : H3.get H.next = some (mO m) := by rw [hs3.get _ hn2 (by simp), hg2]
    have hsA := (hs2.trans hs3 (by simp))
    have hmA := (mrow_same hm ok2 hs3)
    have okA := hsA.ok
    have hneA := mrow_ne hmA hg3 (by decide)
    obtain ⟨H4, b4, ap, hm4, hs4, nx, ot, eb, ps, hps⟩ := mrow_app (new := [.string (txt (m.c 4))]) (k := 1) (hsA.push (.cells [.string (txt (m.c 4))] 9 false)) (mrow_push hmA okA (.cells [.string (txt (m.c 4))] 9 false)) hcl (by decide) (by omega) rfl
    have hlA : H.next < H3.next := by have := hsA.le; have := hs3.le; omega
    have hg4 : H4.get H.next = some (mO m) := by rw [ot _ (by rw [Heap.next_push]; omega) hneA, Heap.get_push, if_neg (by omega), hg3]
    simp (maxSteps := 5000000) (disch := omega) only [MX, g1, g5, g7, g8, hsz, hg2, ap, V_P, SX, W_block, exitW, goInt, Int.reduceEq, setCells, oneOf, cellOk, reduceIte, Nat.reduceLT, Nat.reduceLeDiff, Nat.reduceEqDiff, Nat.reduceAdd, Nat.reduceSub, Nat.reduceMul, Int.reduceToNat, Int.reduceLT, Int.reduceLE, Int.reduceAdd, Int.reduceSub, implies_true, ne_eq, if_true, if_false, reduceCtorEq]
    refine ⟨i + 1, ⟨_, _, _, rfl, by simp, by omega, ?_, ?_, hs4, by rw [nx, Heap.next_push]; omega, hg4⟩, by omega⟩
    · rw [hfl, List.length_append]; simp [sl]; omega
    · rw [hfl]
      simpa [sl, Msg.text] using hm4
  · rw [show ((108 : UInt8).toNat : Int) = 108 from rfl]
    simp (maxSteps := 5000000) (disch := omega) only [MX, g1, g5, g7, g8, hsz, hg2, V_P, SX, W_block, exitW, goInt, Int.reduceEq, setCells, oneOf, cellOk, reduceIte, Nat.reduceLT, Nat.reduceLeDiff, Nat.reduceEqDiff, Nat.reduceAdd, Nat.reduceSub, Nat.reduceMul, Int.reduceToNat, Int.reduceLT, Int.reduceLE, Int.reduceAdd, Int.reduceSub, implies_true, ne_eq, if_true, if_false, reduceCtorEq]
    refine W_callR rfl (by simp (maxSteps := 5000000) (disch := omega) only [MX, g1, g5, g7, g8, hsz, hg2, V_P, SX, W_block, exitW, goInt, Int.reduceEq, setCells, oneOf, cellOk, reduceIte, Nat.reduceLT, Nat.reduceLeDiff, Nat.reduceEqDiff, Nat.reduceAdd, Nat.reduceSub, Nat.reduceMul, Int.reduceToNat, Int.reduceLT, Int.reduceLE, Int.reduceAdd, Int.reduceSub, implies_true, ne_eq, if_true, if_false, reduceCtorEq]) (ref_DecI (v := m.c 21) (by omega) (by omega) _ ok2) ?_
    rintro v H3 ⟨rfl, hs3⟩
    have hg3 : H3.get H.next = some (mO m) := by rw [hs3.get _ hn2 (by simp), hg2]
    have hsA := (hs2.trans hs3 (by simp))
    have hmA := (mrow_same hm ok2 hs3)
    have okA := hsA.ok
    have hneA := mrow_ne hmA hg3 (by decide)
    obtain ⟨H4, b4, ap, hm4, hs4, nx, ot, eb, ps, hps⟩ := mrow_app (new := [.string (txt (m.c 21))]) (k := 1) (hsA.push (.cells [.string (txt (m.c 21))] 9 false)) (mrow_push hmA okA (.cells [.string (txt (m.c 21))] 9 false)) hcl (by decide) (by omega) rfl
    have hlA : H.next < H3.next := by have := hsA.le; have := hs3.le; omega
    have hg4 : H4.get H.next = some (mO m) := by rw [ot _ (by rw [Heap.next_push]; omega) hneA, Heap.get_push, if_neg (by omega), hg3]
    simp (maxSteps := 5000000) (disch := omega) only [MX, g1, g5, g7, g8, hsz, hg2, ap, V_P, SX, W_block, exitW, goInt, Int.reduceEq, setCells, oneOf, cellOk, reduceIte, Nat.reduceLT, Nat.reduceLeDiff, Nat.reduceEqDiff, Nat.reduceAdd, Nat.reduceSub, Nat.reduceMul, Int.reduceToNat, Int.reduceLT, Int.reduceLE, Int.reduceAdd, Int.reduceSub, implies_true, ne_eq, if_true, if_false, reduceCtorEq]
    refine ⟨i + 1, ⟨_, _, _, rfl, by simp, by omega, ?_, ?_, hs4, by rw [nx, Heap.next_push]; omega, hg4⟩, by omega⟩
    · rw [hfl, List.length_append]; simp [sl]; omega
    · rw [hfl]
      simpa [sl, Msg.text] using hm4
  · obtain ⟨q1, q2, q3, q4, q5⟩ := lett_ne hg5
    iterate 5
      all_goals (try (refine cW_dec (fun h => absurd h (by assumption)) (fun _ => ?_)))
      all_goals (try (simp (maxSteps := 5000000) (disch := omega) only [MX, g1, g5, g7, g8, hsz, hg2, hgx, V_P, SX, W_block, exitW, goInt, Int.reduceEq, setCells, oneOf, cellOk, reduceIte, Nat.reduceLT, Nat.reduceLeDiff, Nat.reduceEqDiff, Nat.reduceAdd, Nat.reduceSub, Nat.reduceMul, Int.reduceToNat, Int.reduceLT, Int.reduceLE, Int.reduceAdd, Int.reduceSub, implies_true, ne_eq, if_true, if_false, reduceCtorEq]))
    refine W_callR rfl (by simp (maxSteps := 5000000) (disch := omega) only [MX, g1, g5, g7, g8, hsz, hg2, hgx, V_P, SX, W_block, exitW, goInt, Int.reduceEq, setCells, oneOf, cellOk, reduceIte, Nat.reduceLT, Nat.reduceLeDiff, Nat.reduceEqDiff, Nat.reduceAdd, Nat.reduceSub, Nat.reduceMul, Int.reduceToNat, Int.reduceLT, Int.reduceLE, Int.reduceAdd, Int.reduceSub, implies_true, ne_eq, if_true, if_false, reduceCtorEq]) (ref_notes H.next g hg5 _) ?_
    rintro v H3 ⟨rfl, e3⟩
    obtain rfl := e3.symm
    have hw5 := within_iff.mp (hrf.2.2.2.2 g hg5)
    have hm5 : mostG g ≤ 2147483647 := by unfold mostG; split <;> omega
    have hgr : 5 ≤ grp g := by unfold grp; repeat' split
                               all_goals omega
    simp (maxSteps := 5000000) (disch := omega) only [MX, g1, g5, g7, g8, hsz, hg2, hgx, V_P, SX, W_block, exitW, goInt, Int.reduceEq, setCells, oneOf, cellOk, reduceIte, Nat.reduceLT, Nat.reduceLeDiff, Nat.reduceEqDiff, Nat.reduceAdd, Nat.reduceSub, Nat.reduceMul, Int.reduceToNat, Int.reduceLT, Int.reduceLE, Int.reduceAdd, Int.reduceSub, implies_true, ne_eq, if_true, if_false, reduceCtorEq]
    refine W_for (fun (k : Nat) t H3 => ∃ b n c, t.get 1 = some (.pointer (some ⟨H.next, 0, none⟩)) ∧ t.get 5 = some (.string (S (letL (m.c 0)))) ∧ t.get 7 = some (.slice b n c) ∧ t.get 8 = some (.int .i64 i) ∧ t.get 9 = some (.pointer (some ⟨H.next, grp g, none⟩)) ∧ t.get 11 = some (.int .i64 k) ∧ k ≤ 4 ∧ n = 1 + pre.length + k ∧ GRow H3 H.next 9 b n c ((kindS (m.c 0) :: (pre ++ (List.range k).map (grp g + ·)).map m.text).map Value.string) ∧ Same H H3 [] ∧ H.next < H3.next ∧ H3.get H.next = some (mO m)) (fun k => 4 - k) 0 ?_ ?_
    · simp (maxSteps := 5000000) (disch := omega) only [g1, g5, g7, g8, hg2, V_P, SX, W_block, exitW, goInt, Int.reduceEq, setCells, oneOf, cellOk, reduceIte, Nat.reduceLT, Nat.reduceLeDiff, Nat.reduceEqDiff, Nat.reduceAdd, Nat.reduceSub, Nat.reduceMul, Int.reduceToNat, Int.reduceLT, Int.reduceLE, Int.reduceAdd, Int.reduceSub, implies_true, ne_eq, if_true, if_false, reduceCtorEq]
      exact ⟨b, n, c, rfl, rfl, hn, by simpa using hm, hs2, hn2⟩
    rintro k t H3 ⟨b, n, c, g1, g5, g7, g8, g9, g11, hk4, hn3, hm3, hs3, hn4, hg3⟩
    have ok3 := hs3.ok
    simp (maxSteps := 5000000) (disch := omega) only [g1, g5, g7, g8, g9, g11, V_P, SX, W_block, exitW, goInt, Int.reduceEq, setCells, oneOf, cellOk, reduceIte, Nat.reduceLT, Nat.reduceLeDiff, Nat.reduceEqDiff, Nat.reduceAdd, Nat.reduceSub, Nat.reduceMul, Int.reduceToNat, Int.reduceLT, Int.reduceLE, Int.reduceAdd, Int.reduceSub, implies_true, ne_eq, if_true, if_false, reduceCtorEq]
    refine cW_dec (fun hlt4 => ?_) (fun hlt4 => ?_)
    rotate_left
    · obtain rfl : k = 4 := by omega
      simp (maxSteps := 5000000) (disch := omega) only [g1, g5, g7, g8, g9, g11, V_P, SX, W_block, exitW, goInt, Int.reduceEq, setCells, oneOf, cellOk, reduceIte, Nat.reduceLT, Nat.reduceLeDiff, Nat.reduceEqDiff, Nat.reduceAdd, Nat.reduceSub, Nat.reduceMul, Int.reduceToNat, Int.reduceLT, Int.reduceLE, Int.reduceAdd, Int.reduceSub, implies_true, ne_eq, if_true, if_false, reduceCtorEq]
      refine ⟨i + 1, ⟨b, n, c, rfl, by simp, by omega, ?_, ?_, hs3, hn4, hg3⟩, by omega⟩
      · rw [hfl, List.length_append, sl_grp hg5]; simp; omega
      · rw [hfl, sl_grp hg5]; exact hm3
    have hk5 : k < 4 := by omega
    have hgk : gcV (grp g + k) 1 (H3.get H.next) = some [.int .i64 (m.c (grp g + k))] := by rw [hg3]; exact mO_at hg5 hk5
    have hck : 0 ≤ m.c (grp g + k) ∧ m.c (grp g + k) ≤ 2147483647 := by
      unfold Msg.n4 at hw5
      rcases (show k = 0 ∨ k = 1 ∨ k = 2 ∨ k = 3 by omega) with rfl | rfl | rfl | rfl
      · exact ⟨hw5.1.1, Int.le_trans hw5.1.2 hm5⟩
      · exact ⟨hw5.2.1.1, Int.le_trans hw5.2.1.2 hm5⟩
      · exact ⟨hw5.2.2.1.1, Int.le_trans hw5.2.2.1.2 hm5⟩
      · exact ⟨hw5.2.2.2.1, Int.le_trans hw5.2.2.2.2 hm5⟩
    simp (maxSteps := 5000000) (disch := omega) only [g1, g5, g7, g8, g9, g11, hgk, V_P, SX, W_block, exitW, goInt, Int.reduceEq, setCells, oneOf, cellOk, reduceIte, Nat.reduceLT, Nat.reduceLeDiff, Nat.reduceEqDiff, Nat.reduceAdd, Nat.reduceSub, Nat.reduceMul, Int.reduceToNat, Int.reduceLT, Int.reduceLE, Int.reduceAdd, Int.reduceSub, implies_true, ne_eq, if_true, if_false, reduceCtorEq]
    refine W_callR rfl (by simp (maxSteps := 5000000) (disch := omega) only [g1, g5, g7, g8, g9, g11, hgk, V_P, SX, W_block, exitW, goInt, Int.reduceEq, setCells, oneOf, cellOk, reduceIte, Nat.reduceLT, Nat.reduceLeDiff, Nat.reduceEqDiff, Nat.reduceAdd, Nat.reduceSub, Nat.reduceMul, Int.reduceToNat, Int.reduceLT, Int.reduceLE, Int.reduceAdd, Int.reduceSub, implies_true, ne_eq, if_true, if_false, reduceCtorEq]) (ref_DecI (v := m.c (grp g + k)) hck.1 (by omega) _ ok3) ?_
    rintro v H4 ⟨rfl, hs4⟩
    have hgA : H4.get H.next = some (mO m) := by rw [hs4.get _ hn4 (by simp), hg3]
    have hsA := hs3.trans hs4 (by simp)
    have hmA := mrow_same hm3 ok3 hs4
    have okA := hsA.ok
    have hneA := mrow_ne hmA hgA (by decide)
    obtain ⟨H5, b5, ap, hm5', hs5, nx, ot, eb, ps, hps⟩ := mrow_app (new := [.string (txt (m.c (grp g + k)))]) (k := 1) (hsA.push (.cells [.string (txt (m.c (grp g + k)))] 9 false)) (mrow_push hmA okA (.cells [.string (txt (m.c (grp g + k)))] 9 false)) (by simp; omega) (by decide) (by omega) rfl
    have hlA : H.next < H4.next := by have := hs4.le; omega
    have hg5' : H5.get H.next = some (mO m) := by rw [ot _ (by rw [Heap.next_push]; omega) hneA, Heap.get_push, if_neg (by omega), hgA]
    simp (maxSteps := 5000000) (disch := omega) only [g1, g5, g7, g8, g9, g11, hgk, ap, V_P, SX, W_block, exitW, goInt, Int.reduceEq, setCells, oneOf, cellOk, reduceIte, Nat.reduceLT, Nat.reduceLeDiff, Nat.reduceEqDiff, Nat.reduceAdd, Nat.reduceSub, Nat.reduceMul, Int.reduceToNat, Int.reduceLT, Int.reduceLE, Int.reduceAdd, Int.reduceSub, implies_true, ne_eq, if_true, if_false, reduceCtorEq]
    refine ⟨k + 1, ⟨_, _, _, rfl, by simp, by omega, by omega, ?_, hs5, by rw [nx, Heap.next_push]; omega, hg5'⟩, by omega⟩
    have htx : m.text (grp g + k) = txt (m.c (grp g + k)) := if_neg (by omega)
    rw [List.range_succ]
    simpa [htx] using hm5'
end Go.B.YteigefgobkdmgaaDoor
