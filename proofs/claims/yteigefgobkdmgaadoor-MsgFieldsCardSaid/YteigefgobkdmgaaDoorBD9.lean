import Derived.Test.YteigefgobkdmgaaDoorBD8
/- Numbers of notes as parts. -/
namespace Go.B.YteigefgobkdmgaaDoor
open Go Go.B Go.Proofs
set_option maxRecDepth 100000
set_option maxHeartbeats 16000000
set_option linter.unusedSimpArgs false
set_option linter.unusedVariables false
def txt (v : Int) : ByteArray := S (Lib.itoa v)
def N4.texts (n : N4) : List ByteArray := [txt n.a, txt n.b, txt n.c, txt n.d]
def i64 (v : Int) : Prop := -9223372036854775808 ≤ v ∧ v ≤ 9223372036854775807
def N4.wf (n : N4) : Prop := i64 n.a ∧ i64 n.b ∧ i64 n.c ∧ i64 n.d
theorem texts_len (l : List N4) : (l.flatMap N4.texts).length = l.length * 4 := by
  induction l with
  | nil => rfl
  | cons a r ih => rw [List.flatMap_cons, List.length_append, ih]; simp [N4.texts]; omega
theorem ndc_notes (l : List N4) (p c : Nat) (ro : Bool) (H : Heap) (ok : Ok H) (hp : H.get p = some (.cells (rows4 l) 25 ro)) (hl : l.length ≤ 8) (hv : ∀ n ∈ l, n.wf) :
    ∃ v H', Ca V 22 #[.slice (some ⟨p, 0, none⟩) l.length c] H v H' ∧ (∃ b n co, v = .slice b n co ∧ n = l.length * 4 ∧ GRow H' H.next 9 b n co ((l.flatMap N4.texts).map Value.string)) ∧ Same H H' [] := by
  refine Ca_run rfl tab_22 rfl ?_
  simp (maxSteps := 5000000) (disch := omega) only [Tryd.f22, V_P, SX, W_block, exitW, goInt, Int.reduceEq, setCells, oneOf, cellOk, reduceIte, Nat.reduceLT, Nat.reduceLeDiff, Nat.reduceEqDiff, Nat.reduceAdd, Nat.reduceSub, Nat.reduceMul, Int.reduceToNat, Int.reduceLT, Int.reduceLE, Int.reduceAdd, Int.reduceSub, implies_true, ne_eq, if_true, if_false, reduceCtorEq]
  refine W_for (fun (i : Nat) t H2 => ∃ b n co, t.get 8 = some (.slice (some ⟨p, 0, none⟩) l.length c) ∧ t.get 9 = some (.int .i64 l.length) ∧ t.get 10 = some (.int .i64 i) ∧ i ≤ l.length ∧ t.get 3 = some (.slice b n co) ∧ n = i * 4 ∧ GRow H2 H.next 9 b n co (((l.take i).flatMap N4.texts).map Value.string) ∧ Same H H2 []) (fun i => l.length - i) 0 ?_ ?_
  · simp (maxSteps := 5000000) (disch := omega) only [V_P, SX, W_block, exitW, goInt, Int.reduceEq, setCells, oneOf, cellOk, reduceIte, Nat.reduceLT, Nat.reduceLeDiff, Nat.reduceEqDiff, Nat.reduceAdd, Nat.reduceSub, Nat.reduceMul, Int.reduceToNat, Int.reduceLT, Int.reduceLE, Int.reduceAdd, Int.reduceSub, implies_true, ne_eq, if_true, if_false, reduceCtorEq]
    exact ⟨none, 0, 0, rfl, Nat.zero_le _, rfl, rfl, .nil, Same.refl ok⟩
  rintro i t H2 ⟨b, n, co, g8, g9, g10, hi, g3, hn, hm, hs⟩
  simp (maxSteps := 5000000) (disch := omega) only [g8, g9, g10, g3, V_P, SX, W_block, exitW, goInt, Int.reduceEq, setCells, oneOf, cellOk, reduceIte, Nat.reduceLT, Nat.reduceLeDiff, Nat.reduceEqDiff, Nat.reduceAdd, Nat.reduceSub, Nat.reduceMul, Int.reduceToNat, Int.reduceLT, Int.reduceLE, Int.reduceAdd, Int.reduceSub, implies_true, ne_eq, if_true, if_false, reduceCtorEq]
  refine cW_dec (fun hlt => ?_) (fun hlt => ?_)
  rotate_left
  · obtain rfl : i = l.length := by omega
    rw [List.take_of_length_le (Nat.le_refl _)] at hm
    simp (maxSteps := 5000000) (disch := omega) only [g8, g9, g10, g3, V_P, SX, W_block, exitW, goInt, Int.reduceEq, setCells, oneOf, cellOk, reduceIte, Nat.reduceLT, Nat.reduceLeDiff, Nat.reduceEqDiff, Nat.reduceAdd, Nat.reduceSub, Nat.reduceMul, Int.reduceToNat, Int.reduceLT, Int.reduceLE, Int.reduceAdd, Int.reduceSub, implies_true, ne_eq, if_true, if_false, reduceCtorEq]
    exact ⟨⟨b, n, co, rfl, hn, hm⟩, hs⟩
  have hlt' : i < l.length := by omega
  have hx : l[i]? = some l[i] := List.getElem?_eq_getElem hlt'
  have hw := hv l[i] (List.getElem_mem hlt')
  have htk : l.take (i + 1) = l.take i ++ [l[i]] := List.take_succ_eq_append_getElem hlt'
  generalize l[i] = x at hx hw htk
  have hpl := ok.lt hp
  have hgc : gcV (i * 4) 4 (H2.get p) = some [.int .i64 x.a, .int .i64 x.b, .int .i64 x.c, .int .i64 x.d] := by
    rw [hs.get p hpl (by simp), hp]; exact rows4_get hx
  have ok2 := hs.ok
  have hne : (p = H2.next) = False := by have := hs.le; simp; omega
  obtain ⟨wa, wb, wc, wd⟩ := hw
  have hcl : (((l.take i).flatMap N4.texts).map Value.string).length = n := by rw [List.length_map, texts_len, List.length_take]; omega
  generalize hcs : ((l.take i).flatMap N4.texts).map Value.string = cs at hm hcl
  simp (maxSteps := 5000000) (disch := omega) only [g8, g9, g10, g3, hgc, V_P, SX, W_block, exitW, goInt, Int.reduceEq, setCells, oneOf, cellOk, reduceIte, Nat.reduceLT, Nat.reduceLeDiff, Nat.reduceEqDiff, Nat.reduceAdd, Nat.reduceSub, Nat.reduceMul, Int.reduceToNat, Int.reduceLT, Int.reduceLE, Int.reduceAdd, Int.reduceSub, implies_true, ne_eq, if_true, if_false, reduceCtorEq]
  refine W_gen (fun t H' => t.get 8 = some (.slice (some ⟨p, 0, none⟩) l.length c) ∧ t.get 9 = some (.int .i64 l.length) ∧ t.get 10 = some (.int .i64 i) ∧ t.get 3 = some (.slice b n co) ∧ t.get 14 = some (.agg #[.int .i64 x.a, .int .i64 x.b, .int .i64 x.c, .int .i64 x.d]) ∧ t.get 15 = some (.int .i64 0) ∧ GRow H' H.next 9 b n co cs ∧ Same H H' []) ?_ ?_
  · simp (maxSteps := 5000000) (disch := omega) only [g8, g9, g10, g3, V_P, SX, W_block, exitW, goInt, Int.reduceEq, setCells, oneOf, cellOk, reduceIte, Nat.reduceLT, Nat.reduceLeDiff, Nat.reduceEqDiff, Nat.reduceAdd, Nat.reduceSub, Nat.reduceMul, Int.reduceToNat, Int.reduceLT, Int.reduceLE, Int.reduceAdd, Int.reduceSub, implies_true, ne_eq, if_true, if_false, reduceCtorEq]
    refine ⟨hm.mono fun j hj => ?_, (hs.push _).set (by rw [Heap.get_push, if_pos rfl]) (fun h => absurd h (by have := hs.le; omega))⟩
    subst hj
    rcases hm.ways with ⟨h, _⟩ | ⟨j', h, _, _, _, hg⟩
    · cases h
    · cases h
      have := ok2.lt hg
      rw [Heap.get_set, if_neg (by omega), Heap.get_push, if_neg (by omega)]
  rintro t H0 ⟨g8, g9, g10, g3, g14, g15, hm0, hs0⟩
  refine W_unroll ?_
  simp (maxSteps := 5000000) (disch := omega) only [g8, g9, g10, g3, g14, g15, V_P, SX, W_block, exitW, goInt, Int.reduceEq, setCells, oneOf, cellOk, reduceIte, Nat.reduceLT, Nat.reduceLeDiff, Nat.reduceEqDiff, Nat.reduceAdd, Nat.reduceSub, Nat.reduceMul, Int.reduceToNat, Int.reduceLT, Int.reduceLE, Int.reduceAdd, Int.reduceSub, implies_true, ne_eq, if_true, if_false, reduceCtorEq]
  refine W_callR rfl (by simp (maxSteps := 5000000) (disch := omega) only [g8, g9, g10, g3, g14, g15, V_P, SX, W_block, exitW, goInt, Int.reduceEq, setCells, oneOf, cellOk, reduceIte, Nat.reduceLT, Nat.reduceLeDiff, Nat.reduceEqDiff, Nat.reduceAdd, Nat.reduceSub, Nat.reduceMul, Int.reduceToNat, Int.reduceLT, Int.reduceLE, Int.reduceAdd, Int.reduceSub, implies_true, ne_eq, if_true, if_false, reduceCtorEq]) (Ca_is (c_Itoa x.a _ wa.1 wa.2)) ?_
  rintro v H9 ⟨rfl, rfl⟩
  obtain ⟨H3, b3, ap1, hm1, hs1, nx1, ot1, eb1, _⟩ := mrow_app (new := [.string (S (Lib.itoa x.a))]) (k := 1) (hs0.push (.cells [.string (S (Lib.itoa x.a))] 9 false)) (mrow_push hm0 hs0.ok (.cells [.string (S (Lib.itoa x.a))] 9 false)) hcl (by decide) (by omega) rfl
  have hcl0x : (cs ++ [Value.string (S (Lib.itoa x.a))]).length = n + 1 := by simp only [List.length_append, List.length_cons, List.length_nil]; omega
  simp (maxSteps := 5000000) (disch := omega) only [g8, g9, g10, g3, g14, g15, ap1, V_P, SX, W_block, exitW, goInt, Int.reduceEq, setCells, oneOf, cellOk, reduceIte, Nat.reduceLT, Nat.reduceLeDiff, Nat.reduceEqDiff, Nat.reduceAdd, Nat.reduceSub, Nat.reduceMul, Int.reduceToNat, Int.reduceLT, Int.reduceLE, Int.reduceAdd, Int.reduceSub, implies_true, ne_eq, if_true, if_false, reduceCtorEq]
  refine W_unroll ?_
  simp (maxSteps := 5000000) (disch := omega) only [g8, g9, g10, g3, g14, g15, V_P, SX, W_block, exitW, goInt, Int.reduceEq, setCells, oneOf, cellOk, reduceIte, Nat.reduceLT, Nat.reduceLeDiff, Nat.reduceEqDiff, Nat.reduceAdd, Nat.reduceSub, Nat.reduceMul, Int.reduceToNat, Int.reduceLT, Int.reduceLE, Int.reduceAdd, Int.reduceSub, implies_true, ne_eq, if_true, if_false, reduceCtorEq]
  refine W_callR rfl (by simp (maxSteps := 5000000) (disch := omega) only [g8, g9, g10, g3, g14, g15, V_P, SX, W_block, exitW, goInt, Int.reduceEq, setCells, oneOf, cellOk, reduceIte, Nat.reduceLT, Nat.reduceLeDiff, Nat.reduceEqDiff, Nat.reduceAdd, Nat.reduceSub, Nat.reduceMul, Int.reduceToNat, Int.reduceLT, Int.reduceLE, Int.reduceAdd, Int.reduceSub, implies_true, ne_eq, if_true, if_false, reduceCtorEq]) (Ca_is (c_Itoa x.b _ wb.1 wb.2)) ?_
  rintro v H9 ⟨rfl, rfl⟩
  obtain ⟨H4, b4, ap2, hm2, hs2, nx2, ot2, eb2, _⟩ := mrow_app (new := [.string (S (Lib.itoa x.b))]) (k := 1) (hs1.push (.cells [.string (S (Lib.itoa x.b))] 9 false)) (mrow_push hm1 hs1.ok (.cells [.string (S (Lib.itoa x.b))] 9 false)) hcl0x (by decide) (by omega) rfl
  have hcl1x : (cs ++ [Value.string (S (Lib.itoa x.a))] ++ [Value.string (S (Lib.itoa x.b))]).length = n + 2 := by simp only [List.length_append, List.length_cons, List.length_nil]; omega
  simp (maxSteps := 5000000) (disch := omega) only [g8, g9, g10, g3, g14, g15, ap2, V_P, SX, W_block, exitW, goInt, Int.reduceEq, setCells, oneOf, cellOk, reduceIte, Nat.reduceLT, Nat.reduceLeDiff, Nat.reduceEqDiff, Nat.reduceAdd, Nat.reduceSub, Nat.reduceMul, Int.reduceToNat, Int.reduceLT, Int.reduceLE, Int.reduceAdd, Int.reduceSub, implies_true, ne_eq, if_true, if_false, reduceCtorEq]
  refine W_unroll ?_
  simp (maxSteps := 5000000) (disch := omega) only [g8, g9, g10, g3, g14, g15, V_P, SX, W_block, exitW, goInt, Int.reduceEq, setCells, oneOf, cellOk, reduceIte, Nat.reduceLT, Nat.reduceLeDiff, Nat.reduceEqDiff, Nat.reduceAdd, Nat.reduceSub, Nat.reduceMul, Int.reduceToNat, Int.reduceLT, Int.reduceLE, Int.reduceAdd, Int.reduceSub, implies_true, ne_eq, if_true, if_false, reduceCtorEq]
  refine W_callR rfl (by simp (maxSteps := 5000000) (disch := omega) only [g8, g9, g10, g3, g14, g15, V_P, SX, W_block, exitW, goInt, Int.reduceEq, setCells, oneOf, cellOk, reduceIte, Nat.reduceLT, Nat.reduceLeDiff, Nat.reduceEqDiff, Nat.reduceAdd, Nat.reduceSub, Nat.reduceMul, Int.reduceToNat, Int.reduceLT, Int.reduceLE, Int.reduceAdd, Int.reduceSub, implies_true, ne_eq, if_true, if_false, reduceCtorEq]) (Ca_is (c_Itoa x.c _ wc.1 wc.2)) ?_
  rintro v H9 ⟨rfl, rfl⟩
  obtain ⟨H5, b5, ap3, hm3, hs3, nx3, ot3, eb3, _⟩ := mrow_app (new := [.string (S (Lib.itoa x.c))]) (k := 1) (hs2.push (.cells [.string (S (Lib.itoa x.c))] 9 false)) (mrow_push hm2 hs2.ok (.cells [.string (S (Lib.itoa x.c))] 9 false)) hcl1x (by decide) (by omega) rfl
  have hcl2x : (cs ++ [Value.string (S (Lib.itoa x.a))] ++ [Value.string (S (Lib.itoa x.b))] ++ [Value.string (S (Lib.itoa x.c))]).length = n + 3 := by simp only [List.length_append, List.length_cons, List.length_nil]; omega
  simp (maxSteps := 5000000) (disch := omega) only [g8, g9, g10, g3, g14, g15, ap3, V_P, SX, W_block, exitW, goInt, Int.reduceEq, setCells, oneOf, cellOk, reduceIte, Nat.reduceLT, Nat.reduceLeDiff, Nat.reduceEqDiff, Nat.reduceAdd, Nat.reduceSub, Nat.reduceMul, Int.reduceToNat, Int.reduceLT, Int.reduceLE, Int.reduceAdd, Int.reduceSub, implies_true, ne_eq, if_true, if_false, reduceCtorEq]
  refine W_unroll ?_
  simp (maxSteps := 5000000) (disch := omega) only [g8, g9, g10, g3, g14, g15, V_P, SX, W_block, exitW, goInt, Int.reduceEq, setCells, oneOf, cellOk, reduceIte, Nat.reduceLT, Nat.reduceLeDiff, Nat.reduceEqDiff, Nat.reduceAdd, Nat.reduceSub, Nat.reduceMul, Int.reduceToNat, Int.reduceLT, Int.reduceLE, Int.reduceAdd, Int.reduceSub, implies_true, ne_eq, if_true, if_false, reduceCtorEq]
  refine W_callR rfl (by simp (maxSteps := 5000000) (disch := omega) only [g8, g9, g10, g3, g14, g15, V_P, SX, W_block, exitW, goInt, Int.reduceEq, setCells, oneOf, cellOk, reduceIte, Nat.reduceLT, Nat.reduceLeDiff, Nat.reduceEqDiff, Nat.reduceAdd, Nat.reduceSub, Nat.reduceMul, Int.reduceToNat, Int.reduceLT, Int.reduceLE, Int.reduceAdd, Int.reduceSub, implies_true, ne_eq, if_true, if_false, reduceCtorEq]) (Ca_is (c_Itoa x.d _ wd.1 wd.2)) ?_
  rintro v H9 ⟨rfl, rfl⟩
  obtain ⟨H6, b6, ap4, hm4, hs4, nx4, ot4, eb4, _⟩ := mrow_app (new := [.string (S (Lib.itoa x.d))]) (k := 1) (hs3.push (.cells [.string (S (Lib.itoa x.d))] 9 false)) (mrow_push hm3 hs3.ok (.cells [.string (S (Lib.itoa x.d))] 9 false)) hcl2x (by decide) (by omega) rfl
  have hcl3x : (cs ++ [Value.string (S (Lib.itoa x.a))] ++ [Value.string (S (Lib.itoa x.b))] ++ [Value.string (S (Lib.itoa x.c))] ++ [Value.string (S (Lib.itoa x.d))]).length = n + 4 := by simp only [List.length_append, List.length_cons, List.length_nil]; omega
  simp (maxSteps := 5000000) (disch := omega) only [g8, g9, g10, g3, g14, g15, ap4, V_P, SX, W_block, exitW, goInt, Int.reduceEq, setCells, oneOf, cellOk, reduceIte, Nat.reduceLT, Nat.reduceLeDiff, Nat.reduceEqDiff, Nat.reduceAdd, Nat.reduceSub, Nat.reduceMul, Int.reduceToNat, Int.reduceLT, Int.reduceLE, Int.reduceAdd, Int.reduceSub, implies_true, ne_eq, if_true, if_false, reduceCtorEq]
  refine W_unroll ?_
  simp (maxSteps := 5000000) (disch := omega) only [g8, g9, g10, g3, g14, g15, V_P, SX, W_block, exitW, goInt, Int.reduceEq, setCells, oneOf, cellOk, reduceIte, Nat.reduceLT, Nat.reduceLeDiff, Nat.reduceEqDiff, Nat.reduceAdd, Nat.reduceSub, Nat.reduceMul, Int.reduceToNat, Int.reduceLT, Int.reduceLE, Int.reduceAdd, Int.reduceSub, implies_true, ne_eq, if_true, if_false, reduceCtorEq]
  refine ⟨i + 1, ⟨_, _, _, by simp, by omega, rfl, by omega, ?_, hs4⟩, by omega⟩
  rw [htk, List.flatMap_append, List.map_append, hcs, List.flatMap_cons, List.flatMap_nil, List.append_nil]
  simpa [N4.texts, txt] using hm4
end Go.B.YteigefgobkdmgaaDoor
