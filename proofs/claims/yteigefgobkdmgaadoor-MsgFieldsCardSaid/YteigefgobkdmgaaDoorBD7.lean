import Derived.Test.YteigefgobkdmgaaDoorBD6
/- Parts joined. -/
namespace Go.B.YteigefgobkdmgaaDoor
open Go Go.B Go.Proofs
set_option maxRecDepth 100000
set_option maxHeartbeats 16000000
set_option linter.unusedSimpArgs false
set_option linter.unusedVariables false
def bytesV (l : List UInt8) : List Value := l.map fun b => .int .u8 b.toNat
theorem index_none : ∀ {l : List UInt8}, (28 : UInt8) ∉ l → Lib.indexByte l 28 = -1
  | [], _ => rfl
  | x :: t, h => by
    simp only [List.mem_cons, not_or] at h
    rw [Lib.indexByte, index_none h.2, if_neg (by simpa using Ne.symm h.1)]
    rfl
theorem bytesOf_V : ∀ l : List UInt8, bytesOf (bytesV l) = some l
  | [] => rfl
  | x :: l => by
    show (bytesOf (bytesV l)).map _ = _
    rw [bytesOf_V l]
    simp
theorem bytesV_length (l : List UInt8) : (bytesV l).length = l.length := List.length_map ..
theorem cv_row {H : Heap} {i o c n : Nat} {l : List UInt8} (hn : n = l.length) (h : gcV o n (H.get i) = some (bytesV l)) : cvV Tryd.prog H 31 9 (.slice (some ⟨i, o, none⟩) n c) = some (.val (.string (S l)) H) := by
  subst hn
  refine cvV_bytes un_31 un_9 u8_5 (l := bytesV l) ?_ (bytesOf_V l)
  rw [firstB_slice, if_pos (Nat.le_refl _)]
  split
  · rename_i h0; rw [List.length_eq_zero_iff.1 h0]; rfl
  · rw [Nat.mul_one, getCells_eq]; exact h
theorem cv_sep {H : Heap} {c : Nat} : cvV Tryd.prog (H.push (.cells [.int .u8 28] 5 false)) 31 9 (.slice (some ⟨H.next, 0, none⟩) 1 c) = some (.val (.string (S [28])) (H.push (.cells [.int .u8 28] 5 false))) :=
  cv_row (l := [28]) rfl (by rw [Heap.get_push, if_pos rfl]; rfl)
theorem Ca_is {V : Env} {f : FuncId} {args : Array Value} {H H' : Heap} {v : Value} (h : Ca V f args H v H') : ∃ v1 H1, Ca V f args H v1 H1 ∧ v1 = v ∧ H1 = H' := ⟨v, H', h, rfl, rfl⟩
theorem row_at {P : Program} {H : Heap} {b : Option Addr} {l : List ByteArray} (h : Row P H b l.length 1 (l.map Value.string)) {i : Nat} (hi : i < l.length) : ∃ j o, b = some ⟨j, o, none⟩ ∧ gcV (o + i) 1 (H.get j) = some [.string l[i]] := by
  obtain ⟨j, o, h1, h2⟩ := h.get hi
  rw [Nat.mul_one] at h2
  have h3 := one_get Value.string (List.getElem?_eq_getElem hi)
  rw [Nat.mul_one] at h3
  exact ⟨j, o, h1, by rw [h2, h3]⟩
theorem wire_Join (l : List ByteArray) (b : Option Addr) (c : Nat) (H : Heap) (ok : Ok H) (hrow : Row Tryd.prog H b l.length 1 (l.map Value.string)) (hpl : ∀ s ∈ l, (28 : UInt8) ∉ U s) (hn : l.length ≤ 1000) (hl : (jn (l.map U)).length ≤ 100000) :
    ∃ v H', Ca V 23 #[.slice b l.length c] H v H' ∧ (∃ i, H.next ≤ i ∧ v = .tuple #[.slice (some ⟨i, 0, none⟩) (jn (l.map U)).length capU, .bool (decide (0 < l.length))] ∧ H'.get i = some (.cells (bytesV (jn (l.map U))) 5 false)) ∧ Same H H' [] := by
  refine Ca_run rfl tab_23 rfl ?_
  simp (maxSteps := 5000000) (disch := omega) only [Tryd.f23, V_P, SX, W_block, exitW, goInt, Int.reduceEq, setCells, oneOf, cellOk, reduceIte, Nat.reduceLT, Nat.reduceLeDiff, Nat.reduceEqDiff, Nat.reduceAdd, Nat.reduceSub, Nat.reduceMul, Int.reduceToNat, Int.reduceLT, Int.reduceLE, Int.reduceAdd, Int.reduceSub, implies_true, ne_eq, if_true, if_false, reduceCtorEq]
  refine W_for (fun (i : Nat) t H2 => H2 = H ∧ t.get 0 = some (.slice b l.length c) ∧ t.get 6 = some (.slice b l.length c) ∧ t.get 7 = some (.int .i64 l.length) ∧ t.get 8 = some (.int .i64 i) ∧ i ≤ l.length) (fun i => l.length - i) 0 ?_ ?_
  · simp (maxSteps := 5000000) (disch := omega) only [V_P, SX, W_block, exitW, goInt, Int.reduceEq, setCells, oneOf, cellOk, reduceIte, Nat.reduceLT, Nat.reduceLeDiff, Nat.reduceEqDiff, Nat.reduceAdd, Nat.reduceSub, Nat.reduceMul, Int.reduceToNat, Int.reduceLT, Int.reduceLE, Int.reduceAdd, Int.reduceSub, implies_true, ne_eq, if_true, if_false, reduceCtorEq]
    exact ⟨rfl, Nat.zero_le _⟩
  rintro i t H2 ⟨rfl, g0, g6, g7, g8, hi⟩
  simp (maxSteps := 5000000) (disch := omega) only [g0, g6, g7, g8, V_P, SX, W_block, exitW, goInt, Int.reduceEq, setCells, oneOf, cellOk, reduceIte, Nat.reduceLT, Nat.reduceLeDiff, Nat.reduceEqDiff, Nat.reduceAdd, Nat.reduceSub, Nat.reduceMul, Int.reduceToNat, Int.reduceLT, Int.reduceLE, Int.reduceAdd, Int.reduceSub, implies_true, ne_eq, if_true, if_false, reduceCtorEq]
  refine cW_dec (fun hlt => ?_) (fun hlt => ?_)
  · have hlt' : i < l.length := by omega
    obtain ⟨j, o, rfl, hgc⟩ := row_at hrow hlt'
    simp (maxSteps := 5000000) (disch := omega) only [g0, g6, g7, g8, hgc, V_P, SX, W_block, exitW, goInt, Int.reduceEq, setCells, oneOf, cellOk, reduceIte, Nat.reduceLT, Nat.reduceLeDiff, Nat.reduceEqDiff, Nat.reduceAdd, Nat.reduceSub, Nat.reduceMul, Int.reduceToNat, Int.reduceLT, Int.reduceLE, Int.reduceAdd, Int.reduceSub, implies_true, ne_eq, if_true, if_false, reduceCtorEq]
    refine W_callR rfl (by simp (maxSteps := 5000000) (disch := omega) only [g0, g6, g7, g8, hgc, V_P, SX, W_block, exitW, goInt, Int.reduceEq, setCells, oneOf, cellOk, reduceIte, Nat.reduceLT, Nat.reduceLeDiff, Nat.reduceEqDiff, Nat.reduceAdd, Nat.reduceSub, Nat.reduceMul, Int.reduceToNat, Int.reduceLT, Int.reduceLE, Int.reduceAdd, Int.reduceSub, implies_true, ne_eq, if_true, if_false, reduceCtorEq]) (Ca_is (c_IndexByte l[i] 28 _)) ?_
    rintro v H3 ⟨rfl, e⟩
    obtain rfl := e.symm
    rw [show ((28 : Int).toNat.toUInt8) = 28 from rfl, index_none (hpl _ (List.getElem_mem hlt'))]
    simp (maxSteps := 5000000) (disch := omega) only [g0, g6, g7, g8, V_P, SX, W_block, exitW, goInt, Int.reduceEq, setCells, oneOf, cellOk, reduceIte, Nat.reduceLT, Nat.reduceLeDiff, Nat.reduceEqDiff, Nat.reduceAdd, Nat.reduceSub, Nat.reduceMul, Int.reduceToNat, Int.reduceLT, Int.reduceLE, Int.reduceAdd, Int.reduceSub, implies_true, ne_eq, if_true, if_false, reduceCtorEq]
    refine ⟨i + 1, ⟨by simp, by omega⟩, by omega⟩
  · simp (maxSteps := 5000000) (disch := omega) only [g0, g6, g7, g8, cv_sep, V_P, SX, W_block, exitW, goInt, Int.reduceEq, setCells, oneOf, cellOk, reduceIte, Nat.reduceLT, Nat.reduceLeDiff, Nat.reduceEqDiff, Nat.reduceAdd, Nat.reduceSub, Nat.reduceMul, Int.reduceToNat, Int.reduceLT, Int.reduceLE, Int.reduceAdd, Int.reduceSub, implies_true, ne_eq, if_true, if_false, reduceCtorEq]
    refine W_callR rfl (by simp (maxSteps := 5000000) (disch := omega) only [g0, g6, g7, g8, cv_sep, V_P, SX, W_block, exitW, goInt, Int.reduceEq, setCells, oneOf, cellOk, reduceIte, Nat.reduceLT, Nat.reduceLeDiff, Nat.reduceEqDiff, Nat.reduceAdd, Nat.reduceSub, Nat.reduceMul, Int.reduceToNat, Int.reduceLT, Int.reduceLE, Int.reduceAdd, Int.reduceSub, implies_true, ne_eq, if_true, if_false, reduceCtorEq]) (Ca_is (c_Join l b c _ ((hrow.mono ok ((Same.refl ok).push (.cells [.int .u8 28] 5 false)) (by simp))) (by omega) (by omega))) ?_
    rintro v H3 ⟨rfl, rfl⟩
    simp (maxSteps := 5000000) (disch := omega) only [g0, g6, g7, g8, cv_sep, V_P, SX, W_block, exitW, goInt, Int.reduceEq, setCells, oneOf, cellOk, reduceIte, Nat.reduceLT, Nat.reduceLeDiff, Nat.reduceEqDiff, Nat.reduceAdd, Nat.reduceSub, Nat.reduceMul, Int.reduceToNat, Int.reduceLT, Int.reduceLE, Int.reduceAdd, Int.reduceSub, implies_true, ne_eq, if_true, if_false, reduceCtorEq]
    refine ⟨⟨H2.next + 1, Nat.le_succ _, ?_, ?_⟩, by repeat (first | exact Same.same ok | refine Same.push ?_ _ | refine Same.room ?_ _ | (refine Same.make ?_ (by (try simp only [Heap.next_push, Heap.next_set, Heap.next_room]); omega) (by (try simp only [Heap.next_push, Heap.next_set, Heap.next_room]); omega)) | (refine Same.put ?_ (by simp (disch := omega) only [Heap.get_pushH, Heap.get_setH, hite_same, hite_ne, hite_eq, Heap.get_room, Heap.next_push, Heap.next_set, Heap.next_room, Option.isSome_some, *]) (fun z => by first | (simp; done) | (exfalso; (try simp only [Heap.next_push, Heap.next_set, Heap.next_room] at z); omega))))⟩
    · rw [show (S (jn (l.map U))).size = (jn (l.map U)).length from rfl]
      have : (decide (0 < (l.length : Int))) = decide (0 < l.length) := by simp
      rw [this]
    · rw [hite_same]; rfl

theorem jn_cons2 (x y : List UInt8) (r : List (List UInt8)) : jn (x :: y :: r) = x ++ 28 :: jn (y :: r) := by rw [jn]; simp
/-- Parts from the i-th on, a mark ahead of each. -/
theorem jn_snoc : ∀ (L : List (List UInt8)) (a : List UInt8), L ≠ [] → jn (L ++ [a]) = jn L ++ 28 :: a
  | [], a, h => absurd rfl h
  | [x], a, _ => by simp [jn]
  | x :: y :: r, a, _ => by
    have := jn_snoc (y :: r) a (by simp)
    rw [List.cons_append, List.cons_append, jn_cons2, ← List.cons_append, this, jn_cons2]
    simp
theorem jn_take_succ {L : List ByteArray} {i : Nat} (hi : i < L.length) (h0 : i ≠ 0) : jn ((L.take (i + 1)).map U) = jn ((L.take i).map U) ++ 28 :: U L[i] := by
  rw [List.take_succ_eq_append_getElem hi, List.map_append, List.map_cons, List.map_nil, jn_snoc]
  intro h
  have h2 := congrArg List.length h
  rw [List.length_map, List.length_take, List.length_nil] at h2
  omega
theorem jn_take_one {L : List ByteArray} (hi : 0 < L.length) : jn ((L.take 1).map U) = U L[0] := by
  cases L with
  | nil => simp at hi
  | cons a r => simp [jn]
theorem bytesV_append (a b : List UInt8) : bytesV (a ++ b) = bytesV a ++ bytesV b := List.map_append ..
theorem jn_le_take : ∀ (L : List (List UInt8)) (i : Nat), (jn (L.take i)).length ≤ (jn L).length
  | [], i => by simp
  | [x], 0 => by simp [jn]
  | [x], i + 1 => by simp
  | x :: y :: r, 0 => by simp [jn]
  | x :: y :: r, 1 => by simp [jn]
  | x :: y :: r, i + 2 => by
    have := jn_le_take (y :: r) (i + 1)
    simp only [List.take_succ_cons, jn_cons2, List.length_append, List.length_cons] at *
    omega
theorem ref_Join (l : List ByteArray) (b : Option Addr) (c : Nat) (H : Heap) (ok : Ok H) (hrow : Row Tryd.prog H b l.length 1 (l.map Value.string)) (hpl : ∀ s ∈ l, (28 : UInt8) ∉ U s) (hn : l.length ≤ 1000) (hl : (jn (l.map U)).length ≤ 100000) (h0 : 0 < l.length) (h1 : 0 < (U l[0]).length) :
    ∃ v H', Ca V 27 #[.slice b l.length c] H v H' ∧ (∃ i, H.next ≤ i ∧ v = .tuple #[.slice (some ⟨i, 0, none⟩) (jn (l.map U)).length capU, .bool true] ∧ H'.get i = some (.cells (bytesV (jn (l.map U))) 5 false)) ∧ Same H H' [] := by
  have okn : ∀ a, H.next ≤ a → H.get a = none := ok
  refine Ca_run rfl tab_27 rfl ?_
  simp (maxSteps := 5000000) (disch := omega) only [Tryd.f27, V_P, SX, W_block, exitW, goInt, Int.reduceEq, setCells, oneOf, cellOk, reduceIte, Nat.reduceLT, Nat.reduceLeDiff, Nat.reduceEqDiff, Nat.reduceAdd, Nat.reduceSub, Nat.reduceMul, Int.reduceToNat, Int.reduceLT, Int.reduceLE, Int.reduceAdd, Int.reduceSub, implies_true, ne_eq, if_true, if_false, reduceCtorEq]
  refine cW_dec (fun hx => by omega) (fun hx => ?_)
  simp (maxSteps := 5000000) (disch := omega) only [V_P, SX, W_block, exitW, goInt, Int.reduceEq, setCells, oneOf, cellOk, reduceIte, Nat.reduceLT, Nat.reduceLeDiff, Nat.reduceEqDiff, Nat.reduceAdd, Nat.reduceSub, Nat.reduceMul, Int.reduceToNat, Int.reduceLT, Int.reduceLE, Int.reduceAdd, Int.reduceSub, implies_true, ne_eq, if_true, if_false, reduceCtorEq]
  refine W_for (fun (i : Nat) t H2 => ∃ bo n co, t.get 0 = some (.slice b l.length c) ∧ t.get 4 = some (.slice bo n co) ∧ t.get 5 = some (.int .i64 i) ∧ i ≤ l.length ∧ n = (jn ((l.take i).map U)).length ∧ (i ≠ 0 → n ≠ 0) ∧ MRow H2 H.next 5 bo n co (bytesV (jn ((l.take i).map U))) ∧ Same H H2 []) (fun i => l.length - i) 0 ?_ ?_
  · simp (maxSteps := 5000000) (disch := omega) only [V_P, SX, W_block, exitW, goInt, Int.reduceEq, setCells, oneOf, cellOk, reduceIte, Nat.reduceLT, Nat.reduceLeDiff, Nat.reduceEqDiff, Nat.reduceAdd, Nat.reduceSub, Nat.reduceMul, Int.reduceToNat, Int.reduceLT, Int.reduceLE, Int.reduceAdd, Int.reduceSub, implies_true, ne_eq, if_true, if_false, reduceCtorEq]
    exact ⟨none, 0, 0, rfl, rfl, Nat.zero_le _, rfl, .nil, Same.refl ok⟩
  rintro i t H2 ⟨bo, n, co, g0, g4, g5, hi, hn2, hnz, hm, hs⟩
  simp (maxSteps := 5000000) (disch := omega) only [g0, g4, g5, V_P, SX, W_block, exitW, goInt, Int.reduceEq, setCells, oneOf, cellOk, reduceIte, Nat.reduceLT, Nat.reduceLeDiff, Nat.reduceEqDiff, Nat.reduceAdd, Nat.reduceSub, Nat.reduceMul, Int.reduceToNat, Int.reduceLT, Int.reduceLE, Int.reduceAdd, Int.reduceSub, implies_true, ne_eq, if_true, if_false, reduceCtorEq]
  refine cW_dec (fun hlt => ?_) (fun hlt => ?_)
  · have hlt' : i < l.length := by omega
    have ok2 := hs.ok
    have hrow2 := hrow.mono ok hs (by simp)
    simp (maxSteps := 5000000) (disch := omega) only [g0, g4, g5, V_P, SX, W_block, exitW, goInt, Int.reduceEq, setCells, oneOf, cellOk, reduceIte, Nat.reduceLT, Nat.reduceLeDiff, Nat.reduceEqDiff, Nat.reduceAdd, Nat.reduceSub, Nat.reduceMul, Int.reduceToNat, Int.reduceLT, Int.reduceLE, Int.reduceAdd, Int.reduceSub, implies_true, ne_eq, if_true, if_false, reduceCtorEq]
    refine cW_merge (fun t H3 => ∃ bo n co pre, t.get 0 = some (.slice b l.length c) ∧ t.get 4 = some (.slice bo n co) ∧ t.get 5 = some (.int .i64 i) ∧ n = pre.length ∧ (i ≠ 0 → pre ≠ []) ∧ jn ((l.take (i + 1)).map U) = pre ++ U l[i] ∧ MRow H3 H.next 5 bo n co (bytesV pre) ∧ Same H H3 []) (fun hc => ?_) (fun hc => ?_) ?_
    · have hi0 : i ≠ 0 := by have := of_decide_eq_true hc; omega
      rcases hm.ways with ⟨_, h, _⟩ | ⟨j, rfl, rfl, _, hlo, hg⟩
      · exact absurd h (hnz hi0)
      have hjl : n ≤ 100000 := by have := jn_le_take (l.map U) i; rw [← List.map_take] at this; omega
      have hj := jn_take_succ hlt' hi0
      generalize jn ((l.take i).map U) = pre at *
      subst hn2
      have hj2 := ok2.lt hg
      have hne : (j = H2.next) = False := by simp; omega
      have hcap : ¬ capU = pre.length := by unfold capU; omega
      have hL : (bytesV pre).length = pre.length := bytesV_length pre
      have hT : List.take pre.length (bytesV pre) = bytesV pre := List.take_of_length_le (by rw [hL]; exact Nat.le_refl _)
      have hnz2 : ¬ pre.length = 0 := hnz hi0
      simp (maxSteps := 5000000) (disch := omega) only [g0, g4, g5, hg, hne, if_neg hcap, if_neg hnz2, hL, hT, V_P, SX, W_block, exitW, goInt, Int.reduceEq, setCells, oneOf, cellOk, reduceIte, Nat.reduceLT, Nat.reduceLeDiff, Nat.reduceEqDiff, Nat.reduceAdd, Nat.reduceSub, Nat.reduceMul, Int.reduceToNat, Int.reduceLT, Int.reduceLE, Int.reduceAdd, Int.reduceSub, implies_true, ne_eq, if_true, if_false, reduceCtorEq]
      refine ⟨_, _, _, pre ++ [28], rfl, by simp, by simp, by rw [hj]; simp, ?_, ?_⟩
      · rw [bytesV_append]
        exact .own (by simp only [Heap.get_push, Heap.next_push, Heap.next_set]; rw [if_pos trivial]; rfl) (by have := hs.le; first | omega | (simp only [Heap.next_push, Heap.next_set]; omega)) (by simp)
      · repeat (first | exact hs | refine Same.push ?_ _ | refine Same.room ?_ _ | (refine Same.make ?_ (by (try simp only [Heap.next_push, Heap.next_set, Heap.next_room]); omega) (by (try simp only [Heap.next_push, Heap.next_set, Heap.next_room]); omega)) | (refine Same.put ?_ (by simp (disch := omega) only [Heap.get_pushH, Heap.get_setH, hite_same, hite_ne, hite_eq, Heap.get_room, Heap.next_push, Heap.next_set, Heap.next_room, Option.isSome_some, *]) (fun z => by first | (simp; done) | (exfalso; (try simp only [Heap.next_push, Heap.next_set, Heap.next_room] at z); omega))))
    · have hi0 : i = 0 := by have := of_decide_eq_false hc; omega
      subst hi0
      simp (maxSteps := 5000000) (disch := omega) only [g0, g4, g5, V_P, SX, W_block, exitW, goInt, Int.reduceEq, setCells, oneOf, cellOk, reduceIte, Nat.reduceLT, Nat.reduceLeDiff, Nat.reduceEqDiff, Nat.reduceAdd, Nat.reduceSub, Nat.reduceMul, Int.reduceToNat, Int.reduceLT, Int.reduceLE, Int.reduceAdd, Int.reduceSub, implies_true, ne_eq, if_true, if_false, reduceCtorEq]
      refine ⟨_, _, _, [], rfl, ?_, ?_, ?_, hs⟩
      · rw [hn2]; rfl
      · rw [jn_take_one hlt']; rfl
      · exact hm
    rintro t H3 ⟨bo, n, co, pre, g0, g4, g5, hn3, hpz, hj, hm3, hs3⟩
    have hrow3 := hrow.mono ok hs3 (by simp)
    obtain ⟨r, o, rfl, hgc⟩ := row_at hrow3 hlt'
    have hsz : l[i].size = (U l[i]).length := U_size _
    have hbnd : pre.length + (U l[i]).length ≤ 100000 := by
      have := jn_le_take (l.map U) (i + 1); rw [← List.map_take, hj, List.length_append] at this; omega
    simp (maxSteps := 5000000) (disch := omega) only [g0, g4, g5, V_P, SX, W_block, exitW, goInt, Int.reduceEq, setCells, oneOf, cellOk, reduceIte, Nat.reduceLT, Nat.reduceLeDiff, Nat.reduceEqDiff, Nat.reduceAdd, Nat.reduceSub, Nat.reduceMul, Int.reduceToNat, Int.reduceLT, Int.reduceLE, Int.reduceAdd, Int.reduceSub, implies_true, ne_eq, if_true, if_false, reduceCtorEq]
    refine W_for (fun (k : Nat) t H4 => H4 = H3 ∧ t.get 0 = some (.slice (some ⟨r, o, none⟩) l.length c) ∧ t.get 4 = some (.slice bo n co) ∧ t.get 5 = some (.int .i64 i) ∧ t.get 6 = some (.int .i64 k) ∧ k ≤ l[i].size) (fun k => l[i].size - k) 0 ?_ ?_
    · simp (maxSteps := 5000000) (disch := omega) only [g0, g4, g5, V_P, SX, W_block, exitW, goInt, Int.reduceEq, setCells, oneOf, cellOk, reduceIte, Nat.reduceLT, Nat.reduceLeDiff, Nat.reduceEqDiff, Nat.reduceAdd, Nat.reduceSub, Nat.reduceMul, Int.reduceToNat, Int.reduceLT, Int.reduceLE, Int.reduceAdd, Int.reduceSub, implies_true, ne_eq, if_true, if_false, reduceCtorEq]
      exact ⟨rfl, Nat.zero_le _⟩
    rintro k t H4 ⟨e4, g0, g4, g5, g6, hk⟩
    obtain rfl := e4.symm
    simp (maxSteps := 5000000) (disch := omega) only [g0, g4, g5, g6, hgc, V_P, SX, W_block, exitW, goInt, Int.reduceEq, setCells, oneOf, cellOk, reduceIte, Nat.reduceLT, Nat.reduceLeDiff, Nat.reduceEqDiff, Nat.reduceAdd, Nat.reduceSub, Nat.reduceMul, Int.reduceToNat, Int.reduceLT, Int.reduceLE, Int.reduceAdd, Int.reduceSub, implies_true, ne_eq, if_true, if_false, reduceCtorEq]
    refine cW_dec (fun hk2 => ?_) (fun hk2 => ?_)
    · have hk3 : k < l[i].size := by omega
      have hb : l[i][k]? = some l[i][k] := getElem?_pos l[i] k hk3
      have hne : l[i][k] ≠ 28 := fun h => hpl l[i] (List.getElem_mem hlt') (by rw [← h]; exact Array.getElem_mem_toList _)
      generalize l[i][k] = x at hb hne
      simp (maxSteps := 5000000) (disch := omega) only [g0, g4, g5, g6, hgc, hb, V_P, SX, W_block, exitW, goInt, Int.reduceEq, setCells, oneOf, cellOk, reduceIte, Nat.reduceLT, Nat.reduceLeDiff, Nat.reduceEqDiff, Nat.reduceAdd, Nat.reduceSub, Nat.reduceMul, Int.reduceToNat, Int.reduceLT, Int.reduceLE, Int.reduceAdd, Int.reduceSub, implies_true, ne_eq, if_true, if_false, reduceCtorEq]
      refine cW_dec (fun hx => ?_) (fun hx => ?_)
      · exact absurd (UInt8.toNat_inj.1 (by have : (28 : UInt8).toNat = 28 := rfl; omega)) hne
      simp (maxSteps := 5000000) (disch := omega) only [g0, g4, g5, g6, hgc, hb, V_P, SX, W_block, exitW, goInt, Int.reduceEq, setCells, oneOf, cellOk, reduceIte, Nat.reduceLT, Nat.reduceLeDiff, Nat.reduceEqDiff, Nat.reduceAdd, Nat.reduceSub, Nat.reduceMul, Int.reduceToNat, Int.reduceLT, Int.reduceLE, Int.reduceAdd, Int.reduceSub, implies_true, ne_eq, if_true, if_false, reduceCtorEq]
      refine ⟨k + 1, ⟨by simp, by omega⟩, by omega⟩
    have hfs : firstB H3 1 l[i].size (.string l[i]) = some (bytesV (U l[i])) := by
      show (if l[i].size ≤ l[i].size ∧ (1:Nat) = 1 then some (((l[i].extract 0 l[i].size).data.toList).map _) else none) = _
      rw [if_pos ⟨Nat.le_refl _, rfl⟩]
      have : l[i].extract 0 l[i].size = l[i] := by apply ByteArray.ext; rw [ByteArray.data_extract]; exact Array.extract_size
      rw [this]; rfl
    have hall : (bytesV (U l[i])).all cellOk = true := by
      rw [List.all_eq_true]; intro x hx; obtain ⟨y, _, rfl⟩ := List.mem_map.mp hx; rfl
    subst hn3
    rcases hm3.ways with ⟨rfl, h, rfl, h2⟩ | ⟨j, rfl, rfl, hnz2, hlo, hg⟩
    · have hp0 : pre = [] := List.length_eq_zero_iff.1 h
      subst hp0
      have hi0 : i = 0 := by
        rcases Nat.eq_zero_or_pos i with h | h
        · exact h
        · exact absurd rfl (hpz (by omega))
      have hsz0 : ¬ l[i].size = 0 := by rw [hsz]; subst hi0; omega
      simp (maxSteps := 5000000) (disch := omega) only [g0, g4, g5, g6, hgc, hfs, hall, if_neg hsz0, V_P, SX, W_block, exitW, goInt, Int.reduceEq, setCells, oneOf, cellOk, reduceIte, Nat.reduceLT, Nat.reduceLeDiff, Nat.reduceEqDiff, Nat.reduceAdd, Nat.reduceSub, Nat.reduceMul, Int.reduceToNat, Int.reduceLT, Int.reduceLE, Int.reduceAdd, Int.reduceSub, implies_true, ne_eq, if_true, if_false, reduceCtorEq]
      refine ⟨i + 1, ⟨_, _, _, rfl, by simp, by omega, by rw [hj, hsz]; rfl, fun _ => hsz0, ?_, by repeat (first | exact hs3 | refine Same.push ?_ _ | refine Same.room ?_ _ | (refine Same.make ?_ (by (try simp only [Heap.next_push, Heap.next_set, Heap.next_room]); omega) (by (try simp only [Heap.next_push, Heap.next_set, Heap.next_room]); omega)) | (refine Same.put ?_ (by simp (disch := omega) only [Heap.get_pushH, Heap.get_setH, hite_same, hite_ne, hite_eq, Heap.get_room, Heap.next_push, Heap.next_set, Heap.next_room, Option.isSome_some, *]) (fun z => by first | (simp; done) | (exfalso; (try simp only [Heap.next_push, Heap.next_set, Heap.next_room] at z); omega))))⟩, by omega⟩
      rw [hj]
      exact .own (by rw [Heap.get_push, if_pos rfl]; rfl) hs3.le hsz0
    · have hj2 := hs3.ok.lt hg
      have hne : (j = H3.next) = False := by simp; omega
      have hcap : ¬ capU = pre.length := by unfold capU; omega
      have hL : (bytesV pre).length = pre.length := bytesV_length pre
      have hT : List.take pre.length (bytesV pre) = bytesV pre := List.take_of_length_le (by rw [hL]; exact Nat.le_refl _)
      by_cases hz : l[i].size = 0
      · simp (maxSteps := 5000000) (disch := omega) only [g0, g4, g5, g6, hgc, hfs, hall, hg, hne, hL, hT, if_neg hnz2, if_pos hz, V_P, SX, W_block, exitW, goInt, Int.reduceEq, setCells, oneOf, cellOk, reduceIte, Nat.reduceLT, Nat.reduceLeDiff, Nat.reduceEqDiff, Nat.reduceAdd, Nat.reduceSub, Nat.reduceMul, Int.reduceToNat, Int.reduceLT, Int.reduceLE, Int.reduceAdd, Int.reduceSub, implies_true, ne_eq, if_true, if_false, reduceCtorEq]
        have hU0 : U l[i] = [] := List.length_eq_zero_iff.1 (by omega)
        rw [hU0, List.append_nil] at hj
        refine ⟨i + 1, ⟨_, _, _, rfl, by simp, by omega, by rw [hj], fun _ => hnz2, ?_, hs3⟩, by omega⟩
        rw [hj]
        exact .own hg hlo hnz2
      · simp (maxSteps := 5000000) (disch := omega) only [g0, g4, g5, g6, hgc, hfs, hall, hg, hne, hL, hT, if_neg hcap, if_neg hnz2, if_neg hz, V_P, SX, W_block, exitW, goInt, Int.reduceEq, setCells, oneOf, cellOk, reduceIte, Nat.reduceLT, Nat.reduceLeDiff, Nat.reduceEqDiff, Nat.reduceAdd, Nat.reduceSub, Nat.reduceMul, Int.reduceToNat, Int.reduceLT, Int.reduceLE, Int.reduceAdd, Int.reduceSub, implies_true, ne_eq, if_true, if_false, reduceCtorEq]
        refine ⟨i + 1, ⟨_, _, _, rfl, by simp, by omega, by rw [hj, List.length_append, hsz], fun _ => by omega, ?_, by repeat (first | exact hs3 | refine Same.push ?_ _ | refine Same.room ?_ _ | (refine Same.make ?_ (by (try simp only [Heap.next_push, Heap.next_set, Heap.next_room]); omega) (by (try simp only [Heap.next_push, Heap.next_set, Heap.next_room]); omega)) | (refine Same.put ?_ (by simp (disch := omega) only [Heap.get_pushH, Heap.get_setH, hite_same, hite_ne, hite_eq, Heap.get_room, Heap.next_push, Heap.next_set, Heap.next_room, Option.isSome_some, *]) (fun z => by first | (simp; done) | (exfalso; (try simp only [Heap.next_push, Heap.next_set, Heap.next_room] at z); omega))))⟩, by omega⟩
        rw [hj, bytesV_append]
        exact .own (by simp only [Heap.get_push, Heap.next_set, if_true]) hs3.le (by omega)
  · obtain rfl : i = l.length := by omega
    rw [List.take_of_length_le (Nat.le_refl _)] at hn2 hm
    rcases hm.ways with ⟨_, h, _⟩ | ⟨j, rfl, rfl, _, hlo, hg⟩
    · exact absurd h (hnz (by omega))
    simp (maxSteps := 5000000) (disch := omega) only [g0, g4, g5, V_P, SX, W_block, exitW, goInt, Int.reduceEq, setCells, oneOf, cellOk, reduceIte, Nat.reduceLT, Nat.reduceLeDiff, Nat.reduceEqDiff, Nat.reduceAdd, Nat.reduceSub, Nat.reduceMul, Int.reduceToNat, Int.reduceLT, Int.reduceLE, Int.reduceAdd, Int.reduceSub, implies_true, ne_eq, if_true, if_false, reduceCtorEq]
    refine ⟨⟨j, hlo, by rw [hn2], hg⟩, hs⟩
end Go.B.YteigefgobkdmgaaDoor
