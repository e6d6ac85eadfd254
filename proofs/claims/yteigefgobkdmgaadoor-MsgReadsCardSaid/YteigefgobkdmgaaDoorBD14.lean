import Derived.Test.YteigefgobkdmgaaDoorBD6
/- Parts joined. -/
namespace Go.B.YteigefgobkdmgaaDoor
open Go Go.B Go.Proofs
set_option maxRecDepth 100000
set_option maxHeartbeats 16000000
set_option linter.unusedSimpArgs false
set_option linter.unusedVariables false
def bytesV (l : List UInt8) : List Value := l.map fun b => .int .u8 b.toNat
theorem index_none : ∀ {l : List UInt8}, (28 : UInt8) ∉ l → Lib.indexByte l 28 = -1
  | [], _ => rfl
  | x :: t, h => by
    simp only [List.mem_cons, not_or] at h
    rw [Lib.indexByte, index_none h.2, if_neg (by simpa using Ne.symm h.1)]
    rfl
theorem bytesOf_V : ∀ l : List UInt8, bytesOf (bytesV l) = some l
  | [] => rfl
  | x :: l => by
    show (bytesOf (bytesV l)).map _ = _
    rw [bytesOf_V l]
    simp
theorem bytesV_length (l : List UInt8) : (bytesV l).length = l.length := List.length_map ..
theorem cv_row {H : Heap} {i o c n : Nat} {l : List UInt8} (hn : n = l.length) (h : gcV o n (H.get i) = some (bytesV l)) : cvV Tryd.prog H 31 9 (.slice (some ⟨i, o, none⟩) n c) = some (.val (.string (S l)) H) := by
  subst hn
  refine cvV_bytes un_31 un_9 u8_5 (l := bytesV l) ?_ (bytesOf_V l)
  rw [firstB_slice, if_pos (Nat.le_refl _)]
  split
  · rename_i h0; rw [List.length_eq_zero_iff.1 h0]; rfl
  · rw [Nat.mul_one, getCells_eq]; exact h
theorem cv_sep {H : Heap} {c : Nat} : cvV Tryd.prog (H.push (.cells [.int .u8 28] 5 false)) 31 9 (.slice (some ⟨H.next, 0, none⟩) 1 c) = some (.val (.string (S [28])) (H.push (.cells [.int .u8 28] 5 false))) :=
  cv_row (l := [28]) rfl (by rw [Heap.get_push, if_pos rfl]; rfl)
theorem Ca_is {V : Env} {f : FuncId} {args : Array Value} {H H' : Heap} {v : Value} (h : Ca V f args H v H') : ∃ v1 H1, Ca V f args H v1 H1 ∧ v1 = v ∧ H1 = H' := ⟨v, H', h, rfl, rfl⟩
theorem row_at {P : Program} {H : Heap} {b : Option Addr} {l : List ByteArray} (h : Row P H b l.length 1 (l.map Value.string)) {i : Nat} (hi : i < l.length) : ∃ j o, b = some ⟨j, o, none⟩ ∧ gcV (o + i) 1 (H.get j) = some [.string l[i]] := by
  obtain ⟨j, o, h1, h2⟩ := h.get hi
  rw [Nat.mul_one] at h2
  have h3 := one_get Value.string (List.getElem?_eq_getElem hi)
  rw [Nat.mul_one] at h3
  exact ⟨j, o, h1, by rw [h2, h3]⟩
theorem wire_Join (l : List ByteArray) (b : Option Addr) (c : Nat) (H : Heap) (ok : Ok H) (hrow : Row Tryd.prog H b l.length 1 (l.map Value.string)) (hpl : ∀ s ∈ l, (28 : UInt8) ∉ U s) (hn : l.length ≤ 1000) (hl : (jn (l.map U)).length ≤ 100000) :
    ∃ v H', Ca V 23 #[.slice b l.length c] H v H' ∧ (∃ i, H.next ≤ i ∧ v = .tuple #[.slice (some ⟨i, 0, none⟩) (jn (l.map U)).length capU, .bool (decide (0 < l.length))] ∧ H'.get i = some (.cells (bytesV (jn (l.map U))) 5 false)) ∧ Same H H' [] := by
  refine Ca_run rfl tab_23 rfl ?_
  simp (maxSteps := 5000000) (disch := omega) only [Tryd.f23, V_P, SX, W_block, exitW, goInt, Int.reduceEq, setCells, oneOf, cellOk, reduceIte, Nat.reduceLT, Nat.reduceLeDiff, Nat.reduceEqDiff, Nat.reduceAdd, Nat.reduceSub, Nat.reduceMul, Int.reduceToNat, Int.reduceLT, Int.reduceLE, Int.reduceAdd, Int.reduceSub, implies_true, ne_eq, if_true, if_false, reduceCtorEq]
  refine W_for (fun (i : Nat) t H2 => H2 = H ∧ t.get 0 = some (.slice b l.length c) ∧ t.get 6 = some (.slice b l.length c) ∧ t.get 7 = some (.int .i64 l.length) ∧ t.get 8 = some (.int .i64 i) ∧ i ≤ l.length) (fun i => l.length - i) 0 ?_ ?_
  · simp (maxSteps := 5000000) (disch := omega) only [V_P, SX, W_block, exitW, goInt, Int.reduceEq, setCells, oneOf, cellOk, reduceIte, Nat.reduceLT, Nat.reduceLeDiff, Nat.reduceEqDiff, Nat.reduceAdd, Nat.reduceSub, Nat.reduceMul, Int.reduceToNat, Int.reduceLT, Int.reduceLE, Int.reduceAdd, Int.reduceSub, implies_true, ne_eq, if_true, if_false, reduceCtorEq]
    exact ⟨rfl, Nat.zero_le _⟩
  rintro i t H2 ⟨rfl, g0, g6, g7, g8, hi⟩
  simp (maxSteps := 5000000) (disch := omega) only [g0, g6, g7, g8, V_P, SX, W_block, exitW, goInt, Int.reduceEq, setCells, oneOf, cellOk, reduceIte, Nat.reduceLT, Nat.reduceLeDiff, Nat.reduceEqDiff, Nat.reduceAdd, Nat.reduceSub, Nat.reduceMul, Int.reduceToNat, Int.reduceLT, Int.reduceLE, Int.reduceAdd, Int.reduceSub, implies_true, ne_eq, if_true, if_false, reduceCtorEq]
  refine cW_dec (fun hlt => ?_) (fun hlt => ?_)
  · have hlt' : i < l.length := by omega
    obtain ⟨j, o, rfl, hgc⟩ := row_at hrow hlt'
    simp (maxSteps := 5000000) (disch := omega) only [g0, g6, g7, g8, hgc, V_P, SX, W_block, exitW, goInt, Int.reduceEq, setCells, oneOf, cellOk, reduceIte, Nat.reduceLT, Nat.reduceLeDiff, Nat.reduceEqDiff, Nat.reduceAdd, Nat.reduceSub, Nat.reduceMul, Int.reduceToNat, Int.reduceLT, Int.reduceLE, Int.reduceAdd, Int.reduceSub, implies_true, ne_eq, if_true, if_false, reduceCtorEq]
    refine W_callR rfl (by simp (maxSteps := 5000000) (disch := omega) only [g0, g6, g7, g8, hgc, V_P, SX, W_block, exitW, goInt, Int.reduceEq, setCells, oneOf, cellOk, reduceIte, Nat.reduceLT, Nat.reduceLeDiff, Nat.reduceEqDiff, Nat.reduceAdd, Nat.reduceSub, Nat.reduceMul, Int.reduceToNat, Int.reduceLT, Int.reduceLE, Int.reduceAdd, Int.reduceSub, implies_true, ne_eq, if_true, if_false, reduceCtorEq]) (Ca_is (c_IndexByte l[i] 28 _)) ?_
    rintro v H3 ⟨rfl, e⟩
    obtain rfl := e.symm
    rw [show ((28 : Int).toNat.toUInt8) = 28 from rfl, index_none (hpl _ (List.getElem_mem hlt'))]
    simp (maxSteps := 5000000) (disch := omega) only [g0, g6, g7, g8, V_P, SX, W_block, exitW, goInt, Int.reduceEq, setCells, oneOf, cellOk, reduceIte, Nat.reduceLT, Nat.reduceLeDiff, Nat.reduceEqDiff, Nat.reduceAdd, Nat.reduceSub, Nat.reduceMul, Int.reduceToNat, Int.reduceLT, Int.reduceLE, Int.reduceAdd, Int.reduceSub, implies_true, ne_eq, if_true, if_false, reduceCtorEq]
    refine ⟨i + 1, ⟨by simp, by omega⟩, by omega⟩
  · simp (maxSteps := 5000000) (disch := omega) only [g0, g6, g7, g8, cv_sep, V_P, SX, W_block, exitW, goInt, Int.reduceEq, setCells, oneOf, cellOk, reduceIte, Nat.reduceLT, Nat.reduceLeDiff, Nat.reduceEqDiff, Nat.reduceAdd, Nat.reduceSub, Nat.reduceMul, Int.reduceToNat, Int.reduceLT, Int.reduceLE, Int.reduceAdd, Int.reduceSub, implies_true, ne_eq, if_true, if_false, reduceCtorEq]
    refine W_callR rfl (by simp (maxSteps := 5000000) (disch := omega) only [g0, g6, g7, g8, cv_sep, V_P, SX, W_block, exitW, goInt, Int.reduceEq, setCells, oneOf, cellOk, reduceIte, Nat.reduceLT, Nat.reduceLeDiff, Nat.reduceEqDiff, Nat.reduceAdd, Nat.reduceSub, Nat.reduceMul, Int.reduceToNat, Int.reduceLT, Int.reduceLE, Int.reduceAdd, Int.reduceSub, implies_true, ne_eq, if_true, if_false, reduceCtorEq]) (Ca_is (c_Join l b c _ ((hrow.mono ok ((Same.refl ok).push (.cells [.int .u8 28] 5 false)) (by simp))) (by omega) (by omega))) ?_
    rintro v H3 ⟨rfl, rfl⟩
    simp (maxSteps := 5000000) (disch := omega) only [g0, g6, g7, g8, cv_sep, V_P, SX, W_block, exitW, goInt, Int.reduceEq, setCells, oneOf, cellOk, reduceIte, Nat.reduceLT, Nat.reduceLeDiff, Nat.reduceEqDiff, Nat.reduceAdd, Nat.reduceSub, Nat.reduceMul, Int.reduceToNat, Int.reduceLT, Int.reduceLE, Int.reduceAdd, Int.reduceSub, implies_true, ne_eq, if_true, if_false, reduceCtorEq]
    refine ⟨⟨H2.next + 1, Nat.le_succ _, ?_, ?_⟩, by repeat (first | exact Same.same ok | refine Same.push ?_ _ | refine Same.room ?_ _ | (refine Same.make ?_ (by (try simp only [Heap.next_push, Heap.next_set, Heap.next_room]); omega) (by (try simp only [Heap.next_push, Heap.next_set, Heap.next_room]); omega)) | (refine Same.put ?_ (by simp (disch := omega) only [Heap.get_pushH, Heap.get_setH, hite_same, hite_ne, hite_eq, Heap.get_room, Heap.next_push, Heap.next_set, Heap.next_room, Option.isSome_some, *]) (fun z => by first | (simp; done) | (exfalso; (try simp only [Heap.next_push, Heap.next_set, Heap.next_room] at z); omega))))⟩
    · rw [show (S (jn (l.map U))).size = (jn (l.map U)).length from rfl]
      have : (decide (0 < (l.length : Int))) = decide (0 < l.length) := by simp
      rw [this]
    · rw [hite_same]; rfl

theorem jn_cons2 (x y : List UInt8) (r : List (List UInt8)) : jn (x :: y :: r) = x ++ 28 :: jn (y :: r) := by rw [jn]; simp
/-- Parts from the i-th on, a mark ahead of each. -/
theorem jn_snoc : ∀ (L : List (List UInt8)) (a : List UInt8), L ≠ [] → jn (L ++ [a]) = jn L ++ 28 :: a
  | [], a, h => absurd rfl h
  | [x], a, _ => by simp [jn]
  | x :: y :: r, a, _ => by
    have := jn_snoc (y :: r) a (by simp)
    rw [List.cons_append, List.cons_append, jn_cons2, ← List.cons_append, this, jn_cons2]
    simp
theorem jn_take_succ {L : List ByteArray} {i : Nat} (hi : i < L.length) (h0 : i ≠ 0) : jn ((L.take (i + 1)).map U) = jn ((L.take i).map U) ++ 28 :: U L[i] := by
  rw [List.take_succ_eq_append_getElem hi, List.map_append, List.map_cons, List.map_nil, jn_snoc]
  intro h
  have h2 := congrArg List.length h
  rw [List.length_map, List.length_take, List.length_nil] at h2
  omega
theorem jn_take_one {L : List ByteArray} (hi : 0 < L.length) : jn ((L.take 1).map U) = U L[0] := by
  cases L with
  | nil => simp at hi
  | cons a r => simp [jn]
theorem bytesV_append (a b : List UInt8) : bytesV (a ++ b) = bytesV a ++ bytesV b := List.map_append ..
theorem jn_le_take : ∀ (L : List (List UInt8)) (i : Nat), (jn (L.take i)).length ≤ (jn L).length
  | [], i => by simp
  | [x], 0 => by simp [jn]
  | [x], i + 1 => by simp
  | x :: y :: r, 0 => by simp [jn]
  | x :: y :: r, 1 => by simp [jn]
  | x :: y :: r, i + 2 => by
    have := jn_le_take (y :: r) (i + 1)
    simp only [List.take_succ_cons, jn_cons2, List.length_append, List.length_cons] at *
    omega
theorem ref_Join (l : List ByteArray) (b : Option Addr) (c : Nat) (H : Heap) (ok : Ok H) (hrow : Row Tryd.prog H b l.length 1 (l.map Value.string)) (hpl : ∀ s ∈ l, (28 : UInt8) ∉ U s) (hn : l.length ≤ 1000) (hl : (jn (l.map U)).length ≤ 100000) (h0 : 0 < l.length) (h1 : 0 < (U l[0]).length) :
    ∃ v H', Ca V 27 #[.slice b l.length c] H v H' ∧ (∃ i, H.next ≤ i ∧ v = .tuple #[.slice (some ⟨i, 0, none⟩) (jn (l.map U)).length capU, .bool true] ∧ H'.get i = some (.cells (bytesV (jn (l.map U))) 5 false)) ∧ Same H H' [] := by
  have okn : ∀ a, H.next ≤ a → H.get a = none := ok
  refine Ca_run rfl tab_27 rfl ?_
  simp (maxSteps := 5000000) (disch := omega) only [Tryd.f27, V_P, SX, W_block, exitW, goInt, Int.reduceEq, setCells, oneOf, cellOk, reduceIte, Nat.reduceLT, Nat.reduceLeDiff, Nat.reduceEqDiff, Nat.reduceAdd, Nat.reduceSub, Nat.reduceMul, Int.reduceToNat, Int.reduceLT, Int.reduceLE, Int.reduceAdd, Int.reduceSub, implies_true, ne_eq, if_true, if_false, reduceCtorEq]
  refine cW_dec (fun hx => by omega) (fun hx => ?_)
  simp (maxSteps := 5000000) (disch := omega) only [V_P, SX, W_block, exitW, goInt, Int.reduceEq, setCells, oneOf, cellOk, reduceIte, Nat.reduceLT, Nat.reduceLeDiff, Nat.reduceEqDiff, Nat.reduceAdd, Nat.reduceSub, Nat.reduceMul, Int.reduceToNat, Int.reduceLT, Int.reduceLE, Int.reduceAdd, Int.reduceSub, implies_true, ne_eq, if_true, if_false, reduceCtorEq]
  refine W_for (fun (i : Nat) t H2 => ∃ bo n co, t.get 0 = some (.slice b l.length c) ∧ t.get 4 = some (.slice bo n co) ∧ t.get 5 = some (.int .i64 i) ∧ i ≤ l.length ∧ n = (jn ((l.take i).map U)).length ∧ (i ≠ 0 → n ≠ 0) ∧ MRow H2 H.next 5 bo n co (bytesV (jn ((l.take i).map U))) ∧ Same H H2 []) (fun i => l.length - i) 0 ?_ ?_
  · simp (maxSteps := 5000000) (disch := omega) only [V_P, SX, W_block, exitW, goInt, Int.reduceEq, setCells, oneOf, cellOk, reduceIte, Nat.reduceLT, Nat.reduceLeDiff, Nat.reduceEqDiff, Nat.reduceAdd, Nat.reduceSub, Nat.reduceMul, Int.reduceToNat, Int.reduceLT, Int.reduceLE, Int.reduceAdd, Int.reduceSub, implies_true, ne_eq, if_true, if_false, reduceCtorEq]
    exact ⟨none, 0, 0, rfl, rfl, Nat.zero_le _, rfl, .nil, Same.refl ok⟩
  rintro i t H2 ⟨bo, n, co, g0, g4, g5, hi, hn2, hnz, hm, hs⟩
  simp (maxSteps := 5000000) (disch := omega) only [g0, g4, g5, V_P, SX, W_block, exitW, goInt, Int.reduceEq, setCells, oneOf, cellOk, reduceIte, Nat.reduceLT, Nat.reduceLeDiff, Nat.reduceEqDiff, Nat.reduceAdd, Nat.reduceSub, Nat.reduceMul, Int.reduceToNat, Int.reduceLT, Int.reduceLE, Int.reduceAdd, Int.reduceSub, implies_true, ne_eq, if_true, if_false, reduceCtorEq]
  refine cW_dec (fun hlt => ?_) (fun hlt => ?_)
  · have hlt' : i < l.length := by omega
    have ok2 := hs.ok
    have hrow2 := hrow.mono ok hs (by simp)
    simp (maxSteps := 5000000) (disch := omega) only [g0, g4, g5, V_P, SX, W_block, exitW, goInt, Int.reduceEq, setCells, oneOf, cellOk, reduceIte, Nat.reduceLT, Nat.reduceLeDiff, Nat.reduceEqDiff, Nat.reduceAdd, Nat.reduceSub, Nat.reduceMul, Int.reduceToNat, Int.reduceLT, Int.reduceLE, Int.reduceAdd, Int.reduceSub, implies_true, ne_eq, if_true, if_false, reduceCtorEq]
    refine cW_merge (fun t H3 => ∃ bo n co pre, t.get 0 = some (.slice b l.length c) ∧ t.get 4 = some (.slice bo n co) ∧ t.get 5 = some (.int .i64 i) ∧ n = pre.length ∧ (i ≠ 0 → pre ≠ []) ∧ jn ((l.take (i + 1)).map U) = pre ++ U l[i] ∧ MRow H3 H.next 5 bo n co (bytesV pre) ∧ Same H H3 []) (fun hc => ?_) (fun hc => ?_) ?_
    · have hi0 : i ≠ 0 := by have := of_decide_eq_true hc; omega
      rcases hm.ways with ⟨_, h, _⟩ | ⟨j, rfl, rfl, _, hlo, hg⟩
      · exact absurd h (hnz hi0)
      have hjl : n ≤ 100000 := by have := jn_le_take (l.map U) i; rw [← List.map_take] at this; omega
      have hj := jn_take_succ hlt' hi0
      generalize jn ((l.take i).map U) = pre at *
      subst hn2
      have hj2 := ok2.lt hg
      have hne : (j = H2.next) = False := by simp; omega
      have hcap : ¬ capU = pre.length := by unfold capU; omega
      have hL : (bytesV pre).length = pre.length := bytesV_length pre
      have hT : List.take pre.length (bytesV pre) = bytesV pre := List.take_of_length_le (by rw [hL]; exact Nat.le_refl _)
      have hnz2 : ¬ pre.length = 0 := hnz hi0
      simp (maxSteps := 5000000) (disch := omega) only [g0, g4, g5, hg, hne, if_neg hcap, if_neg hnz2, hL, hT, V_P, SX, W_block, exitW, goInt, Int.reduceEq, setCells, oneOf, cellOk, reduceIte, Nat.reduceLT, Nat.reduceLeDiff, Nat.reduceEqDiff, Nat.reduceAdd, Nat.reduceSub, Nat.reduceMul, Int.reduceToNat, Int.reduceLT, Int.reduceLE, Int.reduceAdd, Int.reduceSub, implies_true, ne_eq, if_true, if_false, reduceCtorEq]
      refine ⟨_, _, _, pre ++ [28], rfl, by simp, by simp, by rw [hj]; simp, ?_, ?_⟩
      · rw [bytesV_append]
        exact .own (by simp only [Heap.get_push, Heap.next_push, Heap.next_set]; rw [if_pos trivial]; rfl) (by have := hs.le; first | omega | (simp only [Heap.next_push, Heap.next_set]; omega)) (by simp)
      · repeat (first | exact hs | refine Same.push ?_ _ | refine Same.room ?_ _ | (refine Same.make ?_ (by (try simp only [Heap.next_push, Heap.next_set, Heap.next_room]); omega) (by (try simp only [Heap.next_push, Heap.next_set, Heap.next_room]); omega)) | (refine Same.put ?_ (by simp (disch := omega) only [Heap.get_pushH, Heap.get_setH, hite_same, hite_ne, hite_eq, Heap.get_room, Heap.next_push, Heap.next_set, Heap.next_room, Option.isSome_some, *]) (fun z => by first | (simp; done) | (exfalso; (try simp only [Heap.next_push, Heap.next_set, Heap.next_room] at z); omega))))
    · have hi0 : i = 0 := by have := of_decide_eq_false hc; omega
      subst hi0
      simp (maxSteps := 5000000) (disch := omega) only [g0, g4, g5, V_P, SX, W_block, exitW, goInt, Int.reduceEq, setCells, oneOf, cellOk, reduceIte, Nat.reduceLT, Nat.reduceLeDiff, Nat.reduceEqDiff, Nat.reduceAdd, Nat.reduceSub, Nat.reduceMul, Int.reduceToNat, Int.reduceLT, Int.reduceLE, Int.reduceAdd, Int.reduceSub, implies_true, ne_eq, if_true, if_false, reduceCtorEq]
      refine ⟨_, _, _, [], rfl, ?_, ?_, ?_, hs⟩
      · rw [hn2]; rfl
      · rw [jn_take_one hlt']; rfl
      · exact hm
    rintro t H3 ⟨bo, n, co, pre, g0, g4, g5, hn3, hpz, hj, hm3, hs3⟩
    have hrow3 := hrow.mono ok hs3 (by simp)
    obtain ⟨r, o, rfl, hgc⟩ := row_at hrow3 hlt'
    have hsz : l[i].size = (U l[i]).length := U_size _
    have hbnd : pre.length + (U l[i]).length ≤ 100000 := by
      have := jn_le_take (l.map U) (i + 1); rw [← List.map_take, hj, List.length_append] at this; omega
    simp (maxSteps := 5000000) (disch := omega) only [g0, g4, g5, V_P, SX, W_block, exitW, goInt, Int.reduceEq, setCells, oneOf, cellOk, reduceIte, Nat.reduceLT, Nat.reduceLeDiff, Nat.reduceEqDiff, Nat.reduceAdd, Nat.reduceSub, Nat.reduceMul, Int.reduceToNat, Int.reduceLT, Int.reduceLE, Int.reduceAdd, Int.reduceSub, implies_true, ne_eq, if_true, if_false, reduceCtorEq]
    refine W_for (fun (k : Nat) t H4 => H4 = H3 ∧ t.get 0 = some (.slice (some ⟨r, o, none⟩) l.length c) ∧ t.get 4 = some (.slice bo n co) ∧ t.get 5 = some (.int .i64 i) ∧ t.get 6 = some (.int .i64 k) ∧ k ≤ l[i].size) (fun k => l[i].size - k) 0 ?_ ?_
    · simp (maxSteps := 5000000) (disch := omega) only [g0, g4, g5, V_P, SX, W_block, exitW, goInt, Int.reduceEq, setCells, oneOf, cellOk, reduceIte, Nat.reduceLT, Nat.reduceLeDiff, Nat.reduceEqDiff, Nat.reduceAdd, Nat.reduceSub, Nat.reduceMul, Int.reduceToNat, Int.reduceLT, Int.reduceLE, Int.reduceAdd, Int.reduceSub, implies_true, ne_eq, if_true, if_false, reduceCtorEq]
      exact ⟨rfl, Nat.zero_le _⟩
    rintro k t H4 ⟨e4, g0, g4, g5, g6, hk⟩
    obtain rfl := e4.symm
    simp (maxSteps := 5000000) (disch := omega) only [g0, g4, g5, g6, hgc, V_P, SX, W_block, exitW, goInt, Int.reduceEq, setCells, oneOf, cellOk, reduceIte, Nat.reduceLT, Nat.reduceLeDiff, Nat.reduceEqDiff, Nat.reduceAdd, Nat.reduceSub, Nat.reduceMul, Int.reduceToNat, Int.reduceLT, Int.reduceLE, Int.reduceAdd, Int.reduceSub, implies_true, ne_eq, if_true, if_false, reduceCtorEq]
    refine cW_dec (fun hk2 => ?_) (fun hk2 => ?_)
    · have hk3 : k < l[i].size := by omega
      have hb : l[i][k]? = some l[i][k] := getElem?_pos l[i] k hk3
      have hne : l[i][k] ≠ 28 := fun h => hpl l[i] (List.getElem_mem hlt') (by rw [← h]; exact Array.getElem_mem_toList _)
      generalize l[i][k] = x at hb hne
      simp (maxSteps := 5000000) (disch := omega) only [g0, g4, g5, g6, hgc, hb, V_P, SX, W_block, exitW, goInt, Int.reduceEq, setCells, oneOf, cellOk, reduceIte, Nat.reduceLT, Nat.reduceLeDiff, Nat.reduceEqDiff, Nat.reduceAdd, Nat.reduceSub, Nat.reduceMul, Int.reduceToNat, Int.reduceLT, Int.reduceLE, Int.reduceAdd, Int.reduceSub, implies_true, ne_eq, if_true, if_false, reduceCtorEq]
      refine cW_dec (fun hx => ?_) (fun hx => ?_)
      · exact absurd (UInt8.toNat_inj.1 (by have : (28 : UInt8).toNat = 28 := rfl; omega)) hne
      simp (maxSteps := 5000000) (disch := omega) only [g0, g4, g5, g6, hgc, hb, V_P, SX, W_block, exitW, goInt, Int.reduceEq, setCells, oneOf, cellOk, reduceIte, Nat.reduceLT, Nat.reduceLeDiff, Nat.reduceEqDiff, Nat.reduceAdd, Nat.reduceSub, Nat.reduceMul, Int.reduceToNat, Int.reduceLT, Int.reduceLE, Int.reduceAdd, Int.reduceSub, implies_true, ne_eq, if_true, if_false, reduceCtorEq]
      refine ⟨k + 1, ⟨by simp, by omega⟩, by omega⟩
    have hfs : firstB H3 1 l[i].size (.string l[i]) = some (bytesV (U l[i])) := by
      show (if l[i].size ≤ l[i].size ∧ (1:Nat) = 1 then some (((l[i].extract 0 l[i].size).data.toList).map _) else none) = _
      rw [if_pos ⟨Nat.le_refl _, rfl⟩]
      have : l[i].extract 0 l[i].size = l[i] := by apply ByteArray.ext; rw [ByteArray.data_extract]; exact Array.extract_size
      rw [this]; rfl
    have hall : (bytesV (U l[i])).all cellOk = true := by
      rw [List.all_eq_true]; intro x hx; obtain ⟨y, _, rfl⟩ := List.mem_map.mp hx; rfl
    subst hn3
    rcases hm3.ways with ⟨rfl, h, rfl, h2⟩ | ⟨j, rfl, rfl, hnz2, hlo, hg⟩
    · have hp0 : pre = [] := List.length_eq_zero_iff.1 h
      subst hp0
      have hi0 : i = 0 := by
        rcases Nat.eq_zero_or_pos i with h | h
        · exact h
        · exact absurd rfl (hpz (by omega))
      have hsz0 : ¬ l[i].size = 0 := by rw [hsz]; subst hi0; omega
      simp (maxSteps := 5000000) (disch := omega) only [g0, g4, g5, g6, hgc, hfs, hall, if_neg hsz0, V_P, SX, W_block, exitW, goInt, Int.reduceEq, setCells, oneOf, cellOk, reduceIte, Nat.reduceLT, Nat.reduceLeDiff, Nat.reduceEqDiff, Nat.reduceAdd, Nat.reduceSub, Nat.reduceMul, Int.reduceToNat, Int.reduceLT, Int.reduceLE, Int.reduceAdd, Int.reduceSub, implies_true, ne_eq, if_true, if_false, reduceCtorEq]
      refine ⟨i + 1, ⟨_, _, _, rfl, by simp, by omega, by rw [hj, hsz]; rfl, fun _ => hsz0, ?_, by repeat (first | exact hs3 | refine Same.push ?_ _ | refine Same.room ?_ _ | (refine Same.make ?_ (by (try simp only [Heap.next_push, Heap.next_set, Heap.next_room]); omega) (by (try simp only [Heap.next_push, Heap.next_set, Heap.next_room]); omega)) | (refine Same.put ?_ (by simp (disch := omega) only [Heap.get_pushH, Heap.get_setH, hite_same, hite_ne, hite_eq, Heap.get_room, Heap.next_push, Heap.next_set, Heap.next_room, Option.isSome_some, *]) (fun z => by first | (simp; done) | (exfalso; (try simp only [Heap.next_push, Heap.next_set, Heap.next_room] at z); omega))))⟩, by omega⟩
      rw [hj]
      exact .own (by rw [Heap.get_push, if_pos rfl]; rfl) hs3.le hsz0
    · have hj2 := hs3.ok.lt hg
      have hne : (j = H3.next) = False := by simp; omega
      have hcap : ¬ capU = pre.length := by unfold capU; omega
      have hL : (bytesV pre).length = pre.length := bytesV_length pre
      have hT : List.take pre.length (bytesV pre) = bytesV pre := List.take_of_length_le (by rw [hL]; exact Nat.le_refl _)
      by_cases hz : l[i].size = 0
      · simp (maxSteps := 5000000) (disch := omega) only [g0, g4, g5, g6, hgc, hfs, hall, hg, hne, hL, hT, if_neg hnz2, if_pos hz, V_P, SX, W_block, exitW, goInt, Int.reduceEq, setCells, oneOf, cellOk, reduceIte, Nat.reduceLT, Nat.reduceLeDiff, Nat.reduceEqDiff, Nat.reduceAdd, Nat.reduceSub, Nat.reduceMul, Int.reduceToNat, Int.reduceLT, Int.reduceLE, Int.reduceAdd, Int.reduceSub, implies_true, ne_eq, if_true, if_false, reduceCtorEq]
        have hU0 : U l[i] = [] := List.length_eq_zero_iff.1 (by omega)
        rw [hU0, List.append_nil] at hj
        refine ⟨i + 1, ⟨_, _, _, rfl, by simp, by omega, by rw [hj], fun _ => hnz2, ?_, hs3⟩, by omega⟩
        rw [hj]
        exact .own hg hlo hnz2
      · simp (maxSteps := 5000000) (disch := omega) only [g0, g4, g5, g6, hgc, hfs, hall, hg, hne, hL, hT, if_neg hcap, if_neg hnz2, if_neg hz, V_P, SX, W_block, exitW, goInt, Int.reduceEq, setCells, oneOf, cellOk, reduceIte, Nat.reduceLT, Nat.reduceLeDiff, Nat.reduceEqDiff, Nat.reduceAdd, Nat.reduceSub, Nat.reduceMul, Int.reduceToNat, Int.reduceLT, Int.reduceLE, Int.reduceAdd, Int.reduceSub, implies_true, ne_eq, if_true, if_false, reduceCtorEq]
        refine ⟨i + 1, ⟨_, _, _, rfl, by simp, by omega, by rw [hj, List.length_append, hsz], fun _ => by omega, ?_, by repeat (first | exact hs3 | refine Same.push ?_ _ | refine Same.room ?_ _ | (refine Same.make ?_ (by (try simp only [Heap.next_push, Heap.next_set, Heap.next_room]); omega) (by (try simp only [Heap.next_push, Heap.next_set, Heap.next_room]); omega)) | (refine Same.put ?_ (by simp (disch := omega) only [Heap.get_pushH, Heap.get_setH, hite_same, hite_ne, hite_eq, Heap.get_room, Heap.next_push, Heap.next_set, Heap.next_room, Option.isSome_some, *]) (fun z => by first | (simp; done) | (exfalso; (try simp only [Heap.next_push, Heap.next_set, Heap.next_room] at z); omega))))⟩, by omega⟩
        rw [hj, bytesV_append]
        exact .own (by simp only [Heap.get_push, Heap.next_set, if_true]) hs3.le (by omega)
  · obtain rfl : i = l.length := by omega
    rw [List.take_of_length_le (Nat.le_refl _)] at hn2 hm
    rcases hm.ways with ⟨_, h, _⟩ | ⟨j, rfl, rfl, _, hlo, hg⟩
    · exact absurd h (hnz (by omega))
    simp (maxSteps := 5000000) (disch := omega) only [g0, g4, g5, V_P, SX, W_block, exitW, goInt, Int.reduceEq, setCells, oneOf, cellOk, reduceIte, Nat.reduceLT, Nat.reduceLeDiff, Nat.reduceEqDiff, Nat.reduceAdd, Nat.reduceSub, Nat.reduceMul, Int.reduceToNat, Int.reduceLT, Int.reduceLE, Int.reduceAdd, Int.reduceSub, implies_true, ne_eq, if_true, if_false, reduceCtorEq]
    refine ⟨⟨j, hlo, by rw [hn2], hg⟩, hs⟩
end Go.B.YteigefgobkdmgaaDoor
/- A row grows; decimals; the numbers of notes as parts. -/
namespace Go.B.YteigefgobkdmgaaDoor
open Go Go.B Go.Proofs
set_option maxRecDepth 100000
set_option maxHeartbeats 16000000
set_option linter.unusedSimpArgs false
set_option linter.unusedVariables false
/-- A row that one may append to: not there yet, an object of its own, or one that is full. -/
inductive GRow (H : Heap) (lo : Nat) (e : TypeId) : Option Addr → Nat → Nat → List Value → Prop
  | nil : GRow H lo e none 0 0 []
  | own {i n : Nat} {cells : List Value} (h : Heap.get H i = some (.cells cells e false)) (hlo : lo ≤ i) (hn : n ≠ 0) : GRow H lo e (some ⟨i, 0, none⟩) n capU cells
  | full {i n : Nat} {cells : List Value} (h : Heap.get H i = some (.cells cells e false)) (hlo : lo ≤ i) (hn : n ≠ 0) : GRow H lo e (some ⟨i, 0, none⟩) n n cells
theorem GRow.ways {H : Heap} {lo n c : Nat} {e : TypeId} {b : Option Addr} {cells : List Value} (h : GRow H lo e b n c cells) :
    (b = none ∧ n = 0 ∧ c = 0 ∧ cells = []) ∨ ∃ i, b = some (Addr.mk i 0 none) ∧ (c = capU ∨ c = n) ∧ n ≠ 0 ∧ lo ≤ i ∧ H.get i = some (.cells cells e false) := by
  cases h with
  | nil => exact .inl ⟨rfl, rfl, rfl, rfl⟩
  | own h1 h2 h3 => exact .inr ⟨_, rfl, .inl rfl, h3, h2, h1⟩
  | full h1 h2 h3 => exact .inr ⟨_, rfl, .inr rfl, h3, h2, h1⟩
theorem GRow.mono {H H2 : Heap} {lo n c : Nat} {e : TypeId} {b : Option Addr} {cells : List Value} (h : GRow H lo e b n c cells) (hg : ∀ i, b = some (Addr.mk i 0 none) → H2.get i = H.get i) : GRow H2 lo e b n c cells := by
  cases h with
  | nil => exact .nil
  | own h1 h2 h3 => exact .own ((hg _ rfl).trans h1) h2 h3
  | full h1 h2 h3 => exact .full ((hg _ rfl).trans h1) h2 h3
theorem mrow_app {H0 H : Heap} {e : TypeId} {b : Option Addr} {n c k : Nat} {cells new : List Value} (hs : Same H0 H []) (hm : GRow H H0.next e b n c cells) (hcl : cells.length = n) (hk : k ≠ 0) (hb : n + k ≤ 1000000) (hok : new.all cellOk = true) :
    ∃ H' b', apV H b n c e (firstB H 1 n (.slice b n c)) (some k) (some new) = some (.slice b' (n + k) capU, H') ∧ GRow H' H0.next e b' (n + k) capU (cells ++ new) ∧ Same H0 H' [] ∧ H'.next = H.next + 1 ∧ (∀ i, i < H.next → (∀ j, b = some ⟨j, 0, none⟩ → i ≠ j) → H'.get i = H.get i) ∧ b' = some ⟨H.next, 0, none⟩ ∧ ∃ ps, Same H H' ps := by
  rcases hm.ways with ⟨rfl, rfl, rfl, rfl⟩ | ⟨j, rfl, hc, hn, hlo, hg⟩
  · refine ⟨H.push (.cells new e false), some ⟨H.next, 0, none⟩, ?_, ?_, hs.push _, rfl, fun i hi _ => by rw [Heap.get_push, if_neg (by omega)], rfl, [], (Same.refl hs.ok).push _⟩
    · show apV H none 0 0 e (some []) (some k) (some new) = _
      rw [apV_some, if_neg hk, if_pos ⟨by omega, hok⟩, apW_none, Nat.zero_add]
    · rw [List.nil_append]
      exact .own (by rw [Heap.get_push, if_pos rfl]) hs.le (by omega)
  · have hj := hs.ok.lt hg
    have hfirst : firstB H 1 n (.slice (some ⟨j, 0, none⟩) n c) = some cells := by
      rw [firstB_slice, if_pos (Nat.le_refl _), if_neg hn, Nat.mul_one, getCells_eq, hg, gcV_cells, if_pos (by omega), List.drop_zero, List.take_of_length_le (by omega)]
    by_cases hcn : c = n
    · refine ⟨H.push (.cells (cells ++ new) e false), some ⟨H.next, 0, none⟩, ?_, ?_, hs.push _, rfl, fun i hi _ => by rw [Heap.get_push, if_neg (by omega)], rfl, [], (Same.refl hs.ok).push _⟩
      · rw [hfirst, apV_some, if_neg hk, if_pos ⟨by omega, hok⟩, apW_some, if_pos hcn]
      · exact .own (by rw [Heap.get_push, if_pos rfl]) hs.le (by omega)
    · obtain rfl : c = capU := hc.resolve_right hcn
      refine ⟨(H.set j .dead).push (.cells (cells ++ new) e false), some ⟨H.next, 0, none⟩, ?_, ?_, (hs.set hg (fun h => absurd h (by omega))).push _, rfl, fun i hi hij => by
        rw [Heap.get_push, if_neg (by rw [Heap.next_set]; omega), Heap.get_set, if_neg (hij j rfl)], rfl, [j], ((Same.refl hs.ok).mono (by simp)).set hg (fun _ => by simp) |>.push _⟩
      · rw [hfirst, apV_some, if_neg hk, if_pos ⟨by omega, hok⟩, apW_some, if_neg hcn, hg, apX_cells, if_pos ⟨rfl, rfl⟩]
      · exact .own (by rw [Heap.get_push, if_pos (by rw [Heap.next_set])]) hs.le (by omega)
theorem mrow_same {H H' : Heap} {lo n c : Nat} {e : TypeId} {b : Option Addr} {cells : List Value} (h : GRow H lo e b n c cells) (ok : Ok H) (hs : Same H H' []) : GRow H' lo e b n c cells := by
  cases h with
  | nil => exact .nil
  | own h1 h2 h3 => exact .own (by rw [hs.get _ (ok.lt h1) (by simp)]; exact h1) h2 h3
  | full h1 h2 h3 => exact .full (by rw [hs.get _ (ok.lt h1) (by simp)]; exact h1) h2 h3
theorem mrow_push {H : Heap} {lo n c : Nat} {e : TypeId} {b : Option Addr} {cells : List Value} (h : GRow H lo e b n c cells) (ok : Ok H) (o : AObj) : GRow (H.push o) lo e b n c cells := mrow_same h ok ((Same.refl ok).push o)
theorem mrow_first {H : Heap} {lo n c : Nat} {e : TypeId} {b : Option Addr} {cells : List Value} (hm : GRow H lo e b n c cells) (hcl : cells.length = n) : firstB H 1 n (.slice b n c) = some cells := by
  rcases hm.ways with ⟨rfl, rfl, rfl, rfl⟩ | ⟨j, rfl, hc, hn, hlo, hg⟩
  · rfl
  · rw [firstB_slice, if_pos (Nat.le_refl _), if_neg hn, Nat.mul_one, getCells_eq, hg, gcV_cells, if_pos (by omega), List.drop_zero, List.take_of_length_le (by omega)]
theorem mrow_row {P : Program} {H : Heap} {lo n c : Nat} {e : TypeId} {b : Option Addr} {cells : List Value} (hm : GRow H lo e b n c cells) (hcl : cells.length = n) (he : szOf P e = some 1) : Row P H b n 1 cells := by
  rcases hm.ways with ⟨rfl, rfl, rfl, rfl⟩ | ⟨j, rfl, hc, hn, hlo, hg⟩
  · exact ⟨rfl, .inl rfl⟩
  · exact Row.whole hg (by omega) he
theorem mrow_ne {H : Heap} {lo n c q : Nat} {e : TypeId} {b : Option Addr} {cells : List Value} {m : Msg} (hm : GRow H lo e b n c cells) (hq : H.get q = some (mO m)) (he : e ≠ 27) : ∀ j, b = some ⟨j, 0, none⟩ → q ≠ j := by
  rintro j rfl rfl
  rcases hm.ways with ⟨h, _⟩ | ⟨j', h, _, _, _, hg⟩
  · cases h
  · cases h
    rw [hq] at hg
    unfold mO at hg
    cases hg
    exact he rfl
theorem S_append (l m : List UInt8) : S l ++ S m = S (l ++ m) := by
  apply ByteArray.ext
  rw [ByteArray.data_append]
  simp
theorem dig_at (n : Nat) : (⟨#[48, 49, 50, 51, 52, 53, 54, 55, 56, 57]⟩ : ByteArray).extract (n % 10) (n % 10 + 1) = S [dg n] := by
  have h : n % 10 < 10 := Nat.mod_lt _ (by decide)
  have : dg n = UInt8.ofNat (48 + n % 10) := rfl
  rw [this]
  generalize n % 10 = d at h
  rcases (show d = 0 ∨ d = 1 ∨ d = 2 ∨ d = 3 ∨ d = 4 ∨ d = 5 ∨ d = 6 ∨ d = 7 ∨ d = 8 ∨ d = 9 by omega) with rfl | rfl | rfl | rfl | rfl | rfl | rfl | rfl | rfl | rfl <;> rfl
theorem ref_Dec (n : Nat) : n < 9223372036854775808 → ∀ H : Heap, Ok H → ∃ v H', Ca V 25 #[.int .i64 n] H v H' ∧ v = .string (S (Lib.decDigits n)) ∧ Same H H' [] := by
  induction n using Nat.strongRecOn with
  | _ n ih =>
    intro hn H ok
    have okn : ∀ a, H.next ≤ a → H.get a = none := ok
    have hS : (⟨#[48, 49, 50, 51, 52, 53, 54, 55, 56, 57]⟩ : ByteArray).size = 10 := rfl
    have hd := dig_at n
    refine Ca_run rfl tab_25 rfl ?_
    simp (maxSteps := 5000000) (disch := omega) only [Tryd.f25, V_P, SX, W_block, exitW, goInt, Int.reduceEq, setCells, oneOf, cellOk, reduceIte, Nat.reduceLT, Nat.reduceLeDiff, Nat.reduceEqDiff, Nat.reduceAdd, Nat.reduceSub, Nat.reduceMul, Int.reduceToNat, Int.reduceLT, Int.reduceLE, Int.reduceAdd, Int.reduceSub, implies_true, ne_eq, if_true, if_false, reduceCtorEq]
    refine cW_dec (fun h => by omega) (fun _ => ?_)
    simp (maxSteps := 5000000) (disch := omega) only [V_P, SX, W_block, exitW, goInt, Int.reduceEq, setCells, oneOf, cellOk, reduceIte, Nat.reduceLT, Nat.reduceLeDiff, Nat.reduceEqDiff, Nat.reduceAdd, Nat.reduceSub, Nat.reduceMul, Int.reduceToNat, Int.reduceLT, Int.reduceLE, Int.reduceAdd, Int.reduceSub, implies_true, ne_eq, if_true, if_false, reduceCtorEq]
    refine cW_dec (fun h => ?_) (fun h => ?_)
    · rw [show n % 10 = n by omega] at hd
      have hN : ((n : Int) + 1).toNat = n + 1 := by omega
      simp (maxSteps := 5000000) (disch := omega) only [hd, hN, hS, if_pos (show n ≤ n + 1 ∧ n + 1 ≤ 10 by omega), V_P, SX, W_block, exitW, goInt, Int.reduceEq, setCells, oneOf, cellOk, reduceIte, Nat.reduceLT, Nat.reduceLeDiff, Nat.reduceEqDiff, Nat.reduceAdd, Nat.reduceSub, Nat.reduceMul, Int.reduceToNat, Int.reduceLT, Int.reduceLE, Int.reduceAdd, Int.reduceSub, implies_true, ne_eq, if_true, if_false, reduceCtorEq]
      refine ⟨by rw [dec_small (by omega)], by repeat (first | exact Same.same ok | refine Same.push ?_ _ | refine Same.room ?_ _ | (refine Same.make ?_ (by (try simp only [Heap.next_push, Heap.next_set, Heap.next_room]); omega) (by (try simp only [Heap.next_push, Heap.next_set, Heap.next_room]); omega)) | (refine Same.put ?_ (by simp (disch := omega) only [Heap.get_pushH, Heap.get_setH, hite_same, hite_ne, hite_eq, Heap.get_room, Heap.next_push, Heap.next_set, Heap.next_room, Option.isSome_some, *]) (fun z => by first | (simp; done) | (exfalso; (try simp only [Heap.next_push, Heap.next_set, Heap.next_room] at z); omega))))⟩
    · simp (maxSteps := 5000000) (disch := omega) only [V_P, SX, W_block, exitW, goInt, Int.reduceEq, setCells, oneOf, cellOk, reduceIte, Nat.reduceLT, Nat.reduceLeDiff, Nat.reduceEqDiff, Nat.reduceAdd, Nat.reduceSub, Nat.reduceMul, Int.reduceToNat, Int.reduceLT, Int.reduceLE, Int.reduceAdd, Int.reduceSub, implies_true, ne_eq, if_true, if_false, reduceCtorEq]
      have hq : (n : Int).tdiv 10 = ((n / 10 : Nat) : Int) := by rw [tdiv_pos (by omega)]; omega
      have hr : (n : Int).tmod 10 = ((n % 10 : Nat) : Int) := by rw [tmod_pos (by omega)]; omega
      refine W_drawR [[], [0], [1, 0], [], [3], [], [5], [6, 5], [4, 3, 7, 6, 5], [2, 1, 0, 8, 4, 3, 7, 6, 5], [9, 2, 1, 0, 8, 4, 3, 7, 6, 5]] [0, 1, 2, 3, 4, 5, 6, 7, 8, 9, 10] (by decide +kernel) (by repeat (first | exact ok | refine Ok.push ?_ _ | refine Ok.room ?_ _ | (refine Ok.put ?_ _ (by simp (disch := omega) only [Heap.get_pushH, Heap.get_setH, hite_same, hite_ne, hite_eq, Heap.get_room, Heap.next_push, Heap.next_set, Heap.next_room, Option.isSome_some, *])))) ?_
      simp (maxSteps := 5000000) (disch := omega) only [okn, hq, hr, V_P, SX, W_block, exitW, goInt, Int.reduceEq, setCells, oneOf, cellOk, reduceIte, Nat.reduceLT, Nat.reduceLeDiff, Nat.reduceEqDiff, Nat.reduceAdd, Nat.reduceSub, Nat.reduceMul, Int.reduceToNat, Int.reduceLT, Int.reduceLE, Int.reduceAdd, Int.reduceSub, implies_true, ne_eq, if_true, if_false, reduceCtorEq, DX, Nat.reduceBEq]
      refine DOpd_callR (by decide) rfl (by simp (maxSteps := 5000000) (disch := omega) only [okn, hq, hr, V_P, SX, W_block, exitW, goInt, Int.reduceEq, setCells, oneOf, cellOk, reduceIte, Nat.reduceLT, Nat.reduceLeDiff, Nat.reduceEqDiff, Nat.reduceAdd, Nat.reduceSub, Nat.reduceMul, Int.reduceToNat, Int.reduceLT, Int.reduceLE, Int.reduceAdd, Int.reduceSub, implies_true, ne_eq, if_true, if_false, reduceCtorEq, DX, Nat.reduceBEq]) (ih (n / 10) (by omega) (by omega) _ (by repeat (first | exact ok | refine Ok.push ?_ _ | refine Ok.room ?_ _ | (refine Ok.put ?_ _ (by simp (disch := omega) only [Heap.get_pushH, Heap.get_setH, hite_same, hite_ne, hite_eq, Heap.get_room, Heap.next_push, Heap.next_set, Heap.next_room, Option.isSome_some, *]))))) ?_
      rintro v H1 ⟨rfl, hs⟩
      refine ⟨isV_string, hs.keep (by simp only [Heap.next_room]; exact Nat.le_refl _), ?_⟩
      have hN : (((n % 10 : Nat) : Int) + 1).toNat = n % 10 + 1 := by omega
      have hlen : (Lib.decDigits (n / 10)).length ≤ 19 := dec_len_le 19 _ (by decide) (by omega)
      have hcat := fun (H : Heap) (x y : Operand) => binV_sadd (P := Tryd.prog) (H := H) (t := 9) (x := x) (y := y) (a := S (Lib.decDigits (n / 10))) (b := S [dg n]) (by show (Lib.decDigits (n / 10)).length + 1 ≤ _; omega)
      rw [S_append, ← dec_step (by omega)] at hcat
      simp (maxSteps := 5000000) (disch := omega) only [okn, hq, hr, hN, hS, hd, hcat, if_pos (show n % 10 ≤ n % 10 + 1 ∧ n % 10 + 1 ≤ 10 by omega), V_P, SX, W_block, exitW, goInt, Int.reduceEq, setCells, oneOf, cellOk, reduceIte, Nat.reduceLT, Nat.reduceLeDiff, Nat.reduceEqDiff, Nat.reduceAdd, Nat.reduceSub, Nat.reduceMul, Int.reduceToNat, Int.reduceLT, Int.reduceLE, Int.reduceAdd, Int.reduceSub, implies_true, ne_eq, if_true, if_false, reduceCtorEq, DX, Nat.reduceBEq]
      exact (by repeat (first | exact Same.same ok | refine Same.push ?_ _ | refine Same.room ?_ _ | (refine Same.make ?_ (by (try simp only [Heap.next_push, Heap.next_set, Heap.next_room]); omega) (by (try simp only [Heap.next_push, Heap.next_set, Heap.next_room]); omega)) | (refine Same.put ?_ (by simp (disch := omega) only [Heap.get_pushH, Heap.get_setH, hite_same, hite_ne, hite_eq, Heap.get_room, Heap.next_push, Heap.next_set, Heap.next_room, Option.isSome_some, *]) (fun z => by first | (simp; done) | (exfalso; (try simp only [Heap.next_push, Heap.next_set, Heap.next_room] at z); omega)))) : Same H (H.room 11) []).trans hs (by simp)
end Go.B.YteigefgobkdmgaaDoor
/- Numbers of notes as parts. -/
namespace Go.B.YteigefgobkdmgaaDoor
open Go Go.B Go.Proofs
set_option maxRecDepth 100000
set_option maxHeartbeats 16000000
set_option linter.unusedSimpArgs false
set_option linter.unusedVariables false
def txt (v : Int) : ByteArray := S (Lib.itoa v)
def N4.texts (n : N4) : List ByteArray := [txt n.a, txt n.b, txt n.c, txt n.d]
def i64 (v : Int) : Prop := -9223372036854775808 ≤ v ∧ v ≤ 9223372036854775807
def N4.wf (n : N4) : Prop := i64 n.a ∧ i64 n.b ∧ i64 n.c ∧ i64 n.d
theorem texts_len (l : List N4) : (l.flatMap N4.texts).length = l.length * 4 := by
  induction l with
  | nil => rfl
  | cons a r ih => rw [List.flatMap_cons, List.length_append, ih]; simp [N4.texts]; omega
theorem ndc_notes (l : List N4) (p c : Nat) (ro : Bool) (H : Heap) (ok : Ok H) (hp : H.get p = some (.cells (rows4 l) 25 ro)) (hl : l.length ≤ 8) (hv : ∀ n ∈ l, n.wf) :
    ∃ v H', Ca V 22 #[.slice (some ⟨p, 0, none⟩) l.length c] H v H' ∧ (∃ b n co, v = .slice b n co ∧ n = l.length * 4 ∧ GRow H' H.next 9 b n co ((l.flatMap N4.texts).map Value.string)) ∧ Same H H' [] := by
  refine Ca_run rfl tab_22 rfl ?_
  simp (maxSteps := 5000000) (disch := omega) only [Tryd.f22, V_P, SX, W_block, exitW, goInt, Int.reduceEq, setCells, oneOf, cellOk, reduceIte, Nat.reduceLT, Nat.reduceLeDiff, Nat.reduceEqDiff, Nat.reduceAdd, Nat.reduceSub, Nat.reduceMul, Int.reduceToNat, Int.reduceLT, Int.reduceLE, Int.reduceAdd, Int.reduceSub, implies_true, ne_eq, if_true, if_false, reduceCtorEq]
  refine W_for (fun (i : Nat) t H2 => ∃ b n co, t.get 8 = some (.slice (some ⟨p, 0, none⟩) l.length c) ∧ t.get 9 = some (.int .i64 l.length) ∧ t.get 10 = some (.int .i64 i) ∧ i ≤ l.length ∧ t.get 3 = some (.slice b n co) ∧ n = i * 4 ∧ GRow H2 H.next 9 b n co (((l.take i).flatMap N4.texts).map Value.string) ∧ Same H H2 []) (fun i => l.length - i) 0 ?_ ?_
  · simp (maxSteps := 5000000) (disch := omega) only [V_P, SX, W_block, exitW, goInt, Int.reduceEq, setCells, oneOf, cellOk, reduceIte, Nat.reduceLT, Nat.reduceLeDiff, Nat.reduceEqDiff, Nat.reduceAdd, Nat.reduceSub, Nat.reduceMul, Int.reduceToNat, Int.reduceLT, Int.reduceLE, Int.reduceAdd, Int.reduceSub, implies_true, ne_eq, if_true, if_false, reduceCtorEq]
    exact ⟨none, 0, 0, rfl, Nat.zero_le _, rfl, rfl, .nil, Same.refl ok⟩
  rintro i t H2 ⟨b, n, co, g8, g9, g10, hi, g3, hn, hm, hs⟩
  simp (maxSteps := 5000000) (disch := omega) only [g8, g9, g10, g3, V_P, SX, W_block, exitW, goInt, Int.reduceEq, setCells, oneOf, cellOk, reduceIte, Nat.reduceLT, Nat.reduceLeDiff, Nat.reduceEqDiff, Nat.reduceAdd, Nat.reduceSub, Nat.reduceMul, Int.reduceToNat, Int.reduceLT, Int.reduceLE, Int.reduceAdd, Int.reduceSub, implies_true, ne_eq, if_true, if_false, reduceCtorEq]
  refine cW_dec (fun hlt => ?_) (fun hlt => ?_)
  rotate_left
  · obtain rfl : i = l.length := by omega
    rw [List.take_of_length_le (Nat.le_refl _)] at hm
    simp (maxSteps := 5000000) (disch := omega) only [g8, g9, g10, g3, V_P, SX, W_block, exitW, goInt, Int.reduceEq, setCells, oneOf, cellOk, reduceIte, Nat.reduceLT, Nat.reduceLeDiff, Nat.reduceEqDiff, Nat.reduceAdd, Nat.reduceSub, Nat.reduceMul, Int.reduceToNat, Int.reduceLT, Int.reduceLE, Int.reduceAdd, Int.reduceSub, implies_true, ne_eq, if_true, if_false, reduceCtorEq]
    exact ⟨⟨b, n, co, rfl, hn, hm⟩, hs⟩
  have hlt' : i < l.length := by omega
  have hx : l[i]? = some l[i] := List.getElem?_eq_getElem hlt'
  have hw := hv l[i] (List.getElem_mem hlt')
  have htk : l.take (i + 1) = l.take i ++ [l[i]] := List.take_succ_eq_append_getElem hlt'
  generalize l[i] = x at hx hw htk
  have hpl := ok.lt hp
  have hgc : gcV (i * 4) 4 (H2.get p) = some [.int .i64 x.a, .int .i64 x.b, .int .i64 x.c, .int .i64 x.d] := by
    rw [hs.get p hpl (by simp), hp]; exact rows4_get hx
  have ok2 := hs.ok
  have hne : (p = H2.next) = False := by have := hs.le; simp; omega
  obtain ⟨wa, wb, wc, wd⟩ := hw
  have hcl : (((l.take i).flatMap N4.texts).map Value.string).length = n := by rw [List.length_map, texts_len, List.length_take]; omega
  generalize hcs : ((l.take i).flatMap N4.texts).map Value.string = cs at hm hcl
  simp (maxSteps := 5000000) (disch := omega) only [g8, g9, g10, g3, hgc, V_P, SX, W_block, exitW, goInt, Int.reduceEq, setCells, oneOf, cellOk, reduceIte, Nat.reduceLT, Nat.reduceLeDiff, Nat.reduceEqDiff, Nat.reduceAdd, Nat.reduceSub, Nat.reduceMul, Int.reduceToNat, Int.reduceLT, Int.reduceLE, Int.reduceAdd, Int.reduceSub, implies_true, ne_eq, if_true, if_false, reduceCtorEq]
  refine W_gen (fun t H' => t.get 8 = some (.slice (some ⟨p, 0, none⟩) l.length c) ∧ t.get 9 = some (.int .i64 l.length) ∧ t.get 10 = some (.int .i64 i) ∧ t.get 3 = some (.slice b n co) ∧ t.get 14 = some (.agg #[.int .i64 x.a, .int .i64 x.b, .int .i64 x.c, .int .i64 x.d]) ∧ t.get 15 = some (.int .i64 0) ∧ GRow H' H.next 9 b n co cs ∧ Same H H' []) ?_ ?_
  · simp (maxSteps := 5000000) (disch := omega) only [g8, g9, g10, g3, V_P, SX, W_block, exitW, goInt, Int.reduceEq, setCells, oneOf, cellOk, reduceIte, Nat.reduceLT, Nat.reduceLeDiff, Nat.reduceEqDiff, Nat.reduceAdd, Nat.reduceSub, Nat.reduceMul, Int.reduceToNat, Int.reduceLT, Int.reduceLE, Int.reduceAdd, Int.reduceSub, implies_true, ne_eq, if_true, if_false, reduceCtorEq]
    refine ⟨hm.mono fun j hj => ?_, (hs.push _).set (by rw [Heap.get_push, if_pos rfl]) (fun h => absurd h (by have := hs.le; omega))⟩
    subst hj
    rcases hm.ways with ⟨h, _⟩ | ⟨j', h, _, _, _, hg⟩
    · cases h
    · cases h
      have := ok2.lt hg
      rw [Heap.get_set, if_neg (by omega), Heap.get_push, if_neg (by omega)]
  rintro t H0 ⟨g8, g9, g10, g3, g14, g15, hm0, hs0⟩
  refine W_unroll ?_
  simp (maxSteps := 5000000) (disch := omega) only [g8, g9, g10, g3, g14, g15, V_P, SX, W_block, exitW, goInt, Int.reduceEq, setCells, oneOf, cellOk, reduceIte, Nat.reduceLT, Nat.reduceLeDiff, Nat.reduceEqDiff, Nat.reduceAdd, Nat.reduceSub, Nat.reduceMul, Int.reduceToNat, Int.reduceLT, Int.reduceLE, Int.reduceAdd, Int.reduceSub, implies_true, ne_eq, if_true, if_false, reduceCtorEq]
  refine W_callR rfl (by simp (maxSteps := 5000000) (disch := omega) only [g8, g9, g10, g3, g14, g15, V_P, SX, W_block, exitW, goInt, Int.reduceEq, setCells, oneOf, cellOk, reduceIte, Nat.reduceLT, Nat.reduceLeDiff, Nat.reduceEqDiff, Nat.reduceAdd, Nat.reduceSub, Nat.reduceMul, Int.reduceToNat, Int.reduceLT, Int.reduceLE, Int.reduceAdd, Int.reduceSub, implies_true, ne_eq, if_true, if_false, reduceCtorEq]) (Ca_is (c_Itoa x.a _ wa.1 wa.2)) ?_
  rintro v H9 ⟨rfl, rfl⟩
  obtain ⟨H3, b3, ap1, hm1, hs1, nx1, ot1, eb1, _⟩ := mrow_app (new := [.string (S (Lib.itoa x.a))]) (k := 1) (hs0.push (.cells [.string (S (Lib.itoa x.a))] 9 false)) (mrow_push hm0 hs0.ok (.cells [.string (S (Lib.itoa x.a))] 9 false)) hcl (by decide) (by omega) rfl
  have hcl0x : (cs ++ [Value.string (S (Lib.itoa x.a))]).length = n + 1 := by simp only [List.length_append, List.length_cons, List.length_nil]; omega
  simp (maxSteps := 5000000) (disch := omega) only [g8, g9, g10, g3, g14, g15, ap1, V_P, SX, W_block, exitW, goInt, Int.reduceEq, setCells, oneOf, cellOk, reduceIte, Nat.reduceLT, Nat.reduceLeDiff, Nat.reduceEqDiff, Nat.reduceAdd, Nat.reduceSub, Nat.reduceMul, Int.reduceToNat, Int.reduceLT, Int.reduceLE, Int.reduceAdd, Int.reduceSub, implies_true, ne_eq, if_true, if_false, reduceCtorEq]
  refine W_unroll ?_
  simp (maxSteps := 5000000) (disch := omega) only [g8, g9, g10, g3, g14, g15, V_P, SX, W_block, exitW, goInt, Int.reduceEq, setCells, oneOf, cellOk, reduceIte, Nat.reduceLT, Nat.reduceLeDiff, Nat.reduceEqDiff, Nat.reduceAdd, Nat.reduceSub, Nat.reduceMul, Int.reduceToNat, Int.reduceLT, Int.reduceLE, Int.reduceAdd, Int.reduceSub, implies_true, ne_eq, if_true, if_false, reduceCtorEq]
  refine W_callR rfl (by simp (maxSteps := 5000000) (disch := omega) only [g8, g9, g10, g3, g14, g15, V_P, SX, W_block, exitW, goInt, Int.reduceEq, setCells, oneOf, cellOk, reduceIte, Nat.reduceLT, Nat.reduceLeDiff, Nat.reduceEqDiff, Nat.reduceAdd, Nat.reduceSub, Nat.reduceMul, Int.reduceToNat, Int.reduceLT, Int.reduceLE, Int.reduceAdd, Int.reduceSub, implies_true, ne_eq, if_true, if_false, reduceCtorEq]) (Ca_is (c_Itoa x.b _ wb.1 wb.2)) ?_
  rintro v H9 ⟨rfl, rfl⟩
  obtain ⟨H4, b4, ap2, hm2, hs2, nx2, ot2, eb2, _⟩ := mrow_app (new := [.string (S (Lib.itoa x.b))]) (k := 1) (hs1.push (.cells [.string (S (Lib.itoa x.b))] 9 false)) (mrow_push hm1 hs1.ok (.cells [.string (S (Lib.itoa x.b))] 9 false)) hcl0x (by decide) (by omega) rfl
  have hcl1x : (cs ++ [Value.string (S (Lib.itoa x.a))] ++ [Value.string (S (Lib.itoa x.b))]).length = n + 2 := by simp only [List.length_append, List.length_cons, List.length_nil]; omega
  simp (maxSteps := 5000000) (disch := omega) only [g8, g9, g10, g3, g14, g15, ap2, V_P, SX, W_block, exitW, goInt, Int.reduceEq, setCells, oneOf, cellOk, reduceIte, Nat.reduceLT, Nat.reduceLeDiff, Nat.reduceEqDiff, Nat.reduceAdd, Nat.reduceSub, Nat.reduceMul, Int.reduceToNat, Int.reduceLT, Int.reduceLE, Int.reduceAdd, Int.reduceSub, implies_true, ne_eq, if_true, if_false, reduceCtorEq]
  refine W_unroll ?_
  simp (maxSteps := 5000000) (disch := omega) only [g8, g9, g10, g3, g14, g15, V_P, SX, W_block, exitW, goInt, Int.reduceEq, setCells, oneOf, cellOk, reduceIte, Nat.reduceLT, Nat.reduceLeDiff, Nat.reduceEqDiff, Nat.reduceAdd, Nat.reduceSub, Nat.reduceMul, Int.reduceToNat, Int.reduceLT, Int.reduceLE, Int.reduceAdd, Int.reduceSub, implies_true, ne_eq, if_true, if_false, reduceCtorEq]
  refine W_callR rfl (by simp (maxSteps := 5000000) (disch := omega) only [g8, g9, g10, g3, g14, g15, V_P, SX, W_block, exitW, goInt, Int.reduceEq, setCells, oneOf, cellOk, reduceIte, Nat.reduceLT, Nat.reduceLeDiff, Nat.reduceEqDiff, Nat.reduceAdd, Nat.reduceSub, Nat.reduceMul, Int.reduceToNat, Int.reduceLT, Int.reduceLE, Int.reduceAdd, Int.reduceSub, implies_true, ne_eq, if_true, if_false, reduceCtorEq]) (Ca_is (c_Itoa x.c _ wc.1 wc.2)) ?_
  rintro v H9 ⟨rfl, rfl⟩
  obtain ⟨H5, b5, ap3, hm3, hs3, nx3, ot3, eb3, _⟩ := mrow_app (new := [.string (S (Lib.itoa x.c))]) (k := 1) (hs2.push (.cells [.string (S (Lib.itoa x.c))] 9 false)) (mrow_push hm2 hs2.ok (.cells [.string (S (Lib.itoa x.c))] 9 false)) hcl1x (by decide) (by omega) rfl
  have hcl2x : (cs ++ [Value.string (S (Lib.itoa x.a))] ++ [Value.string (S (Lib.itoa x.b))] ++ [Value.string (S (Lib.itoa x.c))]).length = n + 3 := by simp only [List.length_append, List.length_cons, List.length_nil]; omega
  simp (maxSteps := 5000000) (disch := omega) only [g8, g9, g10, g3, g14, g15, ap3, V_P, SX, W_block, exitW, goInt, Int.reduceEq, setCells, oneOf, cellOk, reduceIte, Nat.reduceLT, Nat.reduceLeDiff, Nat.reduceEqDiff, Nat.reduceAdd, Nat.reduceSub, Nat.reduceMul, Int.reduceToNat, Int.reduceLT, Int.reduceLE, Int.reduceAdd, Int.reduceSub, implies_true, ne_eq, if_true, if_false, reduceCtorEq]
  refine W_unroll ?_
  simp (maxSteps := 5000000) (disch := omega) only [g8, g9, g10, g3, g14, g15, V_P, SX, W_block, exitW, goInt, Int.reduceEq, setCells, oneOf, cellOk, reduceIte, Nat.reduceLT, Nat.reduceLeDiff, Nat.reduceEqDiff, Nat.reduceAdd, Nat.reduceSub, Nat.reduceMul, Int.reduceToNat, Int.reduceLT, Int.reduceLE, Int.reduceAdd, Int.reduceSub, implies_true, ne_eq, if_true, if_false, reduceCtorEq]
  refine W_callR rfl (by simp (maxSteps := 5000000) (disch := omega) only [g8, g9, g10, g3, g14, g15, V_P, SX, W_block, exitW, goInt, Int.reduceEq, setCells, oneOf, cellOk, reduceIte, Nat.reduceLT, Nat.reduceLeDiff, Nat.reduceEqDiff, Nat.reduceAdd, Nat.reduceSub, Nat.reduceMul, Int.reduceToNat, Int.reduceLT, Int.reduceLE, Int.reduceAdd, Int.reduceSub, implies_true, ne_eq, if_true, if_false, reduceCtorEq]) (Ca_is (c_Itoa x.d _ wd.1 wd.2)) ?_
  rintro v H9 ⟨rfl, rfl⟩
  obtain ⟨H6, b6, ap4, hm4, hs4, nx4, ot4, eb4, _⟩ := mrow_app (new := [.string (S (Lib.itoa x.d))]) (k := 1) (hs3.push (.cells [.string (S (Lib.itoa x.d))] 9 false)) (mrow_push hm3 hs3.ok (.cells [.string (S (Lib.itoa x.d))] 9 false)) hcl2x (by decide) (by omega) rfl
  have hcl3x : (cs ++ [Value.string (S (Lib.itoa x.a))] ++ [Value.string (S (Lib.itoa x.b))] ++ [Value.string (S (Lib.itoa x.c))] ++ [Value.string (S (Lib.itoa x.d))]).length = n + 4 := by simp only [List.length_append, List.length_cons, List.length_nil]; omega
  simp (maxSteps := 5000000) (disch := omega) only [g8, g9, g10, g3, g14, g15, ap4, V_P, SX, W_block, exitW, goInt, Int.reduceEq, setCells, oneOf, cellOk, reduceIte, Nat.reduceLT, Nat.reduceLeDiff, Nat.reduceEqDiff, Nat.reduceAdd, Nat.reduceSub, Nat.reduceMul, Int.reduceToNat, Int.reduceLT, Int.reduceLE, Int.reduceAdd, Int.reduceSub, implies_true, ne_eq, if_true, if_false, reduceCtorEq]
  refine W_unroll ?_
  simp (maxSteps := 5000000) (disch := omega) only [g8, g9, g10, g3, g14, g15, V_P, SX, W_block, exitW, goInt, Int.reduceEq, setCells, oneOf, cellOk, reduceIte, Nat.reduceLT, Nat.reduceLeDiff, Nat.reduceEqDiff, Nat.reduceAdd, Nat.reduceSub, Nat.reduceMul, Int.reduceToNat, Int.reduceLT, Int.reduceLE, Int.reduceAdd, Int.reduceSub, implies_true, ne_eq, if_true, if_false, reduceCtorEq]
  refine ⟨i + 1, ⟨_, _, _, by simp, by omega, rfl, by omega, ?_, hs4⟩, by omega⟩
  rw [htk, List.flatMap_append, List.map_append, hcs, List.flatMap_cons, List.flatMap_nil, List.append_nil]
  simpa [N4.texts, txt] using hm4
end Go.B.YteigefgobkdmgaaDoor
/- A message's bytes, as the code tells them. -/
namespace Go.B.YteigefgobkdmgaaDoor
open Go Go.B Go.Proofs
set_option maxRecDepth 100000
set_option maxHeartbeats 16000000
set_option linter.unusedSimpArgs false
set_option linter.unusedVariables false
/-- Which cells a kind's parts are. -/
def slots (k : Int) : List Nat := if k = 1 then [1, 2, 3, 4] else if k = 2 then [1, 2, 5, 6, 7, 8, 9, 10, 11, 12] else if k = 3 then [1] else if k = 4 then [1, 2, 5, 6, 7, 8, 9, 10, 11, 12, 13, 14, 15, 16, 17, 18, 19, 20, 21, 22, 23, 24, 25] else if k = 5 then [1, 2, 4, 5, 6, 7, 8] else if k = 6 then [1, 2] else if k = 7 then [1, 2] else []
def Msg.text (m : Msg) (j : Nat) : ByteArray := if j = 3 then m.pan else txt (m.c j)
def Msg.texts (m : Msg) : List ByteArray := kindS (m.c 0) :: (slots (m.c 0)).map m.text
def Msg.bytes (m : Msg) : List UInt8 := jn (m.texts.map U)
structure Msg.wf (m : Msg) : Prop where
  pan : m.pan.size ≤ maxLen
  term : 0 ≤ m.c 1 ∧ m.c 1 < 65536
  stan : 0 ≤ m.c 2 ∧ m.c 2 < 4294967296
/-- What a message's bytes are, or that it is refused. -/
def PutR (m : Msg) (H : Heap) (v : Value) (H' : Heap) : Prop :=
  (m.right = false → v = .tuple #[.slice none 0 0, .int .i64 27]) ∧ (m.right = true → ∃ i, H.next ≤ i ∧ v = .tuple #[.slice (some ⟨i, 0, none⟩) m.bytes.length capU, .int .i64 0] ∧ H'.get i = some (.cells (bytesV m.bytes) 5 false)) ∧ Same H H' []
theorem within_iff {most : Int} {n : N4} : n.within most = true ↔ (0 ≤ n.a ∧ n.a ≤ most) ∧ (0 ≤ n.b ∧ n.b ≤ most) ∧ (0 ≤ n.c ∧ n.c ≤ most) ∧ (0 ≤ n.d ∧ n.d ≤ most) := by unfold N4.within; simp
theorem right_n4 {m : Msg} (h : m.right = true) {i : Nat} (hi : i < 5) : (m.n4 (grp i)).wf := by
  have h5 := ((right_iff m).mp h).2.2.2.2 i hi
  have hm : mostG i ≤ 2147483647 := by unfold mostG; split <;> omega
  obtain ⟨a, b, c, d⟩ := within_iff.mp h5
  unfold N4.wf i64
  omega
theorem digs_plain {s : ByteArray} (h : digs s = true) : (28 : UInt8) ∉ U s := fun hm => by
  have := List.all_eq_true.mp h _ hm
  exact absurd this (by decide)
theorem kindS_plain (k : Int) : (28 : UInt8) ∉ U (kindS k) := by
  show (28 : UInt8) ∉ kindL k
  unfold kindL
  repeat' split
  all_goals decide
theorem itoa_plain (v : Int) : (28 : UInt8) ∉ U (txt v) := by
  show (28 : UInt8) ∉ Lib.itoa v
  unfold Lib.itoa
  split
  · intro h
    rcases List.mem_cons.mp h with h | h
    · exact absurd h (by decide)
    · exact dec_plain _ h
  · exact dec_plain _
theorem itoa_len {v : Int} (h : i64 v) : (U (txt v)).length ≤ 20 := by
  show (Lib.itoa v).length ≤ 20
  obtain ⟨h0, h1⟩ := h
  have h : ∀ n : Nat, n ≤ 9223372036854775808 → (Lib.decDigits n).length ≤ 19 := fun n hn => dec_len_le 19 n (by decide) (by omega)
  unfold Lib.itoa
  split
  · rw [List.length_cons]; have := h v.natAbs (by omega); omega
  · have := h v.toNat (by omega); omega
theorem jn_len (L : List (List UInt8)) (b : Nat) (h : ∀ a ∈ L, a.length ≤ b) : (jn L).length ≤ L.length * (b + 1) := by
  induction L with
  | nil => simp [jn]
  | cons x r ih =>
    cases r with
    | nil => have := h x (by simp); simp [jn]; omega
    | cons y r =>
      rw [jn_cons2, List.length_append, List.length_cons]
      have h1 := h x (by simp)
      have h2 := ih (fun a ha => h a (by simp at ha ⊢; exact .inr ha))
      rw [List.length_cons, Nat.succ_mul]
      omega
theorem slots_length (k : Int) : (slots k).length ≤ 23 := by
  unfold slots
  repeat' split
  all_goals decide
theorem right_i64 {m : Msg} (h : m.right = true) (hw : m.wf) {j : Nat} (hj : j < 26) (h3 : j ≠ 3) : i64 (m.c j) := by
  have hr := (right_iff m).mp h
  have h0 := right_n4 h (i := 0) (by decide)
  have h1 := right_n4 h (i := 1) (by decide)
  have h2 := right_n4 h (i := 2) (by decide)
  have h3' := right_n4 h (i := 3) (by decide)
  have h4 := right_n4 h (i := 4) (by decide)
  obtain ⟨a0, b0, c0, d0⟩ := h0
  obtain ⟨a1, b1, c1, d1⟩ := h1
  obtain ⟨a2, b2, c2, d2⟩ := h2
  obtain ⟨a3, b3, c3, d3⟩ := h3'
  obtain ⟨a4, b4, c4, d4⟩ := h4
  have k0 : i64 (m.c 0) := by unfold i64; omega
  have k1 : i64 (m.c 1) := by have := hw.term; unfold i64; omega
  have k2 : i64 (m.c 2) := by have := hw.stan; unfold i64; omega
  have k4 : i64 (m.c 4) := by unfold i64; omega
  have k21 : i64 (m.c 21) := by unfold i64; omega
  have : j = 0 ∨ j = 1 ∨ j = 2 ∨ j = 4 ∨ j = 5 ∨ j = 6 ∨ j = 7 ∨ j = 8 ∨ j = 9 ∨ j = 10 ∨ j = 11 ∨ j = 12 ∨ j = 13 ∨ j = 14 ∨ j = 15 ∨ j = 16 ∨ j = 17 ∨ j = 18 ∨ j = 19 ∨ j = 20 ∨ j = 21 ∨ j = 22 ∨ j = 23 ∨ j = 24 ∨ j = 25 := by omega
  rcases this with rfl | rfl | rfl | rfl | rfl | rfl | rfl | rfl | rfl | rfl | rfl | rfl | rfl | rfl | rfl | rfl | rfl | rfl | rfl | rfl | rfl | rfl | rfl | rfl | rfl <;> assumption
theorem slots_lt (k : Int) : ∀ j ∈ slots k, j < 26 := by
  unfold slots
  repeat' split
  all_goals decide
/-- What is asked of the parts. -/
theorem texts_ok {m : Msg} (h : m.right = true) (hw : m.wf) : (∀ s ∈ m.texts, (28 : UInt8) ∉ U s) ∧ m.texts.length ≤ 1000 ∧ (jn (m.texts.map U)).length ≤ 100000 := by
  have hr := (right_iff m).mp h
  have hpan : (28 : UInt8) ∉ U m.pan ∧ (U m.pan).length ≤ 20 := by
    rcases hr.2.2.2.1 with ⟨_, hp⟩ | ⟨_, hp⟩
    · unfold panOk at hp
      simp only [Bool.and_eq_true, decide_eq_true_eq] at hp
      refine ⟨digs_plain hp.2.2, ?_⟩
      rw [← U_size]; omega
    · rw [hp]; simp [U_S]
  have hlen : m.texts.length ≤ 24 := by
    unfold Msg.texts
    rw [List.length_cons, List.length_map]
    have := slots_length (m.c 0)
    omega
  refine ⟨?_, by omega, ?_⟩
  · intro s hs
    unfold Msg.texts at hs
    rcases List.mem_cons.mp hs with rfl | hs
    · exact kindS_plain _
    · obtain ⟨j, hj, rfl⟩ := List.mem_map.mp hs
      unfold Msg.text
      split
      · exact hpan.1
      · exact itoa_plain _
  · have := jn_len (m.texts.map U) 20 (by
      intro a ha
      obtain ⟨s, hs, rfl⟩ := List.mem_map.mp ha
      unfold Msg.texts at hs
      rcases List.mem_cons.mp hs with rfl | hs
      · show (kindL _).length ≤ 20
        unfold kindL
        repeat' split
        all_goals decide
      · obtain ⟨j, hj, rfl⟩ := List.mem_map.mp hs
        unfold Msg.text
        split
        · exact hpan.2
        · rename_i h3
          exact itoa_len (right_i64 h hw (slots_lt _ j hj) h3))
    rw [List.length_map] at this
    have h24 := Nat.mul_le_mul_right (20 + 1) hlen
    omega
end Go.B.YteigefgobkdmgaaDoor
/- A message's bytes: the code's Put. -/
namespace Go.B.YteigefgobkdmgaaDoor
open Go Go.B Go.Proofs
set_option maxRecDepth 100000
set_option maxHeartbeats 16000000
set_option linter.unusedSimpArgs false
set_option linter.unusedVariables false
theorem ndc_Put (m : Msg) (H : Heap) (ok : Ok H) (hw : m.wf) : ∃ v H', Ca V 9 #[.agg m.cells.toArray] H v H' ∧ PutR m H v H' := by
  have okn : ∀ a, H.next ≤ a → H.get a = none := ok
  refine Ca_run rfl tab_9 rfl ?_
  simp (maxSteps := 5000000) (disch := omega) only [Tryd.f9, MX, V_P, SX, W_block, exitW, goInt, Int.reduceEq, setCells, oneOf, cellOk, reduceIte, Nat.reduceLT, Nat.reduceLeDiff, Nat.reduceEqDiff, Nat.reduceAdd, Nat.reduceSub, Nat.reduceMul, Int.reduceToNat, Int.reduceLT, Int.reduceLE, Int.reduceAdd, Int.reduceSub, implies_true, ne_eq, if_true, if_false, reduceCtorEq]
  refine W_callR rfl (by simp (maxSteps := 5000000) (disch := omega) only [MX, V_P, SX, W_block, exitW, goInt, Int.reduceEq, setCells, oneOf, cellOk, reduceIte, Nat.reduceLT, Nat.reduceLeDiff, Nat.reduceEqDiff, Nat.reduceAdd, Nat.reduceSub, Nat.reduceMul, Int.reduceToNat, Int.reduceLT, Int.reduceLE, Int.reduceAdd, Int.reduceSub, implies_true, ne_eq, if_true, if_false, reduceCtorEq]) (ndc_Right m _ (by repeat (first | exact ok | refine Ok.push ?_ _ | refine Ok.room ?_ _ | (refine Ok.put ?_ _ (by simp (disch := omega) only [Heap.get_pushH, Heap.get_setH, hite_same, hite_ne, hite_eq, Heap.get_room, Heap.next_push, Heap.next_set, Heap.next_room, Option.isSome_some, *])))) hw.pan) ?_
  rintro v H1 ⟨rfl, hs⟩
  have hg : H1.get H.next = some (mO m) := by
    rw [hs.get H.next (by simp only [Heap.next_push]; omega) (by simp)]
    simp only [Heap.get_pushH, hite_same]
  have hs1 : Same H H1 [] := (by repeat (first | exact Same.same ok | refine Same.push ?_ _ | refine Same.room ?_ _ | (refine Same.make ?_ (by (try simp only [Heap.next_push, Heap.next_set, Heap.next_room]); omega) (by (try simp only [Heap.next_push, Heap.next_set, Heap.next_room]); omega)) | (refine Same.put ?_ (by simp (disch := omega) only [Heap.get_pushH, Heap.get_setH, hite_same, hite_ne, hite_eq, Heap.get_room, Heap.next_push, Heap.next_set, Heap.next_room, Option.isSome_some, *]) (fun z => by first | (simp; done) | (exfalso; (try simp only [Heap.next_push, Heap.next_set, Heap.next_room] at z); omega)))) : Same H (H.push (mO m)) []).trans hs (by simp)
  have hn1 : H.next < H1.next := by have := hs.le; simp only [Heap.next_push] at this; omega
  cases hr : m.right
  · simp (maxSteps := 5000000) (disch := omega) only [MX, hg, hr, V_P, SX, W_block, exitW, goInt, Int.reduceEq, setCells, oneOf, cellOk, reduceIte, Nat.reduceLT, Nat.reduceLeDiff, Nat.reduceEqDiff, Nat.reduceAdd, Nat.reduceSub, Nat.reduceMul, Int.reduceToNat, Int.reduceLT, Int.reduceLE, Int.reduceAdd, Int.reduceSub, implies_true, ne_eq, if_true, if_false, reduceCtorEq]
    refine ⟨fun _ => rfl, fun h => (by rw [hr] at h; cases h), hs1⟩
  obtain ⟨tk1, tk2, tk3⟩ := texts_ok hr hw
  have hri := fun j => right_i64 hr hw (j := j)
  have ok1 := hs1.ok
  have okn1 : ∀ a, H1.next ≤ a → H1.get a = none := ok1
  have ht := hw.term
  have hst := hw.stan
  simp (maxSteps := 5000000) (disch := omega) only [MX, hg, hr, V_P, SX, W_block, exitW, goInt, Int.reduceEq, setCells, oneOf, cellOk, reduceIte, Nat.reduceLT, Nat.reduceLeDiff, Nat.reduceEqDiff, Nat.reduceAdd, Nat.reduceSub, Nat.reduceMul, Int.reduceToNat, Int.reduceLT, Int.reduceLE, Int.reduceAdd, Int.reduceSub, implies_true, ne_eq, if_true, if_false, reduceCtorEq]
  refine W_drawR [[], [0], [1, 0], [], [3], [4, 3], [5, 4, 3, 2, 1, 0], [2, 1, 0, 6, 5, 4, 3], [7, 2, 1, 0, 6, 5, 4, 3]] [0, 1, 2, 3, 4, 5, 6, 7, 8] (by decide +kernel) (by repeat (first | exact ok1 | refine Ok.push ?_ _ | refine Ok.room ?_ _ | (refine Ok.put ?_ _ (by simp (disch := omega) only [Heap.get_pushH, Heap.get_setH, hite_same, hite_ne, hite_eq, Heap.get_room, Heap.next_push, Heap.next_set, Heap.next_room, Option.isSome_some, *])))) ?_
  simp (maxSteps := 5000000) (disch := omega) only [MX, okn1, hg, V_P, SX, W_block, exitW, goInt, Int.reduceEq, setCells, oneOf, cellOk, reduceIte, Nat.reduceLT, Nat.reduceLeDiff, Nat.reduceEqDiff, Nat.reduceAdd, Nat.reduceSub, Nat.reduceMul, Int.reduceToNat, Int.reduceLT, Int.reduceLE, Int.reduceAdd, Int.reduceSub, implies_true, ne_eq, if_true, if_false, reduceCtorEq, DX, Nat.reduceBEq]
  refine DOpd_callR (by decide) rfl (by simp (maxSteps := 5000000) (disch := omega) only [MX, okn1, hg, V_P, SX, W_block, exitW, goInt, Int.reduceEq, setCells, oneOf, cellOk, reduceIte, Nat.reduceLT, Nat.reduceLeDiff, Nat.reduceEqDiff, Nat.reduceAdd, Nat.reduceSub, Nat.reduceMul, Int.reduceToNat, Int.reduceLT, Int.reduceLE, Int.reduceAdd, Int.reduceSub, implies_true, ne_eq, if_true, if_false, reduceCtorEq, DX, Nat.reduceBEq]) (ndc_kind (m.c 0) _) ?_
  rintro v H2 ⟨rfl, rfl⟩
  refine ⟨isV_string, KeepB.refl, ?_⟩
  simp (maxSteps := 5000000) (disch := omega) only [MX, okn1, hg, V_P, SX, W_block, exitW, goInt, Int.reduceEq, setCells, oneOf, cellOk, reduceIte, Nat.reduceLT, Nat.reduceLeDiff, Nat.reduceEqDiff, Nat.reduceAdd, Nat.reduceSub, Nat.reduceMul, Int.reduceToNat, Int.reduceLT, Int.reduceLE, Int.reduceAdd, Int.reduceSub, implies_true, ne_eq, if_true, if_false, reduceCtorEq, DX, Nat.reduceBEq]
  refine DOpd_callR (by decide) rfl (by simp (maxSteps := 5000000) (disch := omega) only [MX, okn1, hg, V_P, SX, W_block, exitW, goInt, Int.reduceEq, setCells, oneOf, cellOk, reduceIte, Nat.reduceLT, Nat.reduceLeDiff, Nat.reduceEqDiff, Nat.reduceAdd, Nat.reduceSub, Nat.reduceMul, Int.reduceToNat, Int.reduceLT, Int.reduceLE, Int.reduceAdd, Int.reduceSub, implies_true, ne_eq, if_true, if_false, reduceCtorEq, DX, Nat.reduceBEq]) (Ca_is (c_Itoa (m.c 1) _ (hri 1 (by decide) (by decide)).1 (hri 1 (by decide) (by decide)).2)) ?_
  rintro v H2 ⟨rfl, rfl⟩
  refine ⟨isV_string, KeepB.refl, ?_⟩
  simp (maxSteps := 5000000) (disch := omega) only [MX, okn1, hg, V_P, SX, W_block, exitW, goInt, Int.reduceEq, setCells, oneOf, cellOk, reduceIte, Nat.reduceLT, Nat.reduceLeDiff, Nat.reduceEqDiff, Nat.reduceAdd, Nat.reduceSub, Nat.reduceMul, Int.reduceToNat, Int.reduceLT, Int.reduceLE, Int.reduceAdd, Int.reduceSub, implies_true, ne_eq, if_true, if_false, reduceCtorEq, DX, Nat.reduceBEq]
  have hq : (((H1.room 9).set (H1.next + 7) (.cells [.string (kindS (m.c 0)), .string (S (Lib.itoa (m.c 1)))] 9 false))).get H.next = some (mO m) := by
    rw [Heap.get_set, if_neg (by omega), Heap.get_room, hg]
  refine cW_merge (fun t H2 => ∃ b n c, t.get 1 = some (.pointer (some ⟨H.next, 0, none⟩)) ∧ t.get 4 = some (.slice b n c) ∧ n = (if m.c 0 = 3 then 2 else 3) ∧ GRow H2 H.next 9 b n c ((kindS (m.c 0) :: txt (m.c 1) :: (if m.c 0 = 3 then [] else [txt (m.c 2)])).map Value.string) ∧ Same H H2 [] ∧ H.next < H2.next ∧ H2.get H.next = some (mO m)) (fun hc => ?_) (fun hc => ?_) ?_
  · have hk3 : ¬ m.c 0 = 3 := of_decide_eq_true hc
    simp (maxSteps := 5000000) (disch := omega) only [MX, hq, V_P, SX, W_block, exitW, goInt, Int.reduceEq, setCells, oneOf, cellOk, reduceIte, Nat.reduceLT, Nat.reduceLeDiff, Nat.reduceEqDiff, Nat.reduceAdd, Nat.reduceSub, Nat.reduceMul, Int.reduceToNat, Int.reduceLT, Int.reduceLE, Int.reduceAdd, Int.reduceSub, implies_true, ne_eq, if_true, if_false, reduceCtorEq]
    refine W_callR rfl (by simp (maxSteps := 5000000) (disch := omega) only [MX, hq, V_P, SX, W_block, exitW, goInt, Int.reduceEq, setCells, oneOf, cellOk, reduceIte, Nat.reduceLT, Nat.reduceLeDiff, Nat.reduceEqDiff, Nat.reduceAdd, Nat.reduceSub, Nat.reduceMul, Int.reduceToNat, Int.reduceLT, Int.reduceLE, Int.reduceAdd, Int.reduceSub, implies_true, ne_eq, if_true, if_false, reduceCtorEq]) (Ca_is (c_FormatUint (m.c 2) _ hst.1 (by omega))) ?_
    rintro v H2 ⟨rfl, rfl⟩
    simp (maxSteps := 5000000) (disch := omega) only [MX, hq, V_P, SX, W_block, exitW, goInt, Int.reduceEq, setCells, oneOf, cellOk, reduceIte, Nat.reduceLT, Nat.reduceLeDiff, Nat.reduceEqDiff, Nat.reduceAdd, Nat.reduceSub, Nat.reduceMul, Int.reduceToNat, Int.reduceLT, Int.reduceLE, Int.reduceAdd, Int.reduceSub, implies_true, ne_eq, if_true, if_false, reduceCtorEq]
    rw [if_neg hk3, if_neg hk3]
    refine ⟨_, _, _, rfl, rfl, .own (by rw [Heap.get_push, if_pos (by simp only [Heap.next_push, Heap.next_set, Heap.next_room])]; rfl) (by omega) (by decide), by repeat (first | exact hs1 | refine Same.push ?_ _ | refine Same.room ?_ _ | (refine Same.make ?_ (by (try simp only [Heap.next_push, Heap.next_set, Heap.next_room]); omega) (by (try simp only [Heap.next_push, Heap.next_set, Heap.next_room]); omega)) | (refine Same.put ?_ (by simp (disch := omega) only [Heap.get_pushH, Heap.get_setH, hite_same, hite_ne, hite_eq, Heap.get_room, Heap.next_push, Heap.next_set, Heap.next_room, Option.isSome_some, *]) (fun z => by first | (simp; done) | (exfalso; (try simp only [Heap.next_push, Heap.next_set, Heap.next_room] at z); omega)))), by omega⟩
  · have hk3 : m.c 0 = 3 := Decidable.not_not.mp (of_decide_eq_false hc)
    simp (maxSteps := 5000000) (disch := omega) only [MX, hq, V_P, SX, W_block, exitW, goInt, Int.reduceEq, setCells, oneOf, cellOk, reduceIte, Nat.reduceLT, Nat.reduceLeDiff, Nat.reduceEqDiff, Nat.reduceAdd, Nat.reduceSub, Nat.reduceMul, Int.reduceToNat, Int.reduceLT, Int.reduceLE, Int.reduceAdd, Int.reduceSub, implies_true, ne_eq, if_true, if_false, reduceCtorEq]
    rw [if_pos hk3, if_pos hk3]
    refine ⟨_, _, _, rfl, rfl, .full (by rw [Heap.get_set, if_pos rfl]; rfl) (by omega) (by decide), by repeat (first | exact hs1 | refine Same.push ?_ _ | refine Same.room ?_ _ | (refine Same.make ?_ (by (try simp only [Heap.next_push, Heap.next_set, Heap.next_room]); omega) (by (try simp only [Heap.next_push, Heap.next_set, Heap.next_room]); omega)) | (refine Same.put ?_ (by simp (disch := omega) only [Heap.get_pushH, Heap.get_setH, hite_same, hite_ne, hite_eq, Heap.get_room, Heap.next_push, Heap.next_set, Heap.next_room, Option.isSome_some, *]) (fun z => by first | (simp; done) | (exfalso; (try simp only [Heap.next_push, Heap.next_set, Heap.next_room] at z); omega)))), by omega⟩
  rintro t H2 ⟨b, n, c, g1, g4, hn, hm, hs2, hn2, hg2⟩
  have ok2 := hs2.ok
  have okn2 : ∀ a, H2.next ≤ a → H2.get a = none := ok2
  have hri4 := hri 4 (by decide) (by decide)
  simp (maxSteps := 5000000) (disch := omega) only [MX, g1, g4, hg2, V_P, SX, W_block, exitW, goInt, Int.reduceEq, setCells, oneOf, cellOk, reduceIte, Nat.reduceLT, Nat.reduceLeDiff, Nat.reduceEqDiff, Nat.reduceAdd, Nat.reduceSub, Nat.reduceMul, Int.reduceToNat, Int.reduceLT, Int.reduceLE, Int.reduceAdd, Int.reduceSub, implies_true, ne_eq, if_true, if_false, reduceCtorEq]
  refine W_callR rfl (by simp (maxSteps := 5000000) (disch := omega) only [MX, g1, g4, hg2, V_P, SX, W_block, exitW, goInt, Int.reduceEq, setCells, oneOf, cellOk, reduceIte, Nat.reduceLT, Nat.reduceLeDiff, Nat.reduceEqDiff, Nat.reduceAdd, Nat.reduceSub, Nat.reduceMul, Int.reduceToNat, Int.reduceLT, Int.reduceLE, Int.reduceAdd, Int.reduceSub, implies_true, ne_eq, if_true, if_false, reduceCtorEq]) (Ca_is (c_FormatInt (m.c 4) _ hri4.1 hri4.2)) ?_
  rintro v H3 ⟨rfl, e3⟩
  obtain rfl := e3.symm
  generalize hpre : kindS (m.c 0) :: txt (m.c 1) :: (if m.c 0 = 3 then [] else [txt (m.c 2)]) = pre at hm
  have hpl : pre.length = n := by rw [← hpre, hn]; split <;> rfl
  have hcl : (pre.map Value.string).length = n := by rw [List.length_map]; exact hpl
  have hn3 : n ≤ 3 := by rw [hn]; split <;> omega
  have hne := mrow_ne hm hg2 (by decide)
  have hwf := fun i => right_n4 hr (i := i)
  simp (maxSteps := 5000000) (disch := omega) only [MX, g1, g4, hg2, V_P, SX, exitW, goInt, Int.reduceEq, setCells, oneOf, cellOk, reduceIte, Nat.reduceLT, Nat.reduceLeDiff, Nat.reduceEqDiff, Nat.reduceAdd, Nat.reduceSub, Nat.reduceMul, Int.reduceToNat, Int.reduceLT, Int.reduceLE, Int.reduceAdd, Int.reduceSub, implies_true, ne_eq, if_true, if_false, reduceCtorEq]
  refine W_cutL [_] (fun t H3 => ∃ b n c, t.get 4 = some (.slice b n c) ∧ n = m.texts.length ∧ GRow H3 H.next 9 b n c (m.texts.map Value.string) ∧ Same H H3 []) ?_ ?_
  · simp (maxSteps := 5000000) (disch := omega) only [MX, g1, g4, hg2, V_P, SX, W_block, exitW, goInt, Int.reduceEq, setCells, oneOf, cellOk, reduceIte, Nat.reduceLT, Nat.reduceLeDiff, Nat.reduceEqDiff, Nat.reduceAdd, Nat.reduceSub, Nat.reduceMul, Int.reduceToNat, Int.reduceLT, Int.reduceLE, Int.reduceAdd, Int.reduceSub, implies_true, ne_eq, if_true, if_false, reduceCtorEq]
    refine cW_dec (fun h1 => ?_) (fun h1 => ?_)
    · simp (maxSteps := 5000000) (disch := omega) only [MX, g1, g4, hg2, V_P, SX, W_block, exitW, goInt, Int.reduceEq, setCells, oneOf, cellOk, reduceIte, Nat.reduceLT, Nat.reduceLeDiff, Nat.reduceEqDiff, Nat.reduceAdd, Nat.reduceSub, Nat.reduceMul, Int.reduceToNat, Int.reduceLT, Int.reduceLE, Int.reduceAdd, Int.reduceSub, implies_true, ne_eq, if_true, if_false, reduceCtorEq]
      obtain ⟨H4, b4, ap, hm4, hs4, nx, ot, eb, ps, hps⟩ := mrow_app (new := [.string m.pan, .string (S (Lib.itoa (m.c 4)))]) (k := 2) (hs2.push (.cells [.string m.pan, .string (S (Lib.itoa (m.c 4)))] 9 false)) (mrow_push hm ok2 (.cells [.string m.pan, .string (S (Lib.itoa (m.c 4)))] 9 false)) hcl (by decide) (by omega) rfl
      simp (maxSteps := 5000000) (disch := omega) only [MX, g1, g4, hg2, ap, V_P, SX, W_block, exitW, goInt, Int.reduceEq, setCells, oneOf, cellOk, reduceIte, Nat.reduceLT, Nat.reduceLeDiff, Nat.reduceEqDiff, Nat.reduceAdd, Nat.reduceSub, Nat.reduceMul, Int.reduceToNat, Int.reduceLT, Int.reduceLE, Int.reduceAdd, Int.reduceSub, implies_true, ne_eq, if_true, if_false, reduceCtorEq]
      have ht : m.texts = pre ++ [m.pan, txt (m.c 4)] := by
        rw [← hpre]; unfold Msg.texts; rw [h1]; rfl
      refine ⟨_, _, _, rfl, by rw [ht, List.length_append, hpl]; rfl, ?_, hs4⟩
      rw [ht, List.map_append]; exact hm4
    simp (maxSteps := 5000000) (disch := omega) only [MX, g1, g4, hg2, V_P, SX, W_block, exitW, goInt, Int.reduceEq, setCells, oneOf, cellOk, reduceIte, Nat.reduceLT, Nat.reduceLeDiff, Nat.reduceEqDiff, Nat.reduceAdd, Nat.reduceSub, Nat.reduceMul, Int.reduceToNat, Int.reduceLT, Int.reduceLE, Int.reduceAdd, Int.reduceSub, implies_true, ne_eq, if_true, if_false, reduceCtorEq]
    refine cW_dec (fun h2 => ?_) (fun h2 => ?_)
    · simp (maxSteps := 5000000) (disch := omega) only [MX, g1, g4, hg2, V_P, SX, W_block, exitW, goInt, Int.reduceEq, setCells, oneOf, cellOk, reduceIte, Nat.reduceLT, Nat.reduceLeDiff, Nat.reduceEqDiff, Nat.reduceAdd, Nat.reduceSub, Nat.reduceMul, Int.reduceToNat, Int.reduceLT, Int.reduceLE, Int.reduceAdd, Int.reduceSub, implies_true, ne_eq, if_true, if_false, reduceCtorEq]
      refine W_callR rfl (by simp (maxSteps := 5000000) (disch := omega) only [MX, g1, g4, hg2, V_P, SX, W_block, exitW, goInt, Int.reduceEq, setCells, oneOf, cellOk, reduceIte, Nat.reduceLT, Nat.reduceLeDiff, Nat.reduceEqDiff, Nat.reduceAdd, Nat.reduceSub, Nat.reduceMul, Int.reduceToNat, Int.reduceLT, Int.reduceLE, Int.reduceAdd, Int.reduceSub, implies_true, ne_eq, if_true, if_false, reduceCtorEq]) (ndc_notes [m.n4 5, m.n4 9] H2.next 2 false _ (by repeat (first | exact ok2 | refine Ok.push ?_ _ | refine Ok.room ?_ _ | (refine Ok.put ?_ _ (by simp (disch := omega) only [Heap.get_pushH, Heap.get_setH, hite_same, hite_ne, hite_eq, Heap.get_room, Heap.next_push, Heap.next_set, Heap.next_room, Option.isSome_some, *])))) (by rw [Heap.get_push, if_pos rfl]; rfl) (by show 2 ≤ 8; decide) (by intro x hx; simp at hx; rcases hx with rfl | rfl; exact hwf 0 (by decide); exact hwf 1 (by decide))) ?_
      rintro v H3 ⟨⟨b3, n3, c3, rfl, hn3', hm3⟩, hs3⟩
      obtain rfl : n3 = 8 := hn3'
      have hF := mrow_first hm3 (by rfl)
      have hs5 : Same H H3 [] := (hs2.push _).trans hs3 (by simp)
      obtain ⟨H4, b4, ap, hm4, hs4, nx, ot, eb, ps, hps⟩ := mrow_app (k := 8) (new := (([m.n4 5, m.n4 9].flatMap N4.texts).map Value.string)) hs5 (mrow_same (mrow_push hm ok2 _) (by repeat (first | exact ok2 | refine Ok.push ?_ _ | refine Ok.room ?_ _ | (refine Ok.put ?_ _ (by simp (disch := omega) only [Heap.get_pushH, Heap.get_setH, hite_same, hite_ne, hite_eq, Heap.get_room, Heap.next_push, Heap.next_set, Heap.next_room, Option.isSome_some, *])))) hs3) hcl (by decide) (by omega) rfl
      simp (maxSteps := 5000000) (disch := omega) only [MX, g1, g4, hg2, hF, ap, V_P, SX, W_block, exitW, goInt, Int.reduceEq, setCells, oneOf, cellOk, reduceIte, Nat.reduceLT, Nat.reduceLeDiff, Nat.reduceEqDiff, Nat.reduceAdd, Nat.reduceSub, Nat.reduceMul, Int.reduceToNat, Int.reduceLT, Int.reduceLE, Int.reduceAdd, Int.reduceSub, implies_true, ne_eq, if_true, if_false, reduceCtorEq]
      have ht : m.texts = pre ++ [m.n4 5, m.n4 9].flatMap N4.texts := by
        rw [← hpre]; unfold Msg.texts; rw [h2]; rfl
      refine ⟨_, _, _, rfl, by rw [ht, List.length_append, hpl]; rfl, ?_, hs4⟩
      rw [ht, List.map_append]; exact hm4
    simp (maxSteps := 5000000) (disch := omega) only [MX, g1, g4, hg2, V_P, SX, W_block, exitW, goInt, Int.reduceEq, setCells, oneOf, cellOk, reduceIte, Nat.reduceLT, Nat.reduceLeDiff, Nat.reduceEqDiff, Nat.reduceAdd, Nat.reduceSub, Nat.reduceMul, Int.reduceToNat, Int.reduceLT, Int.reduceLE, Int.reduceAdd, Int.reduceSub, implies_true, ne_eq, if_true, if_false, reduceCtorEq]
    refine cW_dec (fun h4 => ?_) (fun h4 => ?_)
    · simp (maxSteps := 5000000) (disch := omega) only [MX, g1, g4, hg2, V_P, SX, W_block, exitW, goInt, Int.reduceEq, setCells, oneOf, cellOk, reduceIte, Nat.reduceLT, Nat.reduceLeDiff, Nat.reduceEqDiff, Nat.reduceAdd, Nat.reduceSub, Nat.reduceMul, Int.reduceToNat, Int.reduceLT, Int.reduceLE, Int.reduceAdd, Int.reduceSub, implies_true, ne_eq, if_true, if_false, reduceCtorEq]
      refine W_callR rfl (by simp (maxSteps := 5000000) (disch := omega) only [MX, g1, g4, hg2, V_P, SX, W_block, exitW, goInt, Int.reduceEq, setCells, oneOf, cellOk, reduceIte, Nat.reduceLT, Nat.reduceLeDiff, Nat.reduceEqDiff, Nat.reduceAdd, Nat.reduceSub, Nat.reduceMul, Int.reduceToNat, Int.reduceLT, Int.reduceLE, Int.reduceAdd, Int.reduceSub, implies_true, ne_eq, if_true, if_false, reduceCtorEq]) (ndc_notes [m.n4 5, m.n4 9, m.n4 13, m.n4 17] H2.next 4 false _ (by repeat (first | exact ok2 | refine Ok.push ?_ _ | refine Ok.room ?_ _ | (refine Ok.put ?_ _ (by simp (disch := omega) only [Heap.get_pushH, Heap.get_setH, hite_same, hite_ne, hite_eq, Heap.get_room, Heap.next_push, Heap.next_set, Heap.next_room, Option.isSome_some, *])))) (by rw [Heap.get_push, if_pos rfl]; rfl) (by show 4 ≤ 8; decide) (by intro x hx; simp at hx; rcases hx with rfl | rfl | rfl | rfl; exact hwf 0 (by decide); exact hwf 1 (by decide); exact hwf 2 (by decide); exact hwf 3 (by decide))) ?_
      rintro v H3 ⟨⟨b3, n3, c3, rfl, hn3', hm3⟩, hs3⟩
      obtain rfl : n3 = 16 := hn3'
      have hF := mrow_first hm3 (by rfl)
      have hs5 : Same H H3 [] := (hs2.push _).trans hs3 (by simp)
      have hmA := mrow_same (mrow_push hm ok2 (.cells (rows4 [m.n4 5, m.n4 9, m.n4 13, m.n4 17]) 25 false)) (by repeat (first | exact ok2 | refine Ok.push ?_ _ | refine Ok.room ?_ _ | (refine Ok.put ?_ _ (by simp (disch := omega) only [Heap.get_pushH, Heap.get_setH, hite_same, hite_ne, hite_eq, Heap.get_room, Heap.next_push, Heap.next_set, Heap.next_room, Option.isSome_some, *])))) hs3
      have hg3 : H3.get H.next = some (mO m) := by rw [hs3.get _ (by rw [Heap.next_push]; omega) (by simp), Heap.get_push, if_neg (by omega), hg2]
      have hn3n := hs3.le
      rw [Heap.next_push] at hn3n
      have hneA := mrow_ne hmA hg3 (by decide)
      obtain ⟨HA, bA, apA, hmB, hsB, nxB, otB, ebB, psB, hpsB⟩ := mrow_app (k := 16) (new := (([m.n4 5, m.n4 9, m.n4 13, m.n4 17].flatMap N4.texts).map Value.string)) hs5 hmA hcl (by decide) (by omega) rfl
      have hgB : HA.get H.next = some (mO m) := by rw [otB _ (by omega) hneA, hg3]
      have okB := hsB.ok
      have oknB : ∀ a, HA.next ≤ a → HA.get a = none := okB
      have hclB : (pre.map Value.string ++ ([m.n4 5, m.n4 9, m.n4 13, m.n4 17].flatMap N4.texts).map Value.string).length = n + 16 := by rw [List.length_append, hcl]; rfl
      have hneB := mrow_ne hmB hgB (by decide)
      simp (maxSteps := 5000000) (disch := omega) only [MX, g1, g4, hg2, hF, apA, V_P, SX, W_block, exitW, goInt, Int.reduceEq, setCells, oneOf, cellOk, reduceIte, Nat.reduceLT, Nat.reduceLeDiff, Nat.reduceEqDiff, Nat.reduceAdd, Nat.reduceSub, Nat.reduceMul, Int.reduceToNat, Int.reduceLT, Int.reduceLE, Int.reduceAdd, Int.reduceSub, implies_true, ne_eq, if_true, if_false, reduceCtorEq]
      refine W_drawLR [[], [], [1], [2, 1], [3, 2, 1], [0, 4, 3, 2, 1], [], [6], [7, 6], [8, 7, 6, 5, 0, 4, 3, 2, 1], [5, 0, 4, 3, 2, 1, 9, 8, 7, 6], [10, 5, 0, 4, 3, 2, 1, 9, 8, 7, 6]] [1, 2, 3, 0, 4, 5, 6, 7, 8, 9, 10, 11] (by decide +kernel) (by repeat (first | exact okB | refine Ok.push ?_ _ | refine Ok.room ?_ _ | (refine Ok.put ?_ _ (by simp (disch := omega) only [Heap.get_pushH, Heap.get_setH, hite_same, hite_ne, hite_eq, Heap.get_room, Heap.next_push, Heap.next_set, Heap.next_room, Option.isSome_some, *])))) ?_
      simp (maxSteps := 5000000) (disch := omega) only [MX, oknB, g1, hgB, V_P, SX, W_block, exitW, goInt, Int.reduceEq, setCells, oneOf, cellOk, reduceIte, Nat.reduceLT, Nat.reduceLeDiff, Nat.reduceEqDiff, Nat.reduceAdd, Nat.reduceSub, Nat.reduceMul, Int.reduceToNat, Int.reduceLT, Int.reduceLE, Int.reduceAdd, Int.reduceSub, implies_true, ne_eq, if_true, if_false, reduceCtorEq, DX, Nat.reduceBEq]
      refine DOpd_callR (by decide) rfl (by simp (maxSteps := 5000000) (disch := omega) only [MX, oknB, g1, hgB, V_P, SX, W_block, exitW, goInt, Int.reduceEq, setCells, oneOf, cellOk, reduceIte, Nat.reduceLT, Nat.reduceLeDiff, Nat.reduceEqDiff, Nat.reduceAdd, Nat.reduceSub, Nat.reduceMul, Int.reduceToNat, Int.reduceLT, Int.reduceLE, Int.reduceAdd, Int.reduceSub, implies_true, ne_eq, if_true, if_false, reduceCtorEq, DX, Nat.reduceBEq]) (Ca_is (c_Itoa (m.c 21) _ (hri 21 (by decide) (by decide)).1 (hri 21 (by decide) (by decide)).2)) ?_
      rintro v H9 ⟨rfl, rfl⟩
      refine ⟨isV_string, KeepB.refl, ?_⟩
      simp (maxSteps := 5000000) (disch := omega) only [MX, oknB, g1, hgB, V_P, SX, W_block, exitW, goInt, Int.reduceEq, setCells, oneOf, cellOk, reduceIte, Nat.reduceLT, Nat.reduceLeDiff, Nat.reduceEqDiff, Nat.reduceAdd, Nat.reduceSub, Nat.reduceMul, Int.reduceToNat, Int.reduceLT, Int.reduceLE, Int.reduceAdd, Int.reduceSub, implies_true, ne_eq, if_true, if_false, reduceCtorEq, DX, Nat.reduceBEq]
      have hd2 : Same HA ((HA.room 12).set (HA.next + 4) (.cells [.string (S (Lib.itoa (m.c 21)))] 9 false)) [] := by repeat (first | exact Same.refl okB | refine Same.push ?_ _ | refine Same.room ?_ _ | (refine Same.make ?_ (by (try simp only [Heap.next_push, Heap.next_set, Heap.next_room]); omega) (by (try simp only [Heap.next_push, Heap.next_set, Heap.next_room]); omega)) | (refine Same.put ?_ (by simp (disch := omega) only [Heap.get_pushH, Heap.get_setH, hite_same, hite_ne, hite_eq, Heap.get_room, Heap.next_push, Heap.next_set, Heap.next_room, Option.isSome_some, *]) (fun z => by first | (simp; done) | (exfalso; (try simp only [Heap.next_push, Heap.next_set, Heap.next_room] at z); omega))))
      generalize hHd : (HA.room 12).set (HA.next + 4) (.cells [.string (S (Lib.itoa (m.c 21)))] 9 false) = Hd at hd2
      have hdn : Hd.next = HA.next + 12 := by rw [← hHd]; rfl
      have hdg : ∀ i, Hd.get i = if i = HA.next + 4 then some (.cells [.string (S (Lib.itoa (m.c 21)))] 9 false) else HA.get i := fun i => by rw [← hHd, Heap.get_set, Heap.get_room]
      obtain ⟨H4, b4, ap, hm4, hs4, nx, ot, eb, ps, hps⟩ := mrow_app (new := [.string (S (Lib.itoa (m.c 21)))]) (k := 1) (hsB.trans hd2 (by simp)) (mrow_same hmB okB hd2) hclB (by decide) (by omega) rfl
      have hot : ∀ i, i < Hd.next → HA.next ≤ i ∨ i = H.next → H4.get i = Hd.get i := fun i hi h => ot i hi fun j hj => by
        rcases h with h | h
        · subst hj
          rcases hmB.ways with ⟨h, _⟩ | ⟨j', h, _, _, _, hg⟩
          · cases h
          · cases h; have := okB.lt hg; omega
        · rw [h]; exact hneB j hj
      have hg4 : H4.get H.next = some (mO m) := by rw [hot _ (by omega) (.inr rfl), hdg, if_neg (by omega), hgB]
      have q2 : H4.get (HA.next + 4) = some (.cells [.string (S (Lib.itoa (m.c 21)))] 9 false) := by rw [hot _ (by omega) (.inl (by omega)), hdg, if_pos rfl]
      have q6 : H4.get (HA.next + 8) = none := by rw [hot _ (by omega) (.inl (by omega)), hdg, if_neg (by omega), oknB _ (by omega)]
      simp (maxSteps := 5000000) (disch := omega) only [MX, oknB, g1, hgB, ap, V_P, SX, W_block, exitW, goInt, Int.reduceEq, setCells, oneOf, cellOk, reduceIte, Nat.reduceLT, Nat.reduceLeDiff, Nat.reduceEqDiff, Nat.reduceAdd, Nat.reduceSub, Nat.reduceMul, Int.reduceToNat, Int.reduceLT, Int.reduceLE, Int.reduceAdd, Int.reduceSub, implies_true, ne_eq, if_true, if_false, reduceCtorEq, DX, Nat.reduceBEq]
      refine ⟨hps.keep (by omega), ?_⟩
      simp (maxSteps := 5000000) (disch := omega) only [MX, oknB, g1, hgB, hg4, q2, q6, hdg, V_P, SX, W_block, exitW, goInt, Int.reduceEq, setCells, oneOf, cellOk, reduceIte, Nat.reduceLT, Nat.reduceLeDiff, Nat.reduceEqDiff, Nat.reduceAdd, Nat.reduceSub, Nat.reduceMul, Int.reduceToNat, Int.reduceLT, Int.reduceLE, Int.reduceAdd, Int.reduceSub, implies_true, ne_eq, if_true, if_false, reduceCtorEq, DX, Nat.reduceBEq]
      have hs5 : Same H (H4.set (HA.next + 8) (.cells [.int .i64 (m.c 22), .int .i64 (m.c 23), .int .i64 (m.c 24), .int .i64 (m.c 25)] 25 false)) [] := by repeat (first | exact hs4 | refine Same.push ?_ _ | refine Same.room ?_ _ | (refine Same.make ?_ (by (try simp only [Heap.next_push, Heap.next_set, Heap.next_room]); omega) (by (try simp only [Heap.next_push, Heap.next_set, Heap.next_room]); omega)) | (refine Same.put ?_ (by simp (disch := omega) only [Heap.get_pushH, Heap.get_setH, hite_same, hite_ne, hite_eq, Heap.get_room, Heap.next_push, Heap.next_set, Heap.next_room, Option.isSome_some, *]) (fun z => by first | (simp; done) | (exfalso; (try simp only [Heap.next_push, Heap.next_set, Heap.next_room] at z); omega))))
      have hm5 := hm4.mono (H2 := H4.set (HA.next + 8) (.cells [.int .i64 (m.c 22), .int .i64 (m.c 23), .int .i64 (m.c 24), .int .i64 (m.c 25)] 25 false)) fun j hj => by
        rw [eb] at hj; cases hj; rw [Heap.get_set, if_neg (by omega)]
      refine DOpd_callR (by decide) rfl (by simp (maxSteps := 5000000) (disch := omega) only [MX, oknB, g1, V_P, SX, W_block, exitW, goInt, Int.reduceEq, setCells, oneOf, cellOk, reduceIte, Nat.reduceLT, Nat.reduceLeDiff, Nat.reduceEqDiff, Nat.reduceAdd, Nat.reduceSub, Nat.reduceMul, Int.reduceToNat, Int.reduceLT, Int.reduceLE, Int.reduceAdd, Int.reduceSub, implies_true, ne_eq, if_true, if_false, reduceCtorEq, DX, Nat.reduceBEq]) (ndc_notes [m.n4 22] (HA.next + 8) 1 false _ hs5.ok (by rw [Heap.get_set, if_pos rfl]; rfl) (by show 1 ≤ 8; decide) (by intro x hx; simp at hx; rcases hx with rfl; exact hwf 4 (by decide))) ?_
      rintro v H6 ⟨⟨b3, n3, c3, rfl, hn3', hm6⟩, hs6⟩
      obtain rfl : n3 = 4 := hn3'
      have hn6 := hs6.le
      rw [Heap.next_set] at hn6
      refine ⟨isV_slice, hs6.keep (by rw [Heap.next_set]; show HA.next + 12 ≤ _; omega), ?_⟩
      have hF := mrow_first hm6 (by rfl)
      obtain ⟨H7, b7, ap7, hm7, hs7, nx7, ot7, eb7, ps7, hps7⟩ := mrow_app (k := 4) (new := (([m.n4 22].flatMap N4.texts).map Value.string)) (hs5.trans hs6 (by simp)) (mrow_same hm5 hs5.ok hs6) (by rw [List.length_append, hclB]; rfl) (by decide) (by omega) rfl
      simp (maxSteps := 5000000) (disch := omega) only [MX, oknB, g1, hF, ap7, V_P, SX, W_block, exitW, goInt, Int.reduceEq, setCells, oneOf, cellOk, reduceIte, Nat.reduceLT, Nat.reduceLeDiff, Nat.reduceEqDiff, Nat.reduceAdd, Nat.reduceSub, Nat.reduceMul, Int.reduceToNat, Int.reduceLT, Int.reduceLE, Int.reduceAdd, Int.reduceSub, implies_true, ne_eq, if_true, if_false, reduceCtorEq, DX, Nat.reduceBEq]
      refine ⟨hps7.keep (by omega), ?_⟩
      have ht : m.texts = pre ++ [m.n4 5, m.n4 9, m.n4 13, m.n4 17].flatMap N4.texts ++ [txt (m.c 21)] ++ [m.n4 22].flatMap N4.texts := by
        rw [← hpre]; unfold Msg.texts; rw [h4]; rfl
      refine ⟨_, _, _, rfl, by rw [ht, List.length_append, List.length_append, List.length_append, hpl]; rfl, ?_, hs7⟩
      rw [ht, List.map_append, List.map_append, List.map_append]; exact hm7
    simp (maxSteps := 5000000) (disch := omega) only [MX, g1, g4, hg2, V_P, SX, W_block, exitW, goInt, Int.reduceEq, setCells, oneOf, cellOk, reduceIte, Nat.reduceLT, Nat.reduceLeDiff, Nat.reduceEqDiff, Nat.reduceAdd, Nat.reduceSub, Nat.reduceMul, Int.reduceToNat, Int.reduceLT, Int.reduceLE, Int.reduceAdd, Int.reduceSub, implies_true, ne_eq, if_true, if_false, reduceCtorEq]
    refine cW_dec (fun h5 => ?_) (fun h5 => ?_)
    · simp (maxSteps := 5000000) (disch := omega) only [MX, g1, g4, hg2, V_P, SX, W_block, exitW, goInt, Int.reduceEq, setCells, oneOf, cellOk, reduceIte, Nat.reduceLT, Nat.reduceLeDiff, Nat.reduceEqDiff, Nat.reduceAdd, Nat.reduceSub, Nat.reduceMul, Int.reduceToNat, Int.reduceLT, Int.reduceLE, Int.reduceAdd, Int.reduceSub, implies_true, ne_eq, if_true, if_false, reduceCtorEq]
      refine W_drawLR [[], [], [1], [0, 2, 1], [], [4], [5, 4], [6, 5, 4, 3, 0, 2, 1], [3, 0, 2, 1, 7, 6, 5, 4], [8, 3, 0, 2, 1, 7, 6, 5, 4]] [0, 1, 2, 3, 4, 5, 6, 7, 8, 9] (by decide +kernel) (by repeat (first | exact ok2 | refine Ok.push ?_ _ | refine Ok.room ?_ _ | (refine Ok.put ?_ _ (by simp (disch := omega) only [Heap.get_pushH, Heap.get_setH, hite_same, hite_ne, hite_eq, Heap.get_room, Heap.next_push, Heap.next_set, Heap.next_room, Option.isSome_some, *])))) ?_
      simp (maxSteps := 5000000) (disch := omega) only [MX, okn2, g1, g4, hg2, V_P, SX, W_block, exitW, goInt, Int.reduceEq, setCells, oneOf, cellOk, reduceIte, Nat.reduceLT, Nat.reduceLeDiff, Nat.reduceEqDiff, Nat.reduceAdd, Nat.reduceSub, Nat.reduceMul, Int.reduceToNat, Int.reduceLT, Int.reduceLE, Int.reduceAdd, Int.reduceSub, implies_true, ne_eq, if_true, if_false, reduceCtorEq, DX, Nat.reduceBEq]
      have hd2 : Same H2 ((H2.room 10).set (H2.next + 2) (.cells [.string (S (Lib.itoa (m.c 4)))] 9 false)) [] := by repeat (first | exact Same.refl ok2 | refine Same.push ?_ _ | refine Same.room ?_ _ | (refine Same.make ?_ (by (try simp only [Heap.next_push, Heap.next_set, Heap.next_room]); omega) (by (try simp only [Heap.next_push, Heap.next_set, Heap.next_room]); omega)) | (refine Same.put ?_ (by simp (disch := omega) only [Heap.get_pushH, Heap.get_setH, hite_same, hite_ne, hite_eq, Heap.get_room, Heap.next_push, Heap.next_set, Heap.next_room, Option.isSome_some, *]) (fun z => by first | (simp; done) | (exfalso; (try simp only [Heap.next_push, Heap.next_set, Heap.next_room] at z); omega))))
      generalize hHd : (H2.room 10).set (H2.next + 2) (.cells [.string (S (Lib.itoa (m.c 4)))] 9 false) = Hd at hd2
      have hdn : Hd.next = H2.next + 10 := by rw [← hHd]; rfl
      have hdg : ∀ i, Hd.get i = if i = H2.next + 2 then some (.cells [.string (S (Lib.itoa (m.c 4)))] 9 false) else H2.get i := fun i => by rw [← hHd, Heap.get_set, Heap.get_room]
      obtain ⟨H4, b4, ap, hm4, hs4, nx, ot, eb, ps, hps⟩ := mrow_app (new := [.string (S (Lib.itoa (m.c 4)))]) (k := 1) (hs2.trans hd2 (by simp)) (mrow_same hm ok2 hd2) hcl (by decide) (by omega) rfl
      have hot : ∀ i, i < Hd.next → H2.next ≤ i ∨ i = H.next → H4.get i = Hd.get i := fun i hi h => ot i hi fun j hj => by
        rcases h with h | h
        · subst hj
          rcases hm.ways with ⟨h, _⟩ | ⟨j', h, _, _, _, hg⟩
          · cases h
          · cases h; have := ok2.lt hg; omega
        · rw [h]; exact hne j hj
      have hg4 : H4.get H.next = some (mO m) := by rw [hot _ (by omega) (.inr rfl), hdg, if_neg (by omega), hg2]
      have q2 : H4.get (H2.next + 2) = some (.cells [.string (S (Lib.itoa (m.c 4)))] 9 false) := by rw [hot _ (by omega) (.inl (by omega)), hdg, if_pos rfl]
      have q6 : H4.get (H2.next + 6) = none := by rw [hot _ (by omega) (.inl (by omega)), hdg, if_neg (by omega), okn2 _ (by omega)]
      simp (maxSteps := 5000000) (disch := omega) only [MX, okn2, g1, g4, hg2, ap, V_P, SX, W_block, exitW, goInt, Int.reduceEq, setCells, oneOf, cellOk, reduceIte, Nat.reduceLT, Nat.reduceLeDiff, Nat.reduceEqDiff, Nat.reduceAdd, Nat.reduceSub, Nat.reduceMul, Int.reduceToNat, Int.reduceLT, Int.reduceLE, Int.reduceAdd, Int.reduceSub, implies_true, ne_eq, if_true, if_false, reduceCtorEq, DX, Nat.reduceBEq]
      refine ⟨hps.keep (by omega), ?_⟩
      simp (maxSteps := 5000000) (disch := omega) only [MX, okn2, g1, g4, hg2, hg4, q2, q6, hdg, V_P, SX, W_block, exitW, goInt, Int.reduceEq, setCells, oneOf, cellOk, reduceIte, Nat.reduceLT, Nat.reduceLeDiff, Nat.reduceEqDiff, Nat.reduceAdd, Nat.reduceSub, Nat.reduceMul, Int.reduceToNat, Int.reduceLT, Int.reduceLE, Int.reduceAdd, Int.reduceSub, implies_true, ne_eq, if_true, if_false, reduceCtorEq, DX, Nat.reduceBEq]
      have hs5 : Same H (H4.set (H2.next + 6) (.cells [.int .i64 (m.c 5), .int .i64 (m.c 6), .int .i64 (m.c 7), .int .i64 (m.c 8)] 25 false)) [] := by repeat (first | exact hs4 | refine Same.push ?_ _ | refine Same.room ?_ _ | (refine Same.make ?_ (by (try simp only [Heap.next_push, Heap.next_set, Heap.next_room]); omega) (by (try simp only [Heap.next_push, Heap.next_set, Heap.next_room]); omega)) | (refine Same.put ?_ (by simp (disch := omega) only [Heap.get_pushH, Heap.get_setH, hite_same, hite_ne, hite_eq, Heap.get_room, Heap.next_push, Heap.next_set, Heap.next_room, Option.isSome_some, *]) (fun z => by first | (simp; done) | (exfalso; (try simp only [Heap.next_push, Heap.next_set, Heap.next_room] at z); omega))))
      have hm5 : GRow (H4.set (H2.next + 6) (.cells [.int .i64 (m.c 5), .int .i64 (m.c 6), .int .i64 (m.c 7), .int .i64 (m.c 8)] 25 false)) H.next 9 b4 (n + 1) capU (pre.map Value.string ++ [.string (S (Lib.itoa (m.c 4)))]) := hm4.mono fun j hj => by
        rw [eb] at hj; cases hj; rw [Heap.get_set, if_neg (by omega)]
      refine DOpd_callR (by decide) rfl (by simp (maxSteps := 5000000) (disch := omega) only [MX, okn2, g1, g4, hg2, V_P, SX, W_block, exitW, goInt, Int.reduceEq, setCells, oneOf, cellOk, reduceIte, Nat.reduceLT, Nat.reduceLeDiff, Nat.reduceEqDiff, Nat.reduceAdd, Nat.reduceSub, Nat.reduceMul, Int.reduceToNat, Int.reduceLT, Int.reduceLE, Int.reduceAdd, Int.reduceSub, implies_true, ne_eq, if_true, if_false, reduceCtorEq, DX, Nat.reduceBEq]) (ndc_notes [m.n4 5] (H2.next + 6) 1 false _ hs5.ok (by rw [Heap.get_set, if_pos rfl]; rfl) (by show 1 ≤ 8; decide) (by intro x hx; simp at hx; rcases hx with rfl; exact hwf 0 (by decide))) ?_
      rintro v H6 ⟨⟨b3, n3, c3, rfl, hn3', hm6⟩, hs6⟩
      obtain rfl : n3 = 4 := hn3'
      have hn6 := hs6.le
      rw [Heap.next_set] at hn6
      refine ⟨isV_slice, hs6.keep (by rw [Heap.next_set]; show H2.next + 10 ≤ _; omega), ?_⟩
      have hF := mrow_first hm6 (by rfl)
      obtain ⟨H7, b7, ap7, hm7, hs7, nx7, ot7, eb7, ps7, hps7⟩ := mrow_app (k := 4) (new := (([m.n4 5].flatMap N4.texts).map Value.string)) (hs5.trans hs6 (by simp)) (mrow_same hm5 hs5.ok hs6) (by rw [List.length_append, hcl]; rfl) (by decide) (by omega) rfl
      simp (maxSteps := 5000000) (disch := omega) only [MX, okn2, g1, g4, hF, ap7, V_P, SX, W_block, exitW, goInt, Int.reduceEq, setCells, oneOf, cellOk, reduceIte, Nat.reduceLT, Nat.reduceLeDiff, Nat.reduceEqDiff, Nat.reduceAdd, Nat.reduceSub, Nat.reduceMul, Int.reduceToNat, Int.reduceLT, Int.reduceLE, Int.reduceAdd, Int.reduceSub, implies_true, ne_eq, if_true, if_false, reduceCtorEq, DX, Nat.reduceBEq]
      refine ⟨hps7.keep (by omega), ?_⟩
      have ht : m.texts = pre ++ [txt (m.c 4)] ++ [m.n4 5].flatMap N4.texts := by
        rw [← hpre]; unfold Msg.texts; rw [h5]; rfl
      refine ⟨_, _, _, rfl, by rw [ht, List.length_append, List.length_append, hpl]; rfl, ?_, hs7⟩
      rw [ht, List.map_append, List.map_append]; exact hm7
    simp (maxSteps := 5000000) (disch := omega) only [MX, g1, g4, hg2, V_P, SX, W_block, exitW, goInt, Int.reduceEq, setCells, oneOf, cellOk, reduceIte, Nat.reduceLT, Nat.reduceLeDiff, Nat.reduceEqDiff, Nat.reduceAdd, Nat.reduceSub, Nat.reduceMul, Int.reduceToNat, Int.reduceLT, Int.reduceLE, Int.reduceAdd, Int.reduceSub, implies_true, ne_eq, if_true, if_false, reduceCtorEq]
    have hk := ((right_iff m).mp hr).1
    have ht : m.texts = pre := by
      rw [← hpre]; unfold Msg.texts
      rcases (show m.c 0 = 3 ∨ m.c 0 = 6 ∨ m.c 0 = 7 by omega) with h | h | h <;> rw [h] <;> rfl
    refine ⟨_, _, _, rfl, by rw [ht, hpl], ?_, hs2⟩
    rw [ht]; exact hm
  rintro t H5 ⟨b, n, c, g4, hn5, hm5, hs5⟩
  have ok5 := hs5.ok
  subst hn5
  simp (maxSteps := 5000000) (disch := omega) only [g4, V_P, SX, W_block, exitW, goInt, Int.reduceEq, setCells, oneOf, cellOk, reduceIte, Nat.reduceLT, Nat.reduceLeDiff, Nat.reduceEqDiff, Nat.reduceAdd, Nat.reduceSub, Nat.reduceMul, Int.reduceToNat, Int.reduceLT, Int.reduceLE, Int.reduceAdd, Int.reduceSub, implies_true, ne_eq, if_true, if_false, reduceCtorEq]
  refine W_callR rfl (by simp (maxSteps := 5000000) (disch := omega) only [g4, V_P, SX, W_block, exitW, goInt, Int.reduceEq, setCells, oneOf, cellOk, reduceIte, Nat.reduceLT, Nat.reduceLeDiff, Nat.reduceEqDiff, Nat.reduceAdd, Nat.reduceSub, Nat.reduceMul, Int.reduceToNat, Int.reduceLT, Int.reduceLE, Int.reduceAdd, Int.reduceSub, implies_true, ne_eq, if_true, if_false, reduceCtorEq]) (wire_Join m.texts b c _ ok5 (mrow_row hm5 (by rw [List.length_map]) sz_9) tk1 tk2 tk3) ?_
  rintro v H6 ⟨⟨i, hi, rfl, hgi⟩, hs6⟩
  simp (maxSteps := 5000000) (disch := omega) only [g4, V_P, SX, W_block, exitW, goInt, Int.reduceEq, setCells, oneOf, cellOk, reduceIte, Nat.reduceLT, Nat.reduceLeDiff, Nat.reduceEqDiff, Nat.reduceAdd, Nat.reduceSub, Nat.reduceMul, Int.reduceToNat, Int.reduceLT, Int.reduceLE, Int.reduceAdd, Int.reduceSub, implies_true, ne_eq, if_true, if_false, reduceCtorEq]
  exact ⟨fun h => (by rw [hr] at h; cases h), fun _ => ⟨i, Nat.le_trans hs5.le hi, rfl, hgi⟩, hs5.trans hs6 (by simp)⟩
end Go.B.YteigefgobkdmgaaDoor
/- A message's bytes: the document's Put. -/
namespace Go.B.YteigefgobkdmgaaDoor
open Go Go.B Go.Proofs
set_option maxRecDepth 100000
set_option maxHeartbeats 16000000
set_option linter.unusedSimpArgs false
set_option linter.unusedVariables false
theorem ref_DecI {v : Int} (h0 : 0 ≤ v) (h1 : v ≤ 9223372036854775807) (H : Heap) (ok : Ok H) : ∃ v' H', Ca V 25 #[.int .i64 v] H v' H' ∧ v' = .string (txt v) ∧ Same H H' [] := by
  obtain ⟨n, rfl⟩ := Int.eq_ofNat_of_zero_le h0
  obtain ⟨v', H', hc, h2, h3⟩ := ref_Dec n (by omega) H ok
  exact ⟨v', H', hc, by rw [h2, txt, itoa_nat], h3⟩
/-- The cells of a letter. -/
def sl (x : UInt8) : List Nat := if x = 116 then [1] else if x = 115 then [2] else if x = 112 then [3] else if x = 97 then [4] else if x = 108 then [21] else if x = 110 then [5, 6, 7, 8] else if x = 114 then [9, 10, 11, 12] else if x = 99 then [13, 14, 15, 16] else if x = 100 then [17, 18, 19, 20] else [22, 23, 24, 25]
theorem slots_sl {k : Int} (h : 1 ≤ k ∧ k ≤ 7) : slots k = (letL k).flatMap sl := by
  rcases (show k = 1 ∨ k = 2 ∨ k = 3 ∨ k = 4 ∨ k = 5 ∨ k = 6 ∨ k = 7 by omega) with rfl | rfl | rfl | rfl | rfl | rfl | rfl <;> decide
def isLet (x : UInt8) : Prop := x = 116 ∨ x = 115 ∨ x = 112 ∨ x = 97 ∨ x = 108 ∨ ∃ g, g < 5 ∧ x = lett g
theorem letL_let (k : Int) : ∀ x ∈ letL k, isLet x := by
  have h5 : ∀ x : UInt8, x = 116 ∨ x = 115 ∨ x = 112 ∨ x = 97 ∨ x = 108 ∨ x = 110 ∨ x = 114 ∨ x = 99 ∨ x = 100 ∨ x = 109 → isLet x := by
    rintro x (h | h | h | h | h | h | h | h | h | h)
    · exact .inl h
    · exact .inr (.inl h)
    · exact .inr (.inr (.inl h))
    · exact .inr (.inr (.inr (.inl h)))
    · exact .inr (.inr (.inr (.inr (.inl h))))
    · exact .inr (.inr (.inr (.inr (.inr ⟨0, by decide, h⟩))))
    · exact .inr (.inr (.inr (.inr (.inr ⟨1, by decide, h⟩))))
    · exact .inr (.inr (.inr (.inr (.inr ⟨2, by decide, h⟩))))
    · exact .inr (.inr (.inr (.inr (.inr ⟨3, by decide, h⟩))))
    · exact .inr (.inr (.inr (.inr (.inr ⟨4, by decide, h⟩))))
  have hb : (letL k).all (fun x => x == 116 || (x == 115 || (x == 112 || (x == 97 || (x == 108 || (x == 110 || (x == 114 || (x == 99 || (x == 100 || x == 109))))))))) = true := by
    unfold letL
    repeat' split
    all_goals decide
  intro x hx
  have := List.all_eq_true.mp hb x hx
  simp only [Bool.or_eq_true, beq_iff_eq] at this
  exact h5 x this
theorem sl_grp {g : Nat} (h : g < 5) : sl (lett g) = [grp g, grp g + 1, grp g + 2, grp g + 3] := by
  rcases (show g = 0 ∨ g = 1 ∨ g = 2 ∨ g = 3 ∨ g = 4 by omega) with rfl | rfl | rfl | rfl | rfl <;> decide
theorem lett_ne {g : Nat} (h : g < 5) : ((lett g).toNat : Int) ≠ 116 ∧ ((lett g).toNat : Int) ≠ 115 ∧ ((lett g).toNat : Int) ≠ 112 ∧ ((lett g).toNat : Int) ≠ 97 ∧ ((lett g).toNat : Int) ≠ 108 := by
  rcases (show g = 0 ∨ g = 1 ∨ g = 2 ∨ g = 3 ∨ g = 4 by omega) with rfl | rfl | rfl | rfl | rfl <;> decide
theorem mO_at {m : Msg} {g k : Nat} (hg : g < 5) (hk : k < 4) : gcV (grp g + k) 1 (some (mO m)) = some [.int .i64 (m.c (grp g + k))] := by
  rcases (show g = 0 ∨ g = 1 ∨ g = 2 ∨ g = 3 ∨ g = 4 by omega) with rfl | rfl | rfl | rfl | rfl <;> rcases (show k = 0 ∨ k = 1 ∨ k = 2 ∨ k = 3 by omega) with rfl | rfl | rfl | rfl <;> rfl
theorem flat_le {l : List UInt8} : (l.flatMap sl).length ≤ l.length * 4 := by
  induction l with
  | nil => simp
  | cons x l ih =>
    rw [List.flatMap_cons, List.length_append, List.length_cons]
    have : (sl x).length ≤ 4 := by unfold sl; repeat' split
                                   all_goals decide
    omega
theorem S_get {l : List UInt8} {i : Nat} (h : i < l.length) : (S l)[i]? = some l[i] := by
  rw [getElem?_pos (S l) i (by rw [S_size]; exact h)]
  rfl
theorem ref_Put (m : Msg) (H : Heap) (ok : Ok H) (hw : m.wf) : ∃ v H', Ca V 10 #[.agg m.cells.toArray] H v H' ∧ PutR m H v H' := by
  have okn : ∀ a, H.next ≤ a → H.get a = none := ok
  refine Ca_run rfl tab_10 rfl ?_
  simp (maxSteps := 5000000) (disch := omega) only [Tryd.f10, MX, V_P, SX, W_block, exitW, goInt, Int.reduceEq, setCells, oneOf, cellOk, reduceIte, Nat.reduceLT, Nat.reduceLeDiff, Nat.reduceEqDiff, Nat.reduceAdd, Nat.reduceSub, Nat.reduceMul, Int.reduceToNat, Int.reduceLT, Int.reduceLE, Int.reduceAdd, Int.reduceSub, implies_true, ne_eq, if_true, if_false, reduceCtorEq]
  refine W_callR rfl (by simp (maxSteps := 5000000) (disch := omega) only [MX, V_P, SX, W_block, exitW, goInt, Int.reduceEq, setCells, oneOf, cellOk, reduceIte, Nat.reduceLT, Nat.reduceLeDiff, Nat.reduceEqDiff, Nat.reduceAdd, Nat.reduceSub, Nat.reduceMul, Int.reduceToNat, Int.reduceLT, Int.reduceLE, Int.reduceAdd, Int.reduceSub, implies_true, ne_eq, if_true, if_false, reduceCtorEq]) (ref_Right m _ (by repeat (first | exact ok | refine Ok.push ?_ _ | refine Ok.room ?_ _ | (refine Ok.put ?_ _ (by simp (disch := omega) only [Heap.get_pushH, Heap.get_setH, hite_same, hite_ne, hite_eq, Heap.get_room, Heap.next_push, Heap.next_set, Heap.next_room, Option.isSome_some, *])))) hw.pan) ?_
  rintro v H1 ⟨rfl, hs⟩
  have hg : H1.get H.next = some (mO m) := by
    rw [hs.get H.next (by simp only [Heap.next_push]; omega) (by simp)]
    simp only [Heap.get_pushH, hite_same]
  have hs1 : Same H H1 [] := (by repeat (first | exact Same.same ok | refine Same.push ?_ _ | refine Same.room ?_ _ | (refine Same.make ?_ (by (try simp only [Heap.next_push, Heap.next_set, Heap.next_room]); omega) (by (try simp only [Heap.next_push, Heap.next_set, Heap.next_room]); omega)) | (refine Same.put ?_ (by simp (disch := omega) only [Heap.get_pushH, Heap.get_setH, hite_same, hite_ne, hite_eq, Heap.get_room, Heap.next_push, Heap.next_set, Heap.next_room, Option.isSome_some, *]) (fun z => by first | (simp; done) | (exfalso; (try simp only [Heap.next_push, Heap.next_set, Heap.next_room] at z); omega)))) : Same H (H.push (mO m)) []).trans hs (by simp)
  have hn1 : H.next < H1.next := by have := hs.le; simp only [Heap.next_push] at this; omega
  cases hr : m.right
  · simp (maxSteps := 5000000) (disch := omega) only [MX, hg, hr, V_P, SX, W_block, exitW, goInt, Int.reduceEq, setCells, oneOf, cellOk, reduceIte, Nat.reduceLT, Nat.reduceLeDiff, Nat.reduceEqDiff, Nat.reduceAdd, Nat.reduceSub, Nat.reduceMul, Int.reduceToNat, Int.reduceLT, Int.reduceLE, Int.reduceAdd, Int.reduceSub, implies_true, ne_eq, if_true, if_false, reduceCtorEq]
    refine ⟨fun _ => rfl, fun h => (by rw [hr] at h; cases h), hs1⟩
  obtain ⟨tk1, tk2, tk3⟩ := texts_ok hr hw
  have hri := fun j => right_i64 hr hw (j := j)
  have hrf := (right_iff m).mp hr
  have hk := hrf.1
  have ok1 := hs1.ok
  have ht := hw.term
  have hst := hw.stan
  simp (maxSteps := 5000000) (disch := omega) only [MX, hg, hr, V_P, SX, W_block, exitW, goInt, Int.reduceEq, setCells, oneOf, cellOk, reduceIte, Nat.reduceLT, Nat.reduceLeDiff, Nat.reduceEqDiff, Nat.reduceAdd, Nat.reduceSub, Nat.reduceMul, Int.reduceToNat, Int.reduceLT, Int.reduceLE, Int.reduceAdd, Int.reduceSub, implies_true, ne_eq, if_true, if_false, reduceCtorEq]
  refine W_callR rfl (by simp (maxSteps := 5000000) (disch := omega) only [MX, hg, hr, V_P, SX, W_block, exitW, goInt, Int.reduceEq, setCells, oneOf, cellOk, reduceIte, Nat.reduceLT, Nat.reduceLeDiff, Nat.reduceEqDiff, Nat.reduceAdd, Nat.reduceSub, Nat.reduceMul, Int.reduceToNat, Int.reduceLT, Int.reduceLE, Int.reduceAdd, Int.reduceSub, implies_true, ne_eq, if_true, if_false, reduceCtorEq]) (ref_parts (m.c 0) _) ?_
  rintro v H2 ⟨rfl, e2⟩
  obtain rfl := e2.symm
  simp (maxSteps := 5000000) (disch := omega) only [MX, hg, hr, V_P, SX, W_block, exitW, goInt, Int.reduceEq, setCells, oneOf, cellOk, reduceIte, Nat.reduceLT, Nat.reduceLeDiff, Nat.reduceEqDiff, Nat.reduceAdd, Nat.reduceSub, Nat.reduceMul, Int.reduceToNat, Int.reduceLT, Int.reduceLE, Int.reduceAdd, Int.reduceSub, implies_true, ne_eq, if_true, if_false, reduceCtorEq]
  refine W_for (fun (i : Nat) t H2 => ∃ b n c, t.get 1 = some (.pointer (some ⟨H.next, 0, none⟩)) ∧ t.get 5 = some (.string (S (letL (m.c 0)))) ∧ t.get 7 = some (.slice b n c) ∧ t.get 8 = some (.int .i64 i) ∧ i ≤ (letL (m.c 0)).length ∧ n = 1 + (((letL (m.c 0)).take i).flatMap sl).length ∧ GRow H2 H.next 9 b n c ((kindS (m.c 0) :: (((letL (m.c 0)).take i).flatMap sl).map m.text).map Value.string) ∧ Same H H2 [] ∧ H.next < H2.next ∧ H2.get H.next = some (mO m)) (fun i => (letL (m.c 0)).length - i) 0 ?_ ?_
  · simp (maxSteps := 5000000) (disch := omega) only [MX, hg, V_P, SX, W_block, exitW, goInt, Int.reduceEq, setCells, oneOf, cellOk, reduceIte, Nat.reduceLT, Nat.reduceLeDiff, Nat.reduceEqDiff, Nat.reduceAdd, Nat.reduceSub, Nat.reduceMul, Int.reduceToNat, Int.reduceLT, Int.reduceLE, Int.reduceAdd, Int.reduceSub, implies_true, ne_eq, if_true, if_false, reduceCtorEq]
    exact ⟨_, _, _, rfl, rfl, Nat.zero_le _, rfl, .full (by rw [Heap.get_push, if_pos rfl]; rfl) (by omega) (by decide), by repeat (first | exact hs1 | refine Same.push ?_ _ | refine Same.room ?_ _ | (refine Same.make ?_ (by (try simp only [Heap.next_push, Heap.next_set, Heap.next_room]); omega) (by (try simp only [Heap.next_push, Heap.next_set, Heap.next_room]); omega)) | (refine Same.put ?_ (by simp (disch := omega) only [Heap.get_pushH, Heap.get_setH, hite_same, hite_ne, hite_eq, Heap.get_room, Heap.next_push, Heap.next_set, Heap.next_room, Option.isSome_some, *]) (fun z => by first | (simp; done) | (exfalso; (try simp only [Heap.next_push, Heap.next_set, Heap.next_room] at z); omega)))), by omega⟩
  rintro i t H2 ⟨b, n, c, g1, g5, g7, g8, hi, hn, hm, hs2, hn2, hg2⟩
  have ok2 := hs2.ok
  have hl8 := letL_length (m.c 0)
  have hsz : (S (letL (m.c 0))).size = (letL (m.c 0)).length := rfl
  simp (maxSteps := 5000000) (disch := omega) only [g1, g5, g7, g8, hsz, V_P, SX, W_block, exitW, goInt, Int.reduceEq, setCells, oneOf, cellOk, reduceIte, Nat.reduceLT, Nat.reduceLeDiff, Nat.reduceEqDiff, Nat.reduceAdd, Nat.reduceSub, Nat.reduceMul, Int.reduceToNat, Int.reduceLT, Int.reduceLE, Int.reduceAdd, Int.reduceSub, implies_true, ne_eq, if_true, if_false, reduceCtorEq]
  refine cW_dec (fun hlt => ?_) (fun hlt => ?_)
  rotate_left
  · obtain rfl : i = (letL (m.c 0)).length := by omega
    rw [List.take_of_length_le (Nat.le_refl _)] at hn hm
    have htx : m.texts = kindS (m.c 0) :: ((letL (m.c 0)).flatMap sl).map m.text := by unfold Msg.texts; rw [slots_sl hk]
    rw [← htx] at hm
    have hn' : n = m.texts.length := by rw [htx, List.length_cons, List.length_map]; omega
    subst hn'
    simp (maxSteps := 5000000) (disch := omega) only [g1, g5, g7, g8, hsz, V_P, SX, W_block, exitW, goInt, Int.reduceEq, setCells, oneOf, cellOk, reduceIte, Nat.reduceLT, Nat.reduceLeDiff, Nat.reduceEqDiff, Nat.reduceAdd, Nat.reduceSub, Nat.reduceMul, Int.reduceToNat, Int.reduceLT, Int.reduceLE, Int.reduceAdd, Int.reduceSub, implies_true, ne_eq, if_true, if_false, reduceCtorEq]
    refine W_callR rfl (by simp (maxSteps := 5000000) (disch := omega) only [g1, g5, g7, g8, hsz, V_P, SX, W_block, exitW, goInt, Int.reduceEq, setCells, oneOf, cellOk, reduceIte, Nat.reduceLT, Nat.reduceLeDiff, Nat.reduceEqDiff, Nat.reduceAdd, Nat.reduceSub, Nat.reduceMul, Int.reduceToNat, Int.reduceLT, Int.reduceLE, Int.reduceAdd, Int.reduceSub, implies_true, ne_eq, if_true, if_false, reduceCtorEq]) (ref_Join m.texts b c _ ok2 (mrow_row hm (by rw [List.length_map]) sz_9) tk1 tk2 tk3 (by unfold Msg.texts; simp) (by
      show 0 < (kindL (m.c 0)).length
      rcases (show m.c 0 = 1 ∨ m.c 0 = 2 ∨ m.c 0 = 3 ∨ m.c 0 = 4 ∨ m.c 0 = 5 ∨ m.c 0 = 6 ∨ m.c 0 = 7 by omega) with h | h | h | h | h | h | h <;> rw [h] <;> decide)) ?_
    rintro v H6 ⟨⟨j, hj, rfl, hgj⟩, hs6⟩
    simp (maxSteps := 5000000) (disch := omega) only [g1, g5, g7, g8, hsz, V_P, SX, W_block, exitW, goInt, Int.reduceEq, setCells, oneOf, cellOk, reduceIte, Nat.reduceLT, Nat.reduceLeDiff, Nat.reduceEqDiff, Nat.reduceAdd, Nat.reduceSub, Nat.reduceMul, Int.reduceToNat, Int.reduceLT, Int.reduceLE, Int.reduceAdd, Int.reduceSub, implies_true, ne_eq, if_true, if_false, reduceCtorEq]
    exact ⟨fun h => (by rw [hr] at h; cases h), fun _ => ⟨j, Nat.le_trans hs2.le hj, rfl, hgj⟩, hs2.trans hs6 (by simp)⟩
  have hlt' : i < (letL (m.c 0)).length := by omega
  have hx := letL_let (m.c 0) _ (List.getElem_mem hlt')
  have hgx := S_get hlt'
  have htk : (letL (m.c 0)).take (i + 1) = (letL (m.c 0)).take i ++ [(letL (m.c 0))[i]] := List.take_succ_eq_append_getElem hlt'
  generalize (letL (m.c 0))[i] = x at hx hgx htk
  have hfl : ((letL (m.c 0)).take (i + 1)).flatMap sl = ((letL (m.c 0)).take i).flatMap sl ++ sl x := by
    rw [htk, List.flatMap_append, List.flatMap_cons, List.flatMap_nil, List.append_nil]
  have hbd : (((letL (m.c 0)).take i).flatMap sl).length ≤ 32 := by
    have := flat_le (l := (letL (m.c 0)).take i)
    rw [List.length_take] at this
    omega
  generalize hpre : ((letL (m.c 0)).take i).flatMap sl = pre at hn hm hfl hbd
  have hcl : ((kindS (m.c 0) :: pre.map m.text).map Value.string).length = n := by simp; omega
  have hne := mrow_ne hm hg2 (by decide)
  simp (maxSteps := 5000000) (disch := omega) only [g1, g5, g7, g8, hsz, hgx, V_P, SX, W_block, exitW, goInt, Int.reduceEq, setCells, oneOf, cellOk, reduceIte, Nat.reduceLT, Nat.reduceLeDiff, Nat.reduceEqDiff, Nat.reduceAdd, Nat.reduceSub, Nat.reduceMul, Int.reduceToNat, Int.reduceLT, Int.reduceLE, Int.reduceAdd, Int.reduceSub, implies_true, ne_eq, if_true, if_false, reduceCtorEq]
  rcases hx with rfl | rfl | rfl | rfl | rfl | ⟨g, hg5, rfl⟩
  · rw [show ((116 : UInt8).toNat : Int) = 116 from rfl]
    simp (maxSteps := 5000000) (disch := omega) only [MX, g1, g5, g7, g8, hsz, hg2, V_P, SX, W_block, exitW, goInt, Int.reduceEq, setCells, oneOf, cellOk, reduceIte, Nat.reduceLT, Nat.reduceLeDiff, Nat.reduceEqDiff, Nat.reduceAdd, Nat.reduceSub, Nat.reduceMul, Int.reduceToNat, Int.reduceLT, Int.reduceLE, Int.reduceAdd, Int.reduceSub, implies_true, ne_eq, if_true, if_false, reduceCtorEq]
    refine W_callR rfl (by simp (maxSteps := 5000000) (disch := omega) only [MX, g1, g5, g7, g8, hsz, hg2, V_P, SX, W_block, exitW, goInt, Int.reduceEq, setCells, oneOf, cellOk, reduceIte, Nat.reduceLT, Nat.reduceLeDiff, Nat.reduceEqDiff, Nat.reduceAdd, Nat.reduceSub, Nat.reduceMul, Int.reduceToNat, Int.reduceLT, Int.reduceLE, Int.reduceAdd, Int.reduceSub, implies_true, ne_eq, if_true, if_false, reduceCtorEq]) (ref_DecI (v := m.c 1) (by omega) (by omega) _ ok2) ?_
    rintro v H3 ⟨rfl, hs3⟩
    have hg3 : H3.get H.next = some (mO m) := by rw [hs3.get _ hn2 (by simp), hg2]
    have hsA := (hs2.trans hs3 (by simp))
    have hmA := (mrow_same hm ok2 hs3)
    have okA := hsA.ok
    have hneA := mrow_ne hmA hg3 (by decide)
    obtain ⟨H4, b4, ap, hm4, hs4, nx, ot, eb, ps, hps⟩ := mrow_app (new := [.string (txt (m.c 1))]) (k := 1) (hsA.push (.cells [.string (txt (m.c 1))] 9 false)) (mrow_push hmA okA (.cells [.string (txt (m.c 1))] 9 false)) hcl (by decide) (by omega) rfl
    have hlA : H.next < H3.next := by have := hsA.le; have := hs3.le; omega
    have hg4 : H4.get H.next = some (mO m) := by rw [ot _ (by rw [Heap.next_push]; omega) hneA, Heap.get_push, if_neg (by omega), hg3]
    simp (maxSteps := 5000000) (disch := omega) only [MX, g1, g5, g7, g8, hsz, hg2, ap, V_P, SX, W_block, exitW, goInt, Int.reduceEq, setCells, oneOf, cellOk, reduceIte, Nat.reduceLT, Nat.reduceLeDiff, Nat.reduceEqDiff, Nat.reduceAdd, Nat.reduceSub, Nat.reduceMul, Int.reduceToNat, Int.reduceLT, Int.reduceLE, Int.reduceAdd, Int.reduceSub, implies_true, ne_eq, if_true, if_false, reduceCtorEq]
    refine ⟨i + 1, ⟨_, _, _, rfl, by simp, by omega, ?_, ?_, hs4, by rw [nx, Heap.next_push]; omega, hg4⟩, by omega⟩
    · rw [hfl, List.length_append]; simp [sl]; omega
    · rw [hfl]
      simpa [sl, Msg.text] using hm4
  · rw [show ((115 : UInt8).toNat : Int) = 115 from rfl]
    simp (maxSteps := 5000000) (disch := omega) only [MX, g1, g5, g7, g8, hsz, hg2, V_P, SX, W_block, exitW, goInt, Int.reduceEq, setCells, oneOf, cellOk, reduceIte, Nat.reduceLT, Nat.reduceLeDiff, Nat.reduceEqDiff, Nat.reduceAdd, Nat.reduceSub, Nat.reduceMul, Int.reduceToNat, Int.reduceLT, Int.reduceLE, Int.reduceAdd, Int.reduceSub, implies_true, ne_eq, if_true, if_false, reduceCtorEq]
    refine W_callR rfl (by simp (maxSteps := 5000000) (disch := omega) only [MX, g1, g5, g7, g8, hsz, hg2, V_P, SX, W_block, exitW, goInt, Int.reduceEq, setCells, oneOf, cellOk, reduceIte, Nat.reduceLT, Nat.reduceLeDiff, Nat.reduceEqDiff, Nat.reduceAdd, Nat.reduceSub, Nat.reduceMul, Int.reduceToNat, Int.reduceLT, Int.reduceLE, Int.reduceAdd, Int.reduceSub, implies_true, ne_eq, if_true, if_false, reduceCtorEq]) (ref_DecI (v := m.c 2) (by omega) (by omega) _ ok2) ?_
    rintro v H3 ⟨rfl, hs3⟩
    have hg3 : H3.get H.next = some (mO m) := by rw [hs3.get _ hn2 (by simp), hg2]
    have hsA := (hs2.trans hs3 (by simp))
    have hmA := (mrow_same hm ok2 hs3)
    have okA := hsA.ok
    have hneA := mrow_ne hmA hg3 (by decide)
    obtain ⟨H4, b4, ap, hm4, hs4, nx, ot, eb, ps, hps⟩ := mrow_app (new := [.string (txt (m.c 2))]) (k := 1) (hsA.push (.cells [.string (txt (m.c 2))] 9 false)) (mrow_push hmA okA (.cells [.string (txt (m.c 2))] 9 false)) hcl (by decide) (by omega) rfl
    have hlA : H.next < H3.next := by have := hsA.le; have := hs3.le; omega
    have hg4 : H4.get H.next = some (mO m) := by rw [ot _ (by rw [Heap.next_push]; omega) hneA, Heap.get_push, if_neg (by omega), hg3]
    simp (maxSteps := 5000000) (disch := omega) only [MX, g1, g5, g7, g8, hsz, hg2, ap, V_P, SX, W_block, exitW, goInt, Int.reduceEq, setCells, oneOf, cellOk, reduceIte, Nat.reduceLT, Nat.reduceLeDiff, Nat.reduceEqDiff, Nat.reduceAdd, Nat.reduceSub, Nat.reduceMul, Int.reduceToNat, Int.reduceLT, Int.reduceLE, Int.reduceAdd, Int.reduceSub, implies_true, ne_eq, if_true, if_false, reduceCtorEq]
    refine ⟨i + 1, ⟨_, _, _, rfl, by simp, by omega, ?_, ?_, hs4, by rw [nx, Heap.next_push]; omega, hg4⟩, by omega⟩
    · rw [hfl, List.length_append]; simp [sl]; omega
    · rw [hfl]
      simpa [sl, Msg.text] using hm4
  · rw [show ((112 : UInt8).toNat : Int) = 112 from rfl]
    simp (maxSteps := 5000000) (disch := omega) only [MX, g1, g5, g7, g8, hsz, hg2, V_P, SX, W_block, exitW, goInt, Int.reduceEq, setCells, oneOf, cellOk, reduceIte, Nat.reduceLT, Nat.reduceLeDiff, Nat.reduceEqDiff, Nat.reduceAdd, Nat.reduceSub, Nat.reduceMul, Int.reduceToNat, Int.reduceLT, Int.reduceLE, Int.reduceAdd, Int.reduceSub, implies_true, ne_eq, if_true, if_false, reduceCtorEq]
    have hg3 := hg2
    have hsA := hs2
    have hmA := hm
    have okA := hsA.ok
    have hneA := mrow_ne hmA hg3 (by decide)
    obtain ⟨H4, b4, ap, hm4, hs4, nx, ot, eb, ps, hps⟩ := mrow_app (new := [.string (m.pan)]) (k := 1) (hsA.push (.cells [.string (m.pan)] 9 false)) (mrow_push hmA okA (.cells [.string (m.pan)] 9 false)) hcl (by decide) (by omega) rfl
    have hlA : H.next < H2.next := by have := hsA.le; exact hn2
    have hg4 : H4.get H.next = some (mO m) := by rw [ot _ (by rw [Heap.next_push]; omega) hneA, Heap.get_push, if_neg (by omega), hg3]
    simp (maxSteps := 5000000) (disch := omega) only [MX, g1, g5, g7, g8, hsz, hg2, ap, V_P, SX, W_block, exitW, goInt, Int.reduceEq, setCells, oneOf, cellOk, reduceIte, Nat.reduceLT, Nat.reduceLeDiff, Nat.reduceEqDiff, Nat.reduceAdd, Nat.reduceSub, Nat.reduceMul, Int.reduceToNat, Int.reduceLT, Int.reduceLE, Int.reduceAdd, Int.reduceSub, implies_true, ne_eq, if_true, if_false, reduceCtorEq]
    refine ⟨i + 1, ⟨_, _, _, rfl, by simp, by omega, ?_, ?_, hs4, by rw [nx, Heap.next_push]; omega, hg4⟩, by omega⟩
    · rw [hfl, List.length_append]; simp [sl]; omega
    · rw [hfl]
      simpa [sl, Msg.text] using hm4
  · rw [show ((97 : UInt8).toNat : Int) = 97 from rfl]
    simp (maxSteps := 5000000) (disch := omega) only [MX, g1, g5, g7, g8, hsz, hg2, V_P, SX, W_block, exitW, goInt, Int.reduceEq, setCells, oneOf, cellOk, reduceIte, Nat.reduceLT, Nat.reduceLeDiff, Nat.reduceEqDiff, Nat.reduceAdd, Nat.reduceSub, Nat.reduceMul, Int.reduceToNat, Int.reduceLT, Int.reduceLE, Int.reduceAdd, Int.reduceSub, implies_true, ne_eq, if_true, if_false, reduceCtorEq]
    refine W_callR rfl (by simp (maxSteps := 5000000) (disch := omega) only [MX, g1, g5, g7, g8, hsz, hg2, V_P, SX, W_block, exitW, goInt, Int.reduceEq, setCells, oneOf, cellOk, reduceIte, Nat.reduceLT, Nat.reduceLeDiff, Nat.reduceEqDiff, Nat.reduceAdd, Nat.reduceSub, Nat.reduceMul, Int.reduceToNat, Int.reduceLT, Int.reduceLE, Int.reduceAdd, Int.reduceSub, implies_true, ne_eq, if_true, if_false, reduceCtorEq]) (ref_DecI (v := m.c 4) (by omega) (by omega) _ ok2) ?_
    rintro v H3 ⟨rfl, hs3⟩
    have hg3 : H3.get H.next = some (mO m) := by rw [hs3.get _ hn2 (by simp), hg2]
    have hsA := (hs2.trans hs3 (by simp))
    have hmA := (mrow_same hm ok2 hs3)
    have okA := hsA.ok
    have hneA := mrow_ne hmA hg3 (by decide)
    obtain ⟨H4, b4, ap, hm4, hs4, nx, ot, eb, ps, hps⟩ := mrow_app (new := [.string (txt (m.c 4))]) (k := 1) (hsA.push (.cells [.string (txt (m.c 4))] 9 false)) (mrow_push hmA okA (.cells [.string (txt (m.c 4))] 9 false)) hcl (by decide) (by omega) rfl
    have hlA : H.next < H3.next := by have := hsA.le; have := hs3.le; omega
    have hg4 : H4.get H.next = some (mO m) := by rw [ot _ (by rw [Heap.next_push]; omega) hneA, Heap.get_push, if_neg (by omega), hg3]
    simp (maxSteps := 5000000) (disch := omega) only [MX, g1, g5, g7, g8, hsz, hg2, ap, V_P, SX, W_block, exitW, goInt, Int.reduceEq, setCells, oneOf, cellOk, reduceIte, Nat.reduceLT, Nat.reduceLeDiff, Nat.reduceEqDiff, Nat.reduceAdd, Nat.reduceSub, Nat.reduceMul, Int.reduceToNat, Int.reduceLT, Int.reduceLE, Int.reduceAdd, Int.reduceSub, implies_true, ne_eq, if_true, if_false, reduceCtorEq]
    refine ⟨i + 1, ⟨_, _, _, rfl, by simp, by omega, ?_, ?_, hs4, by rw [nx, Heap.next_push]; omega, hg4⟩, by omega⟩
    · rw [hfl, List.length_append]; simp [sl]; omega
    · rw [hfl]
      simpa [sl, Msg.text] using hm4
  · rw [show ((108 : UInt8).toNat : Int) = 108 from rfl]
    simp (maxSteps := 5000000) (disch := omega) only [MX, g1, g5, g7, g8, hsz, hg2, V_P, SX, W_block, exitW, goInt, Int.reduceEq, setCells, oneOf, cellOk, reduceIte, Nat.reduceLT, Nat.reduceLeDiff, Nat.reduceEqDiff, Nat.reduceAdd, Nat.reduceSub, Nat.reduceMul, Int.reduceToNat, Int.reduceLT, Int.reduceLE, Int.reduceAdd, Int.reduceSub, implies_true, ne_eq, if_true, if_false, reduceCtorEq]
    refine W_callR rfl (by simp (maxSteps := 5000000) (disch := omega) only [MX, g1, g5, g7, g8, hsz, hg2, V_P, SX, W_block, exitW, goInt, Int.reduceEq, setCells, oneOf, cellOk, reduceIte, Nat.reduceLT, Nat.reduceLeDiff, Nat.reduceEqDiff, Nat.reduceAdd, Nat.reduceSub, Nat.reduceMul, Int.reduceToNat, Int.reduceLT, Int.reduceLE, Int.reduceAdd, Int.reduceSub, implies_true, ne_eq, if_true, if_false, reduceCtorEq]) (ref_DecI (v := m.c 21) (by omega) (by omega) _ ok2) ?_
    rintro v H3 ⟨rfl, hs3⟩
    have hg3 : H3.get H.next = some (mO m) := by rw [hs3.get _ hn2 (by simp), hg2]
    have hsA := (hs2.trans hs3 (by simp))
    have hmA := (mrow_same hm ok2 hs3)
    have okA := hsA.ok
    have hneA := mrow_ne hmA hg3 (by decide)
    obtain ⟨H4, b4, ap, hm4, hs4, nx, ot, eb, ps, hps⟩ := mrow_app (new := [.string (txt (m.c 21))]) (k := 1) (hsA.push (.cells [.string (txt (m.c 21))] 9 false)) (mrow_push hmA okA (.cells [.string (txt (m.c 21))] 9 false)) hcl (by decide) (by omega) rfl
    have hlA : H.next < H3.next := by have := hsA.le; have := hs3.le; omega
    have hg4 : H4.get H.next = some (mO m) := by rw [ot _ (by rw [Heap.next_push]; omega) hneA, Heap.get_push, if_neg (by omega), hg3]
    simp (maxSteps := 5000000) (disch := omega) only [MX, g1, g5, g7, g8, hsz, hg2, ap, V_P, SX, W_block, exitW, goInt, Int.reduceEq, setCells, oneOf, cellOk, reduceIte, Nat.reduceLT, Nat.reduceLeDiff, Nat.reduceEqDiff, Nat.reduceAdd, Nat.reduceSub, Nat.reduceMul, Int.reduceToNat, Int.reduceLT, Int.reduceLE, Int.reduceAdd, Int.reduceSub, implies_true, ne_eq, if_true, if_false, reduceCtorEq]
    refine ⟨i + 1, ⟨_, _, _, rfl, by simp, by omega, ?_, ?_, hs4, by rw [nx, Heap.next_push]; omega, hg4⟩, by omega⟩
    · rw [hfl, List.length_append]; simp [sl]; omega
    · rw [hfl]
      simpa [sl, Msg.text] using hm4
  · obtain ⟨q1, q2, q3, q4, q5⟩ := lett_ne hg5
    iterate 5
      all_goals (try (refine cW_dec (fun h => absurd h (by assumption)) (fun _ => ?_)))
      all_goals (try (simp (maxSteps := 5000000) (disch := omega) only [MX, g1, g5, g7, g8, hsz, hg2, hgx, V_P, SX, W_block, exitW, goInt, Int.reduceEq, setCells, oneOf, cellOk, reduceIte, Nat.reduceLT, Nat.reduceLeDiff, Nat.reduceEqDiff, Nat.reduceAdd, Nat.reduceSub, Nat.reduceMul, Int.reduceToNat, Int.reduceLT, Int.reduceLE, Int.reduceAdd, Int.reduceSub, implies_true, ne_eq, if_true, if_false, reduceCtorEq]))
    refine W_callR rfl (by simp (maxSteps := 5000000) (disch := omega) only [MX, g1, g5, g7, g8, hsz, hg2, hgx, V_P, SX, W_block, exitW, goInt, Int.reduceEq, setCells, oneOf, cellOk, reduceIte, Nat.reduceLT, Nat.reduceLeDiff, Nat.reduceEqDiff, Nat.reduceAdd, Nat.reduceSub, Nat.reduceMul, Int.reduceToNat, Int.reduceLT, Int.reduceLE, Int.reduceAdd, Int.reduceSub, implies_true, ne_eq, if_true, if_false, reduceCtorEq]) (ref_notes H.next g hg5 _) ?_
    rintro v H3 ⟨rfl, e3⟩
    obtain rfl := e3.symm
    have hw5 := within_iff.mp (hrf.2.2.2.2 g hg5)
    have hm5 : mostG g ≤ 2147483647 := by unfold mostG; split <;> omega
    have hgr : 5 ≤ grp g := by unfold grp; repeat' split
                               all_goals omega
    simp (maxSteps := 5000000) (disch := omega) only [MX, g1, g5, g7, g8, hsz, hg2, hgx, V_P, SX, W_block, exitW, goInt, Int.reduceEq, setCells, oneOf, cellOk, reduceIte, Nat.reduceLT, Nat.reduceLeDiff, Nat.reduceEqDiff, Nat.reduceAdd, Nat.reduceSub, Nat.reduceMul, Int.reduceToNat, Int.reduceLT, Int.reduceLE, Int.reduceAdd, Int.reduceSub, implies_true, ne_eq, if_true, if_false, reduceCtorEq]
    refine W_for (fun (k : Nat) t H3 => ∃ b n c, t.get 1 = some (.pointer (some ⟨H.next, 0, none⟩)) ∧ t.get 5 = some (.string (S (letL (m.c 0)))) ∧ t.get 7 = some (.slice b n c) ∧ t.get 8 = some (.int .i64 i) ∧ t.get 9 = some (.pointer (some ⟨H.next, grp g, none⟩)) ∧ t.get 11 = some (.int .i64 k) ∧ k ≤ 4 ∧ n = 1 + pre.length + k ∧ GRow H3 H.next 9 b n c ((kindS (m.c 0) :: (pre ++ (List.range k).map (grp g + ·)).map m.text).map Value.string) ∧ Same H H3 [] ∧ H.next < H3.next ∧ H3.get H.next = some (mO m)) (fun k => 4 - k) 0 ?_ ?_
    · simp (maxSteps := 5000000) (disch := omega) only [g1, g5, g7, g8, hg2, V_P, SX, W_block, exitW, goInt, Int.reduceEq, setCells, oneOf, cellOk, reduceIte, Nat.reduceLT, Nat.reduceLeDiff, Nat.reduceEqDiff, Nat.reduceAdd, Nat.reduceSub, Nat.reduceMul, Int.reduceToNat, Int.reduceLT, Int.reduceLE, Int.reduceAdd, Int.reduceSub, implies_true, ne_eq, if_true, if_false, reduceCtorEq]
      exact ⟨b, n, c, rfl, rfl, hn, by simpa using hm, hs2, hn2⟩
    rintro k t H3 ⟨b, n, c, g1, g5, g7, g8, g9, g11, hk4, hn3, hm3, hs3, hn4, hg3⟩
    have ok3 := hs3.ok
    simp (maxSteps := 5000000) (disch := omega) only [g1, g5, g7, g8, g9, g11, V_P, SX, W_block, exitW, goInt, Int.reduceEq, setCells, oneOf, cellOk, reduceIte, Nat.reduceLT, Nat.reduceLeDiff, Nat.reduceEqDiff, Nat.reduceAdd, Nat.reduceSub, Nat.reduceMul, Int.reduceToNat, Int.reduceLT, Int.reduceLE, Int.reduceAdd, Int.reduceSub, implies_true, ne_eq, if_true, if_false, reduceCtorEq]
    refine cW_dec (fun hlt4 => ?_) (fun hlt4 => ?_)
    rotate_left
    · obtain rfl : k = 4 := by omega
      simp (maxSteps := 5000000) (disch := omega) only [g1, g5, g7, g8, g9, g11, V_P, SX, W_block, exitW, goInt, Int.reduceEq, setCells, oneOf, cellOk, reduceIte, Nat.reduceLT, Nat.reduceLeDiff, Nat.reduceEqDiff, Nat.reduceAdd, Nat.reduceSub, Nat.reduceMul, Int.reduceToNat, Int.reduceLT, Int.reduceLE, Int.reduceAdd, Int.reduceSub, implies_true, ne_eq, if_true, if_false, reduceCtorEq]
      refine ⟨i + 1, ⟨b, n, c, rfl, by simp, by omega, ?_, ?_, hs3, hn4, hg3⟩, by omega⟩
      · rw [hfl, List.length_append, sl_grp hg5]; simp; omega
      · rw [hfl, sl_grp hg5]; exact hm3
    have hk5 : k < 4 := by omega
    have hgk : gcV (grp g + k) 1 (H3.get H.next) = some [.int .i64 (m.c (grp g + k))] := by rw [hg3]; exact mO_at hg5 hk5
    have hck : 0 ≤ m.c (grp g + k) ∧ m.c (grp g + k) ≤ 2147483647 := by
      unfold Msg.n4 at hw5
      rcases (show k = 0 ∨ k = 1 ∨ k = 2 ∨ k = 3 by omega) with rfl | rfl | rfl | rfl
      · exact ⟨hw5.1.1, Int.le_trans hw5.1.2 hm5⟩
      · exact ⟨hw5.2.1.1, Int.le_trans hw5.2.1.2 hm5⟩
      · exact ⟨hw5.2.2.1.1, Int.le_trans hw5.2.2.1.2 hm5⟩
      · exact ⟨hw5.2.2.2.1, Int.le_trans hw5.2.2.2.2 hm5⟩
    simp (maxSteps := 5000000) (disch := omega) only [g1, g5, g7, g8, g9, g11, hgk, V_P, SX, W_block, exitW, goInt, Int.reduceEq, setCells, oneOf, cellOk, reduceIte, Nat.reduceLT, Nat.reduceLeDiff, Nat.reduceEqDiff, Nat.reduceAdd, Nat.reduceSub, Nat.reduceMul, Int.reduceToNat, Int.reduceLT, Int.reduceLE, Int.reduceAdd, Int.reduceSub, implies_true, ne_eq, if_true, if_false, reduceCtorEq]
    refine W_callR rfl (by simp (maxSteps := 5000000) (disch := omega) only [g1, g5, g7, g8, g9, g11, hgk, V_P, SX, W_block, exitW, goInt, Int.reduceEq, setCells, oneOf, cellOk, reduceIte, Nat.reduceLT, Nat.reduceLeDiff, Nat.reduceEqDiff, Nat.reduceAdd, Nat.reduceSub, Nat.reduceMul, Int.reduceToNat, Int.reduceLT, Int.reduceLE, Int.reduceAdd, Int.reduceSub, implies_true, ne_eq, if_true, if_false, reduceCtorEq]) (ref_DecI (v := m.c (grp g + k)) hck.1 (by omega) _ ok3) ?_
    rintro v H4 ⟨rfl, hs4⟩
    have hgA : H4.get H.next = some (mO m) := by rw [hs4.get _ hn4 (by simp), hg3]
    have hsA := hs3.trans hs4 (by simp)
    have hmA := mrow_same hm3 ok3 hs4
    have okA := hsA.ok
    have hneA := mrow_ne hmA hgA (by decide)
    obtain ⟨H5, b5, ap, hm5', hs5, nx, ot, eb, ps, hps⟩ := mrow_app (new := [.string (txt (m.c (grp g + k)))]) (k := 1) (hsA.push (.cells [.string (txt (m.c (grp g + k)))] 9 false)) (mrow_push hmA okA (.cells [.string (txt (m.c (grp g + k)))] 9 false)) (by simp; omega) (by decide) (by omega) rfl
    have hlA : H.next < H4.next := by have := hs4.le; omega
    have hg5' : H5.get H.next = some (mO m) := by rw [ot _ (by rw [Heap.next_push]; omega) hneA, Heap.get_push, if_neg (by omega), hgA]
    simp (maxSteps := 5000000) (disch := omega) only [g1, g5, g7, g8, g9, g11, hgk, ap, V_P, SX, W_block, exitW, goInt, Int.reduceEq, setCells, oneOf, cellOk, reduceIte, Nat.reduceLT, Nat.reduceLeDiff, Nat.reduceEqDiff, Nat.reduceAdd, Nat.reduceSub, Nat.reduceMul, Int.reduceToNat, Int.reduceLT, Int.reduceLE, Int.reduceAdd, Int.reduceSub, implies_true, ne_eq, if_true, if_false, reduceCtorEq]
    refine ⟨k + 1, ⟨_, _, _, rfl, by simp, by omega, by omega, ?_, hs5, by rw [nx, Heap.next_push]; omega, hg5'⟩, by omega⟩
    have htx : m.text (grp g + k) = txt (m.c (grp g + k)) := if_neg (by omega)
    rw [List.range_succ]
    simpa [htx] using hm5'
end Go.B.YteigefgobkdmgaaDoor
/- Messages of few numbers are right. -/
namespace Go.B.YteigefgobkdmgaaDoor
open Go Go.B Go.Proofs
set_option maxRecDepth 100000
set_option maxHeartbeats 16000000
set_option linter.unusedSimpArgs false
set_option linter.unusedVariables false
def Msg.new (a b : Int) : Msg := ⟨S [], fun j => if j = 0 then a else if j = 1 then b else 0⟩
theorem mO_b2 {H : Heap} {i : Nat} {m : Msg} {a b : Int} : pcV H i 0 [.int .i64 a, .int .u16 b, .int .u32 0, .string ⟨#[]⟩, .int .i64 0, .int .i64 0, .int .i64 0, .int .i64 0, .int .i64 0, .int .i64 0, .int .i64 0, .int .i64 0, .int .i64 0, .int .i64 0, .int .i64 0, .int .i64 0, .int .i64 0, .int .i64 0, .int .i64 0, .int .i64 0, .int .i64 0, .int .i64 0, .int .i64 0, .int .i64 0, .int .i64 0, .int .i64 0] (some (mO m)) = some (H.set i (mO (.new a b))) := mO_pAll (x := .new a b)
theorem new_0 {a b : Int} : (Msg.new a b).c 0 = a := rfl
theorem new_1 {a b : Int} : (Msg.new a b).c 1 = b := rfl
theorem seat_Pan (k : Int) (h0 : 0 ≤ k) (h1 : k < 256) (H : Heap) (ok : Ok H) : ∃ v H', Ca V 17 #[.int .u8 k] H v H' ∧ (∃ s : ByteArray, v = .string s ∧ panOk s = true) ∧ Same H H' [] := by
  refine Ca_run rfl tab_17 rfl ?_
  have hk : 0 ≤ k % 4 ∧ k % 4 < 4 := by omega
  simp (maxSteps := 5000000) (disch := omega) only [Tryd.f17, V_P, SX, W_block, exitW, goInt, Int.reduceEq, setCells, oneOf, cellOk, reduceIte, Nat.reduceLT, Nat.reduceLeDiff, Nat.reduceEqDiff, Nat.reduceAdd, Nat.reduceSub, Nat.reduceMul, Int.reduceToNat, Int.reduceLT, Int.reduceLE, Int.reduceAdd, Int.reduceSub, implies_true, ne_eq, if_true, if_false, reduceCtorEq]
  generalize k % 4 = r at *
  rcases (show r = 0 ∨ r = 1 ∨ r = 2 ∨ r = 3 by omega) with rfl | rfl | rfl | rfl <;> simp (maxSteps := 5000000) (disch := omega) only [V_P, SX, W_block, exitW, goInt, Int.reduceEq, setCells, oneOf, cellOk, reduceIte, Nat.reduceLT, Nat.reduceLeDiff, Nat.reduceEqDiff, Nat.reduceAdd, Nat.reduceSub, Nat.reduceMul, Int.reduceToNat, Int.reduceLT, Int.reduceLE, Int.reduceAdd, Int.reduceSub, implies_true, ne_eq, if_true, if_false, reduceCtorEq] <;> (refine ⟨⟨_, rfl, by decide⟩, ?_⟩; repeat (first | exact Same.same ok | refine Same.push ?_ _ | refine Same.room ?_ _ | (refine Same.make ?_ (by (try simp only [Heap.next_push, Heap.next_set, Heap.next_room]); omega) (by (try simp only [Heap.next_push, Heap.next_set, Heap.next_room]); omega)) | (refine Same.put ?_ (by simp (disch := omega) only [Heap.get_pushH, Heap.get_setH, hite_same, hite_ne, hite_eq, Heap.get_room, Heap.next_push, Heap.next_set, Heap.next_room, Option.isSome_some, *]) (fun z => by first | (simp; done) | (exfalso; (try simp only [Heap.next_push, Heap.next_set, Heap.next_room] at z); omega)))))
theorem panOk_size {s : ByteArray} (h : panOk s = true) : s.size ≤ 19 := by
  unfold panOk at h
  simp only [Bool.and_eq_true, decide_eq_true_eq] at h
  exact h.2.1
theorem right_small {m : Msg} {kk : Int} (hc0 : m.c 0 = kk) (hkr : 1 ≤ kk ∧ kk ≤ 7) (h1 : 0 ≤ m.c 1 ∧ m.c 1 < 65536) (h2 : 0 ≤ m.c 2 ∧ m.c 2 ≤ 999999) (h4 : 0 ≤ m.c 4 ∧ m.c 4 ≤ 1000000) (hk2 : kk ≠ 3 ∨ m.c 2 = 0) (hp : kk = 1 ∧ panOk m.pan = true ∨ kk ≠ 1 ∧ m.pan = S [])
    (hj : ∀ j, 4 ≤ j → j < 26 → (keep kk j = true ∨ m.c j = 0) ∧ (5 ≤ j → 0 ≤ m.c j ∧ m.c j ≤ (if 13 ≤ j ∧ j ≤ 20 then 65535 else 10000))) : m.right = true ∧ m.wf := by
  have hb : ∀ j, 5 ≤ j → j < 26 → 0 ≤ m.c j ∧ m.c j ≤ 65535 ∧ (¬ (13 ≤ j ∧ j ≤ 20) → m.c j ≤ 10000) := fun j a b => by
    have := (hj j (by omega) b).2 a
    refine ⟨this.1, ?_, fun h => ?_⟩
    · split at this <;> omega
    · rw [if_neg h] at this; omega
  refine ⟨(right_iff m).mpr ⟨by rw [hc0]; exact hkr, ?_, ?_, by rw [hc0]; exact hp, ?_⟩, ?_, h1, by omega⟩
  · have := hb 21 (by decide) (by decide)
    omega
  · intro j h1 h3
    rw [hc0]
    rcases (show j = 0 ∨ j = 1 ∨ j = 2 ∨ 4 ≤ j by omega) with rfl | rfl | rfl | h
    · exact .inl rfl
    · exact .inl rfl
    · rcases hk2 with h | h
      · exact .inl (by simp [keep, h])
      · exact .inr h
    · exact (hj j h h1).1
  · intro i hi
    rw [within_iff]
    rcases (show i = 0 ∨ i = 1 ∨ i = 2 ∨ i = 3 ∨ i = 4 by omega) with rfl | rfl | rfl | rfl | rfl
    · have a := hb 5 (by decide) (by decide); have b := hb 6 (by decide) (by decide); have c := hb 7 (by decide) (by decide); have d := hb 8 (by decide) (by decide)
      exact ⟨⟨a.1, a.2.2 (by decide)⟩, ⟨b.1, b.2.2 (by decide)⟩, ⟨c.1, c.2.2 (by decide)⟩, ⟨d.1, d.2.2 (by decide)⟩⟩
    · have a := hb 9 (by decide) (by decide); have b := hb 10 (by decide) (by decide); have c := hb 11 (by decide) (by decide); have d := hb 12 (by decide) (by decide)
      exact ⟨⟨a.1, a.2.2 (by decide)⟩, ⟨b.1, b.2.2 (by decide)⟩, ⟨c.1, c.2.2 (by decide)⟩, ⟨d.1, d.2.2 (by decide)⟩⟩
    · have a := hb 13 (by decide) (by decide); have b := hb 14 (by decide) (by decide); have c := hb 15 (by decide) (by decide); have d := hb 16 (by decide) (by decide)
      have hm : mostG 2 = 2147483647 := rfl
      refine ⟨⟨a.1, ?_⟩, ⟨b.1, ?_⟩, ⟨c.1, ?_⟩, ⟨d.1, ?_⟩⟩ <;> rw [hm]
      · show m.c 13 ≤ _; omega
      · show m.c 14 ≤ _; omega
      · show m.c 15 ≤ _; omega
      · show m.c 16 ≤ _; omega
    · have a := hb 17 (by decide) (by decide); have b := hb 18 (by decide) (by decide); have c := hb 19 (by decide) (by decide); have d := hb 20 (by decide) (by decide)
      have hm : mostG 3 = 2147483647 := rfl
      refine ⟨⟨a.1, ?_⟩, ⟨b.1, ?_⟩, ⟨c.1, ?_⟩, ⟨d.1, ?_⟩⟩ <;> rw [hm]
      · show m.c 17 ≤ _; omega
      · show m.c 18 ≤ _; omega
      · show m.c 19 ≤ _; omega
      · show m.c 20 ≤ _; omega
    · have a := hb 22 (by decide) (by decide); have b := hb 23 (by decide) (by decide); have c := hb 24 (by decide) (by decide); have d := hb 25 (by decide) (by decide)
      exact ⟨⟨a.1, a.2.2 (by decide)⟩, ⟨b.1, b.2.2 (by decide)⟩, ⟨c.1, c.2.2 (by decide)⟩, ⟨d.1, d.2.2 (by decide)⟩⟩
  · rcases hp with ⟨_, h⟩ | ⟨_, h⟩
    · exact Nat.le_trans (panOk_size h) (by decide)
    · rw [h]; decide
theorem seat_Msg (a k st am : Int) (a0 : 0 ≤ a) (a1 : a < 256) (k0 : 0 ≤ k) (k1 : k < 256) (s0 : 0 ≤ st) (s1 : st < 65536) (m0 : 0 ≤ am) (m1 : am < 65536) (H : Heap) (ok : Ok H) :
    ∃ v H', Ca V 8 #[.int .u8 a, .int .u8 k, .int .u16 st, .int .u16 am] H v H' ∧ (∃ m : Msg, v = .agg m.cells.toArray ∧ m.right = true ∧ m.wf) ∧ Same H H' [] := by
  have okn : ∀ a, H.next ≤ a → H.get a = none := ok
  have ha : 0 ≤ a % 7 ∧ a % 7 < 7 := by omega
  have hk3 : 0 ≤ k % 3 ∧ k % 3 < 3 := by omega
  have hk5 : 0 ≤ k % 5 ∧ k % 5 < 5 := by omega
  have hk55 : 0 ≤ k / 5 ∧ k / 5 < 256 := by omega
  have hk555 : 0 ≤ k / 5 % 5 ∧ k / 5 % 5 < 5 := by omega
  have hst3 : 0 ≤ st % 3 ∧ st % 3 < 3 := by omega
  have hst6 : 0 ≤ st % 6 ∧ st % 6 < 6 := by omega
  have ham4 : 0 ≤ am % 4 ∧ am % 4 < 4 := by omega
  have hk33 : 0 ≤ k / 3 ∧ k / 3 < 256 := by omega
  have hk128 : 0 ≤ k / 128 ∧ k / 128 < 2 := by omega
  have hk2 : 0 ≤ k % 2 ∧ k % 2 < 2 := by omega
  refine Ca_run rfl tab_8 rfl ?_
  simp (maxSteps := 5000000) (disch := omega) only [Tryd.f8, MX, mO_b2, new_0, new_1, Msg.cells_length, V_P, SX, W_block, exitW, goInt, Int.reduceEq, setCells, oneOf, cellOk, reduceIte, Nat.reduceLT, Nat.reduceLeDiff, Nat.reduceEqDiff, Nat.reduceAdd, Nat.reduceSub, Nat.reduceMul, Int.reduceToNat, Int.reduceLT, Int.reduceLE, Int.reduceAdd, Int.reduceSub, implies_true, ne_eq, if_true, if_false, reduceCtorEq]
  generalize hkk : a % 7 + 1 = kk at *
  have hkr : 1 ≤ kk ∧ kk ≤ 7 := by omega
  refine cW_merge (fun t H2 => t.get 1 = some (.int .u8 k) ∧ t.get 2 = some (.int .u16 st) ∧ t.get 3 = some (.int .u16 am) ∧ t.get 8 = some (.pointer (some ⟨H.next, 0, none⟩)) ∧ t.get 9 = some (.pointer (some ⟨H.next + 1, 0, none⟩)) ∧ t.get 10 = some (.pointer (some ⟨H.next + 1 + 1, 0, none⟩)) ∧ H2.get H.next = some (mO .zero) ∧ (∃ m : Msg, H2.get (H.next + 1) = some (mO m) ∧ m.pan = S [] ∧ m.c 0 = kk ∧ m.c 1 = k % 3 ∧ m.c 2 = (if kk = 3 then 0 else st % 6) ∧ ∀ j, 3 ≤ j → m.c j = 0) ∧ H2.get (H.next + 1 + 1) = some (.cells [.int .i64 (k % 5), .int .i64 (k / 5 % 5), .int .i64 (st % 3), .int .i64 (am % 4)] 25 false) ∧ Same H H2 [] ∧ H.next + 3 ≤ H2.next) (fun hc => ?_) (fun hc => ?_) ?_
  · have h3 := of_decide_eq_true hc
    simp (maxSteps := 5000000) (disch := omega) only [MX, mO_b2, new_0, new_1, Msg.cells_length, V_P, SX, W_block, exitW, goInt, Int.reduceEq, setCells, oneOf, cellOk, reduceIte, Nat.reduceLT, Nat.reduceLeDiff, Nat.reduceEqDiff, Nat.reduceAdd, Nat.reduceSub, Nat.reduceMul, Int.reduceToNat, Int.reduceLT, Int.reduceLE, Int.reduceAdd, Int.reduceSub, implies_true, ne_eq, if_true, if_false, reduceCtorEq]
    refine ⟨⟨_, rfl, rfl, rfl, rfl, ?_, fun j hj => ?_⟩, by repeat (first | exact Same.same ok | refine Same.push ?_ _ | refine Same.room ?_ _ | (refine Same.make ?_ (by (try simp only [Heap.next_push, Heap.next_set, Heap.next_room]); omega) (by (try simp only [Heap.next_push, Heap.next_set, Heap.next_room]); omega)) | (refine Same.put ?_ (by simp (disch := omega) only [Heap.get_pushH, Heap.get_setH, hite_same, hite_ne, hite_eq, Heap.get_room, Heap.next_push, Heap.next_set, Heap.next_room, Option.isSome_some, *]) (fun z => by first | (simp; done) | (exfalso; (try simp only [Heap.next_push, Heap.next_set, Heap.next_room] at z); omega))))⟩
    · rw [if_neg h3]; rfl
    · show (if j = 2 then _ else if j = 0 then _ else if j = 1 then _ else _) = _
      rw [if_neg (by omega), if_neg (by omega), if_neg (by omega)]
  · have h3 := Decidable.not_not.mp (of_decide_eq_false hc)
    simp (maxSteps := 5000000) (disch := omega) only [MX, mO_b2, new_0, new_1, Msg.cells_length, V_P, SX, W_block, exitW, goInt, Int.reduceEq, setCells, oneOf, cellOk, reduceIte, Nat.reduceLT, Nat.reduceLeDiff, Nat.reduceEqDiff, Nat.reduceAdd, Nat.reduceSub, Nat.reduceMul, Int.reduceToNat, Int.reduceLT, Int.reduceLE, Int.reduceAdd, Int.reduceSub, implies_true, ne_eq, if_true, if_false, reduceCtorEq]
    refine ⟨⟨_, rfl, rfl, rfl, rfl, ?_, fun j hj => ?_⟩, by repeat (first | exact Same.same ok | refine Same.push ?_ _ | refine Same.room ?_ _ | (refine Same.make ?_ (by (try simp only [Heap.next_push, Heap.next_set, Heap.next_room]); omega) (by (try simp only [Heap.next_push, Heap.next_set, Heap.next_room]); omega)) | (refine Same.put ?_ (by simp (disch := omega) only [Heap.get_pushH, Heap.get_setH, hite_same, hite_ne, hite_eq, Heap.get_room, Heap.next_push, Heap.next_set, Heap.next_room, Option.isSome_some, *]) (fun z => by first | (simp; done) | (exfalso; (try simp only [Heap.next_push, Heap.next_set, Heap.next_room] at z); omega))))⟩
    · rw [if_pos h3]; rfl
    · show (if j = 0 then _ else if j = 1 then _ else _) = _
      rw [if_neg (by omega), if_neg (by omega)]
  rintro t H2 ⟨g1, g2, g3, g8, g9, g10, q0, ⟨m, q1, mp, mc0, mc1, mc2, mz⟩, q2, hs2, hn2⟩
  have ok2 := hs2.ok
  have okn2 : ∀ a, H2.next ≤ a → H2.get a = none := ok2
  have hst : 0 ≤ m.c 2 ∧ m.c 2 < 6 := by rw [mc2]; split <;> omega
  have hst3 : m.c 2 = 0 ∨ kk ≠ 3 := by rw [mc2]; split <;> omega
  simp (maxSteps := 5000000) (disch := omega) only [MX, mO_b2, new_0, new_1, Msg.cells_length, g1, g2, g3, g8, g9, g10, q0, q1, q2, mc0, V_P, SX, W_block, exitW, goInt, Int.reduceEq, setCells, oneOf, cellOk, reduceIte, Nat.reduceLT, Nat.reduceLeDiff, Nat.reduceEqDiff, Nat.reduceAdd, Nat.reduceSub, Nat.reduceMul, Int.reduceToNat, Int.reduceLT, Int.reduceLE, Int.reduceAdd, Int.reduceSub, implies_true, ne_eq, if_true, if_false, reduceCtorEq]
  repeat' (first
    | (refine gW_dec (fun h => ?_) (fun h => ?_) <;> simp (maxSteps := 5000000) (disch := omega) only [h, MX, mO_b2, new_0, new_1, Msg.cells_length, g1, g2, g3, g8, g9, g10, q0, q1, q2, mc0, V_P, SX, W_block, exitW, goInt, Int.reduceEq, setCells, oneOf, cellOk, reduceIte, Nat.reduceLT, Nat.reduceLeDiff, Nat.reduceEqDiff, Nat.reduceAdd, Nat.reduceSub, Nat.reduceMul, Int.reduceToNat, Int.reduceLT, Int.reduceLE, Int.reduceAdd, Int.reduceSub, implies_true, ne_eq, if_true, if_false, reduceCtorEq])
    | (refine cW_dec (fun h => ?_) (fun h => ?_) <;> simp (maxSteps := 5000000) (disch := omega) only [h, MX, mO_b2, new_0, new_1, Msg.cells_length, g1, g2, g3, g8, g9, g10, q0, q1, q2, mc0, V_P, SX, W_block, exitW, goInt, Int.reduceEq, setCells, oneOf, cellOk, reduceIte, Nat.reduceLT, Nat.reduceLeDiff, Nat.reduceEqDiff, Nat.reduceAdd, Nat.reduceSub, Nat.reduceMul, Int.reduceToNat, Int.reduceLT, Int.reduceLE, Int.reduceAdd, Int.reduceSub, implies_true, ne_eq, if_true, if_false, reduceCtorEq])
    | (refine gW_bool (fun h => ?_) (fun h => ?_) <;> simp (maxSteps := 5000000) (disch := omega) only [h, MX, mO_b2, new_0, new_1, Msg.cells_length, g1, g2, g3, g8, g9, g10, q0, q1, q2, mc0, V_P, SX, W_block, exitW, goInt, Int.reduceEq, setCells, oneOf, cellOk, reduceIte, Nat.reduceLT, Nat.reduceLeDiff, Nat.reduceEqDiff, Nat.reduceAdd, Nat.reduceSub, Nat.reduceMul, Int.reduceToNat, Int.reduceLT, Int.reduceLE, Int.reduceAdd, Int.reduceSub, implies_true, ne_eq, if_true, if_false, reduceCtorEq])
    | (refine cW_bool (fun h => ?_) (fun h => ?_) <;> simp (maxSteps := 5000000) (disch := omega) only [h, MX, mO_b2, new_0, new_1, Msg.cells_length, g1, g2, g3, g8, g9, g10, q0, q1, q2, mc0, V_P, SX, W_block, exitW, goInt, Int.reduceEq, setCells, oneOf, cellOk, reduceIte, Nat.reduceLT, Nat.reduceLeDiff, Nat.reduceEqDiff, Nat.reduceAdd, Nat.reduceSub, Nat.reduceMul, Int.reduceToNat, Int.reduceLT, Int.reduceLE, Int.reduceAdd, Int.reduceSub, implies_true, ne_eq, if_true, if_false, reduceCtorEq]))
  · refine W_callR rfl (by simp (maxSteps := 5000000) (disch := omega) only [MX, mO_b2, new_0, new_1, Msg.cells_length, g1, g2, g3, g8, g9, g10, q0, q1, q2, mc0, V_P, SX, W_block, exitW, goInt, Int.reduceEq, setCells, oneOf, cellOk, reduceIte, Nat.reduceLT, Nat.reduceLeDiff, Nat.reduceEqDiff, Nat.reduceAdd, Nat.reduceSub, Nat.reduceMul, Int.reduceToNat, Int.reduceLT, Int.reduceLE, Int.reduceAdd, Int.reduceSub, implies_true, ne_eq, if_true, if_false, reduceCtorEq]) (seat_Pan (k / 3) hk33.1 hk33.2 _ ok2) ?_
    rintro v H3 ⟨⟨s, rfl, hps⟩, hs3⟩
    have e0 : H3.get H.next = some (mO .zero) := by rw [hs3.get _ (by omega) (by simp), q0]
    have e1 : H3.get (H.next + 1) = some (mO m) := by rw [hs3.get _ (by omega) (by simp), q1]
    have hs4 : Same H H3 [] := hs2.trans hs3 (by simp)
    simp (maxSteps := 5000000) (disch := omega) only [MX, mO_b2, new_0, new_1, Msg.cells_length, g1, g2, g3, g8, g9, g10, e0, e1, mc0, V_P, SX, W_block, exitW, goInt, Int.reduceEq, setCells, oneOf, cellOk, reduceIte, Nat.reduceLT, Nat.reduceLeDiff, Nat.reduceEqDiff, Nat.reduceAdd, Nat.reduceSub, Nat.reduceMul, Int.reduceToNat, Int.reduceLT, Int.reduceLE, Int.reduceAdd, Int.reduceSub, implies_true, ne_eq, if_true, if_false, reduceCtorEq]
    refine ⟨⟨_, rfl, right_small (kk := kk) mc0 hkr (by show 0 ≤ m.c 1 ∧ m.c 1 < 65536; omega) (by show 0 ≤ m.c 2 ∧ m.c 2 ≤ 999999; omega) ?_ (by show kk ≠ 3 ∨ m.c 2 = 0; omega) ?_ ?_⟩, by repeat (first | exact hs4 | refine Same.push ?_ _ | refine Same.room ?_ _ | (refine Same.make ?_ (by (try simp only [Heap.next_push, Heap.next_set, Heap.next_room]); omega) (by (try simp only [Heap.next_push, Heap.next_set, Heap.next_room]); omega)) | (refine Same.put ?_ (by simp (disch := omega) only [Heap.get_pushH, Heap.get_setH, hite_same, hite_ne, hite_eq, Heap.get_room, Heap.next_push, Heap.next_set, Heap.next_room, Option.isSome_some, *]) (fun z => by first | (simp; done) | (exfalso; (try simp only [Heap.next_push, Heap.next_set, Heap.next_room] at z); omega))))⟩
    · first | (show 0 ≤ m.c 4 ∧ m.c 4 ≤ 1000000; rw [mz 4 (by decide)]; decide) | (show 0 ≤ am ∧ am ≤ 1000000; omega)
    · exact .inl ⟨by omega, hps⟩
    · intro j j1 j2
      have hz := mz j (by omega)
      refine ⟨?_, fun h5 => ?_⟩
      · try simp only [Msg.set4, Msg.set, Msg.setPan]
        repeat' split
        all_goals first
          | exact .inr hz
          | exact .inr rfl
          | (exact .inl (by subst_vars; rfl))
          | (exact .inl (by subst_vars; simp [keep]; omega))
          | (exact .inl (by subst_vars; simp [keep]))
      · try simp only [Msg.set4, Msg.set, Msg.setPan]
        repeat' split
        all_goals omega

  · refine ⟨⟨_, rfl, right_small (kk := kk) mc0 hkr (by show 0 ≤ m.c 1 ∧ m.c 1 < 65536; omega) (by show 0 ≤ m.c 2 ∧ m.c 2 ≤ 999999; omega) ?_ (by show kk ≠ 3 ∨ m.c 2 = 0; omega) ?_ ?_⟩, by repeat (first | exact hs2 | refine Same.push ?_ _ | refine Same.room ?_ _ | (refine Same.make ?_ (by (try simp only [Heap.next_push, Heap.next_set, Heap.next_room]); omega) (by (try simp only [Heap.next_push, Heap.next_set, Heap.next_room]); omega)) | (refine Same.put ?_ (by simp (disch := omega) only [Heap.get_pushH, Heap.get_setH, hite_same, hite_ne, hite_eq, Heap.get_room, Heap.next_push, Heap.next_set, Heap.next_room, Option.isSome_some, *]) (fun z => by first | (simp; done) | (exfalso; (try simp only [Heap.next_push, Heap.next_set, Heap.next_room] at z); omega))))⟩
    · first | (show 0 ≤ m.c 4 ∧ m.c 4 ≤ 1000000; rw [mz 4 (by decide)]; decide) | (show 0 ≤ am ∧ am ≤ 1000000; omega)
    · exact .inr ⟨by omega, mp⟩
    · intro j j1 j2
      have hz := mz j (by omega)
      refine ⟨?_, fun h5 => ?_⟩
      · try simp only [Msg.set4, Msg.set, Msg.setPan]
        repeat' split
        all_goals first
          | exact .inr hz
          | exact .inr rfl
          | (exact .inl (by subst_vars; rfl))
          | (exact .inl (by subst_vars; simp [keep]; omega))
          | (exact .inl (by subst_vars; simp [keep]))
      · try simp only [Msg.set4, Msg.set, Msg.setPan]
        repeat' split
        all_goals omega

  · refine W_drawR [[], [], [1], [], [3], [2, 1, 4, 3], [], [6], [7, 6], [], [9], [10, 9], [], [0], [13, 0], [0, 1, 2, 3, 4, 5, 13, 14], [15, 0, 1, 2, 3, 4, 5, 13, 14], [0, 1, 2, 3, 4, 5, 6, 7, 8, 13, 14, 15, 16], [17, 0, 1, 2, 3, 4, 5, 6, 7, 8, 13, 14, 15, 16], [0, 1, 2, 3, 4, 5, 6, 7, 8, 9, 10, 11, 13, 14, 15, 16, 17, 18], [19, 0, 1, 2, 3, 4, 5, 6, 7, 8, 9, 10, 11, 13, 14, 15, 16, 17, 18], [0, 1, 2, 3, 4, 5, 6, 7, 8, 9, 10, 11, 12, 13, 14, 15, 16, 17, 18, 19, 20], [21, 0, 1, 2, 3, 4, 5, 6, 7, 8, 9, 10, 11, 12, 13, 14, 15, 16, 17, 18, 19, 20]] [0, 13, 14, 1, 2, 3, 4, 5, 15, 16, 6, 7, 8, 17, 18, 9, 10, 11, 19, 20, 12, 21, 22] (by decide +kernel) (by repeat (first | exact ok2 | refine Ok.push ?_ _ | refine Ok.room ?_ _ | (refine Ok.put ?_ _ (by simp (disch := omega) only [Heap.get_pushH, Heap.get_setH, hite_same, hite_ne, hite_eq, Heap.get_room, Heap.next_push, Heap.next_set, Heap.next_room, Option.isSome_some, *])))) ?_
    simp (maxSteps := 5000000) (disch := omega) only [MX, mO_b2, new_0, new_1, Msg.cells_length, g1, g2, g3, g8, g9, g10, q0, q1, q2, mc0, okn2, V_P, SX, W_block, exitW, goInt, Int.reduceEq, setCells, oneOf, cellOk, reduceIte, Nat.reduceLT, Nat.reduceLeDiff, Nat.reduceEqDiff, Nat.reduceAdd, Nat.reduceSub, Nat.reduceMul, Int.reduceToNat, Int.reduceLT, Int.reduceLE, Int.reduceAdd, Int.reduceSub, implies_true, ne_eq, if_true, if_false, reduceCtorEq, DX, Nat.reduceBEq]
    refine ⟨⟨_, rfl, right_small (kk := kk) mc0 hkr (by show 0 ≤ m.c 1 ∧ m.c 1 < 65536; omega) (by show 0 ≤ m.c 2 ∧ m.c 2 ≤ 999999; omega) ?_ (by show kk ≠ 3 ∨ m.c 2 = 0; omega) ?_ ?_⟩, by repeat (first | exact hs2 | refine Same.push ?_ _ | refine Same.room ?_ _ | (refine Same.make ?_ (by (try simp only [Heap.next_push, Heap.next_set, Heap.next_room]); omega) (by (try simp only [Heap.next_push, Heap.next_set, Heap.next_room]); omega)) | (refine Same.put ?_ (by simp (disch := omega) only [Heap.get_pushH, Heap.get_setH, hite_same, hite_ne, hite_eq, Heap.get_room, Heap.next_push, Heap.next_set, Heap.next_room, Option.isSome_some, *]) (fun z => by first | (simp; done) | (exfalso; (try simp only [Heap.next_push, Heap.next_set, Heap.next_room] at z); omega))))⟩
    · first | (show 0 ≤ m.c 4 ∧ m.c 4 ≤ 1000000; rw [mz 4 (by decide)]; decide) | (show 0 ≤ am ∧ am ≤ 1000000; omega)
    · exact .inr ⟨by omega, mp⟩
    · intro j j1 j2
      have hz := mz j (by omega)
      refine ⟨?_, fun h5 => ?_⟩
      · have hk4 : kk = 4 := by omega
        by_cases h4 : j = 4
        · subst h4; exact .inr hz
        · refine .inl ?_
          rw [hk4]
          unfold keep
          rw [if_neg (by omega), if_neg (by omega), if_neg h4]
          split
          · rfl
          · split <;> rfl
      · try simp only [Msg.set4, Msg.set, Msg.setPan]
        repeat' split
        all_goals omega

  · refine ⟨⟨_, rfl, right_small (kk := kk) mc0 hkr (by show 0 ≤ m.c 1 ∧ m.c 1 < 65536; omega) (by show 0 ≤ m.c 2 ∧ m.c 2 ≤ 999999; omega) ?_ (by show kk ≠ 3 ∨ m.c 2 = 0; omega) ?_ ?_⟩, by repeat (first | exact hs2 | refine Same.push ?_ _ | refine Same.room ?_ _ | (refine Same.make ?_ (by (try simp only [Heap.next_push, Heap.next_set, Heap.next_room]); omega) (by (try simp only [Heap.next_push, Heap.next_set, Heap.next_room]); omega)) | (refine Same.put ?_ (by simp (disch := omega) only [Heap.get_pushH, Heap.get_setH, hite_same, hite_ne, hite_eq, Heap.get_room, Heap.next_push, Heap.next_set, Heap.next_room, Option.isSome_some, *]) (fun z => by first | (simp; done) | (exfalso; (try simp only [Heap.next_push, Heap.next_set, Heap.next_room] at z); omega))))⟩
    · first | (show 0 ≤ m.c 4 ∧ m.c 4 ≤ 1000000; rw [mz 4 (by decide)]; decide) | (show 0 ≤ am ∧ am ≤ 1000000; omega)
    · exact .inr ⟨by omega, mp⟩
    · intro j j1 j2
      have hz := mz j (by omega)
      refine ⟨?_, fun h5 => ?_⟩
      · try simp only [Msg.set4, Msg.set, Msg.setPan]
        repeat' split
        all_goals first
          | exact .inr hz
          | exact .inr rfl
          | (exact .inl (by subst_vars; rfl))
          | (exact .inl (by subst_vars; simp [keep]; omega))
          | (exact .inl (by subst_vars; simp [keep]))
      · try simp only [Msg.set4, Msg.set, Msg.setPan]
        repeat' split
        all_goals omega

  · refine ⟨⟨_, rfl, right_small (kk := kk) mc0 hkr (by show 0 ≤ m.c 1 ∧ m.c 1 < 65536; omega) (by show 0 ≤ m.c 2 ∧ m.c 2 ≤ 999999; omega) ?_ (by show kk ≠ 3 ∨ m.c 2 = 0; omega) ?_ ?_⟩, by repeat (first | exact hs2 | refine Same.push ?_ _ | refine Same.room ?_ _ | (refine Same.make ?_ (by (try simp only [Heap.next_push, Heap.next_set, Heap.next_room]); omega) (by (try simp only [Heap.next_push, Heap.next_set, Heap.next_room]); omega)) | (refine Same.put ?_ (by simp (disch := omega) only [Heap.get_pushH, Heap.get_setH, hite_same, hite_ne, hite_eq, Heap.get_room, Heap.next_push, Heap.next_set, Heap.next_room, Option.isSome_some, *]) (fun z => by first | (simp; done) | (exfalso; (try simp only [Heap.next_push, Heap.next_set, Heap.next_room] at z); omega))))⟩
    · first | (show 0 ≤ m.c 4 ∧ m.c 4 ≤ 1000000; rw [mz 4 (by decide)]; decide) | (show 0 ≤ am ∧ am ≤ 1000000; omega)
    · exact .inr ⟨by omega, mp⟩
    · intro j j1 j2
      have hz := mz j (by omega)
      refine ⟨?_, fun h5 => ?_⟩
      · try simp only [Msg.set4, Msg.set, Msg.setPan]
        repeat' split
        all_goals first
          | exact .inr hz
          | exact .inr rfl
          | (exact .inl (by subst_vars; rfl))
          | (exact .inl (by subst_vars; simp [keep]; omega))
          | (exact .inl (by subst_vars; simp [keep]))
      · try simp only [Msg.set4, Msg.set, Msg.setPan]
        repeat' split
        all_goals omega

end Go.B.YteigefgobkdmgaaDoor
/- Messages of two kinds, or of two terminals, numbers, are never the same bytes. -/
namespace Go.B.YteigefgobkdmgaaDoor
open Go Go.B Go.Proofs
set_option maxRecDepth 100000
set_option maxHeartbeats 16000000
set_option linter.unusedSimpArgs false
set_option linter.unusedVariables false
theorem right_nonneg {m : Msg} (h : m.right = true) (hw : m.wf) {j : Nat} (hj : j < 26) (h3 : j ≠ 3) : 0 ≤ m.c j := by
  have hr := (right_iff m).mp h
  have g0 := within_iff.mp (hr.2.2.2.2 0 (by decide))
  have g1 := within_iff.mp (hr.2.2.2.2 1 (by decide))
  have g2 := within_iff.mp (hr.2.2.2.2 2 (by decide))
  have g3 := within_iff.mp (hr.2.2.2.2 3 (by decide))
  have g4 := within_iff.mp (hr.2.2.2.2 4 (by decide))
  obtain ⟨⟨a0, _⟩, ⟨b0, _⟩, ⟨c0, _⟩, ⟨d0, _⟩⟩ := g0
  obtain ⟨⟨a1, _⟩, ⟨b1, _⟩, ⟨c1, _⟩, ⟨d1, _⟩⟩ := g1
  obtain ⟨⟨a2, _⟩, ⟨b2, _⟩, ⟨c2, _⟩, ⟨d2, _⟩⟩ := g2
  obtain ⟨⟨a3, _⟩, ⟨b3, _⟩, ⟨c3, _⟩, ⟨d3, _⟩⟩ := g3
  obtain ⟨⟨a4, _⟩, ⟨b4, _⟩, ⟨c4, _⟩, ⟨d4, _⟩⟩ := g4
  have k0 : 0 ≤ m.c 0 := by omega
  have k1 : 0 ≤ m.c 1 := hw.term.1
  have k2 : 0 ≤ m.c 2 := hw.stan.1
  have k4 : 0 ≤ m.c 4 := hr.2.1.2.1
  have k21 : 0 ≤ m.c 21 := hr.2.1.2.2.2.1
  have : j = 0 ∨ j = 1 ∨ j = 2 ∨ j = 4 ∨ j = 5 ∨ j = 6 ∨ j = 7 ∨ j = 8 ∨ j = 9 ∨ j = 10 ∨ j = 11 ∨ j = 12 ∨ j = 13 ∨ j = 14 ∨ j = 15 ∨ j = 16 ∨ j = 17 ∨ j = 18 ∨ j = 19 ∨ j = 20 ∨ j = 21 ∨ j = 22 ∨ j = 23 ∨ j = 24 ∨ j = 25 := by omega
  rcases this with rfl | rfl | rfl | rfl | rfl | rfl | rfl | rfl | rfl | rfl | rfl | rfl | rfl | rfl | rfl | rfl | rfl | rfl | rfl | rfl | rfl | rfl | rfl | rfl | rfl <;> assumption
theorem txt_inj {a b : Int} (ha : 0 ≤ a) (hb : 0 ≤ b) (h : txt a = txt b) : a = b := by
  obtain ⟨m, rfl⟩ := Int.eq_ofNat_of_zero_le ha
  obtain ⟨n, rfl⟩ := Int.eq_ofNat_of_zero_le hb
  have h2 := S_inj h
  rw [itoa_nat, itoa_nat] at h2
  rw [dec_inj h2]
theorem kindS_inj {a b : Int} (ha : 1 ≤ a ∧ a ≤ 7) (hb : 1 ≤ b ∧ b ≤ 7) (h : kindS a = kindS b) : a = b := by
  have h := S_inj h
  rcases (show a = 1 ∨ a = 2 ∨ a = 3 ∨ a = 4 ∨ a = 5 ∨ a = 6 ∨ a = 7 by omega) with rfl | rfl | rfl | rfl | rfl | rfl | rfl <;>
    rcases (show b = 1 ∨ b = 2 ∨ b = 3 ∨ b = 4 ∨ b = 5 ∨ b = 6 ∨ b = 7 by omega) with rfl | rfl | rfl | rfl | rfl | rfl | rfl <;> first | rfl | exact absurd h (by decide)
theorem keep_slots {k : Int} (h : 1 ≤ k ∧ k ≤ 7) {j : Nat} (hj : j < 26) (h3 : j ≠ 3) (hk : keep k j = true) : j = 0 ∨ j ∈ slots k := by
  have key : ∀ f : Fin 26, f.val ≠ 3 → (keep 1 f.val = true → f.val = 0 ∨ f.val ∈ slots 1) ∧ (keep 2 f.val = true → f.val = 0 ∨ f.val ∈ slots 2) ∧ (keep 3 f.val = true → f.val = 0 ∨ f.val ∈ slots 3) ∧ (keep 4 f.val = true → f.val = 0 ∨ f.val ∈ slots 4) ∧ (keep 5 f.val = true → f.val = 0 ∨ f.val ∈ slots 5) ∧ (keep 6 f.val = true → f.val = 0 ∨ f.val ∈ slots 6) ∧ (keep 7 f.val = true → f.val = 0 ∨ f.val ∈ slots 7) := by decide +kernel
  obtain ⟨k1, k2, k3, k4, k5, k6, k7⟩ := key ⟨j, hj⟩ h3
  rcases (show k = 1 ∨ k = 2 ∨ k = 3 ∨ k = 4 ∨ k = 5 ∨ k = 6 ∨ k = 7 by omega) with rfl | rfl | rfl | rfl | rfl | rfl | rfl
  · exact k1 hk
  · exact k2 hk
  · exact k3 hk
  · exact k4 hk
  · exact k5 hk
  · exact k6 hk
  · exact k7 hk
theorem map_U_inj : ∀ {a b : List ByteArray}, a.map U = b.map U → a = b
  | [], [], _ => rfl
  | x :: a, y :: b, h => by
    simp only [List.map_cons, List.cons.injEq] at h
    rw [U_inj h.1, map_U_inj h.2]
theorem texts_same {m x : Msg} (h : m.same x = true) : m.texts = x.texts := by
  obtain ⟨h1, h2⟩ := same_iff.mp h
  unfold Msg.texts
  rw [h2 0 (by decide) (by decide)]
  congr 1
  refine List.map_congr_left fun j hj => ?_
  unfold Msg.text
  by_cases h3 : j = 3
  · rw [if_pos h3, if_pos h3, h1]
  · rw [if_neg h3, if_neg h3, h2 j (slots_lt _ j hj) h3]
theorem same_of_texts {m x : Msg} (hm : m.right = true) (hx : x.right = true) (wm : m.wf) (wx : x.wf) (h : m.texts = x.texts) : m.same x = true := by
  have rm := (right_iff m).mp hm
  have rx := (right_iff x).mp hx
  unfold Msg.texts at h
  simp only [List.cons.injEq] at h
  obtain ⟨hk, hs⟩ := h
  have hk0 := kindS_inj rm.1 rx.1 hk
  rw [← hk0] at hs
  have hall : ∀ j ∈ slots (m.c 0), m.text j = x.text j := List.map_inj_left.mp hs
  refine same_iff.mpr ⟨?_, fun j hj h3 => ?_⟩
  · rcases rm.2.2.2.1 with ⟨a, _⟩ | ⟨a, b⟩
    · exact hall 3 (by rw [a]; decide)
    · rcases rx.2.2.2.1 with ⟨a', _⟩ | ⟨_, b'⟩
      · exact absurd (hk0.trans a') a
      · rw [b, b']
  · by_cases h0 : j = 0
    · subst h0; exact hk0
    by_cases hin : j ∈ slots (m.c 0)
    · have := hall j hin
      unfold Msg.text at this
      rw [if_neg h3, if_neg h3] at this
      exact txt_inj (right_nonneg hm wm hj h3) (right_nonneg hx wx hj h3) this
    · have hn : keep (m.c 0) j ≠ true := fun z => by
        rcases keep_slots rm.1 hj h3 z with h | h
        · exact h0 h
        · exact hin h
      have e1 := (rm.2.2.1 j hj h3).resolve_left hn
      have e2 := (rx.2.2.1 j hj h3).resolve_left (by rw [← hk0]; exact hn)
      rw [e1, e2]
theorem bytes_same {m x : Msg} (hm : m.right = true) (hx : x.right = true) (wm : m.wf) (wx : x.wf) : (m.bytes = x.bytes) ↔ m.same x = true := by
  constructor
  · intro h
    obtain ⟨p1, _⟩ := texts_ok hm wm
    obtain ⟨p2, _⟩ := texts_ok hx wx
    have e1 := sp_jn (m.texts.map U) (by unfold Msg.texts; simp) (fun a ha => by obtain ⟨s, hs, rfl⟩ := List.mem_map.mp ha; exact p1 s hs)
    have e2 := sp_jn (x.texts.map U) (by unfold Msg.texts; simp) (fun a ha => by obtain ⟨s, hs, rfl⟩ := List.mem_map.mp ha; exact p2 s hs)
    unfold Msg.bytes at h
    rw [← h, e1] at e2
    exact same_of_texts hm hx wm wx (map_U_inj e2)
  · intro h
    unfold Msg.bytes
    rw [texts_same h]
section
variable {P : Program} {H : Heap}
theorem binV_beq {t : TypeId} {x y : Operand} {a b : Bool} (hu : P.underlying t = some .bool) : binV P H .eql t x y (.bool a) (.bool b) = some (.val (.bool (a == b)) H) := by
  refine binV_eq nilEq_bool rfl rfl ?_ rfl
  simp only [binOp]
  rw [runP_bind]
  have : runP P (Op.equal t (.bool a) (.bool b)) = some (a == b) := by
    unfold Op.equal Op.maxDepth Op.equalIn
    rw [runP_bind, runP_und hu]
    rfl
  rw [this]
  rfl
theorem runP_ret {α : Type} {a : α} : runP P (pure a) = some a := rfl
end
theorem law_kinds (a b k mm st am : Int) (a0 : 0 ≤ a ∧ a < 256) (b0 : 0 ≤ b ∧ b < 256) (k0 : 0 ≤ k ∧ k < 256) (m0 : 0 ≤ mm ∧ mm < 256) (s0 : 0 ≤ st ∧ st < 65536) (am0 : 0 ≤ am ∧ am < 65536) (H : Heap) (ok : Ok H) :
    ∃ v H', Ca V 6 #[.int .u8 a, .int .u8 b, .int .u8 k, .int .u8 mm, .int .u16 st, .int .u16 am] H v H' ∧ v = .bool true := by
  refine Ca_run rfl tab_6 rfl ?_
  simp (maxSteps := 5000000) (disch := omega) only [Tryd.f6, V_P, SX, W_block, exitW, goInt, Int.reduceEq, setCells, oneOf, cellOk, reduceIte, Nat.reduceLT, Nat.reduceLeDiff, Nat.reduceEqDiff, Nat.reduceAdd, Nat.reduceSub, Nat.reduceMul, Int.reduceToNat, Int.reduceLT, Int.reduceLE, Int.reduceAdd, Int.reduceSub, implies_true, ne_eq, if_true, if_false, reduceCtorEq]
  refine W_callR rfl (by simp (maxSteps := 5000000) (disch := omega) only [V_P, SX, W_block, exitW, goInt, Int.reduceEq, setCells, oneOf, cellOk, reduceIte, Nat.reduceLT, Nat.reduceLeDiff, Nat.reduceEqDiff, Nat.reduceAdd, Nat.reduceSub, Nat.reduceMul, Int.reduceToNat, Int.reduceLT, Int.reduceLE, Int.reduceAdd, Int.reduceSub, implies_true, ne_eq, if_true, if_false, reduceCtorEq]) (Ca_is (c_known _)) ?_
  rintro v H1 ⟨rfl, rfl⟩
  simp (maxSteps := 5000000) (disch := omega) only [V_P, SX, W_block, exitW, goInt, Int.reduceEq, setCells, oneOf, cellOk, reduceIte, Nat.reduceLT, Nat.reduceLeDiff, Nat.reduceEqDiff, Nat.reduceAdd, Nat.reduceSub, Nat.reduceMul, Int.reduceToNat, Int.reduceLT, Int.reduceLE, Int.reduceAdd, Int.reduceSub, implies_true, ne_eq, if_true, if_false, reduceCtorEq]
  refine W_callR rfl (by simp (maxSteps := 5000000) (disch := omega) only [V_P, SX, W_block, exitW, goInt, Int.reduceEq, setCells, oneOf, cellOk, reduceIte, Nat.reduceLT, Nat.reduceLeDiff, Nat.reduceEqDiff, Nat.reduceAdd, Nat.reduceSub, Nat.reduceMul, Int.reduceToNat, Int.reduceLT, Int.reduceLE, Int.reduceAdd, Int.reduceSub, implies_true, ne_eq, if_true, if_false, reduceCtorEq]) (seat_Msg a k st am a0.1 a0.2 k0.1 k0.2 s0.1 s0.2 am0.1 am0.2 _ ok) ?_
  rintro v H1 ⟨⟨x, rfl, rx, wx⟩, hs1⟩
  simp (maxSteps := 5000000) (disch := omega) only [V_P, SX, W_block, exitW, goInt, Int.reduceEq, setCells, oneOf, cellOk, reduceIte, Nat.reduceLT, Nat.reduceLeDiff, Nat.reduceEqDiff, Nat.reduceAdd, Nat.reduceSub, Nat.reduceMul, Int.reduceToNat, Int.reduceLT, Int.reduceLE, Int.reduceAdd, Int.reduceSub, implies_true, ne_eq, if_true, if_false, reduceCtorEq]
  refine W_callR rfl (by simp (maxSteps := 5000000) (disch := omega) only [V_P, SX, W_block, exitW, goInt, Int.reduceEq, setCells, oneOf, cellOk, reduceIte, Nat.reduceLT, Nat.reduceLeDiff, Nat.reduceEqDiff, Nat.reduceAdd, Nat.reduceSub, Nat.reduceMul, Int.reduceToNat, Int.reduceLT, Int.reduceLE, Int.reduceAdd, Int.reduceSub, implies_true, ne_eq, if_true, if_false, reduceCtorEq]) (seat_Msg b mm st am b0.1 b0.2 m0.1 m0.2 s0.1 s0.2 am0.1 am0.2 _ hs1.ok) ?_
  rintro v H2 ⟨⟨y, rfl, ry, wy⟩, hs2⟩
  have ok2 := hs2.ok
  simp (maxSteps := 5000000) (disch := omega) only [MX, Msg.cells_length, V_P, SX, W_block, exitW, goInt, Int.reduceEq, setCells, oneOf, cellOk, reduceIte, Nat.reduceLT, Nat.reduceLeDiff, Nat.reduceEqDiff, Nat.reduceAdd, Nat.reduceSub, Nat.reduceMul, Int.reduceToNat, Int.reduceLT, Int.reduceLE, Int.reduceAdd, Int.reduceSub, implies_true, ne_eq, if_true, if_false, reduceCtorEq]
  refine W_callR rfl (by simp (maxSteps := 5000000) (disch := omega) only [MX, Msg.cells_length, V_P, SX, W_block, exitW, goInt, Int.reduceEq, setCells, oneOf, cellOk, reduceIte, Nat.reduceLT, Nat.reduceLeDiff, Nat.reduceEqDiff, Nat.reduceAdd, Nat.reduceSub, Nat.reduceMul, Int.reduceToNat, Int.reduceLT, Int.reduceLE, Int.reduceAdd, Int.reduceSub, implies_true, ne_eq, if_true, if_false, reduceCtorEq]) (ndc_Put x _ (by repeat (first | exact ok2 | refine Ok.push ?_ _ | refine Ok.room ?_ _ | (refine Ok.put ?_ _ (by simp (disch := omega) only [Heap.get_pushH, Heap.get_setH, hite_same, hite_ne, hite_eq, Heap.get_room, Heap.next_push, Heap.next_set, Heap.next_room, Option.isSome_some, *])))) wx) ?_
  rintro v H3 ⟨_, hp3, hs3⟩
  obtain ⟨i3, hi3, rfl, hg3⟩ := hp3 rx
  have q3 : H3.get H2.next = some (mO x) := by
    rw [hs3.get _ (by simp only [Heap.next_set, Heap.next_push]; omega) (by simp)]
    simp only [Heap.get_set, Heap.get_push, Heap.next_push, Heap.next_set]
    rw [if_neg (by omega), if_pos trivial]
  have q4 : H3.get (H2.next + 1) = some (mO y) := by
    rw [hs3.get _ (by simp only [Heap.next_set, Heap.next_push]; omega) (by simp)]
    simp only [Heap.get_set, Heap.get_push, Heap.next_push, Heap.next_set]
    rw [if_pos trivial]
  have hn3 := hs3.le
  simp only [Heap.next_set, Heap.next_push] at hn3 hi3
  simp (maxSteps := 5000000) (disch := omega) only [MX, Msg.cells_length, q3, q4, V_P, SX, W_block, exitW, goInt, Int.reduceEq, setCells, oneOf, cellOk, reduceIte, Nat.reduceLT, Nat.reduceLeDiff, Nat.reduceEqDiff, Nat.reduceAdd, Nat.reduceSub, Nat.reduceMul, Int.reduceToNat, Int.reduceLT, Int.reduceLE, Int.reduceAdd, Int.reduceSub, implies_true, ne_eq, if_true, if_false, reduceCtorEq]
  refine W_callR rfl (by simp (maxSteps := 5000000) (disch := omega) only [MX, Msg.cells_length, q3, q4, V_P, SX, W_block, exitW, goInt, Int.reduceEq, setCells, oneOf, cellOk, reduceIte, Nat.reduceLT, Nat.reduceLeDiff, Nat.reduceEqDiff, Nat.reduceAdd, Nat.reduceSub, Nat.reduceMul, Int.reduceToNat, Int.reduceLT, Int.reduceLE, Int.reduceAdd, Int.reduceSub, implies_true, ne_eq, if_true, if_false, reduceCtorEq]) (ndc_Put y _ hs3.ok wy) ?_
  rintro v H4 ⟨_, hp4, hs4⟩
  obtain ⟨i4, hi4, rfl, hg4⟩ := hp4 ry
  have ok4 := hs4.ok
  have okn4 : ∀ a, H4.next ≤ a → H4.get a = none := ok4
  have hn4 := hs4.le
  have q5 : H4.get H2.next = some (mO x) := by rw [hs4.get _ (by omega) (by simp), q3]
  have q6 : H4.get (H2.next + 1) = some (mO y) := by rw [hs4.get _ (by omega) (by simp), q4]
  have q7 : H4.get i3 = some (.cells (bytesV x.bytes) 5 false) := by rw [hs4.get _ (hs3.ok.lt hg3) (by simp), hg3]
  have cv1 := cv_row (H := H4.room 16) (i := i3) (o := 0) (c := capU) (n := x.bytes.length) (l := x.bytes) rfl (by rw [Heap.get_room, q7, gcV_cells, if_pos (by rw [bytesV_length]; omega), List.drop_zero, List.take_of_length_le (by rw [bytesV_length]; omega)])
  have cv2 := cv_row (H := H4.room 16) (i := i4) (o := 0) (c := capU) (n := y.bytes.length) (l := y.bytes) rfl (by rw [Heap.get_room, hg4, gcV_cells, if_pos (by rw [bytesV_length]; omega), List.drop_zero, List.take_of_length_le (by rw [bytesV_length]; omega)])
  simp (maxSteps := 5000000) (disch := omega) only [MX, Msg.cells_length, q5, q6, V_P, SX, W_block, exitW, goInt, Int.reduceEq, setCells, oneOf, cellOk, reduceIte, Nat.reduceLT, Nat.reduceLeDiff, Nat.reduceEqDiff, Nat.reduceAdd, Nat.reduceSub, Nat.reduceMul, Int.reduceToNat, Int.reduceLT, Int.reduceLE, Int.reduceAdd, Int.reduceSub, implies_true, ne_eq, if_true, if_false, reduceCtorEq]
  refine W_drawR [[], [], [0, 1], [2, 0, 1], [3, 2, 0, 1], [4, 3, 2, 0, 1], [5, 4, 3, 2, 0, 1], [4, 3, 2, 0, 1], [7, 4, 3, 2, 0, 1], [6, 5, 4, 3, 2, 0, 1, 8, 7], [4, 3, 2, 0, 1], [4, 3, 2, 0, 1], [10, 4, 3, 2, 0, 1, 11], [9, 6, 5, 4, 3, 2, 0, 1, 8, 7, 12, 10, 11], [4, 3, 2, 0, 1, 13, 9, 6, 5, 8, 7, 12, 10, 11], [14, 4, 3, 2, 0, 1, 13, 9, 6, 5, 8, 7, 12, 10, 11]] [0, 1, 2, 3, 4, 5, 6, 7, 8, 9, 10, 11, 12, 13, 14, 15] (by decide +kernel) (by repeat (first | exact ok4 | refine Ok.push ?_ _ | refine Ok.room ?_ _ | (refine Ok.put ?_ _ (by simp (disch := omega) only [Heap.get_pushH, Heap.get_setH, hite_same, hite_ne, hite_eq, Heap.get_room, Heap.next_push, Heap.next_set, Heap.next_room, Option.isSome_some, *])))) ?_
  have hd : decide (S x.bytes = S y.bytes) = x.same y := by
    rw [Bool.eq_iff_iff, decide_eq_true_eq, ← bytes_same rx ry wx wy]
    exact ⟨S_inj, fun h => by rw [h]⟩
  have hbb := fun (x1 y1 : Operand) => binV_beq (P := Tryd.prog) (H := H4.room 16) (t := 4) (x := x1) (y := y1) (a := x.same y) (b := x.same y) un_4
  rw [beq_self_eq_true] at hbb
  simp (maxSteps := 5000000) (disch := omega) only [MX, okn4, q5, q6, cv1, cv2, hd, hbb, V_P, SX, W_block, exitW, goInt, Int.reduceEq, setCells, oneOf, cellOk, reduceIte, Nat.reduceLT, Nat.reduceLeDiff, Nat.reduceEqDiff, Nat.reduceAdd, Nat.reduceSub, Nat.reduceMul, Int.reduceToNat, Int.reduceLT, Int.reduceLE, Int.reduceAdd, Int.reduceSub, implies_true, ne_eq, if_true, if_false, reduceCtorEq, DX, Nat.reduceBEq]
end Go.B.YteigefgobkdmgaaDoor
