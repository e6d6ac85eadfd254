import Derived.Test.YtjbhgooakdpabaaDoorBM2
/- The document's test of a configuration; the bounds of an amount. -/
namespace Go.B.YtjbhgooakdpabaaDoor
open Go Go.B Go.Proofs
set_option maxRecDepth 100000
set_option maxHeartbeats 16000000
set_option linter.unusedSimpArgs false
set_option linter.unusedVariables false

theorem money_Check (c : Cfg) (b1 b2 b3 : Option Addr) (c1 c2 c3 : Nat) (a : Int) (H : Heap) (ok : Ok H) :
    ∃ v H', Ca V 16 #[.agg (cfgV c b1 b2 b3 c1 c2 c3).toArray, .int .i64 a] H v H' ∧ v = .int .i64 (if c.least ≤ a ∧ a ≤ c.most then 0 else 34) ∧ Same H H' [] := by
  refine Ca_run rfl tab_16 rfl ?_
  simp (maxSteps := 5000000) (disch := omega) only [Tryd.f16, cfgV, V_P, SX, W_block, exitW, goInt, yieldB, setCells, oneOf, cellOk, reduceIte, Nat.reduceLT, Nat.reduceLeDiff, Nat.reduceEqDiff, Nat.reduceAdd, Nat.reduceSub, Nat.reduceMul, Int.reduceToNat, Int.reduceLT, Int.reduceLE, Int.reduceAdd, Int.reduceSub, implies_true, ne_eq, if_true, if_false, reduceCtorEq]
  repeat' (first
    | (refine gW_dec (fun h => ?_) (fun h => ?_) <;> simp (maxSteps := 5000000) (disch := omega) only [h, V_P, SX, W_block, exitW, goInt, yieldB, setCells, oneOf, cellOk, reduceIte, Nat.reduceLT, Nat.reduceLeDiff, Nat.reduceEqDiff, Nat.reduceAdd, Nat.reduceSub, Nat.reduceMul, Int.reduceToNat, Int.reduceLT, Int.reduceLE, Int.reduceAdd, Int.reduceSub, implies_true, ne_eq, if_true, if_false, reduceCtorEq])
    | (refine cW_dec (fun h => ?_) (fun h => ?_) <;> simp (maxSteps := 5000000) (disch := omega) only [h, V_P, SX, W_block, exitW, goInt, yieldB, setCells, oneOf, cellOk, reduceIte, Nat.reduceLT, Nat.reduceLeDiff, Nat.reduceEqDiff, Nat.reduceAdd, Nat.reduceSub, Nat.reduceMul, Int.reduceToNat, Int.reduceLT, Int.reduceLE, Int.reduceAdd, Int.reduceSub, implies_true, ne_eq, if_true, if_false, reduceCtorEq])
    | (refine gW_bool (fun h => ?_) (fun h => ?_) <;> simp (maxSteps := 5000000) (disch := omega) only [h, V_P, SX, W_block, exitW, goInt, yieldB, setCells, oneOf, cellOk, reduceIte, Nat.reduceLT, Nat.reduceLeDiff, Nat.reduceEqDiff, Nat.reduceAdd, Nat.reduceSub, Nat.reduceMul, Int.reduceToNat, Int.reduceLT, Int.reduceLE, Int.reduceAdd, Int.reduceSub, implies_true, ne_eq, if_true, if_false, reduceCtorEq])
    | (refine cW_bool (fun h => ?_) (fun h => ?_) <;> simp (maxSteps := 5000000) (disch := omega) only [h, V_P, SX, W_block, exitW, goInt, yieldB, setCells, oneOf, cellOk, reduceIte, Nat.reduceLT, Nat.reduceLeDiff, Nat.reduceEqDiff, Nat.reduceAdd, Nat.reduceSub, Nat.reduceMul, Int.reduceToNat, Int.reduceLT, Int.reduceLE, Int.reduceAdd, Int.reduceSub, implies_true, ne_eq, if_true, if_false, reduceCtorEq]))
  · refine ⟨by rw [if_neg (by omega)], ?_⟩; repeat (first | exact Same.same ok | refine Same.push ?_ _ | refine Same.room ?_ _ | (refine Same.make ?_ (by (try simp only [Heap.next_push, Heap.next_set, Heap.next_room]); omega) (by (try simp only [Heap.next_push, Heap.next_set, Heap.next_room]); omega)) | (refine Same.put ?_ (by simp (disch := omega) only [Heap.get_pushH, Heap.get_setH, hite_same, hite_ne, hite_eq, Heap.get_room, Heap.next_push, Heap.next_set, Heap.next_room, Option.isSome_some, *]) (fun z => by first | (simp; done) | (exfalso; (try simp only [Heap.next_push, Heap.next_set, Heap.next_room] at z); omega))))
  · refine ⟨by rw [if_neg (by omega)], ?_⟩; repeat (first | exact Same.same ok | refine Same.push ?_ _ | refine Same.room ?_ _ | (refine Same.make ?_ (by (try simp only [Heap.next_push, Heap.next_set, Heap.next_room]); omega) (by (try simp only [Heap.next_push, Heap.next_set, Heap.next_room]); omega)) | (refine Same.put ?_ (by simp (disch := omega) only [Heap.get_pushH, Heap.get_setH, hite_same, hite_ne, hite_eq, Heap.get_room, Heap.next_push, Heap.next_set, Heap.next_room, Option.isSome_some, *]) (fun z => by first | (simp; done) | (exfalso; (try simp only [Heap.next_push, Heap.next_set, Heap.next_room] at z); omega))))
  · refine ⟨by rw [if_pos (by omega)], ?_⟩; repeat (first | exact Same.same ok | refine Same.push ?_ _ | refine Same.room ?_ _ | (refine Same.make ?_ (by (try simp only [Heap.next_push, Heap.next_set, Heap.next_room]); omega) (by (try simp only [Heap.next_push, Heap.next_set, Heap.next_room]); omega)) | (refine Same.put ?_ (by simp (disch := omega) only [Heap.get_pushH, Heap.get_setH, hite_same, hite_ne, hite_eq, Heap.get_room, Heap.next_push, Heap.next_set, Heap.next_room, Option.isSome_some, *]) (fun z => by first | (simp; done) | (exfalso; (try simp only [Heap.next_push, Heap.next_set, Heap.next_room] at z); omega))))

theorem cass_get (t : T4) {i : Nat} {x : Cass} (h : t.l[i]? = some x) : (t.cells.drop (i * 4)).take 4 = [.int .i64 x.denom, .int .i64 x.loaded, .int .i64 x.given, .int .i64 x.rejected] := cs16_get (l := t.l) h

/-- A part of an element. -/
theorem Row.getT {H : Heap} {b : Option Addr} {l : List T4} (h : Row H b l.length 16 (l.flatMap T4.cells)) {j k : Nat} {t : T4} {x : Cass} (hj : l[j]? = some t) (hk : t.l[k]? = some x) : ∃ i o, b = some ⟨i, o, none⟩ ∧ gcV (o + j * 16 + k * 4) 4 (H.get i) = some [.int .i64 x.denom, .int .i64 x.loaded, .int .i64 x.given, .int .i64 x.rejected] := by
  have hjl : j < l.length := (List.getElem?_eq_some_iff.mp hj).1
  have hkl : k < 4 := (List.getElem?_eq_some_iff.mp hk).1
  rcases h.at_ with h0 | ⟨i, o, c, e, ro, h1, h2, h3, h4, _⟩
  · omega
  · refine ⟨i, o, h1, ?_⟩
    rw [h2, gcV_cells]
    have h5 : (j + 1) * 16 ≤ l.length * 16 := Nat.mul_le_mul_right _ hjl
    have h6 := h.len
    rw [if_pos (by omega)]
    congr 1
    have h7 := terms_get hj
    have h8 := cass_get t hk
    rw [← h8]
    have h9 : t.cells = ((l.flatMap T4.cells).drop (j * 16)).take 16 := h7.symm
    rw [h9, ← h4]
    simp only [List.drop_take, List.drop_drop, List.take_take]
    congr 1
    omega

theorem ref_ConfigRight (c : Cfg) (b1 b2 b3 : Option Addr) (c1 c2 c3 : Nat) (H : Heap) (ok : Ok H) (hc : CfgAt H c b1 b2 b3) :
    ∃ v H', Ca V 15 #[.agg (cfgV c b1 b2 b3 c1 c2 c3).toArray] H v H' ∧ v = .bool c.ok ∧ Same H H' [] := by
  have l1 : c.terms.length ≤ 9223372036854775807 := hc.l1
  have l2 : c.pans.length ≤ 9223372036854775807 := hc.l2
  have l3 : c.funds.length ≤ 9223372036854775807 := hc.l3
  refine Ca_run rfl tab_15 rfl ?_
  simp (maxSteps := 5000000) (disch := omega) only [Tryd.f15, cfgV, V_P, SX, W_block, exitW, goInt, yieldB, setCells, oneOf, cellOk, reduceIte, Nat.reduceLT, Nat.reduceLeDiff, Nat.reduceEqDiff, Nat.reduceAdd, Nat.reduceSub, Nat.reduceMul, Int.reduceToNat, Int.reduceLT, Int.reduceLE, Int.reduceAdd, Int.reduceSub, implies_true, ne_eq, if_true, if_false, reduceCtorEq]
  have s1 : Same H (H.push (.cells (cfgV c b1 b2 b3 c1 c2 c3) 35 false)) [] := by repeat (first | exact Same.same ok | refine Same.push ?_ _ | refine Same.room ?_ _ | (refine Same.make ?_ (by (try simp only [Heap.next_push, Heap.next_set, Heap.next_room]); omega) (by (try simp only [Heap.next_push, Heap.next_set, Heap.next_room]); omega)) | (refine Same.put ?_ (by simp (disch := omega) only [Heap.get_pushH, Heap.get_setH, hite_same, hite_ne, hite_eq, Heap.get_room, Heap.next_push, Heap.next_set, Heap.next_room, Option.isSome_some, *]) (fun z => by first | (simp; done) | (exfalso; (try simp only [Heap.next_push, Heap.next_set, Heap.next_room] at z); omega))))
  have hq : (H.push (.cells (cfgV c b1 b2 b3 c1 c2 c3) 35 false)).get H.next = some (.cells (cfgV c b1 b2 b3 c1 c2 c3) 35 false) := by rw [Heap.get_push, if_pos rfl]
  have hql : H.next < (H.push (.cells (cfgV c b1 b2 b3 c1 c2 c3) 35 false)).next := Nat.lt_succ_self _
  simp only [cfgV] at s1 hq hql
  generalize (H.push (.cells [.slice b1 c.terms.length c1, .slice b2 c.pans.length c2, .slice b3 c.funds.length c3, .int .i64 c.least, .int .i64 c.most] 35 false)) = H1 at *
  have ok1 := s1.ok
  have h1 := hc.mono ok s1
  have bad : c.base = false → c.ok = false := fun h => by unfold Cfg.ok; rw [h]; rfl
  generalize hqn : H.next = q at *
  repeat' (first
    | (refine gW_dec (fun h => ?_) (fun h => ?_) <;> simp (maxSteps := 5000000) (disch := omega) only [h, hq, V_P, SX, W_block, exitW, goInt, yieldB, setCells, oneOf, cellOk, reduceIte, Nat.reduceLT, Nat.reduceLeDiff, Nat.reduceEqDiff, Nat.reduceAdd, Nat.reduceSub, Nat.reduceMul, Int.reduceToNat, Int.reduceLT, Int.reduceLE, Int.reduceAdd, Int.reduceSub, implies_true, ne_eq, if_true, if_false, reduceCtorEq])
    | (refine cW_dec (fun h => ?_) (fun h => ?_) <;> simp (maxSteps := 5000000) (disch := omega) only [h, hq, V_P, SX, W_block, exitW, goInt, yieldB, setCells, oneOf, cellOk, reduceIte, Nat.reduceLT, Nat.reduceLeDiff, Nat.reduceEqDiff, Nat.reduceAdd, Nat.reduceSub, Nat.reduceMul, Int.reduceToNat, Int.reduceLT, Int.reduceLE, Int.reduceAdd, Int.reduceSub, implies_true, ne_eq, if_true, if_false, reduceCtorEq])
    | (refine gW_bool (fun h => ?_) (fun h => ?_) <;> simp (maxSteps := 5000000) (disch := omega) only [h, hq, V_P, SX, W_block, exitW, goInt, yieldB, setCells, oneOf, cellOk, reduceIte, Nat.reduceLT, Nat.reduceLeDiff, Nat.reduceEqDiff, Nat.reduceAdd, Nat.reduceSub, Nat.reduceMul, Int.reduceToNat, Int.reduceLT, Int.reduceLE, Int.reduceAdd, Int.reduceSub, implies_true, ne_eq, if_true, if_false, reduceCtorEq])
    | (refine cW_bool (fun h => ?_) (fun h => ?_) <;> simp (maxSteps := 5000000) (disch := omega) only [h, hq, V_P, SX, W_block, exitW, goInt, yieldB, setCells, oneOf, cellOk, reduceIte, Nat.reduceLT, Nat.reduceLeDiff, Nat.reduceEqDiff, Nat.reduceAdd, Nat.reduceSub, Nat.reduceMul, Int.reduceToNat, Int.reduceLT, Int.reduceLE, Int.reduceAdd, Int.reduceSub, implies_true, ne_eq, if_true, if_false, reduceCtorEq]))
  all_goals try (refine ⟨by rw [bad (by unfold Cfg.base; simp; omega)], ?_⟩; repeat (first | exact s1 | refine Same.push ?_ _ | refine Same.room ?_ _ | (refine Same.make ?_ (by (try simp only [Heap.next_push, Heap.next_set, Heap.next_room]); omega) (by (try simp only [Heap.next_push, Heap.next_set, Heap.next_room]); omega)) | (refine Same.put ?_ (by simp (disch := omega) only [Heap.get_pushH, Heap.get_setH, hite_same, hite_ne, hite_eq, Heap.get_room, Heap.next_push, Heap.next_set, Heap.next_room, Option.isSome_some, *]) (fun z => by first | (simp; done) | (exfalso; (try simp only [Heap.next_push, Heap.next_set, Heap.next_room] at z); omega)))); done)
  have hbase : c.base = true := by unfold Cfg.base; simp; omega
  refine W_for (fun (i : Nat) t H2 => t.get 1 = some (.pointer (some ⟨q, 0, none⟩)) ∧ t.get 3 = some (.int .i64 i) ∧ i ≤ c.terms.length ∧ (∀ j x, j < i → c.terms[j]? = some x → T4.ok x = true) ∧ Same H1 H2 []) (fun i => c.terms.length - i) 0 ?_ ?_
  · simp (maxSteps := 5000000) (disch := omega) only [V_P, SX, W_block, exitW, goInt, yieldB, setCells, oneOf, cellOk, reduceIte, Nat.reduceLT, Nat.reduceLeDiff, Nat.reduceEqDiff, Nat.reduceAdd, Nat.reduceSub, Nat.reduceMul, Int.reduceToNat, Int.reduceLT, Int.reduceLE, Int.reduceAdd, Int.reduceSub, implies_true, ne_eq, if_true, if_false, reduceCtorEq]
    refine ⟨rfl, Nat.zero_le _, fun j x h => absurd h (by omega), Same.refl ok1⟩
  rintro i t H2 ⟨g1, g3, hi, hall, hs⟩
  have h2 := h1.mono ok1 hs
  have hq2 := (hs.get q hql (by simp)).trans hq
  have hle := hs.le
  simp (maxSteps := 5000000) (disch := omega) only [g1, g3, hq2, V_P, SX, W_block, exitW, goInt, yieldB, setCells, oneOf, cellOk, reduceIte, Nat.reduceLT, Nat.reduceLeDiff, Nat.reduceEqDiff, Nat.reduceAdd, Nat.reduceSub, Nat.reduceMul, Int.reduceToNat, Int.reduceLT, Int.reduceLE, Int.reduceAdd, Int.reduceSub, implies_true, ne_eq, if_true, if_false, reduceCtorEq]
  refine cW_dec (fun hlt => ?_) (fun hlt => ?_)
  · have hlt' : i < c.terms.length := by omega
    obtain ⟨x, hx⟩ : ∃ x, c.terms[i]? = some x := ⟨c.terms[i], List.getElem?_eq_getElem hlt'⟩
    have badt : x.ok = false → c.ok = false := fun hx3 => by
      have : c.terms.all T4.ok = false := by rw [List.all_eq_false]; exact ⟨x, List.mem_of_getElem? hx, by simp [hx3]⟩
      unfold Cfg.ok; rw [this]; simp
    simp (maxSteps := 5000000) (disch := omega) only [g1, g3, hq2, V_P, SX, W_block, exitW, goInt, yieldB, setCells, oneOf, cellOk, reduceIte, Nat.reduceLT, Nat.reduceLeDiff, Nat.reduceEqDiff, Nat.reduceAdd, Nat.reduceSub, Nat.reduceMul, Int.reduceToNat, Int.reduceLT, Int.reduceLE, Int.reduceAdd, Int.reduceSub, implies_true, ne_eq, if_true, if_false, reduceCtorEq]
    -- the four cassettes
    refine W_for (fun (k : Nat) t H3 => t.get 1 = some (.pointer (some ⟨q, 0, none⟩)) ∧ t.get 3 = some (.int .i64 i) ∧ t.get 4 = some (.int .i64 k) ∧ k ≤ 4 ∧ (∀ j y, j < k → x.l[j]? = some y → Cass.ok y = true) ∧ Same H1 H3 []) (fun k => 4 - k) 0 ?_ ?_
    · simp (maxSteps := 5000000) (disch := omega) only [g1, g3, V_P, SX, W_block, exitW, goInt, yieldB, setCells, oneOf, cellOk, reduceIte, Nat.reduceLT, Nat.reduceLeDiff, Nat.reduceEqDiff, Nat.reduceAdd, Nat.reduceSub, Nat.reduceMul, Int.reduceToNat, Int.reduceLT, Int.reduceLE, Int.reduceAdd, Int.reduceSub, implies_true, ne_eq, if_true, if_false, reduceCtorEq]
      refine ⟨rfl, fun j y h => absurd h (by omega), hs⟩
    clear g1 g3 t h2 hq2 hle
    rintro k t H3 ⟨g1, g3, g4, hk, hallk, hs3⟩
    have h3 := h1.mono ok1 hs3
    have hq3 := (hs3.get q hql (by simp)).trans hq
    have hle3 := hs3.le
    have hle1 := s1.le
    simp (maxSteps := 5000000) (disch := omega) only [g1, g3, g4, hq3, V_P, SX, W_block, exitW, goInt, yieldB, setCells, oneOf, cellOk, reduceIte, Nat.reduceLT, Nat.reduceLeDiff, Nat.reduceEqDiff, Nat.reduceAdd, Nat.reduceSub, Nat.reduceMul, Int.reduceToNat, Int.reduceLT, Int.reduceLE, Int.reduceAdd, Int.reduceSub, implies_true, ne_eq, if_true, if_false, reduceCtorEq]
    refine cW_dec (fun hlt4 => ?_) (fun hlt4 => ?_)
    · have hk4 : k < x.l.length := by show k < 4; omega
      obtain ⟨y, hy⟩ : ∃ y, x.l[k]? = some y := ⟨x.l[k], List.getElem?_eq_getElem hk4⟩
      have badc : y.ok = false → c.ok = false := fun hy3 => badt (by
        unfold T4.ok; rw [List.all_eq_false]; exact ⟨y, List.mem_of_getElem? hy, by simp [hy3]⟩)
      obtain ⟨i0, o0, rfl, hgc⟩ := h3.terms.getT hx hy
      simp (maxSteps := 5000000) (disch := omega) only [g1, g3, g4, hq3, hgc, V_P, SX, W_block, exitW, goInt, yieldB, setCells, oneOf, cellOk, reduceIte, Nat.reduceLT, Nat.reduceLeDiff, Nat.reduceEqDiff, Nat.reduceAdd, Nat.reduceSub, Nat.reduceMul, Int.reduceToNat, Int.reduceLT, Int.reduceLE, Int.reduceAdd, Int.reduceSub, implies_true, ne_eq, if_true, if_false, reduceCtorEq]
      repeat' (first
    | (refine gW_dec (fun h => ?_) (fun h => ?_) <;> simp (maxSteps := 5000000) (disch := omega) only [h, g1, g3, g4, hq3, hgc, V_P, SX, W_block, exitW, goInt, yieldB, setCells, oneOf, cellOk, reduceIte, Nat.reduceLT, Nat.reduceLeDiff, Nat.reduceEqDiff, Nat.reduceAdd, Nat.reduceSub, Nat.reduceMul, Int.reduceToNat, Int.reduceLT, Int.reduceLE, Int.reduceAdd, Int.reduceSub, implies_true, ne_eq, if_true, if_false, reduceCtorEq])
    | (refine cW_dec (fun h => ?_) (fun h => ?_) <;> simp (maxSteps := 5000000) (disch := omega) only [h, g1, g3, g4, hq3, hgc, V_P, SX, W_block, exitW, goInt, yieldB, setCells, oneOf, cellOk, reduceIte, Nat.reduceLT, Nat.reduceLeDiff, Nat.reduceEqDiff, Nat.reduceAdd, Nat.reduceSub, Nat.reduceMul, Int.reduceToNat, Int.reduceLT, Int.reduceLE, Int.reduceAdd, Int.reduceSub, implies_true, ne_eq, if_true, if_false, reduceCtorEq])
    | (refine gW_bool (fun h => ?_) (fun h => ?_) <;> simp (maxSteps := 5000000) (disch := omega) only [h, g1, g3, g4, hq3, hgc, V_P, SX, W_block, exitW, goInt, yieldB, setCells, oneOf, cellOk, reduceIte, Nat.reduceLT, Nat.reduceLeDiff, Nat.reduceEqDiff, Nat.reduceAdd, Nat.reduceSub, Nat.reduceMul, Int.reduceToNat, Int.reduceLT, Int.reduceLE, Int.reduceAdd, Int.reduceSub, implies_true, ne_eq, if_true, if_false, reduceCtorEq])
    | (refine cW_bool (fun h => ?_) (fun h => ?_) <;> simp (maxSteps := 5000000) (disch := omega) only [h, g1, g3, g4, hq3, hgc, V_P, SX, W_block, exitW, goInt, yieldB, setCells, oneOf, cellOk, reduceIte, Nat.reduceLT, Nat.reduceLeDiff, Nat.reduceEqDiff, Nat.reduceAdd, Nat.reduceSub, Nat.reduceMul, Int.reduceToNat, Int.reduceLT, Int.reduceLE, Int.reduceAdd, Int.reduceSub, implies_true, ne_eq, if_true, if_false, reduceCtorEq]))
      all_goals try (refine ⟨by rw [badc (by unfold Cass.ok; simp; omega)], s1.trans (qs := []) (by repeat (first | exact hs3 | refine Same.push ?_ _ | refine Same.room ?_ _ | (refine Same.make ?_ (by (try simp only [Heap.next_push, Heap.next_set, Heap.next_room]); omega) (by (try simp only [Heap.next_push, Heap.next_set, Heap.next_room]); omega)) | (refine Same.put ?_ (by simp (disch := omega) only [Heap.get_pushH, Heap.get_setH, hite_same, hite_ne, hite_eq, Heap.get_room, Heap.next_push, Heap.next_set, Heap.next_room, Option.isSome_some, *]) (fun z => by first | (simp; done) | (exfalso; (try simp only [Heap.next_push, Heap.next_set, Heap.next_room] at z); omega))))) (fun _ hq => by cases hq)⟩; done)
      refine ⟨k + 1, ⟨by simp, by omega, fun j z hj hz => ?_, ?_⟩, by omega⟩
      · by_cases hjk : j = k
        · subst hjk; rw [hy] at hz; cases hz; unfold Cass.ok; simp; omega
        · exact hallk j z (by omega) hz
      · repeat (first | exact hs3 | refine Same.push ?_ _ | refine Same.room ?_ _ | (refine Same.make ?_ (by (try simp only [Heap.next_push, Heap.next_set, Heap.next_room]); omega) (by (try simp only [Heap.next_push, Heap.next_set, Heap.next_room]); omega)) | (refine Same.put ?_ (by simp (disch := omega) only [Heap.get_pushH, Heap.get_setH, hite_same, hite_ne, hite_eq, Heap.get_room, Heap.next_push, Heap.next_set, Heap.next_room, Option.isSome_some, *]) (fun z => by first | (simp; done) | (exfalso; (try simp only [Heap.next_push, Heap.next_set, Heap.next_room] at z); omega))))
    · simp (maxSteps := 5000000) (disch := omega) only [g1, g3, g4, hq3, V_P, SX, W_block, exitW, goInt, yieldB, setCells, oneOf, cellOk, reduceIte, Nat.reduceLT, Nat.reduceLeDiff, Nat.reduceEqDiff, Nat.reduceAdd, Nat.reduceSub, Nat.reduceMul, Int.reduceToNat, Int.reduceLT, Int.reduceLE, Int.reduceAdd, Int.reduceSub, implies_true, ne_eq, if_true, if_false, reduceCtorEq]
      refine ⟨i + 1, ⟨by simp, by omega, fun j z hj hz => ?_, hs3⟩, by omega⟩
      by_cases hji : j = i
      · subst hji; rw [hx] at hz; cases hz
        unfold T4.ok
        rw [List.all_eq_true]
        intro y hy
        obtain ⟨j2, hj2, rfl⟩ := List.mem_iff_getElem.mp hy
        exact hallk j2 _ (by have : j2 < 4 := hj2; omega) (List.getElem?_eq_getElem hj2)
      · exact hall j z (by omega) hz
  · have hterms : c.terms.all T4.ok = true := by
      rw [List.all_eq_true]
      intro x hx
      obtain ⟨j, hj, rfl⟩ := List.mem_iff_getElem.mp hx
      exact hall j _ (by omega) (List.getElem?_eq_getElem hj)
    simp (maxSteps := 5000000) (disch := omega) only [g1, g3, hq2, V_P, SX, W_block, exitW, goInt, yieldB, setCells, oneOf, cellOk, reduceIte, Nat.reduceLT, Nat.reduceLeDiff, Nat.reduceEqDiff, Nat.reduceAdd, Nat.reduceSub, Nat.reduceMul, Int.reduceToNat, Int.reduceLT, Int.reduceLE, Int.reduceAdd, Int.reduceSub, implies_true, ne_eq, if_true, if_false, reduceCtorEq]
    have badp : ∀ j, j < c.pans.length → c.pan j = false → c.ok = false := fun j hj h => by
      unfold Cfg.ok
      have : (List.range c.pans.length).all c.pan = false := by rw [List.all_eq_false]; exact ⟨j, by simpa using hj, by simp [h]⟩
      rw [this]; simp
    refine W_for (fun (i : Nat) t H5 => t.get 1 = some (.pointer (some ⟨q, 0, none⟩)) ∧ t.get 6 = some (.int .i64 i) ∧ i ≤ c.pans.length ∧ (∀ j, j < i → c.pan j = true) ∧ Same H1 H5 []) (fun i => c.pans.length - i) 0 ?_ ?_
    · simp (maxSteps := 5000000) (disch := omega) only [g1, V_P, SX, W_block, exitW, goInt, yieldB, setCells, oneOf, cellOk, reduceIte, Nat.reduceLT, Nat.reduceLeDiff, Nat.reduceEqDiff, Nat.reduceAdd, Nat.reduceSub, Nat.reduceMul, Int.reduceToNat, Int.reduceLT, Int.reduceLE, Int.reduceAdd, Int.reduceSub, implies_true, ne_eq, if_true, if_false, reduceCtorEq]
      refine ⟨rfl, Nat.zero_le _, fun j h => absurd h (by omega), hs⟩
    clear hall g3 hlt hi i g1 t h2 hq2 hle hs
    rintro i t H5 ⟨g1, g6, hi, hall, hs⟩
    have ok5 := hs.ok
    have h5 := h1.mono ok1 hs
    have hq5 := (hs.get q hql (by simp)).trans hq
    have hle5 := hs.le
    have sH : Same H H5 [] := s1.trans hs (fun _ hq => by cases hq)
    simp (maxSteps := 5000000) (disch := omega) only [g1, g6, hq5, V_P, SX, W_block, exitW, goInt, yieldB, setCells, oneOf, cellOk, reduceIte, Nat.reduceLT, Nat.reduceLeDiff, Nat.reduceEqDiff, Nat.reduceAdd, Nat.reduceSub, Nat.reduceMul, Int.reduceToNat, Int.reduceLT, Int.reduceLE, Int.reduceAdd, Int.reduceSub, implies_true, ne_eq, if_true, if_false, reduceCtorEq]
    refine cW_dec (fun hlt => ?_) (fun hlt => ?_)
    · have hlt' : i < c.pans.length := by omega
      have hlt3 : i < c.funds.length := by omega
      obtain ⟨p, hp⟩ : ∃ p, c.pans[i]? = some p := ⟨c.pans[i], List.getElem?_eq_getElem hlt'⟩
      obtain ⟨f, hf⟩ : ∃ f, c.funds[i]? = some f := ⟨c.funds[i], List.getElem?_eq_getElem hlt3⟩
      have hps : p.size ≤ maxLen := hc.lp p (List.mem_of_getElem? hp)
      have hpan : c.pan i = (panOk p && (!hasP (c.pans.take i) p && decide (0 ≤ f ∧ f ≤ 1000000000000))) := by unfold Cfg.pan; rw [hp, hf]
      obtain ⟨i0, o0, rfl, hgc⟩ := h5.pans.get hlt'
      rw [one_get Value.string hp, Nat.mul_one] at hgc
      obtain ⟨i3, o3, rfl, hgf⟩ := h5.funds.get hlt3
      rw [one_get (Value.int .i64) hf, Nat.mul_one] at hgf
      simp (maxSteps := 5000000) (disch := omega) only [g1, g6, hgc, hgf, hq5, V_P, SX, W_block, exitW, goInt, yieldB, setCells, oneOf, cellOk, reduceIte, Nat.reduceLT, Nat.reduceLeDiff, Nat.reduceEqDiff, Nat.reduceAdd, Nat.reduceSub, Nat.reduceMul, Int.reduceToNat, Int.reduceLT, Int.reduceLE, Int.reduceAdd, Int.reduceSub, implies_true, ne_eq, if_true, if_false, reduceCtorEq]
      refine W_callR rfl (by simp (maxSteps := 5000000) (disch := omega) only [V_P, SX, W_block, exitW, goInt, yieldB, setCells, oneOf, cellOk, reduceIte, Nat.reduceLT, Nat.reduceLeDiff, Nat.reduceEqDiff, Nat.reduceAdd, Nat.reduceSub, Nat.reduceMul, Int.reduceToNat, Int.reduceLT, Int.reduceLE, Int.reduceAdd, Int.reduceSub, implies_true, ne_eq, if_true, if_false, reduceCtorEq]) (ref_Pan p H5 hps) ?_
      rintro v H6 ⟨rfl, rfl⟩
      simp (maxSteps := 5000000) (disch := omega) only [g1, g6, hgc, hgf, hq5, V_P, SX, W_block, exitW, goInt, yieldB, setCells, oneOf, cellOk, reduceIte, Nat.reduceLT, Nat.reduceLeDiff, Nat.reduceEqDiff, Nat.reduceAdd, Nat.reduceSub, Nat.reduceMul, Int.reduceToNat, Int.reduceLT, Int.reduceLE, Int.reduceAdd, Int.reduceSub, implies_true, ne_eq, if_true, if_false, reduceCtorEq]
      repeat' (first
    | (refine gW_dec (fun h => ?_) (fun h => ?_) <;> simp (maxSteps := 5000000) (disch := omega) only [h, g1, g6, hgc, hgf, hq5, V_P, SX, W_block, exitW, goInt, yieldB, setCells, oneOf, cellOk, reduceIte, Nat.reduceLT, Nat.reduceLeDiff, Nat.reduceEqDiff, Nat.reduceAdd, Nat.reduceSub, Nat.reduceMul, Int.reduceToNat, Int.reduceLT, Int.reduceLE, Int.reduceAdd, Int.reduceSub, implies_true, ne_eq, if_true, if_false, reduceCtorEq])
    | (refine cW_dec (fun h => ?_) (fun h => ?_) <;> simp (maxSteps := 5000000) (disch := omega) only [h, g1, g6, hgc, hgf, hq5, V_P, SX, W_block, exitW, goInt, yieldB, setCells, oneOf, cellOk, reduceIte, Nat.reduceLT, Nat.reduceLeDiff, Nat.reduceEqDiff, Nat.reduceAdd, Nat.reduceSub, Nat.reduceMul, Int.reduceToNat, Int.reduceLT, Int.reduceLE, Int.reduceAdd, Int.reduceSub, implies_true, ne_eq, if_true, if_false, reduceCtorEq])
    | (refine gW_bool (fun h => ?_) (fun h => ?_) <;> simp (maxSteps := 5000000) (disch := omega) only [h, g1, g6, hgc, hgf, hq5, V_P, SX, W_block, exitW, goInt, yieldB, setCells, oneOf, cellOk, reduceIte, Nat.reduceLT, Nat.reduceLeDiff, Nat.reduceEqDiff, Nat.reduceAdd, Nat.reduceSub, Nat.reduceMul, Int.reduceToNat, Int.reduceLT, Int.reduceLE, Int.reduceAdd, Int.reduceSub, implies_true, ne_eq, if_true, if_false, reduceCtorEq])
    | (refine cW_bool (fun h => ?_) (fun h => ?_) <;> simp (maxSteps := 5000000) (disch := omega) only [h, g1, g6, hgc, hgf, hq5, V_P, SX, W_block, exitW, goInt, yieldB, setCells, oneOf, cellOk, reduceIte, Nat.reduceLT, Nat.reduceLeDiff, Nat.reduceEqDiff, Nat.reduceAdd, Nat.reduceSub, Nat.reduceMul, Int.reduceToNat, Int.reduceLT, Int.reduceLE, Int.reduceAdd, Int.reduceSub, implies_true, ne_eq, if_true, if_false, reduceCtorEq]))
      · refine ⟨by rw [badp i hlt' (by rw [hpan]; simp [show panOk p = false by simpa using ‹(!panOk p) = true›])], sH⟩
      · refine ⟨by rw [badp i hlt' (by rw [hpan]; simp; omega)], sH⟩
      · refine ⟨by rw [badp i hlt' (by rw [hpan]; simp; omega)], sH⟩
      · have hdig : panOk p = true := by simpa using ‹(!panOk p) = false›
        refine W_for (fun (k : Nat) t H5 => Same H6 H5 [] ∧ t.get 1 = some (.pointer (some ⟨q, 0, none⟩)) ∧ t.get 6 = some (.int .i64 i) ∧ t.get 7 = some (.int .i64 k) ∧ k ≤ i ∧ hasP (c.pans.take k) p = false) (fun k => i - k) 0 ?_ ?_
        · simp (maxSteps := 5000000) (disch := omega) only [g1, g6, V_P, SX, W_block, exitW, goInt, yieldB, setCells, oneOf, cellOk, reduceIte, Nat.reduceLT, Nat.reduceLeDiff, Nat.reduceEqDiff, Nat.reduceAdd, Nat.reduceSub, Nat.reduceMul, Int.reduceToNat, Int.reduceLT, Int.reduceLE, Int.reduceAdd, Int.reduceSub, implies_true, ne_eq, if_true, if_false, reduceCtorEq]
          refine ⟨Same.refl ok5, rfl, Nat.zero_le _, rfl⟩
        clear g1 g6 t
        rintro k t H7 ⟨hs7, g1, g6, g7, hk, hno⟩
        have h7 := h5.mono ok5 hs7
        have hq7 := (hs7.get q (by omega) (by simp)).trans hq5
        have hle7 := hs7.le
        have ok7 := hs7.ok
        have sH7 : Same H1 H7 [] := hs.trans hs7 (fun _ hq => by cases hq)
        simp (maxSteps := 5000000) (disch := omega) only [g1, g6, g7, V_P, SX, W_block, exitW, goInt, yieldB, setCells, oneOf, cellOk, reduceIte, Nat.reduceLT, Nat.reduceLeDiff, Nat.reduceEqDiff, Nat.reduceAdd, Nat.reduceSub, Nat.reduceMul, Int.reduceToNat, Int.reduceLT, Int.reduceLE, Int.reduceAdd, Int.reduceSub, implies_true, ne_eq, if_true, if_false, reduceCtorEq]
        refine cW_dec (fun hki => ?_) (fun hki => ?_)
        · have hkl : k < c.pans.length := by omega
          obtain ⟨p2, hp2⟩ : ∃ p, c.pans[k]? = some p := ⟨c.pans[k], List.getElem?_eq_getElem hkl⟩
          obtain ⟨i9, o9, he9, hgk⟩ := h7.pans.get hkl
          obtain ⟨i8, o8, he8, hgi⟩ := h7.pans.get hlt'
          cases he9
          cases he8
          rw [one_get Value.string hp2, Nat.mul_one] at hgk
          rw [one_get Value.string hp, Nat.mul_one] at hgi
          simp (maxSteps := 5000000) (disch := omega) only [g1, g6, g7, V_P, SX, W_block, exitW, goInt, yieldB, setCells, oneOf, cellOk, reduceIte, Nat.reduceLT, Nat.reduceLeDiff, Nat.reduceEqDiff, Nat.reduceAdd, Nat.reduceSub, Nat.reduceMul, Int.reduceToNat, Int.reduceLT, Int.reduceLE, Int.reduceAdd, Int.reduceSub, implies_true, ne_eq, if_true, if_false, reduceCtorEq]
          refine W_drawR [[], [0], [], [1, 0, 2], [3, 1, 0, 2], [], [5], [], [6, 5, 7], [8, 6, 5, 7], [4, 3, 1, 0, 2, 9, 8, 6, 5, 7]] [0, 1, 2, 3, 4, 5, 6, 7, 8, 9, 10] (by decide +kernel) ok7 ?_
          simp (maxSteps := 5000000) (disch := omega) only [g1, g6, g7, hgi, hgk, hq7, V_P, SX, W_block, exitW, goInt, yieldB, setCells, oneOf, cellOk, reduceIte, Nat.reduceLT, Nat.reduceLeDiff, Nat.reduceEqDiff, Nat.reduceAdd, Nat.reduceSub, Nat.reduceMul, Int.reduceToNat, Int.reduceLT, Int.reduceLE, Int.reduceAdd, Int.reduceSub, implies_true, ne_eq, if_true, if_false, reduceCtorEq, DX, Nat.reduceBEq]
          refine cW_dec (fun hpp => ?_) (fun hpp => ?_)
          · simp (maxSteps := 5000000) (disch := omega) only [g1, g6, g7, V_P, SX, W_block, exitW, goInt, yieldB, setCells, oneOf, cellOk, reduceIte, Nat.reduceLT, Nat.reduceLeDiff, Nat.reduceEqDiff, Nat.reduceAdd, Nat.reduceSub, Nat.reduceMul, Int.reduceToNat, Int.reduceLT, Int.reduceLE, Int.reduceAdd, Int.reduceSub, implies_true, ne_eq, if_true, if_false, reduceCtorEq]
            have hdup : hasP (c.pans.take i) p = true := by
              unfold hasP
              rw [List.any_eq_true]
              refine ⟨p2, ?_, by simp [hpp]⟩
              rw [List.mem_iff_getElem?]
              exact ⟨k, by rw [List.getElem?_take_of_lt (by omega)]; exact hp2⟩
            refine ⟨by rw [badp i hlt' (by rw [hpan]; simp [hdup])], s1.trans (sH7.room _) (fun _ hq => by cases hq)⟩
          · simp (maxSteps := 5000000) (disch := omega) only [g1, g6, g7, V_P, SX, W_block, exitW, goInt, yieldB, setCells, oneOf, cellOk, reduceIte, Nat.reduceLT, Nat.reduceLeDiff, Nat.reduceEqDiff, Nat.reduceAdd, Nat.reduceSub, Nat.reduceMul, Int.reduceToNat, Int.reduceLT, Int.reduceLE, Int.reduceAdd, Int.reduceSub, implies_true, ne_eq, if_true, if_false, reduceCtorEq]
            refine ⟨k + 1, ⟨hs7.room _, by simp, by omega, ?_⟩, by omega⟩
            have : c.pans.take (k + 1) = c.pans.take k ++ [p2] := by rw [List.take_add_one, hp2]; rfl
            rw [this]
            unfold hasP at hno ⊢
            rw [List.any_append, hno]
            simp
            exact fun z => hpp z.symm
        · simp (maxSteps := 5000000) (disch := omega) only [g1, g6, g7, V_P, SX, W_block, exitW, goInt, yieldB, setCells, oneOf, cellOk, reduceIte, Nat.reduceLT, Nat.reduceLeDiff, Nat.reduceEqDiff, Nat.reduceAdd, Nat.reduceSub, Nat.reduceMul, Int.reduceToNat, Int.reduceLT, Int.reduceLE, Int.reduceAdd, Int.reduceSub, implies_true, ne_eq, if_true, if_false, reduceCtorEq]
          have hki : k = i := by omega
          subst hki
          refine ⟨k + 1, ⟨by simp, by omega, fun j hj => ?_, sH7⟩, by omega⟩
          by_cases hji : j = k
          · rw [hji, hpan, hdig, hno]; simp; omega
          · exact hall j (by omega)
    · simp (maxSteps := 5000000) (disch := omega) only [g1, g6, V_P, SX, W_block, exitW, goInt, yieldB, setCells, oneOf, cellOk, reduceIte, Nat.reduceLT, Nat.reduceLeDiff, Nat.reduceEqDiff, Nat.reduceAdd, Nat.reduceSub, Nat.reduceMul, Int.reduceToNat, Int.reduceLT, Int.reduceLE, Int.reduceAdd, Int.reduceSub, implies_true, ne_eq, if_true, if_false, reduceCtorEq]
      refine ⟨?_, sH⟩
      have hp : (List.range c.pans.length).all c.pan = true := by
        rw [List.all_eq_true]
        intro j hj
        exact hall j (by have : j < c.pans.length := by simpa using hj
                         omega)
      unfold Cfg.ok
      rw [hbase, hterms, hp]
      rfl
end Go.B.YtjbhgooakdpabaaDoor
