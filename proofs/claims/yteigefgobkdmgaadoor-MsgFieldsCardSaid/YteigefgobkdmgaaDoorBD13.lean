import Derived.Test.YteigefgobkdmgaaDoorBD12
/- Messages of few numbers are right. -/
namespace Go.B.YteigefgobkdmgaaDoor
open Go Go.B Go.Proofs
set_option maxRecDepth 100000
set_option maxHeartbeats 16000000
set_option linter.unusedSimpArgs false
set_option linter.unusedVariables false
def Msg.new (a b : Int) : Msg := ⟨S [], fun j => if j = 0 then a else if j = 1 then b else 0⟩
theorem mO_b2 {H : Heap} {i : Nat} {m : Msg} {a b : Int} : pcV H i 0 [.int .i64 a, .int .u16 b, .int .u32 0, .string ⟨#[]⟩, .int .i64 0, .int .i64 0, .int .i64 0, .int .i64 0, .int .i64 0, .int .i64 0, .int .i64 0, .int .i64 0, .int .i64 0, .int .i64 0, .int .i64 0, .int .i64 0, .int .i64 0, .int .i64 0, .int .i64 0, .int .i64 0, .int .i64 0, .int .i64 0, .int .i64 0, .int .i64 0, .int .i64 0, .int .i64 0] (some (mO m)) = some (H.set i (mO (.new a b))) := mO_pAll (x := .new a b)
theorem new_0 {a b : Int} : (Msg.new a b).c 0 = a := rfl
theorem new_1 {a b : Int} : (Msg.new a b).c 1 = b := rfl
theorem seat_Pan (k : Int) (h0 : 0 ≤ k) (h1 : k < 256) (H : Heap) (ok : Ok H) : ∃ v H', Ca V 17 #[.int .u8 k] H v H' ∧ (∃ s : ByteArray, v = .string s ∧ panOk s = true) ∧ Same H H' [] := by
  refine Ca_run rfl tab_17 rfl ?_
  have hk : 0 ≤ k % 4 ∧ k % 4 < 4 := by omega
  simp (maxSteps := 5000000) (disch := omega) only [Tryd.f17, V_P, SX, W_block, exitW, goInt, Int.reduceEq, setCells, oneOf, cellOk, reduceIte, Nat.reduceLT, Nat.reduceLeDiff, Nat.reduceEqDiff, Nat.reduceAdd, Nat.reduceSub, Nat.reduceMul, Int.reduceToNat, Int.reduceLT, Int.reduceLE, Int.reduceAdd, Int.reduceSub, implies_true, ne_eq, if_true, if_false, reduceCtorEq]
  generalize k % 4 = r at *
  rcases (show r = 0 ∨ r = 1 ∨ r = 2 ∨ r = 3 by omega) with rfl | rfl | rfl | rfl <;> simp (maxSteps := 5000000) (disch := omega) only [V_P, SX, W_block, exitW, goInt, Int.reduceEq, setCells, oneOf, cellOk, reduceIte, Nat.reduceLT, Nat.reduceLeDiff, Nat.reduceEqDiff, Nat.reduceAdd, Nat.reduceSub, Nat.reduceMul, Int.reduceToNat, Int.reduceLT, Int.reduceLE, Int.reduceAdd, Int.reduceSub, implies_true, ne_eq, if_true, if_false, reduceCtorEq] <;> (refine ⟨⟨_, rfl, by decide⟩, ?_⟩; repeat (first | exact Same.same ok | refine Same.push ?_ _ | refine Same.room ?_ _ | (refine Same.make ?_ (by (try simp only [Heap.next_push, Heap.next_set, Heap.next_room]); omega) (by (try simp only [Heap.next_push, Heap.next_set, Heap.next_room]); omega)) | (refine Same.put ?_ (by simp (disch := omega) only [Heap.get_pushH, Heap.get_setH, hite_same, hite_ne, hite_eq, Heap.get_room, Heap.next_push, Heap.next_set, Heap.next_room, Option.isSome_some, *]) (fun z => by first | (simp; done) | (exfalso; (try simp only [Heap.next_push, Heap.next_set, Heap.next_room] at z); omega)))))
theorem panOk_size {s : ByteArray} (h : panOk s = true) : s.size ≤ 19 := by
  unfold panOk at h
  simp only [Bool.and_eq_true, decide_eq_true_eq] at h
  exact h.2.1
theorem right_small {m : Msg} {kk : Int} (hc0 : m.c 0 = kk) (hkr : 1 ≤ kk ∧ kk ≤ 7) (h1 : 0 ≤ m.c 1 ∧ m.c 1 < 65536) (h2 : 0 ≤ m.c 2 ∧ m.c 2 ≤ 999999) (h4 : 0 ≤ m.c 4 ∧ m.c 4 ≤ 1000000) (hk2 : kk ≠ 3 ∨ m.c 2 = 0) (hp : kk = 1 ∧ panOk m.pan = true ∨ kk ≠ 1 ∧ m.pan = S [])
    (hj : ∀ j, 4 ≤ j → j < 26 → (keep kk j = true ∨ m.c j = 0) ∧ (5 ≤ j → 0 ≤ m.c j ∧ m.c j ≤ (if 13 ≤ j ∧ j ≤ 20 then 65535 else 10000))) : m.right = true ∧ m.wf := by
  have hb : ∀ j, 5 ≤ j → j < 26 → 0 ≤ m.c j ∧ m.c j ≤ 65535 ∧ (¬ (13 ≤ j ∧ j ≤ 20) → m.c j ≤ 10000) := fun j a b => by
    have := (hj j (by omega) b).2 a
    refine ⟨this.1, ?_, fun h => ?_⟩
    · split at this <;> omega
    · rw [if_neg h] at this; omega
  refine ⟨(right_iff m).mpr ⟨by rw [hc0]; exact hkr, ?_, ?_, by rw [hc0]; exact hp, ?_⟩, ?_, h1, by omega⟩
  · have := hb 21 (by decide) (by decide)
    omega
  · intro j h1 h3
    rw [hc0]
    rcases (show j = 0 ∨ j = 1 ∨ j = 2 ∨ 4 ≤ j by omega) with rfl | rfl | rfl | h
    · exact .inl rfl
    · exact .inl rfl
    · rcases hk2 with h | h
      · exact .inl (by simp [keep, h])
      · exact .inr h
    · exact (hj j h h1).1
  · intro i hi
    rw [within_iff]
    rcases (show i = 0 ∨ i = 1 ∨ i = 2 ∨ i = 3 ∨ i = 4 by omega) with rfl | rfl | rfl | rfl | rfl
    · have a := hb 5 (by decide) (by decide); have b := hb 6 (by decide) (by decide); have c := hb 7 (by decide) (by decide); have d := hb 8 (by decide) (by decide)
      exact ⟨⟨a.1, a.2.2 (by decide)⟩, ⟨b.1, b.2.2 (by decide)⟩, ⟨c.1, c.2.2 (by decide)⟩, ⟨d.1, d.2.2 (by decide)⟩⟩
    · have a := hb 9 (by decide) (by decide); have b := hb 10 (by decide) (by decide); have c := hb 11 (by decide) (by decide); have d := hb 12 (by decide) (by decide)
      exact ⟨⟨a.1, a.2.2 (by decide)⟩, ⟨b.1, b.2.2 (by decide)⟩, ⟨c.1, c.2.2 (by decide)⟩, ⟨d.1, d.2.2 (by decide)⟩⟩
    · have a := hb 13 (by decide) (by decide); have b := hb 14 (by decide) (by decide); have c := hb 15 (by decide) (by decide); have d := hb 16 (by decide) (by decide)
      have hm : mostG 2 = 2147483647 := rfl
      refine ⟨⟨a.1, ?_⟩, ⟨b.1, ?_⟩, ⟨c.1, ?_⟩, ⟨d.1, ?_⟩⟩ <;> rw [hm]
      · show m.c 13 ≤ _; omega
      · show m.c 14 ≤ _; omega
      · show m.c 15 ≤ _; omega
      · show m.c 16 ≤ _; omega
    · have a := hb 17 (by decide) (by decide); have b := hb 18 (by decide) (by decide); have c := hb 19 (by decide) (by decide); have d := hb 20 (by decide) (by decide)
      have hm : mostG 3 = 2147483647 := rfl
      refine ⟨⟨a.1, ?_⟩, ⟨b.1, ?_⟩, ⟨c.1, ?_⟩, ⟨d.1, ?_⟩⟩ <;> rw [hm]
      · show m.c 17 ≤ _; omega
      · show m.c 18 ≤ _; omega
      · show m.c 19 ≤ _; omega
      · show m.c 20 ≤ _; omega
    · have a := hb 22 (by decide) (by decide); have b := hb 23 (by decide) (by decide); have c := hb 24 (by decide) (by decide); have d := hb 25 (by decide) (by decide)
      exact ⟨⟨a.1, a.2.2 (by decide)⟩, ⟨b.1, b.2.2 (by decide)⟩, ⟨c.1, c.2.2 (by decide)⟩, ⟨d.1, d.2.2 (by decide)⟩⟩
  · rcases hp with ⟨_, h⟩ | ⟨_, h⟩
    · exact Nat.le_trans (panOk_size h) (by decide)
    · rw [h]; decide
theorem seat_Msg (a k st am : Int) (a0 : 0 ≤ a) (a1 : a < 256) (k0 : 0 ≤ k) (k1 : k < 256) (s0 : 0 ≤ st) (s1 : st < 65536) (m0 : 0 ≤ am) (m1 : am < 65536) (H : Heap) (ok : Ok H) :
    ∃ v H', Ca V 8 #[.int .u8 a, .int .u8 k, .int .u16 st, .int .u16 am] H v H' ∧ (∃ m : Msg, v = .agg m.cells.toArray ∧ m.right = true ∧ m.wf) ∧ Same H H' [] := by
  have okn : ∀ a, H.next ≤ a → H.get a = none := ok
  have ha : 0 ≤ a % 7 ∧ a % 7 < 7 := by omega
  have hk3 : 0 ≤ k % 3 ∧ k % 3 < 3 := by omega
  have hk5 : 0 ≤ k % 5 ∧ k % 5 < 5 := by omega
  have hk55 : 0 ≤ k / 5 ∧ k / 5 < 256 := by omega
  have hk555 : 0 ≤ k / 5 % 5 ∧ k / 5 % 5 < 5 := by omega
  have hst3 : 0 ≤ st % 3 ∧ st % 3 < 3 := by omega
  have hst6 : 0 ≤ st % 6 ∧ st % 6 < 6 := by omega
  have ham4 : 0 ≤ am % 4 ∧ am % 4 < 4 := by omega
  have hk33 : 0 ≤ k / 3 ∧ k / 3 < 256 := by omega
  have hk128 : 0 ≤ k / 128 ∧ k / 128 < 2 := by omega
  have hk2 : 0 ≤ k % 2 ∧ k % 2 < 2 := by omega
  refine Ca_run rfl tab_8 rfl ?_
  simp (maxSteps := 5000000) (disch := omega) only [Tryd.f8, MX, mO_b2, new_0, new_1, Msg.cells_length, V_P, SX, W_block, exitW, goInt, Int.reduceEq, setCells, oneOf, cellOk, reduceIte, Nat.reduceLT, Nat.reduceLeDiff, Nat.reduceEqDiff, Nat.reduceAdd, Nat.reduceSub, Nat.reduceMul, Int.reduceToNat, Int.reduceLT, Int.reduceLE, Int.reduceAdd, Int.reduceSub, implies_true, ne_eq, if_true, if_false, reduceCtorEq]
  generalize hkk : a % 7 + 1 = kk at *
  have hkr : 1 ≤ kk ∧ kk ≤ 7 := by omega
  refine cW_merge (fun t H2 => t.get 1 = some (.int .u8 k) ∧ t.get 2 = some (.int .u16 st) ∧ t.get 3 = some (.int .u16 am) ∧ t.get 8 = some (.pointer (some ⟨H.next, 0, none⟩)) ∧ t.get 9 = some (.pointer (some ⟨H.next + 1, 0, none⟩)) ∧ t.get 10 = some (.pointer (some ⟨H.next + 1 + 1, 0, none⟩)) ∧ H2.get H.next = some (mO .zero) ∧ (∃ m : Msg, H2.get (H.next + 1) = some (mO m) ∧ m.pan = S [] ∧ m.c 0 = kk ∧ m.c 1 = k % 3 ∧ m.c 2 = (if kk = 3 then 0 else st % 6) ∧ ∀ j, 3 ≤ j → m.c j = 0) ∧ H2.get (H.next + 1 + 1) = some (.cells [.int .i64 (k % 5), .int .i64 (k / 5 % 5), .int .i64 (st % 3), .int .i64 (am % 4)] 25 false) ∧ Same H H2 [] ∧ H.next + 3 ≤ H2.next) (fun hc => ?_) (fun hc => ?_) ?_
  · have h3 := of_decide_eq_true hc
    simp (maxSteps := 5000000) (disch := omega) only [MX, mO_b2, new_0, new_1, Msg.cells_length, V_P, SX, W_block, exitW, goInt, Int.reduceEq, setCells, oneOf, cellOk, reduceIte, Nat.reduceLT, Nat.reduceLeDiff, Nat.reduceEqDiff, Nat.reduceAdd, Nat.reduceSub, Nat.reduceMul, Int.reduceToNat, Int.reduceLT, Int.reduceLE, Int.reduceAdd, Int.reduceSub, implies_true, ne_eq, if_true, if_false, reduceCtorEq]
    refine ⟨⟨_, rfl, rfl, rfl, rfl, ?_, fun j hj => ?_⟩, by repeat (first | exact Same.same ok | refine Same.push ?_ _ | refine Same.room ?_ _ | (refine Same.make ?_ (by (try simp only [Heap.next_push, Heap.next_set, Heap.next_room]); omega) (by (try simp only [Heap.next_push, Heap.next_set, Heap.next_room]); omega)) | (refine Same.put ?_ (by simp (disch := omega) only [Heap.get_pushH, Heap.get_setH, hite_same, hite_ne, hite_eq, Heap.get_room, Heap.next_push, Heap.next_set, Heap.next_room, Option.isSome_some, *]) (fun z => by first | (simp; done) | (exfalso; (try simp only [Heap.next_push, Heap.next_set, Heap.next_room] at z); omega))))⟩
    · rw [if_neg h3]; rfl
    · show (if j = 2 then _ else if j = 0 then _ else if j = 1 then _ else _) = _
      rw [if_neg (by omega), if_neg (by omega), if_neg (by omega)]
  · have h3 := Decidable.not_not.mp (of_decide_eq_false hc)
    simp (maxSteps := 5000000) (disch := omega) only [MX, mO_b2, new_0, new_1, Msg.cells_length, V_P, SX, W_block, exitW, goInt, Int.reduceEq, setCells, oneOf, cellOk, reduceIte, Nat.reduceLT, Nat.reduceLeDiff, Nat.reduceEqDiff, Nat.reduceAdd, Nat.reduceSub, Nat.reduceMul, Int.reduceToNat, Int.reduceLT, Int.reduceLE, Int.reduceAdd, Int.reduceSub, implies_true, ne_eq, if_true, if_false, reduceCtorEq]
    refine ⟨⟨_, rfl, rfl, rfl, rfl, ?_, fun j hj => ?_⟩, by repeat (first | exact Same.same ok | refine Same.push ?_ _ | refine Same.room ?_ _ | (refine Same.make ?_ (by (try simp only [Heap.next_push, Heap.next_set, Heap.next_room]); omega) (by (try simp only [Heap.next_push, Heap.next_set, Heap.next_room]); omega)) | (refine Same.put ?_ (by simp (disch := omega) only [Heap.get_pushH, Heap.get_setH, hite_same, hite_ne, hite_eq, Heap.get_room, Heap.next_push, Heap.next_set, Heap.next_room, Option.isSome_some, *]) (fun z => by first | (simp; done) | (exfalso; (try simp only [Heap.next_push, Heap.next_set, Heap.next_room] at z); omega))))⟩
    · rw [if_pos h3]; rfl
    · show (if j = 0 then _ else if j = 1 then _ else _) = _
      rw [if_neg (by omega), if_neg (by omega)]
  rintro t H2 ⟨g1, g2, g3, g8, g9, g10, q0, ⟨m, q1, mp, mc0, mc1, mc2, mz⟩, q2, hs2, hn2⟩
  have ok2 := hs2.ok
  have okn2 : ∀ a, H2.next ≤ a → H2.get a = none := ok2
  have hst : 0 ≤ m.c 2 ∧ m.c 2 < 6 := by rw [mc2]; split <;> omega
  have hst3 : m.c 2 = 0 ∨ kk ≠ 3 := by rw [mc2]; split <;> omega
  simp (maxSteps := 5000000) (disch := omega) only [MX, mO_b2, new_0, new_1, Msg.cells_length, g1, g2, g3, g8, g9, g10, q0, q1, q2, mc0, V_P, SX, W_block, exitW, goInt, Int.reduceEq, setCells, oneOf, cellOk, reduceIte, Nat.reduceLT, Nat.reduceLeDiff, Nat.reduceEqDiff, Nat.reduceAdd, Nat.reduceSub, Nat.reduceMul, Int.reduceToNat, Int.reduceLT, Int.reduceLE, Int.reduceAdd, Int.reduceSub, implies_true, ne_eq, if_true, if_false, reduceCtorEq]
  repeat' (first
    | (refine gW_dec (fun h => ?_) (fun h => ?_) <;> simp (maxSteps := 5000000) (disch := omega) only [h, MX, mO_b2, new_0, new_1, Msg.cells_length, g1, g2, g3, g8, g9, g10, q0, q1, q2, mc0, V_P, SX, W_block, exitW, goInt, Int.reduceEq, setCells, oneOf, cellOk, reduceIte, Nat.reduceLT, Nat.reduceLeDiff, Nat.reduceEqDiff, Nat.reduceAdd, Nat.reduceSub, Nat.reduceMul, Int.reduceToNat, Int.reduceLT, Int.reduceLE, Int.reduceAdd, Int.reduceSub, implies_true, ne_eq, if_true, if_false, reduceCtorEq])
    | (refine cW_dec (fun h => ?_) (fun h => ?_) <;> simp (maxSteps := 5000000) (disch := omega) only [h, MX, mO_b2, new_0, new_1, Msg.cells_length, g1, g2, g3, g8, g9, g10, q0, q1, q2, mc0, V_P, SX, W_block, exitW, goInt, Int.reduceEq, setCells, oneOf, cellOk, reduceIte, Nat.reduceLT, Nat.reduceLeDiff, Nat.reduceEqDiff, Nat.reduceAdd, Nat.reduceSub, Nat.reduceMul, Int.reduceToNat, Int.reduceLT, Int.reduceLE, Int.reduceAdd, Int.reduceSub, implies_true, ne_eq, if_true, if_false, reduceCtorEq])
    | (refine gW_bool (fun h => ?_) (fun h => ?_) <;> simp (maxSteps := 5000000) (disch := omega) only [h, MX, mO_b2, new_0, new_1, Msg.cells_length, g1, g2, g3, g8, g9, g10, q0, q1, q2, mc0, V_P, SX, W_block, exitW, goInt, Int.reduceEq, setCells, oneOf, cellOk, reduceIte, Nat.reduceLT, Nat.reduceLeDiff, Nat.reduceEqDiff, Nat.reduceAdd, Nat.reduceSub, Nat.reduceMul, Int.reduceToNat, Int.reduceLT, Int.reduceLE, Int.reduceAdd, Int.reduceSub, implies_true, ne_eq, if_true, if_false, reduceCtorEq])
    | (refine cW_bool (fun h => ?_) (fun h => ?_) <;> simp (maxSteps := 5000000) (disch := omega) only [h, MX, mO_b2, new_0, new_1, Msg.cells_length, g1, g2, g3, g8, g9, g10, q0, q1, q2, mc0, V_P, SX, W_block, exitW, goInt, Int.reduceEq, setCells, oneOf, cellOk, reduceIte, Nat.reduceLT, Nat.reduceLeDiff, Nat.reduceEqDiff, Nat.reduceAdd, Nat.reduceSub, Nat.reduceMul, Int.reduceToNat, Int.reduceLT, Int.reduceLE, Int.reduceAdd, Int.reduceSub, implies_true, ne_eq, if_true, if_false, reduceCtorEq]))
  · refine W_callR rfl (by simp (maxSteps := 5000000) (disch := omega) only [MX, mO_b2, new_0, new_1, Msg.cells_length, g1, g2, g3, g8, g9, g10, q0, q1, q2, mc0, V_P, SX, W_block, exitW, goInt, Int.reduceEq, setCells, oneOf, cellOk, reduceIte, Nat.reduceLT, Nat.reduceLeDiff, Nat.reduceEqDiff, Nat.reduceAdd, Nat.reduceSub, Nat.reduceMul, Int.reduceToNat, Int.reduceLT, Int.reduceLE, Int.reduceAdd, Int.reduceSub, implies_true, ne_eq, if_true, if_false, reduceCtorEq]) (seat_Pan (k / 3) hk33.1 hk33.2 _ ok2) ?_
    rintro v H3 ⟨⟨s, rfl, hps⟩, hs3⟩
    have e0 : H3.get H.next = some (mO .zero) := by rw [hs3.get _ (by omega) (by simp), q0]
    have e1 : H3.get (H.next + 1) = some (mO m) := by rw [hs3.get _ (by omega) (by simp), q1]
    have hs4 : Same H H3 [] := hs2.trans hs3 (by simp)
    simp (maxSteps := 5000000) (disch := omega) only [MX, mO_b2, new_0, new_1, Msg.cells_length, g1, g2, g3, g8, g9, g10, e0, e1, mc0, V_P, SX, W_block, exitW, goInt, Int.reduceEq, setCells, oneOf, cellOk, reduceIte, Nat.reduceLT, Nat.reduceLeDiff, Nat.reduceEqDiff, Nat.reduceAdd, Nat.reduceSub, Nat.reduceMul, Int.reduceToNat, Int.reduceLT, Int.reduceLE, Int.reduceAdd, Int.reduceSub, implies_true, ne_eq, if_true, if_false, reduceCtorEq]
    refine ⟨⟨_, rfl, right_small (kk := kk) mc0 hkr (by show 0 ≤ m.c 1 ∧ m.c 1 < 65536; omega) (by show 0 ≤ m.c 2 ∧ m.c 2 ≤ 999999; omega) ?_ (by show kk ≠ 3 ∨ m.c 2 = 0; omega) ?_ ?_⟩, by repeat (first | exact hs4 | refine Same.push ?_ _ | refine Same.room ?_ _ | (refine Same.make ?_ (by (try simp only [Heap.next_push, Heap.next_set, Heap.next_room]); omega) (by (try simp only [Heap.next_push, Heap.next_set, Heap.next_room]); omega)) | (refine Same.put ?_ (by simp (disch := omega) only [Heap.get_pushH, Heap.get_setH, hite_same, hite_ne, hite_eq, Heap.get_room, Heap.next_push, Heap.next_set, Heap.next_room, Option.isSome_some, *]) (fun z => by first | (simp; done) | (exfalso; (try simp only [Heap.next_push, Heap.next_set, Heap.next_room] at z); omega))))⟩
    · first | (show 0 ≤ m.c 4 ∧ m.c 4 ≤ 1000000; rw [mz 4 (by decide)]; decide) | (show 0 ≤ am ∧ am ≤ 1000000; omega)
    · exact .inl ⟨by omega, hps⟩
    · intro j j1 j2
      have hz := mz j (by omega)
      refine ⟨?_, fun h5 => ?_⟩
      · try simp only [Msg.set4, Msg.set, Msg.setPan]
        repeat' split
        all_goals first
          | exact .inr hz
          | exact .inr rfl
          | (exact .inl (by subst_vars; rfl))
          | (exact .inl (by subst_vars; simp [keep]; omega))
          | (exact .inl (by subst_vars; simp [keep]))
      · try simp only [Msg.set4, Msg.set, Msg.setPan]
        repeat' split
        all_goals omega

  · refine ⟨⟨_, rfl, right_small (kk := kk) mc0 hkr (by show 0 ≤ m.c 1 ∧ m.c 1 < 65536; omega) (by show 0 ≤ m.c 2 ∧ m.c 2 ≤ 999999; omega) ?_ (by show kk ≠ 3 ∨ m.c 2 = 0; omega) ?_ ?_⟩, by repeat (first | exact hs2 | refine Same.push ?_ _ | refine Same.room ?_ _ | (refine Same.make ?_ (by (try simp only [Heap.next_push, Heap.next_set, Heap.next_room]); omega) (by (try simp only [Heap.next_push, Heap.next_set, Heap.next_room]); omega)) | (refine Same.put ?_ (by simp (disch := omega) only [Heap.get_pushH, Heap.get_setH, hite_same, hite_ne, hite_eq, Heap.get_room, Heap.next_push, Heap.next_set, Heap.next_room, Option.isSome_some, *]) (fun z => by first | (simp; done) | (exfalso; (try simp only [Heap.next_push, Heap.next_set, Heap.next_room] at z); omega))))⟩
    · first | (show 0 ≤ m.c 4 ∧ m.c 4 ≤ 1000000; rw [mz 4 (by decide)]; decide) | (show 0 ≤ am ∧ am ≤ 1000000; omega)
    · exact .inr ⟨by omega, mp⟩
    · intro j j1 j2
      have hz := mz j (by omega)
      refine ⟨?_, fun h5 => ?_⟩
      · try simp only [Msg.set4, Msg.set, Msg.setPan]
        repeat' split
        all_goals first
          | exact .inr hz
          | exact .inr rfl
          | (exact .inl (by subst_vars; rfl))
          | (exact .inl (by subst_vars; simp [keep]; omega))
          | (exact .inl (by subst_vars; simp [keep]))
      · try simp only [Msg.set4, Msg.set, Msg.setPan]
        repeat' split
        all_goals omega

  · refine W_drawR [[], [], [1], [], [3], [2, 1, 4, 3], [], [6], [7, 6], [], [9], [10, 9], [], [0], [13, 0], [0, 1, 2, 3, 4, 5, 13, 14], [15, 0, 1, 2, 3, 4, 5, 13, 14], [0, 1, 2, 3, 4, 5, 6, 7, 8, 13, 14, 15, 16], [17, 0, 1, 2, 3, 4, 5, 6, 7, 8, 13, 14, 15, 16], [0, 1, 2, 3, 4, 5, 6, 7, 8, 9, 10, 11, 13, 14, 15, 16, 17, 18], [19, 0, 1, 2, 3, 4, 5, 6, 7, 8, 9, 10, 11, 13, 14, 15, 16, 17, 18], [0, 1, 2, 3, 4, 5, 6, 7, 8, 9, 10, 11, 12, 13, 14, 15, 16, 17, 18, 19, 20], [21, 0, 1, 2, 3, 4, 5, 6, 7, 8, 9, 10, 11, 12, 13, 14, 15, 16, 17, 18, 19, 20]] [0, 13, 14, 1, 2, 3, 4, 5, 15, 16, 6, 7, 8, 17, 18, 9, 10, 11, 19, 20, 12, 21, 22] (by decide +kernel) (by repeat (first | exact ok2 | refine Ok.push ?_ _ | refine Ok.room ?_ _ | (refine Ok.put ?_ _ (by simp (disch := omega) only [Heap.get_pushH, Heap.get_setH, hite_same, hite_ne, hite_eq, Heap.get_room, Heap.next_push, Heap.next_set, Heap.next_room, Option.isSome_some, *])))) ?_
    simp (maxSteps := 5000000) (disch := omega) only [MX, mO_b2, new_0, new_1, Msg.cells_length, g1, g2, g3, g8, g9, g10, q0, q1, q2, mc0, okn2, V_P, SX, W_block, exitW, goInt, Int.reduceEq, setCells, oneOf, cellOk, reduceIte, Nat.reduceLT, Nat.reduceLeDiff, Nat.reduceEqDiff, Nat.reduceAdd, Nat.reduceSub, Nat.reduceMul, Int.reduceToNat, Int.reduceLT, Int.reduceLE, Int.reduceAdd, Int.reduceSub, implies_true, ne_eq, if_true, if_false, reduceCtorEq, DX, Nat.reduceBEq]
    refine ⟨⟨_, rfl, right_small (kk := kk) mc0 hkr (by show 0 ≤ m.c 1 ∧ m.c 1 < 65536; omega) (by show 0 ≤ m.c 2 ∧ m.c 2 ≤ 999999; omega) ?_ (by show kk ≠ 3 ∨ m.c 2 = 0; omega) ?_ ?_⟩, by repeat (first | exact hs2 | refine Same.push ?_ _ | refine Same.room ?_ _ | (refine Same.make ?_ (by (try simp only [Heap.next_push, Heap.next_set, Heap.next_room]); omega) (by (try simp only [Heap.next_push, Heap.next_set, Heap.next_room]); omega)) | (refine Same.put ?_ (by simp (disch := omega) only [Heap.get_pushH, Heap.get_setH, hite_same, hite_ne, hite_eq, Heap.get_room, Heap.next_push, Heap.next_set, Heap.next_room, Option.isSome_some, *]) (fun z => by first | (simp; done) | (exfalso; (try simp only [Heap.next_push, Heap.next_set, Heap.next_room] at z); omega))))⟩
    · first | (show 0 ≤ m.c 4 ∧ m.c 4 ≤ 1000000; rw [mz 4 (by decide)]; decide) | (show 0 ≤ am ∧ am ≤ 1000000; omega)
    · exact .inr ⟨by omega, mp⟩
    · intro j j1 j2
      have hz := mz j (by omega)
      refine ⟨?_, fun h5 => ?_⟩
      · have hk4 : kk = 4 := by omega
        by_cases h4 : j = 4
        · subst h4; exact .inr hz
        · refine .inl ?_
          rw [hk4]
          unfold keep
          rw [if_neg (by omega), if_neg (by omega), if_neg h4]
          split
          · rfl
          · split <;> rfl
      · try simp only [Msg.set4, Msg.set, Msg.setPan]
        repeat' split
        all_goals omega

  · refine ⟨⟨_, rfl, right_small (kk := kk) mc0 hkr (by show 0 ≤ m.c 1 ∧ m.c 1 < 65536; omega) (by show 0 ≤ m.c 2 ∧ m.c 2 ≤ 999999; omega) ?_ (by show kk ≠ 3 ∨ m.c 2 = 0; omega) ?_ ?_⟩, by repeat (first | exact hs2 | refine Same.push ?_ _ | refine Same.room ?_ _ | (refine Same.make ?_ (by (try simp only [Heap.next_push, Heap.next_set, Heap.next_room]); omega) (by (try simp only [Heap.next_push, Heap.next_set, Heap.next_room]); omega)) | (refine Same.put ?_ (by simp (disch := omega) only [Heap.get_pushH, Heap.get_setH, hite_same, hite_ne, hite_eq, Heap.get_room, Heap.next_push, Heap.next_set, Heap.next_room, Option.isSome_some, *]) (fun z => by first | (simp; done) | (exfalso; (try simp only [Heap.next_push, Heap.next_set, Heap.next_room] at z); omega))))⟩
    · first | (show 0 ≤ m.c 4 ∧ m.c 4 ≤ 1000000; rw [mz 4 (by decide)]; decide) | (show 0 ≤ am ∧ am ≤ 1000000; omega)
    · exact .inr ⟨by omega, mp⟩
    · intro j j1 j2
      have hz := mz j (by omega)
      refine ⟨?_, fun h5 => ?_⟩
      · try simp only [Msg.set4, Msg.set, Msg.setPan]
        repeat' split
        all_goals first
          | exact .inr hz
          | exact .inr rfl
          | (exact .inl (by subst_vars; rfl))
          | (exact .inl (by subst_vars; simp [keep]; omega))
          | (exact .inl (by subst_vars; simp [keep]))
      · try simp only [Msg.set4, Msg.set, Msg.setPan]
        repeat' split
        all_goals omega

  · refine ⟨⟨_, rfl, right_small (kk := kk) mc0 hkr (by show 0 ≤ m.c 1 ∧ m.c 1 < 65536; omega) (by show 0 ≤ m.c 2 ∧ m.c 2 ≤ 999999; omega) ?_ (by show kk ≠ 3 ∨ m.c 2 = 0; omega) ?_ ?_⟩, by repeat (first | exact hs2 | refine Same.push ?_ _ | refine Same.room ?_ _ | (refine Same.make ?_ (by (try simp only [Heap.next_push, Heap.next_set, Heap.next_room]); omega) (by (try simp only [Heap.next_push, Heap.next_set, Heap.next_room]); omega)) | (refine Same.put ?_ (by simp (disch := omega) only [Heap.get_pushH, Heap.get_setH, hite_same, hite_ne, hite_eq, Heap.get_room, Heap.next_push, Heap.next_set, Heap.next_room, Option.isSome_some, *]) (fun z => by first | (simp; done) | (exfalso; (try simp only [Heap.next_push, Heap.next_set, Heap.next_room] at z); omega))))⟩
    · first | (show 0 ≤ m.c 4 ∧ m.c 4 ≤ 1000000; rw [mz 4 (by decide)]; decide) | (show 0 ≤ am ∧ am ≤ 1000000; omega)
    · exact .inr ⟨by omega, mp⟩
    · intro j j1 j2
      have hz := mz j (by omega)
      refine ⟨?_, fun h5 => ?_⟩
      · try simp only [Msg.set4, Msg.set, Msg.setPan]
        repeat' split
        all_goals first
          | exact .inr hz
          | exact .inr rfl
          | (exact .inl (by subst_vars; rfl))
          | (exact .inl (by subst_vars; simp [keep]; omega))
          | (exact .inl (by subst_vars; simp [keep]))
      · try simp only [Msg.set4, Msg.set, Msg.setPan]
        repeat' split
        all_goals omega

end Go.B.YteigefgobkdmgaaDoor
