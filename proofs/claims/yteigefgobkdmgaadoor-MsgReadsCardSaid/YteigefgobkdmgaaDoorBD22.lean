import Derived.Test.YteigefgobkdmgaaDoorBD14
import Derived.Lib.AtoiAllCases
/- A message with something that is no part of it, or out of range, is refused by both. -/
namespace Go.B.YteigefgobkdmgaaDoor
open Go Go.B Go.Proofs
set_option maxRecDepth 100000
set_option maxHeartbeats 16000000
set_option linter.unusedSimpArgs false
set_option linter.unusedVariables false
theorem seat_Digits (n k : Int) (n0 : 0 ≤ n) (n1 : n ≤ 18446744073709551615) (k0 : 0 ≤ k) (k1 : k ≤ 25) (H : Heap) (ok : Ok H) :
    ∃ v H', Ca V 16 #[.int .u64 n, .int .i64 k] H v H' ∧ (∃ s : ByteArray, v = .string s ∧ s.size ≤ 1000) ∧ Same H H' [] := by
  refine Ca_run rfl tab_16 rfl ?_
  simp (maxSteps := 5000000) (disch := omega) only [Tryd.f16, V_P, SX, W_block, exitW, goInt, Int.reduceEq, setCells, oneOf, cellOk, reduceIte, Nat.reduceLT, Nat.reduceLeDiff, Nat.reduceEqDiff, Nat.reduceAdd, Nat.reduceSub, Nat.reduceMul, Int.reduceToNat, Int.reduceLT, Int.reduceLE, Int.reduceAdd, Int.reduceSub, implies_true, ne_eq, if_true, if_false, reduceCtorEq]
  refine W_for (fun (i : Nat) t H2 => ∃ (n : Int) (s : ByteArray), t.get 0 = some (.int .u64 n) ∧ 0 ≤ n ∧ n ≤ 18446744073709551615 ∧ t.get 1 = some (.int .i64 k) ∧ t.get 5 = some (.string s) ∧ s.size ≤ 20 * i ∧ t.get 6 = some (.int .i64 i) ∧ (i : Int) ≤ k ∧ Same H H2 []) (fun i => k.toNat - i) 0 ?_ ?_
  · simp (maxSteps := 5000000) (disch := omega) only [V_P, SX, W_block, exitW, goInt, Int.reduceEq, setCells, oneOf, cellOk, reduceIte, Nat.reduceLT, Nat.reduceLeDiff, Nat.reduceEqDiff, Nat.reduceAdd, Nat.reduceSub, Nat.reduceMul, Int.reduceToNat, Int.reduceLT, Int.reduceLE, Int.reduceAdd, Int.reduceSub, implies_true, ne_eq, if_true, if_false, reduceCtorEq]
    exact ⟨n, S [], rfl, n0, n1, rfl, Nat.zero_le _, rfl, k0, Same.refl ok⟩
  rintro i t H2 ⟨n, s, g0, n0, n1, g1, g5, hsz, g6, hi, hs⟩
  have ok2 := hs.ok
  simp (maxSteps := 5000000) (disch := omega) only [g0, g1, g5, g6, V_P, SX, W_block, exitW, goInt, Int.reduceEq, setCells, oneOf, cellOk, reduceIte, Nat.reduceLT, Nat.reduceLeDiff, Nat.reduceEqDiff, Nat.reduceAdd, Nat.reduceSub, Nat.reduceMul, Int.reduceToNat, Int.reduceLT, Int.reduceLE, Int.reduceAdd, Int.reduceSub, implies_true, ne_eq, if_true, if_false, reduceCtorEq]
  refine cW_dec (fun hlt => ?_) (fun hlt => ?_)
  rotate_left
  · simp (maxSteps := 5000000) (disch := omega) only [g0, g1, g5, g6, V_P, SX, W_block, exitW, goInt, Int.reduceEq, setCells, oneOf, cellOk, reduceIte, Nat.reduceLT, Nat.reduceLeDiff, Nat.reduceEqDiff, Nat.reduceAdd, Nat.reduceSub, Nat.reduceMul, Int.reduceToNat, Int.reduceLT, Int.reduceLE, Int.reduceAdd, Int.reduceSub, implies_true, ne_eq, if_true, if_false, reduceCtorEq]
    exact ⟨⟨s, rfl, by omega⟩, hs⟩
  have hm : 0 ≤ n % 10 ∧ n % 10 < 10 := by omega
  have hd : 0 ≤ n / 7 ∧ n / 7 ≤ 18446744073709551615 := by omega
  simp (maxSteps := 5000000) (disch := omega) only [g0, g1, g5, g6, V_P, SX, W_block, exitW, goInt, Int.reduceEq, setCells, oneOf, cellOk, reduceIte, Nat.reduceLT, Nat.reduceLeDiff, Nat.reduceEqDiff, Nat.reduceAdd, Nat.reduceSub, Nat.reduceMul, Int.reduceToNat, Int.reduceLT, Int.reduceLE, Int.reduceAdd, Int.reduceSub, implies_true, ne_eq, if_true, if_false, reduceCtorEq]
  refine W_callR rfl (by simp (maxSteps := 5000000) (disch := omega) only [g0, g1, g5, g6, V_P, SX, W_block, exitW, goInt, Int.reduceEq, setCells, oneOf, cellOk, reduceIte, Nat.reduceLT, Nat.reduceLeDiff, Nat.reduceEqDiff, Nat.reduceAdd, Nat.reduceSub, Nat.reduceMul, Int.reduceToNat, Int.reduceLT, Int.reduceLE, Int.reduceAdd, Int.reduceSub, implies_true, ne_eq, if_true, if_false, reduceCtorEq]) (ref_DecI (v := n % 10) hm.1 (by omega) _ ok2) ?_
  rintro v H3 ⟨rfl, hs3⟩
  have hl : (txt (n % 10)).size ≤ 20 := by rw [U_size]; exact itoa_len ⟨by omega, by omega⟩
  have hcat := fun (H : Heap) (x y : Operand) => binV_sadd (P := Tryd.prog) (H := H) (t := 9) (x := x) (y := y) (a := s) (b := txt (n % 10)) (by omega)
  simp (maxSteps := 5000000) (disch := omega) only [g0, g1, g5, g6, hcat, V_P, SX, W_block, exitW, goInt, Int.reduceEq, setCells, oneOf, cellOk, reduceIte, Nat.reduceLT, Nat.reduceLeDiff, Nat.reduceEqDiff, Nat.reduceAdd, Nat.reduceSub, Nat.reduceMul, Int.reduceToNat, Int.reduceLT, Int.reduceLE, Int.reduceAdd, Int.reduceSub, implies_true, ne_eq, if_true, if_false, reduceCtorEq]
  refine ⟨i + 1, ⟨n / 7, s ++ txt (n % 10), rfl, hd.1, hd.2, rfl, ?_, by simp, by omega, hs.trans hs3 (by simp)⟩, by omega⟩
  rw [ByteArray.size_append]; omega
theorem mO_put {m : Msg} {r v : Int} (H : Heap) (i g n : Nat) (hg : g = 5 ∨ g = 9 ∨ g = 13 ∨ g = 17 ∨ g = 22) (hn : n < 4) : pcV H i (g + n) [.int .i64 v] (some (mO m)) = some (H.set i (mO (m.set (g + n) v))) := by
  rcases hg with rfl | rfl | rfl | rfl | rfl <;> rcases (show n = 0 ∨ n = 1 ∨ n = 2 ∨ n = 3 by omega) with rfl | rfl | rfl | rfl <;> rfl
theorem wf_set {m : Msg} (h : m.wf) {i : Nat} {v : Int} (h1 : i ≠ 1) (h2 : i ≠ 2) : (m.set i v).wf := ⟨h.pan, by rw [set_ne (Ne.symm h1)]; exact h.term, by rw [set_ne (Ne.symm h2)]; exact h.stan⟩
theorem wrap_u64e (n : Int) : IntKind.wrap .u64 n = n % 18446744073709551616 := by
  have e : (2 : Int) ^ IntKind.u64.bits = 18446744073709551616 := by decide
  simp only [IntKind.wrap, e, IntKind.signed, Bool.false_and, Bool.false_eq_true, if_false]
theorem cv_nil {H : Heap} : cvV Tryd.prog H 31 9 (.slice none 0 0) = some (.val (.string (S [])) H) := cvV_bytes un_31 un_9 u8_5 (l := []) rfl rfl
theorem law_fields (a k st am what v : Int) (a0 : 0 ≤ a ∧ a < 256) (k0 : 0 ≤ k ∧ k < 256) (s0 : 0 ≤ st ∧ st < 65536) (am0 : 0 ≤ am ∧ am < 65536) (w0 : 0 ≤ what ∧ what < 256) (v0 : -9223372036854775808 ≤ v ∧ v ≤ 9223372036854775807) (H : Heap) (ok : Ok H) :
    ∃ v' H', Ca V 5 #[.int .u8 a, .int .u8 k, .int .u16 st, .int .u16 am, .int .u8 what, .int .i64 v] H v' H' ∧ v' = .bool true := by
  obtain ⟨r, hr⟩ : ∃ r : Nat, what / 12 % 4 = (r : Int) := ⟨(what / 12 % 4).toNat, by omega⟩
  have hr4 : r < 4 := by omega
  have hw12 : 0 ≤ what % 12 ∧ what % 12 < 12 := by omega
  have hw25 : 0 ≤ what % 25 ∧ what % 25 < 25 := by omega
  refine Ca_run rfl tab_5 rfl ?_
  simp (maxSteps := 5000000) (disch := omega) only [Tryd.f5, V_P, SX, W_block, exitW, goInt, Int.reduceEq, setCells, oneOf, cellOk, reduceIte, Nat.reduceLT, Nat.reduceLeDiff, Nat.reduceEqDiff, Nat.reduceAdd, Nat.reduceSub, Nat.reduceMul, Int.reduceToNat, Int.reduceLT, Int.reduceLE, Int.reduceAdd, Int.reduceSub, implies_true, ne_eq, if_true, if_false, reduceCtorEq]
  refine W_callR rfl (by simp (maxSteps := 5000000) (disch := omega) only [V_P, SX, W_block, exitW, goInt, Int.reduceEq, setCells, oneOf, cellOk, reduceIte, Nat.reduceLT, Nat.reduceLeDiff, Nat.reduceEqDiff, Nat.reduceAdd, Nat.reduceSub, Nat.reduceMul, Int.reduceToNat, Int.reduceLT, Int.reduceLE, Int.reduceAdd, Int.reduceSub, implies_true, ne_eq, if_true, if_false, reduceCtorEq]) (Ca_is (c_known _)) ?_
  rintro v' H1 ⟨rfl, rfl⟩
  simp (maxSteps := 5000000) (disch := omega) only [V_P, SX, W_block, exitW, goInt, Int.reduceEq, setCells, oneOf, cellOk, reduceIte, Nat.reduceLT, Nat.reduceLeDiff, Nat.reduceEqDiff, Nat.reduceAdd, Nat.reduceSub, Nat.reduceMul, Int.reduceToNat, Int.reduceLT, Int.reduceLE, Int.reduceAdd, Int.reduceSub, implies_true, ne_eq, if_true, if_false, reduceCtorEq]
  refine W_callR rfl (by simp (maxSteps := 5000000) (disch := omega) only [V_P, SX, W_block, exitW, goInt, Int.reduceEq, setCells, oneOf, cellOk, reduceIte, Nat.reduceLT, Nat.reduceLeDiff, Nat.reduceEqDiff, Nat.reduceAdd, Nat.reduceSub, Nat.reduceMul, Int.reduceToNat, Int.reduceLT, Int.reduceLE, Int.reduceAdd, Int.reduceSub, implies_true, ne_eq, if_true, if_false, reduceCtorEq]) (seat_Msg a k st am a0.1 a0.2 k0.1 k0.2 s0.1 s0.2 am0.1 am0.2 _ ok) ?_
  rintro v' H1 ⟨⟨x, rfl, rx, wx⟩, hs1⟩
  have ok1 := hs1.ok
  simp (maxSteps := 5000000) (disch := omega) only [MX, Msg.cells_length, V_P, SX, exitW, goInt, Int.reduceEq, setCells, oneOf, cellOk, reduceIte, Nat.reduceLT, Nat.reduceLeDiff, Nat.reduceEqDiff, Nat.reduceAdd, Nat.reduceSub, Nat.reduceMul, Int.reduceToNat, Int.reduceLT, Int.reduceLE, Int.reduceAdd, Int.reduceSub, implies_true, ne_eq, if_true, if_false, reduceCtorEq]
  refine W_cutL [_] (fun t H2 => ∃ m : Msg, t.get 13 = some (.pointer (some ⟨H1.next, 0, none⟩)) ∧ H2.get H1.next = some (mO m) ∧ m.wf ∧ Same H1 H2 [] ∧ H1.next < H2.next) ?_ ?_
  · have hp5 := fun (H : Heap) (i : Nat) (m : Msg) (v : Int) => mO_put (m := m) (r := 0) (v := v) H i 5 r (.inl rfl) hr4
    have hp9 := fun (H : Heap) (i : Nat) (m : Msg) (v : Int) => mO_put (m := m) (r := 0) (v := v) H i 9 r (.inr (.inl rfl)) hr4
    have hp13 := fun (H : Heap) (i : Nat) (m : Msg) (v : Int) => mO_put (m := m) (r := 0) (v := v) H i 13 r (.inr (.inr (.inl rfl))) hr4
    have hp17 := fun (H : Heap) (i : Nat) (m : Msg) (v : Int) => mO_put (m := m) (r := 0) (v := v) H i 17 r (.inr (.inr (.inr (.inl rfl)))) hr4
    have hp22 := fun (H : Heap) (i : Nat) (m : Msg) (v : Int) => mO_put (m := m) (r := 0) (v := v) H i 22 r (.inr (.inr (.inr (.inr rfl)))) hr4
    simp (maxSteps := 5000000) (disch := omega) only [MX, Msg.cells_length, hr, hp5, hp9, hp13, hp17, hp22, mO_p5, V_P, SX, W_block, exitW, goInt, Int.reduceEq, setCells, oneOf, cellOk, reduceIte, Nat.reduceLT, Nat.reduceLeDiff, Nat.reduceEqDiff, Nat.reduceAdd, Nat.reduceSub, Nat.reduceMul, Int.reduceToNat, Int.reduceLT, Int.reduceLE, Int.reduceAdd, Int.reduceSub, implies_true, ne_eq, if_true, if_false, reduceCtorEq]
    repeat' (first
    | (refine gW_dec (fun h => ?_) (fun h => ?_) <;> simp (maxSteps := 5000000) (disch := omega) only [h, MX, Msg.cells_length, hr, hp5, hp9, hp13, hp17, hp22, mO_p5, V_P, SX, W_block, exitW, goInt, Int.reduceEq, setCells, oneOf, cellOk, reduceIte, Nat.reduceLT, Nat.reduceLeDiff, Nat.reduceEqDiff, Nat.reduceAdd, Nat.reduceSub, Nat.reduceMul, Int.reduceToNat, Int.reduceLT, Int.reduceLE, Int.reduceAdd, Int.reduceSub, implies_true, ne_eq, if_true, if_false, reduceCtorEq])
    | (refine cW_dec (fun h => ?_) (fun h => ?_) <;> simp (maxSteps := 5000000) (disch := omega) only [h, MX, Msg.cells_length, hr, hp5, hp9, hp13, hp17, hp22, mO_p5, V_P, SX, W_block, exitW, goInt, Int.reduceEq, setCells, oneOf, cellOk, reduceIte, Nat.reduceLT, Nat.reduceLeDiff, Nat.reduceEqDiff, Nat.reduceAdd, Nat.reduceSub, Nat.reduceMul, Int.reduceToNat, Int.reduceLT, Int.reduceLE, Int.reduceAdd, Int.reduceSub, implies_true, ne_eq, if_true, if_false, reduceCtorEq])
    | (refine gW_bool (fun h => ?_) (fun h => ?_) <;> simp (maxSteps := 5000000) (disch := omega) only [h, MX, Msg.cells_length, hr, hp5, hp9, hp13, hp17, hp22, mO_p5, V_P, SX, W_block, exitW, goInt, Int.reduceEq, setCells, oneOf, cellOk, reduceIte, Nat.reduceLT, Nat.reduceLeDiff, Nat.reduceEqDiff, Nat.reduceAdd, Nat.reduceSub, Nat.reduceMul, Int.reduceToNat, Int.reduceLT, Int.reduceLE, Int.reduceAdd, Int.reduceSub, implies_true, ne_eq, if_true, if_false, reduceCtorEq])
    | (refine cW_bool (fun h => ?_) (fun h => ?_) <;> simp (maxSteps := 5000000) (disch := omega) only [h, MX, Msg.cells_length, hr, hp5, hp9, hp13, hp17, hp22, mO_p5, V_P, SX, W_block, exitW, goInt, Int.reduceEq, setCells, oneOf, cellOk, reduceIte, Nat.reduceLT, Nat.reduceLeDiff, Nat.reduceEqDiff, Nat.reduceAdd, Nat.reduceSub, Nat.reduceMul, Int.reduceToNat, Int.reduceLT, Int.reduceLE, Int.reduceAdd, Int.reduceSub, implies_true, ne_eq, if_true, if_false, reduceCtorEq]))
    · refine ⟨_, rfl, ⟨wx.pan, by rw [set_ne (by decide)]; exact wx.term, ?_⟩, by repeat (first | exact Same.refl ok1 | refine Same.push ?_ _ | refine Same.room ?_ _ | (refine Same.make ?_ (by (try simp only [Heap.next_push, Heap.next_set, Heap.next_room]); omega) (by (try simp only [Heap.next_push, Heap.next_set, Heap.next_room]); omega)) | (refine Same.put ?_ (by simp (disch := omega) only [Heap.get_pushH, Heap.get_setH, hite_same, hite_ne, hite_eq, Heap.get_room, Heap.next_push, Heap.next_set, Heap.next_room, Option.isSome_some, *]) (fun z => by first | (simp; done) | (exfalso; (try simp only [Heap.next_push, Heap.next_set, Heap.next_room] at z); omega)))), Nat.lt_succ_self _⟩
      rw [set_eq, wrap_u32e]; omega
    · have hwr : 0 ≤ IntKind.wrap .u64 v ∧ IntKind.wrap .u64 v ≤ 18446744073709551615 := by rw [wrap_u64e]; omega
      generalize hwv : IntKind.wrap .u64 v = wv at hwr
      refine W_callR rfl (by simp (maxSteps := 5000000) (disch := omega) only [MX, Msg.cells_length, hwv, V_P, SX, W_block, exitW, goInt, Int.reduceEq, setCells, oneOf, cellOk, reduceIte, Nat.reduceLT, Nat.reduceLeDiff, Nat.reduceEqDiff, Nat.reduceAdd, Nat.reduceSub, Nat.reduceMul, Int.reduceToNat, Int.reduceLT, Int.reduceLE, Int.reduceAdd, Int.reduceSub, implies_true, ne_eq, if_true, if_false, reduceCtorEq]) (seat_Digits wv (what % 25) hwr.1 hwr.2 hw25.1 (by omega) _ (by repeat (first | exact ok1 | refine Ok.push ?_ _ | refine Ok.room ?_ _ | (refine Ok.put ?_ _ (by simp (disch := omega) only [Heap.get_pushH, Heap.get_setH, hite_same, hite_ne, hite_eq, Heap.get_room, Heap.next_push, Heap.next_set, Heap.next_room, Option.isSome_some, *]))))) ?_
      rintro v' H2 ⟨⟨s, rfl, hsl⟩, hs2⟩
      have e1 : H2.get H1.next = some (mO x) := by
        rw [hs2.get _ (by simp only [Heap.next_set, Heap.next_push]; omega) (by simp)]
        simp only [Heap.get_set, if_true]
      have hn2 := hs2.le
      simp only [Heap.next_set, Heap.next_push] at hn2
      have hs3 : Same H1 H2 [] := (by repeat (first | exact Same.refl ok1 | refine Same.push ?_ _ | refine Same.room ?_ _ | (refine Same.make ?_ (by (try simp only [Heap.next_push, Heap.next_set, Heap.next_room]); omega) (by (try simp only [Heap.next_push, Heap.next_set, Heap.next_room]); omega)) | (refine Same.put ?_ (by simp (disch := omega) only [Heap.get_pushH, Heap.get_setH, hite_same, hite_ne, hite_eq, Heap.get_room, Heap.next_push, Heap.next_set, Heap.next_room, Option.isSome_some, *]) (fun z => by first | (simp; done) | (exfalso; (try simp only [Heap.next_push, Heap.next_set, Heap.next_room] at z); omega)))) : Same H1 ((H1.push (mO .zero)).set H1.next (mO x)) []).trans hs2 (by simp)
      simp (maxSteps := 5000000) (disch := omega) only [MX, Msg.cells_length, e1, hwv, V_P, SX, W_block, exitW, goInt, Int.reduceEq, setCells, oneOf, cellOk, reduceIte, Nat.reduceLT, Nat.reduceLeDiff, Nat.reduceEqDiff, Nat.reduceAdd, Nat.reduceSub, Nat.reduceMul, Int.reduceToNat, Int.reduceLT, Int.reduceLE, Int.reduceAdd, Int.reduceSub, implies_true, ne_eq, if_true, if_false, reduceCtorEq]
      exact ⟨_, rfl, ⟨Nat.le_trans hsl (by decide), wx.term, wx.stan⟩, by repeat (first | exact hs3 | refine Same.push ?_ _ | refine Same.room ?_ _ | (refine Same.make ?_ (by (try simp only [Heap.next_push, Heap.next_set, Heap.next_room]); omega) (by (try simp only [Heap.next_push, Heap.next_set, Heap.next_room]); omega)) | (refine Same.put ?_ (by simp (disch := omega) only [Heap.get_pushH, Heap.get_setH, hite_same, hite_ne, hite_eq, Heap.get_room, Heap.next_push, Heap.next_set, Heap.next_room, Option.isSome_some, *]) (fun z => by first | (simp; done) | (exfalso; (try simp only [Heap.next_push, Heap.next_set, Heap.next_room] at z); omega)))), by omega⟩
    · exact ⟨_, rfl, wf_set wx (by omega) (by omega), by repeat (first | exact Same.refl ok1 | refine Same.push ?_ _ | refine Same.room ?_ _ | (refine Same.make ?_ (by (try simp only [Heap.next_push, Heap.next_set, Heap.next_room]); omega) (by (try simp only [Heap.next_push, Heap.next_set, Heap.next_room]); omega)) | (refine Same.put ?_ (by simp (disch := omega) only [Heap.get_pushH, Heap.get_setH, hite_same, hite_ne, hite_eq, Heap.get_room, Heap.next_push, Heap.next_set, Heap.next_room, Option.isSome_some, *]) (fun z => by first | (simp; done) | (exfalso; (try simp only [Heap.next_push, Heap.next_set, Heap.next_room] at z); omega)))), Nat.lt_succ_self _⟩
    · exact ⟨_, rfl, wf_set wx (by omega) (by omega), by repeat (first | exact Same.refl ok1 | refine Same.push ?_ _ | refine Same.room ?_ _ | (refine Same.make ?_ (by (try simp only [Heap.next_push, Heap.next_set, Heap.next_room]); omega) (by (try simp only [Heap.next_push, Heap.next_set, Heap.next_room]); omega)) | (refine Same.put ?_ (by simp (disch := omega) only [Heap.get_pushH, Heap.get_setH, hite_same, hite_ne, hite_eq, Heap.get_room, Heap.next_push, Heap.next_set, Heap.next_room, Option.isSome_some, *]) (fun z => by first | (simp; done) | (exfalso; (try simp only [Heap.next_push, Heap.next_set, Heap.next_room] at z); omega)))), Nat.lt_succ_self _⟩
    · exact ⟨_, rfl, wf_set wx (by omega) (by omega), by repeat (first | exact Same.refl ok1 | refine Same.push ?_ _ | refine Same.room ?_ _ | (refine Same.make ?_ (by (try simp only [Heap.next_push, Heap.next_set, Heap.next_room]); omega) (by (try simp only [Heap.next_push, Heap.next_set, Heap.next_room]); omega)) | (refine Same.put ?_ (by simp (disch := omega) only [Heap.get_pushH, Heap.get_setH, hite_same, hite_ne, hite_eq, Heap.get_room, Heap.next_push, Heap.next_set, Heap.next_room, Option.isSome_some, *]) (fun z => by first | (simp; done) | (exfalso; (try simp only [Heap.next_push, Heap.next_set, Heap.next_room] at z); omega)))), Nat.lt_succ_self _⟩
    · exact ⟨_, rfl, wf_set wx (by omega) (by omega), by repeat (first | exact Same.refl ok1 | refine Same.push ?_ _ | refine Same.room ?_ _ | (refine Same.make ?_ (by (try simp only [Heap.next_push, Heap.next_set, Heap.next_room]); omega) (by (try simp only [Heap.next_push, Heap.next_set, Heap.next_room]); omega)) | (refine Same.put ?_ (by simp (disch := omega) only [Heap.get_pushH, Heap.get_setH, hite_same, hite_ne, hite_eq, Heap.get_room, Heap.next_push, Heap.next_set, Heap.next_room, Option.isSome_some, *]) (fun z => by first | (simp; done) | (exfalso; (try simp only [Heap.next_push, Heap.next_set, Heap.next_room] at z); omega)))), Nat.lt_succ_self _⟩
    · exact ⟨_, rfl, wf_set wx (by omega) (by omega), by repeat (first | exact Same.refl ok1 | refine Same.push ?_ _ | refine Same.room ?_ _ | (refine Same.make ?_ (by (try simp only [Heap.next_push, Heap.next_set, Heap.next_room]); omega) (by (try simp only [Heap.next_push, Heap.next_set, Heap.next_room]); omega)) | (refine Same.put ?_ (by simp (disch := omega) only [Heap.get_pushH, Heap.get_setH, hite_same, hite_ne, hite_eq, Heap.get_room, Heap.next_push, Heap.next_set, Heap.next_room, Option.isSome_some, *]) (fun z => by first | (simp; done) | (exfalso; (try simp only [Heap.next_push, Heap.next_set, Heap.next_room] at z); omega)))), Nat.lt_succ_self _⟩
    · exact ⟨_, rfl, wf_set wx (by omega) (by omega), by repeat (first | exact Same.refl ok1 | refine Same.push ?_ _ | refine Same.room ?_ _ | (refine Same.make ?_ (by (try simp only [Heap.next_push, Heap.next_set, Heap.next_room]); omega) (by (try simp only [Heap.next_push, Heap.next_set, Heap.next_room]); omega)) | (refine Same.put ?_ (by simp (disch := omega) only [Heap.get_pushH, Heap.get_setH, hite_same, hite_ne, hite_eq, Heap.get_room, Heap.next_push, Heap.next_set, Heap.next_room, Option.isSome_some, *]) (fun z => by first | (simp; done) | (exfalso; (try simp only [Heap.next_push, Heap.next_set, Heap.next_room] at z); omega)))), Nat.lt_succ_self _⟩
    · exact ⟨_, rfl, wf_set wx (by omega) (by omega), by repeat (first | exact Same.refl ok1 | refine Same.push ?_ _ | refine Same.room ?_ _ | (refine Same.make ?_ (by (try simp only [Heap.next_push, Heap.next_set, Heap.next_room]); omega) (by (try simp only [Heap.next_push, Heap.next_set, Heap.next_room]); omega)) | (refine Same.put ?_ (by simp (disch := omega) only [Heap.get_pushH, Heap.get_setH, hite_same, hite_ne, hite_eq, Heap.get_room, Heap.next_push, Heap.next_set, Heap.next_room, Option.isSome_some, *]) (fun z => by first | (simp; done) | (exfalso; (try simp only [Heap.next_push, Heap.next_set, Heap.next_room] at z); omega)))), Nat.lt_succ_self _⟩
    · exact ⟨_, rfl, wf_set wx (by omega) (by omega), by repeat (first | exact Same.refl ok1 | refine Same.push ?_ _ | refine Same.room ?_ _ | (refine Same.make ?_ (by (try simp only [Heap.next_push, Heap.next_set, Heap.next_room]); omega) (by (try simp only [Heap.next_push, Heap.next_set, Heap.next_room]); omega)) | (refine Same.put ?_ (by simp (disch := omega) only [Heap.get_pushH, Heap.get_setH, hite_same, hite_ne, hite_eq, Heap.get_room, Heap.next_push, Heap.next_set, Heap.next_room, Option.isSome_some, *]) (fun z => by first | (simp; done) | (exfalso; (try simp only [Heap.next_push, Heap.next_set, Heap.next_room] at z); omega)))), Nat.lt_succ_self _⟩
    · exact ⟨_, rfl, ⟨(by show 3 ≤ maxLen; decide), wx.term, wx.stan⟩, by repeat (first | exact Same.refl ok1 | refine Same.push ?_ _ | refine Same.room ?_ _ | (refine Same.make ?_ (by (try simp only [Heap.next_push, Heap.next_set, Heap.next_room]); omega) (by (try simp only [Heap.next_push, Heap.next_set, Heap.next_room]); omega)) | (refine Same.put ?_ (by simp (disch := omega) only [Heap.get_pushH, Heap.get_setH, hite_same, hite_ne, hite_eq, Heap.get_room, Heap.next_push, Heap.next_set, Heap.next_room, Option.isSome_some, *]) (fun z => by first | (simp; done) | (exfalso; (try simp only [Heap.next_push, Heap.next_set, Heap.next_room] at z); omega)))), Nat.lt_succ_self _⟩
    · exact ⟨_, rfl, wf_set wx (by omega) (by omega), by repeat (first | exact Same.refl ok1 | refine Same.push ?_ _ | refine Same.room ?_ _ | (refine Same.make ?_ (by (try simp only [Heap.next_push, Heap.next_set, Heap.next_room]); omega) (by (try simp only [Heap.next_push, Heap.next_set, Heap.next_room]); omega)) | (refine Same.put ?_ (by simp (disch := omega) only [Heap.get_pushH, Heap.get_setH, hite_same, hite_ne, hite_eq, Heap.get_room, Heap.next_push, Heap.next_set, Heap.next_room, Option.isSome_some, *]) (fun z => by first | (simp; done) | (exfalso; (try simp only [Heap.next_push, Heap.next_set, Heap.next_room] at z); omega)))), Nat.lt_succ_self _⟩
  rintro t H2 ⟨m, g13, q13, wm, hs2, hn2⟩
  have ok2 := hs2.ok
  simp (maxSteps := 5000000) (disch := omega) only [MX, Msg.cells_length, g13, q13, V_P, SX, W_block, exitW, goInt, Int.reduceEq, setCells, oneOf, cellOk, reduceIte, Nat.reduceLT, Nat.reduceLeDiff, Nat.reduceEqDiff, Nat.reduceAdd, Nat.reduceSub, Nat.reduceMul, Int.reduceToNat, Int.reduceLT, Int.reduceLE, Int.reduceAdd, Int.reduceSub, implies_true, ne_eq, if_true, if_false, reduceCtorEq]
  refine W_callR rfl (by simp (maxSteps := 5000000) (disch := omega) only [MX, Msg.cells_length, g13, q13, V_P, SX, W_block, exitW, goInt, Int.reduceEq, setCells, oneOf, cellOk, reduceIte, Nat.reduceLT, Nat.reduceLeDiff, Nat.reduceEqDiff, Nat.reduceAdd, Nat.reduceSub, Nat.reduceMul, Int.reduceToNat, Int.reduceLT, Int.reduceLE, Int.reduceAdd, Int.reduceSub, implies_true, ne_eq, if_true, if_false, reduceCtorEq]) (ndc_Put m _ ok2 wm) ?_
  rintro v1 H3 ⟨hf3, ht3, hs3⟩
  have q3 : H3.get H1.next = some (mO m) := by rw [hs3.get _ hn2 (by simp), q13]
  have hn3 := hs3.le
  obtain ⟨b1, n1, c1, e1, rfl, hb1⟩ : ∃ (b1 : Option Addr) (n1 c1 : Nat) (e1 : Int), v1 = .tuple #[.slice b1 n1 c1, .int .i64 e1] ∧ (m.right = false ∧ b1 = none ∧ n1 = 0 ∧ c1 = 0 ∧ e1 = 27 ∨ m.right = true ∧ e1 = 0 ∧ ∃ i, b1 = some ⟨i, 0, none⟩ ∧ n1 = m.bytes.length ∧ c1 = capU ∧ H3.get i = some (.cells (bytesV m.bytes) 5 false)) := by
    cases hr : m.right
    · exact ⟨none, 0, 0, 27, hf3 hr, .inl ⟨rfl, rfl, rfl, rfl, rfl⟩⟩
    · obtain ⟨i, _, h1, h2⟩ := ht3 hr
      exact ⟨_, _, _, 0, h1, .inr ⟨rfl, rfl, i, rfl, rfl, rfl, h2⟩⟩
  simp (maxSteps := 5000000) (disch := omega) only [MX, Msg.cells_length, g13, q3, V_P, SX, W_block, exitW, goInt, Int.reduceEq, setCells, oneOf, cellOk, reduceIte, Nat.reduceLT, Nat.reduceLeDiff, Nat.reduceEqDiff, Nat.reduceAdd, Nat.reduceSub, Nat.reduceMul, Int.reduceToNat, Int.reduceLT, Int.reduceLE, Int.reduceAdd, Int.reduceSub, implies_true, ne_eq, if_true, if_false, reduceCtorEq]
  refine W_callR rfl (by simp (maxSteps := 5000000) (disch := omega) only [MX, Msg.cells_length, g13, q3, V_P, SX, W_block, exitW, goInt, Int.reduceEq, setCells, oneOf, cellOk, reduceIte, Nat.reduceLT, Nat.reduceLeDiff, Nat.reduceEqDiff, Nat.reduceAdd, Nat.reduceSub, Nat.reduceMul, Int.reduceToNat, Int.reduceLT, Int.reduceLE, Int.reduceAdd, Int.reduceSub, implies_true, ne_eq, if_true, if_false, reduceCtorEq]) (ref_Put m _ hs3.ok wm) ?_
  rintro v2 H4 ⟨hf4, ht4, hs4⟩
  have q4 : H4.get H1.next = some (mO m) := by rw [hs4.get _ (by omega) (by simp), q3]
  have hn4 := hs4.le
  have ok4 := hs4.ok
  have okn4 : ∀ a, H4.next ≤ a → H4.get a = none := ok4
  obtain ⟨b2, n2, c2, e2, rfl, hb2⟩ : ∃ (b2 : Option Addr) (n2 c2 : Nat) (e2 : Int), v2 = .tuple #[.slice b2 n2 c2, .int .i64 e2] ∧ (m.right = false ∧ b2 = none ∧ n2 = 0 ∧ c2 = 0 ∧ e2 = 27 ∨ m.right = true ∧ e2 = 0 ∧ ∃ i, b2 = some ⟨i, 0, none⟩ ∧ n2 = m.bytes.length ∧ c2 = capU ∧ H4.get i = some (.cells (bytesV m.bytes) 5 false)) := by
    cases hr : m.right
    · exact ⟨none, 0, 0, 27, hf4 hr, .inl ⟨rfl, rfl, rfl, rfl, rfl⟩⟩
    · obtain ⟨i, _, h1, h2⟩ := ht4 hr
      exact ⟨_, _, _, 0, h1, .inr ⟨rfl, rfl, i, rfl, rfl, rfl, h2⟩⟩
  have e12 : e1 = e2 := by
    rcases hb1 with ⟨r1, _, _, _, h⟩ | ⟨r1, h, _⟩ <;> rcases hb2 with ⟨r2, _, _, _, h'⟩ | ⟨r2, h', _⟩
    · rw [h, h']
    · rw [r1] at r2; cases r2
    · rw [r1] at r2; cases r2
    · rw [h, h']
  subst e12
  obtain ⟨s, hcv⟩ : ∃ s, ∀ K : Heap, (∀ i o, H4.get i = some o → K.get i = some o) → cvV Tryd.prog K 31 9 (.slice b1 n1 c1) = some (.val (.string s) K) ∧ cvV Tryd.prog K 31 9 (.slice b2 n2 c2) = some (.val (.string s) K) := by
    rcases hb1 with ⟨r1, rfl, rfl, rfl, _⟩ | ⟨r1, _, i, rfl, rfl, rfl, hi⟩ <;> rcases hb2 with ⟨r2, rfl, rfl, rfl, _⟩ | ⟨r2, _, i', rfl, rfl, rfl, hi'⟩
    · exact ⟨S [], fun K _ => ⟨cv_nil, cv_nil⟩⟩
    · rw [r1] at r2; cases r2
    · rw [r1] at r2; cases r2
    · have row : ∀ K : Heap, (∀ i o, H4.get i = some o → K.get i = some o) → ∀ j, H4.get j = some (.cells (bytesV m.bytes) 5 false) → gcV 0 m.bytes.length (K.get j) = some (bytesV m.bytes) := fun K hK j hj => by
        rw [hK j _ hj, gcV_cells, if_pos (by rw [bytesV_length]; omega), List.drop_zero, List.take_of_length_le (by rw [bytesV_length]; omega)]
      exact ⟨S m.bytes, fun K hK => ⟨cv_row rfl (row K hK i (by rw [hs4.get _ (hs3.ok.lt hi) (by simp)]; exact hi)), cv_row rfl (row K hK i' hi')⟩⟩
  simp (maxSteps := 5000000) (disch := omega) only [MX, Msg.cells_length, g13, q4, V_P, SX, W_block, exitW, goInt, Int.reduceEq, setCells, oneOf, cellOk, reduceIte, Nat.reduceLT, Nat.reduceLeDiff, Nat.reduceEqDiff, Nat.reduceAdd, Nat.reduceSub, Nat.reduceMul, Int.reduceToNat, Int.reduceLT, Int.reduceLE, Int.reduceAdd, Int.reduceSub, implies_true, ne_eq, if_true, if_false, reduceCtorEq]
  refine W_drawR [[], [0], [], [2, 1, 0], [1, 0, 3, 2], [4, 1, 0, 3, 2], [5, 4, 1, 0, 3, 2], [5, 4, 1, 0, 3, 2], [6, 5, 4, 1, 0, 3, 2, 7], [5, 4, 1, 0, 3, 2, 8, 6, 7], [9, 5, 4, 1, 0, 3, 2, 8, 6, 7], [10, 9, 5, 4, 1, 0, 3, 2, 8, 6, 7], [11, 10, 9, 5, 4, 1, 0, 3, 2, 8, 6, 7], [10, 9, 5, 4, 1, 0, 3, 2, 8, 6, 7], [13, 10, 9, 5, 4, 1, 0, 3, 2, 8, 6, 7], [12, 11, 10, 9, 5, 4, 1, 0, 3, 2, 8, 6, 7, 14, 13], [10, 9, 5, 4, 1, 0, 3, 2, 8, 6, 7, 15, 12, 11, 14, 13], [16, 10, 9, 5, 4, 1, 0, 3, 2, 8, 6, 7, 15, 12, 11, 14, 13]] [0, 1, 2, 3, 4, 5, 6, 7, 8, 9, 10, 11, 12, 13, 14, 15, 16, 17] (by decide +kernel) (by repeat (first | exact ok4 | refine Ok.push ?_ _ | refine Ok.room ?_ _ | (refine Ok.put ?_ _ (by simp (disch := omega) only [Heap.get_pushH, Heap.get_setH, hite_same, hite_ne, hite_eq, Heap.get_room, Heap.next_push, Heap.next_set, Heap.next_room, Option.isSome_some, *])))) ?_
  simp (maxSteps := 5000000) (disch := omega) only [MX, okn4, q4, g13, V_P, SX, W_block, exitW, goInt, Int.reduceEq, setCells, oneOf, cellOk, reduceIte, Nat.reduceLT, Nat.reduceLeDiff, Nat.reduceEqDiff, Nat.reduceAdd, Nat.reduceSub, Nat.reduceMul, Int.reduceToNat, Int.reduceLT, Int.reduceLE, Int.reduceAdd, Int.reduceSub, implies_true, ne_eq, if_true, if_false, reduceCtorEq, DX, Nat.reduceBEq]
  refine DOpd_callR (by decide) rfl (by simp (maxSteps := 5000000) (disch := omega) only [MX, okn4, q4, g13, V_P, SX, W_block, exitW, goInt, Int.reduceEq, setCells, oneOf, cellOk, reduceIte, Nat.reduceLT, Nat.reduceLeDiff, Nat.reduceEqDiff, Nat.reduceAdd, Nat.reduceSub, Nat.reduceMul, Int.reduceToNat, Int.reduceLT, Int.reduceLE, Int.reduceAdd, Int.reduceSub, implies_true, ne_eq, if_true, if_false, reduceCtorEq, DX, Nat.reduceBEq]) (ndc_Right m _ (by repeat (first | exact ok4 | refine Ok.push ?_ _ | refine Ok.room ?_ _ | (refine Ok.put ?_ _ (by simp (disch := omega) only [Heap.get_pushH, Heap.get_setH, hite_same, hite_ne, hite_eq, Heap.get_room, Heap.next_push, Heap.next_set, Heap.next_room, Option.isSome_some, *])))) wm.pan) ?_
  rintro v3 H5 ⟨rfl, hs5⟩
  have hr5 : Same H4 (H4.room 18) [] := by repeat (first | exact Same.refl ok4 | refine Same.push ?_ _ | refine Same.room ?_ _ | (refine Same.make ?_ (by (try simp only [Heap.next_push, Heap.next_set, Heap.next_room]); omega) (by (try simp only [Heap.next_push, Heap.next_set, Heap.next_room]); omega)) | (refine Same.put ?_ (by simp (disch := omega) only [Heap.get_pushH, Heap.get_setH, hite_same, hite_ne, hite_eq, Heap.get_room, Heap.next_push, Heap.next_set, Heap.next_room, Option.isSome_some, *]) (fun z => by first | (simp; done) | (exfalso; (try simp only [Heap.next_push, Heap.next_set, Heap.next_room] at z); omega))))
  have hs45 := hr5.trans hs5 (by simp)
  have q5 : H5.get H1.next = some (mO m) := by rw [hs45.get _ (by omega) (by simp), q4]
  refine ⟨isV_bool, hs5.keep (by rw [Heap.next_room]; exact Nat.le_refl _), ?_⟩
  have hn5 := hs5.le
  rw [Heap.next_room] at hn5
  simp (maxSteps := 5000000) (disch := omega) only [MX, okn4, q4, q5, g13, V_P, SX, W_block, exitW, goInt, Int.reduceEq, setCells, oneOf, cellOk, reduceIte, Nat.reduceLT, Nat.reduceLeDiff, Nat.reduceEqDiff, Nat.reduceAdd, Nat.reduceSub, Nat.reduceMul, Int.reduceToNat, Int.reduceLT, Int.reduceLE, Int.reduceAdd, Int.reduceSub, implies_true, ne_eq, if_true, if_false, reduceCtorEq, DX, Nat.reduceBEq]
  refine DOpd_callR (by decide) rfl (by simp (maxSteps := 5000000) (disch := omega) only [MX, okn4, q4, q5, g13, V_P, SX, W_block, exitW, goInt, Int.reduceEq, setCells, oneOf, cellOk, reduceIte, Nat.reduceLT, Nat.reduceLeDiff, Nat.reduceEqDiff, Nat.reduceAdd, Nat.reduceSub, Nat.reduceMul, Int.reduceToNat, Int.reduceLT, Int.reduceLE, Int.reduceAdd, Int.reduceSub, implies_true, ne_eq, if_true, if_false, reduceCtorEq, DX, Nat.reduceBEq]) (ref_Right m _ hs5.ok wm.pan) ?_
  rintro v3 H6 ⟨rfl, hs6⟩
  have hs46 := hs45.trans hs6 (by simp)
  refine ⟨isV_bool, hs6.keep (by omega), ?_⟩
  have hbb := fun (K : Heap) (x1 y1 : Operand) => binV_beq (P := Tryd.prog) (H := K) (t := 4) (x := x1) (y := y1) (a := m.right) (b := m.right) un_4
  rw [beq_self_eq_true] at hbb
  obtain ⟨ca, cb⟩ := hcv (H4.room 18) (fun i o h => by rw [Heap.get_room]; exact h)
  obtain ⟨cc, cd⟩ := hcv H5 (hs45.keeps ok4)
  obtain ⟨ce, cf⟩ := hcv H6 (hs46.keeps ok4)
  simp (maxSteps := 5000000) (disch := omega) only [MX, okn4, q4, q5, g13, hbb, ca, cb, cc, cd, ce, cf, eq_self, V_P, SX, W_block, exitW, goInt, Int.reduceEq, setCells, oneOf, cellOk, reduceIte, Nat.reduceLT, Nat.reduceLeDiff, Nat.reduceEqDiff, Nat.reduceAdd, Nat.reduceSub, Nat.reduceMul, Int.reduceToNat, Int.reduceLT, Int.reduceLE, Int.reduceAdd, Int.reduceSub, implies_true, ne_eq, if_true, if_false, reduceCtorEq, DX, Nat.reduceBEq]
end Go.B.YteigefgobkdmgaaDoor
/- The code's reader of parts. -/
namespace Go.B.YteigefgobkdmgaaDoor
open Go Go.B Go.Proofs
set_option maxRecDepth 100000
set_option maxHeartbeats 16000000
set_option linter.unusedSimpArgs false
set_option linter.unusedVariables false
/-- A reader in the heap: parts that are left; whether one was none. -/
structure Rd (H : Heap) (p : Nat) (l : List ByteArray) (bad : Bool) : Prop where
  at_ : ∃ i o c, H.get p = some (.cells [.slice (some ⟨i, o, none⟩) l.length capU, .bool bad] 72 false) ∧ Row Tryd.prog H (some ⟨i, o, none⟩) l.length 1 (l.map Value.string) ∧ i ≠ p ∧ H.get i = some (.cells c 9 false)
  small : l.length ≤ 1000000 ∧ ∀ s ∈ l, s.size ≤ 1000000
theorem Rd.mono {H H' : Heap} {p : Nat} {l : List ByteArray} {bad : Bool} (h : Rd H p l bad) (hg : ∀ i o, H.get i = some o → H'.get i = some o) : Rd H' p l bad := by
  obtain ⟨⟨i, o, c, h1, h2, h3, h4⟩, h5⟩ := h
  refine ⟨⟨i, o, c, hg _ _ h1, ⟨h2.len, ?_⟩, h3, hg _ _ h4⟩, h5⟩
  rcases h2.at_ with h0 | ⟨i', o', c', e', ro', a1, a2, a3, a4, a5⟩
  · exact .inl h0
  · exact .inr ⟨i', o', c', e', ro', a1, hg _ _ a2, a3, a4, a5⟩
theorem Rd.keep {H H' : Heap} {p : Nat} {l : List ByteArray} {bad : Bool} (h : Rd H p l bad) (ok : Ok H) (hs : Same H H' []) : Rd H' p l bad := h.mono (hs.keeps ok)
theorem row_tail {P : Program} {H : Heap} {i o : Nat} {s : ByteArray} {l : List ByteArray} (h : Row P H (some ⟨i, o, none⟩) (s :: l).length 1 ((s :: l).map Value.string)) : Row P H (some ⟨i, o + 1, none⟩) l.length 1 (l.map Value.string) := by
  refine ⟨by simp, ?_⟩
  rcases h.at_ with h0 | ⟨i', o', c', e', ro', a1, a2, a3, a4, a5⟩
  · simp at h0
  · cases a1
    refine .inr ⟨i, o + 1, c', e', ro', rfl, a2, by simp at a3 ⊢; omega, ?_, a5⟩
    have := congrArg (List.drop 1) a4
    rw [List.drop_take, List.drop_drop] at this
    simpa using this
theorem rd_text (p : Nat) (l : List ByteArray) (bad : Bool) (H : Heap) (ok : Ok H) (h : Rd H p l bad) :
    ∃ v H', Ca V 35 #[.pointer (some ⟨p, 0, none⟩)] H v H' ∧ v = .string (l.headD (S [])) ∧ Rd H' p l.tail (bad || l.isEmpty) ∧ Same H H' [p] := by
  obtain ⟨⟨i, o, c, h1, h2, h3, h4⟩, h5, h6⟩ := h
  refine Ca_run rfl tab_35 rfl ?_
  simp (maxSteps := 5000000) (disch := omega) only [Tryd.f35, h1, V_P, SX, W_block, exitW, goInt, Int.reduceEq, setCells, oneOf, cellOk, reduceIte, Nat.reduceLT, Nat.reduceLeDiff, Nat.reduceEqDiff, Nat.reduceAdd, Nat.reduceSub, Nat.reduceMul, Int.reduceToNat, Int.reduceLT, Int.reduceLE, Int.reduceAdd, Int.reduceSub, implies_true, ne_eq, if_true, if_false, reduceCtorEq]
  refine cW_dec (fun hl => ?_) (fun hl => ?_)
  · obtain rfl : l = [] := List.length_eq_zero_iff.1 (by omega)
    simp (maxSteps := 5000000) (disch := omega) only [h1, V_P, SX, W_block, exitW, goInt, Int.reduceEq, setCells, oneOf, cellOk, reduceIte, Nat.reduceLT, Nat.reduceLeDiff, Nat.reduceEqDiff, Nat.reduceAdd, Nat.reduceSub, Nat.reduceMul, Int.reduceToNat, Int.reduceLT, Int.reduceLE, Int.reduceAdd, Int.reduceSub, implies_true, ne_eq, if_true, if_false, reduceCtorEq]
    refine ⟨rfl, ⟨⟨i, o, c, by rw [Heap.get_set, if_pos rfl]; simp, ⟨rfl, .inl rfl⟩, h3, by rw [Heap.get_set, if_neg h3]; exact h4⟩, by simp, by simp⟩, ?_⟩
    exact (Same.refl ok |>.mono (by simp)).set h1 (fun _ => by simp)
  · obtain ⟨s, l, rfl⟩ : ∃ s l', l = s :: l' := by
      cases l with
      | nil => simp at hl
      | cons s l' => exact ⟨s, l', rfl⟩
    obtain ⟨j, o', e, hgc⟩ := row_at h2 (i := 0) (by simp)
    cases e
    rw [Nat.add_zero] at hgc
    have hgc : gcV o 1 (H.get i) = some [.string s] := hgc
    have hn : (1 : Nat) ≤ l.length + 1 := by omega
    rw [h4, gcV_cells] at hgc
    simp (maxSteps := 5000000) (disch := omega) only [h1, h4, hgc, if_pos hn, V_P, SX, W_block, exitW, goInt, Int.reduceEq, setCells, oneOf, cellOk, reduceIte, Nat.reduceLT, Nat.reduceLeDiff, Nat.reduceEqDiff, Nat.reduceAdd, Nat.reduceSub, Nat.reduceMul, Int.reduceToNat, Int.reduceLT, Int.reduceLE, Int.reduceAdd, Int.reduceSub, implies_true, ne_eq, if_true, if_false, reduceCtorEq]
    refine ⟨rfl, ⟨⟨i, o + 1, c, by rw [Heap.get_set, if_pos rfl]; simp, ?_, h3, by rw [Heap.get_set, if_neg h3]; exact h4⟩, by simp at h5 ⊢; omega, fun x hx => h6 x (List.mem_cons_of_mem _ hx)⟩, ?_⟩
    · have hrt := row_tail h2
      refine ⟨hrt.len, ?_⟩
      rcases hrt.at_ with h0 | ⟨i', o', c', e', ro', a1, a2, a3, a4, a5⟩
      · exact .inl h0
      · cases a1
        exact .inr ⟨i, o + 1, c', e', ro', rfl, by rw [Heap.get_set, if_neg h3]; exact a2, a3, a4, a5⟩
    · exact (Same.refl ok |>.mono (by simp)).set h1 (fun _ => by simp)
theorem rd_setbad {H : Heap} {p i o : Nat} {c : List Value} {l : List ByteArray} {bad : Bool} (ok : Ok H) (h1 : H.get p = some (.cells [.slice (some ⟨i, o, none⟩) l.length capU, .bool bad] 72 false)) (h2 : Row Tryd.prog H (some ⟨i, o, none⟩) l.length 1 (l.map Value.string)) (h3 : i ≠ p) (h4 : H.get i = some (.cells c 9 false)) (h5 : l.length ≤ 1000000 ∧ ∀ s ∈ l, s.size ≤ 1000000) :
    Rd (H.set p (.cells [.slice (some ⟨i, o, none⟩) l.length capU, .bool true] 72 false)) p l true ∧ Same H (H.set p (.cells [.slice (some ⟨i, o, none⟩) l.length capU, .bool true] 72 false)) [p] := by
  refine ⟨⟨⟨i, o, c, by rw [Heap.get_set, if_pos rfl], ⟨h2.len, ?_⟩, h3, by rw [Heap.get_set, if_neg h3]; exact h4⟩, h5⟩, (Same.refl ok |>.mono (by simp)).set h1 (fun _ => by simp)⟩
  rcases h2.at_ with h0 | ⟨i', o', c', e', ro', a1, a2, a3, a4, a5⟩
  · exact .inl h0
  · cases a1
    exact .inr ⟨i, o, c', e', ro', rfl, by rw [Heap.get_set, if_neg h3]; exact a2, a3, a4, a5⟩
theorem binV_nif {H : Heap} {x : Operand} {c : Value} : binV Tryd.prog H .neq 85 x (.const c) .nilIface .nilIface = some (.val (.bool false) H) := by
  have hg : runP Tryd.prog (eqGuard .neq 85 x (.const c) .nilIface .nilIface) = some () := by
    unfold eqGuard
    cases x <;> rfl
  refine binV_eq (b := .nilIface) (r := .bool false) (nilEq_iface (b := .nilIface)) rfl hg ?_ rfl
  simp only [binOp]
  rw [runP_bind]
  have : runP Tryd.prog (Op.equal 85 .nilIface .nilIface) = some true := by
    unfold Op.equal Op.maxDepth Op.equalIn
    rw [runP_bind, runP_und un_85]
    rfl
  rw [this]
  rfl
theorem binV_if {H : Heap} {x y : Operand} {t : TypeId} {v : Value} : binV Tryd.prog H .neq 85 x y (.iface t v) .nilIface = some (.val (.bool true) H) := by
  unfold binV nilEq
  rw [un_85]
  rfl
theorem headD_size {l : List ByteArray} (h : ∀ s ∈ l, s.size ≤ 1000000) : (l.headD (S [])).size ≤ 1000000 := by
  cases l with
  | nil => show 0 ≤ _; omega
  | cons s l => exact h s (by simp)
theorem atoi_i64 {l : List UInt8} {v : Int} (h : Lib.atoiAll l = .ok v) : i64 v := Lib.atoiAll_bounds h
theorem rd_number (p most : Nat) (mi : Int) (hmi : mi = most) (hm : most < 9223372036854775808) (l : List ByteArray) (bad : Bool) (H : Heap) (ok : Ok H) (h : Rd H p l bad) :
    ∃ v H', Ca V 36 #[.pointer (some ⟨p, 0, none⟩), .int .i64 mi] H v H' ∧ (∃ n : Int, v = .int .i64 n ∧ i64 n ∧ ∀ k, numB most (l.headD (S [])) = some k → n = k) ∧ Rd H' p l.tail (bad || (numB most (l.headD (S []))).isNone) ∧ Same H H' [p] := by
  subst hmi
  refine Ca_run rfl tab_36 rfl ?_
  simp (maxSteps := 5000000) (disch := omega) only [Tryd.f36, V_P, SX, W_block, exitW, goInt, Int.reduceEq, setCells, oneOf, cellOk, reduceIte, Nat.reduceLT, Nat.reduceLeDiff, Nat.reduceEqDiff, Nat.reduceAdd, Nat.reduceSub, Nat.reduceMul, Int.reduceToNat, Int.reduceLT, Int.reduceLE, Int.reduceAdd, Int.reduceSub, implies_true, ne_eq, if_true, if_false, reduceCtorEq]
  refine W_callR rfl (by simp (maxSteps := 5000000) (disch := omega) only [V_P, SX, W_block, exitW, goInt, Int.reduceEq, setCells, oneOf, cellOk, reduceIte, Nat.reduceLT, Nat.reduceLeDiff, Nat.reduceEqDiff, Nat.reduceAdd, Nat.reduceSub, Nat.reduceMul, Int.reduceToNat, Int.reduceLT, Int.reduceLE, Int.reduceAdd, Int.reduceSub, implies_true, ne_eq, if_true, if_false, reduceCtorEq]) (rd_text p l bad _ ok h) ?_
  rintro v H1 ⟨rfl, hr, hs⟩
  have hsz := headD_size h.small.2
  have hemp : (bad || l.isEmpty || (numB most (l.headD (S []))).isNone) = (bad || (numB most (l.headD (S []))).isNone) := by
    cases l with
    | nil => rw [show ([] : List ByteArray).headD (S []) = S [] from rfl, numB_empty]; simp
    | cons s l => simp
  rw [← hemp]
  generalize (bad || l.isEmpty) = bd at hr
  generalize l.headD (S []) = s at hsz ⊢
  generalize l.tail = r at hr ⊢
  have ok1 := hs.ok
  obtain ⟨⟨i, o, c, h1, h2, h3, h4⟩, h5⟩ := hr
  obtain ⟨hrb, hsb⟩ := rd_setbad ok1 h1 h2 h3 h4 h5
  have hsame : Same H (H1.set p (.cells [.slice (some ⟨i, o, none⟩) r.length capU, .bool true] 72 false)) [p] := hs.trans hsb (by simp)
  have hgood : Rd H1 p r bd := ⟨⟨i, o, c, h1, h2, h3, h4⟩, h5⟩
  simp (maxSteps := 5000000) (disch := omega) only [V_P, SX, W_block, exitW, goInt, Int.reduceEq, setCells, oneOf, cellOk, reduceIte, Nat.reduceLT, Nat.reduceLeDiff, Nat.reduceEqDiff, Nat.reduceAdd, Nat.reduceSub, Nat.reduceMul, Int.reduceToNat, Int.reduceLT, Int.reduceLE, Int.reduceAdd, Int.reduceSub, implies_true, ne_eq, if_true, if_false, reduceCtorEq]
  refine W_callR rfl (by simp (maxSteps := 5000000) (disch := omega) only [V_P, SX, W_block, exitW, goInt, Int.reduceEq, setCells, oneOf, cellOk, reduceIte, Nat.reduceLT, Nat.reduceLeDiff, Nat.reduceEqDiff, Nat.reduceAdd, Nat.reduceSub, Nat.reduceMul, Int.reduceToNat, Int.reduceLT, Int.reduceLE, Int.reduceAdd, Int.reduceSub, implies_true, ne_eq, if_true, if_false, reduceCtorEq]) (Ca_is (c_Atoi s _ (by omega))) ?_
  rintro v H2 ⟨rfl, e2⟩
  obtain rfl := e2.symm
  have hbad : ∀ n : Int, i64 n → numB most s = none → (∃ n' : Int, Value.int .i64 n = .int .i64 n' ∧ i64 n' ∧ ∀ k, numB most s = some k → n' = k) := fun n hn hb => ⟨n, rfl, hn, fun k hk => by rw [hb] at hk; cases hk⟩
  unfold atoiV
  rcases hat : Lib.atoiAll (U s) with v | _ | _
  rotate_left
  · have hb : numB most s = none := number_bad hm (fun v hv => by rw [hat] at hv; cases hv)
    simp (maxSteps := 5000000) (disch := omega) only [binV_if, h1, V_P, SX, W_block, exitW, goInt, Int.reduceEq, setCells, oneOf, cellOk, reduceIte, Nat.reduceLT, Nat.reduceLeDiff, Nat.reduceEqDiff, Nat.reduceAdd, Nat.reduceSub, Nat.reduceMul, Int.reduceToNat, Int.reduceLT, Int.reduceLE, Int.reduceAdd, Int.reduceSub, implies_true, ne_eq, if_true, if_false, reduceCtorEq]
    refine ⟨hbad 0 (by unfold i64; omega) hb, ?_, hsame⟩
    rw [hb]; simpa using hrb
  · have hb : numB most s = none := number_bad hm (fun v hv => by rw [hat] at hv; cases hv)
    have hsat : i64 (Lib.atoiSat (U s)) := by unfold Lib.atoiSat i64; split <;> omega
    simp (maxSteps := 5000000) (disch := omega) only [binV_if, h1, V_P, SX, W_block, exitW, goInt, Int.reduceEq, setCells, oneOf, cellOk, reduceIte, Nat.reduceLT, Nat.reduceLeDiff, Nat.reduceEqDiff, Nat.reduceAdd, Nat.reduceSub, Nat.reduceMul, Int.reduceToNat, Int.reduceLT, Int.reduceLE, Int.reduceAdd, Int.reduceSub, implies_true, ne_eq, if_true, if_false, reduceCtorEq]
    refine ⟨hbad _ hsat hb, ?_, hsame⟩
    rw [hb]; simpa using hrb
  · have hi := atoi_i64 hat
    simp (maxSteps := 5000000) (disch := omega) only [binV_nif, h1, V_P, SX, W_block, exitW, goInt, Int.reduceEq, setCells, oneOf, cellOk, reduceIte, Nat.reduceLT, Nat.reduceLeDiff, Nat.reduceEqDiff, Nat.reduceAdd, Nat.reduceSub, Nat.reduceMul, Int.reduceToNat, Int.reduceLT, Int.reduceLE, Int.reduceAdd, Int.reduceSub, implies_true, ne_eq, if_true, if_false, reduceCtorEq]
    repeat' (first
    | (refine gW_dec (fun h => ?_) (fun h => ?_) <;> simp (maxSteps := 5000000) (disch := omega) only [h, binV_nif, h1, V_P, SX, W_block, exitW, goInt, Int.reduceEq, setCells, oneOf, cellOk, reduceIte, Nat.reduceLT, Nat.reduceLeDiff, Nat.reduceEqDiff, Nat.reduceAdd, Nat.reduceSub, Nat.reduceMul, Int.reduceToNat, Int.reduceLT, Int.reduceLE, Int.reduceAdd, Int.reduceSub, implies_true, ne_eq, if_true, if_false, reduceCtorEq])
    | (refine cW_dec (fun h => ?_) (fun h => ?_) <;> simp (maxSteps := 5000000) (disch := omega) only [h, binV_nif, h1, V_P, SX, W_block, exitW, goInt, Int.reduceEq, setCells, oneOf, cellOk, reduceIte, Nat.reduceLT, Nat.reduceLeDiff, Nat.reduceEqDiff, Nat.reduceAdd, Nat.reduceSub, Nat.reduceMul, Int.reduceToNat, Int.reduceLT, Int.reduceLE, Int.reduceAdd, Int.reduceSub, implies_true, ne_eq, if_true, if_false, reduceCtorEq])
    | (refine gW_bool (fun h => ?_) (fun h => ?_) <;> simp (maxSteps := 5000000) (disch := omega) only [h, binV_nif, h1, V_P, SX, W_block, exitW, goInt, Int.reduceEq, setCells, oneOf, cellOk, reduceIte, Nat.reduceLT, Nat.reduceLeDiff, Nat.reduceEqDiff, Nat.reduceAdd, Nat.reduceSub, Nat.reduceMul, Int.reduceToNat, Int.reduceLT, Int.reduceLE, Int.reduceAdd, Int.reduceSub, implies_true, ne_eq, if_true, if_false, reduceCtorEq])
    | (refine cW_bool (fun h => ?_) (fun h => ?_) <;> simp (maxSteps := 5000000) (disch := omega) only [h, binV_nif, h1, V_P, SX, W_block, exitW, goInt, Int.reduceEq, setCells, oneOf, cellOk, reduceIte, Nat.reduceLT, Nat.reduceLeDiff, Nat.reduceEqDiff, Nat.reduceAdd, Nat.reduceSub, Nat.reduceMul, Int.reduceToNat, Int.reduceLT, Int.reduceLE, Int.reduceAdd, Int.reduceSub, implies_true, ne_eq, if_true, if_false, reduceCtorEq]))
    · have hb : numB most s = none := number_bad hm (fun v' hv => by rw [hat] at hv; cases hv; omega)
      refine ⟨hbad _ hi hb, ?_, hsame⟩
      rw [hb]; simpa using hrb
    · have hb : numB most s = none := number_bad hm (fun v' hv => by rw [hat] at hv; cases hv; omega)
      refine ⟨hbad _ hi hb, ?_, hsame⟩
      rw [hb]; simpa using hrb
    · refine W_callR rfl (by simp (maxSteps := 5000000) (disch := omega) only [binV_nif, h1, V_P, SX, W_block, exitW, goInt, Int.reduceEq, setCells, oneOf, cellOk, reduceIte, Nat.reduceLT, Nat.reduceLeDiff, Nat.reduceEqDiff, Nat.reduceAdd, Nat.reduceSub, Nat.reduceMul, Int.reduceToNat, Int.reduceLT, Int.reduceLE, Int.reduceAdd, Int.reduceSub, implies_true, ne_eq, if_true, if_false, reduceCtorEq]) (Ca_is (c_Itoa v _ hi.1 hi.2)) ?_
      rintro v3 H3 ⟨rfl, e3⟩
      obtain rfl := e3.symm
      by_cases hv : S (Lib.itoa v) = s
      · have hg := number_good hm hat (by omega) (by omega) hv
        simp (maxSteps := 5000000) (disch := omega) only [binV_nif, h1, hv, eq_self, V_P, SX, W_block, exitW, goInt, Int.reduceEq, setCells, oneOf, cellOk, reduceIte, Nat.reduceLT, Nat.reduceLeDiff, Nat.reduceEqDiff, Nat.reduceAdd, Nat.reduceSub, Nat.reduceMul, Int.reduceToNat, Int.reduceLT, Int.reduceLE, Int.reduceAdd, Int.reduceSub, implies_true, ne_eq, if_true, if_false, reduceCtorEq]
        refine ⟨⟨v, rfl, hi, fun k hk => ?_⟩, ?_, hs⟩
        · rw [hg] at hk; cases hk; omega
        · rw [hg]; simpa using hgood
      · have hb : numB most s = none := number_bad hm (fun v' hv' => by rw [hat] at hv'; cases hv'; exact fun _ _ => hv)
        simp (maxSteps := 5000000) (disch := omega) only [binV_nif, h1, hv, V_P, SX, W_block, exitW, goInt, Int.reduceEq, setCells, oneOf, cellOk, reduceIte, Nat.reduceLT, Nat.reduceLeDiff, Nat.reduceEqDiff, Nat.reduceAdd, Nat.reduceSub, Nat.reduceMul, Int.reduceToNat, Int.reduceLT, Int.reduceLE, Int.reduceAdd, Int.reduceSub, implies_true, ne_eq, if_true, if_false, reduceCtorEq]
        refine ⟨hbad _ hi hb, ?_, hsame⟩
        rw [hb]; simpa using hrb
end Go.B.YteigefgobkdmgaaDoor
/- Numbers of notes, read. -/
namespace Go.B.YteigefgobkdmgaaDoor
open Go Go.B Go.Proofs
set_option maxRecDepth 100000
set_option maxHeartbeats 16000000
set_option linter.unusedSimpArgs false
set_option linter.unusedVariables false
theorem rd_set {H : Heap} {p q : Nat} {l : List ByteArray} {bad : Bool} {c : List Value} {e : TypeId} (h : Rd H p l bad) (hq : H.get q = some (.cells c e false)) (he : e ≠ 9) (hne : p ≠ q) (o : AObj) : Rd (H.set q o) p l bad := by
  obtain ⟨⟨i, o1, c1, h1, h2, h3, h4⟩, h5⟩ := h
  have hi : i ≠ q := fun z => by rw [z, hq] at h4; cases h4; exact he rfl
  refine ⟨⟨i, o1, c1, by rw [Heap.get_set, if_neg hne]; exact h1, ⟨h2.len, ?_⟩, h3, by rw [Heap.get_set, if_neg hi]; exact h4⟩, h5⟩
  rcases h2.at_ with h0 | ⟨i', o', c', e', ro', a1, a2, a3, a4, a5⟩
  · exact .inl h0
  · cases a1
    exact .inr ⟨i, o1, c', e', ro', rfl, by rw [Heap.get_set, if_neg hi]; exact a2, a3, a4, a5⟩
/-- So many numbers, one by one. -/
def takeN : Nat → List ByteArray → Option (List Nat)
  | 0, _ => some []
  | k + 1, l => match numB 2147483647 (l.headD (S [])) with
    | some x => (takeN k l.tail).map (x :: ·)
    | none => none
theorem take4 (bad : Bool) {l : List ByteArray} {n0 n1 n2 n3 : Int} (h0 : ∀ k : Nat, numB 2147483647 (l.headD (S [])) = some k → n0 = k) (h1 : ∀ k : Nat, numB 2147483647 (l.tail.headD (S [])) = some k → n1 = k) (h2 : ∀ k : Nat, numB 2147483647 (l.tail.tail.headD (S [])) = some k → n2 = k) (h3 : ∀ k : Nat, numB 2147483647 (l.tail.tail.tail.headD (S [])) = some k → n3 = k) :
    (bad || (numB 2147483647 (l.headD (S []))).isNone || (numB 2147483647 (l.tail.headD (S []))).isNone || (numB 2147483647 (l.tail.tail.headD (S []))).isNone || (numB 2147483647 (l.tail.tail.tail.headD (S []))).isNone) = (bad || (takeN 4 l).isNone) ∧ ∀ ks, takeN 4 l = some ks → [n0, n1, n2, n3] = ks.map Int.ofNat := by
  simp only [takeN]
  generalize numB 2147483647 (l.headD (S [])) = a at *
  generalize numB 2147483647 (l.tail.headD (S [])) = b at *
  generalize numB 2147483647 (l.tail.tail.headD (S [])) = c at *
  generalize numB 2147483647 (l.tail.tail.tail.headD (S [])) = d at *
  rcases a with _ | a
  · simp
  rcases b with _ | b
  · simp
  rcases c with _ | c
  · simp
  rcases d with _ | d
  · simp
  obtain rfl := h0 _ rfl
  obtain rfl := h1 _ rfl
  obtain rfl := h2 _ rfl
  obtain rfl := h3 _ rfl
  refine ⟨by simp, fun ks hk => ?_⟩
  simp only [Option.map_some, Option.some.injEq] at hk
  subst hk
  rfl
theorem rd_notes (p : Nat) (l : List ByteArray) (bad : Bool) (H : Heap) (ok : Ok H) (h : Rd H p l bad) :
    ∃ v H', Ca V 37 #[.pointer (some ⟨p, 0, none⟩)] H v H' ∧ (∃ n : N4, v = .agg #[.int .i64 n.a, .int .i64 n.b, .int .i64 n.c, .int .i64 n.d] ∧ ∀ ks, takeN 4 l = some ks → [n.a, n.b, n.c, n.d] = ks.map Int.ofNat) ∧ Rd H' p l.tail.tail.tail.tail (bad || (takeN 4 l).isNone) ∧ Same H H' [p] := by
  have hp : p < H.next := by obtain ⟨⟨i, o, c, h1, _⟩, _⟩ := h; exact ok.lt h1
  refine Ca_run rfl tab_37 rfl ?_
  simp (maxSteps := 5000000) (disch := omega) only [Tryd.f37, V_P, SX, W_block, exitW, goInt, Int.reduceEq, setCells, oneOf, cellOk, reduceIte, Nat.reduceLT, Nat.reduceLeDiff, Nat.reduceEqDiff, Nat.reduceAdd, Nat.reduceSub, Nat.reduceMul, Int.reduceToNat, Int.reduceLT, Int.reduceLE, Int.reduceAdd, Int.reduceSub, implies_true, ne_eq, if_true, if_false, reduceCtorEq]
  refine W_gen (fun t H0 => t.get 0 = some (.pointer (some ⟨p, 0, none⟩)) ∧ t.get 2 = some (.pointer (some ⟨H.next, 0, none⟩)) ∧ t.get 3 = some (.pointer (some ⟨H.next + 1, 0, none⟩)) ∧ t.get 5 = some (.int .i64 0) ∧ H0.get H.next = some (.cells [.int .i64 0, .int .i64 0, .int .i64 0, .int .i64 0] 25 false) ∧ H0.get (H.next + 1) = some (.cells [.int .i64 0, .int .i64 0, .int .i64 0, .int .i64 0] 25 false) ∧ Rd H0 p l bad ∧ Same H H0 [p] ∧ H.next + 2 ≤ H0.next) ?_ ?_
  · simp (maxSteps := 5000000) (disch := omega) only [V_P, SX, W_block, exitW, goInt, Int.reduceEq, setCells, oneOf, cellOk, reduceIte, Nat.reduceLT, Nat.reduceLeDiff, Nat.reduceEqDiff, Nat.reduceAdd, Nat.reduceSub, Nat.reduceMul, Int.reduceToNat, Int.reduceLT, Int.reduceLE, Int.reduceAdd, Int.reduceSub, implies_true, ne_eq, if_true, if_false, reduceCtorEq]
    refine ⟨h.mono fun i o hi => ?_, (by repeat (first | exact Same.same ok | refine Same.push ?_ _ | refine Same.room ?_ _ | (refine Same.make ?_ (by (try simp only [Heap.next_push, Heap.next_set, Heap.next_room]); omega) (by (try simp only [Heap.next_push, Heap.next_set, Heap.next_room]); omega)) | (refine Same.put ?_ (by simp (disch := omega) only [Heap.get_pushH, Heap.get_setH, hite_same, hite_ne, hite_eq, Heap.get_room, Heap.next_push, Heap.next_set, Heap.next_room, Option.isSome_some, *]) (fun z => by first | (simp; done) | (exfalso; (try simp only [Heap.next_push, Heap.next_set, Heap.next_room] at z); omega)))) : Same H _ []).mono (by simp)⟩
    have := ok.lt hi
    rw [Heap.get_push, if_neg (by rw [Heap.next_push]; omega), Heap.get_push, if_neg (by omega)]; exact hi
  rintro t K0 ⟨g0, g2, g3, g5, r0, q0, hr0, hs0, hn0⟩
  refine W_unroll ?_
  simp (maxSteps := 5000000) (disch := omega) only [g0, g2, g3, g5, q0, V_P, SX, W_block, exitW, goInt, Int.reduceEq, setCells, oneOf, cellOk, reduceIte, Nat.reduceLT, Nat.reduceLeDiff, Nat.reduceEqDiff, Nat.reduceAdd, Nat.reduceSub, Nat.reduceMul, Int.reduceToNat, Int.reduceLT, Int.reduceLE, Int.reduceAdd, Int.reduceSub, implies_true, ne_eq, if_true, if_false, reduceCtorEq]
  refine W_callR rfl (by simp (maxSteps := 5000000) (disch := omega) only [g0, g2, g3, g5, q0, V_P, SX, W_block, exitW, goInt, Int.reduceEq, setCells, oneOf, cellOk, reduceIte, Nat.reduceLT, Nat.reduceLeDiff, Nat.reduceEqDiff, Nat.reduceAdd, Nat.reduceSub, Nat.reduceMul, Int.reduceToNat, Int.reduceLT, Int.reduceLE, Int.reduceAdd, Int.reduceSub, implies_true, ne_eq, if_true, if_false, reduceCtorEq]) (rd_number p 2147483647 2147483647 rfl (by decide) _ _ _ hs0.ok hr0) ?_
  rintro v L0 ⟨⟨n0, rfl, hi0, hv0⟩, hr0x, hs0x⟩
  have q0x : L0.get (H.next + 1) = some (.cells [.int .i64 0, .int .i64 0, .int .i64 0, .int .i64 0] 25 false) := by rw [hs0x.get _ (by omega) (by simp; omega), q0]
  have r0x : L0.get H.next = some (.cells [.int .i64 0, .int .i64 0, .int .i64 0, .int .i64 0] 25 false) := by rw [hs0x.get _ (by omega) (by simp; omega), r0]
  have hl0 := hs0x.le
  simp (maxSteps := 5000000) (disch := omega) only [g0, g2, g3, g5, q0, q0x, V_P, SX, W_block, exitW, goInt, Int.reduceEq, setCells, oneOf, cellOk, reduceIte, Nat.reduceLT, Nat.reduceLeDiff, Nat.reduceEqDiff, Nat.reduceAdd, Nat.reduceSub, Nat.reduceMul, Int.reduceToNat, Int.reduceLT, Int.reduceLE, Int.reduceAdd, Int.reduceSub, implies_true, ne_eq, if_true, if_false, reduceCtorEq]
  have hs1 : Same H (L0.set (H.next + 1) (.cells [.int .i64 n0, .int .i64 0, .int .i64 0, .int .i64 0] 25 false)) [p] := (hs0.trans hs0x (by simp)).set q0x (fun z => by omega)
  have hr1 := rd_set hr0x q0x (by decide) (by omega) (.cells [.int .i64 n0, .int .i64 0, .int .i64 0, .int .i64 0] 25 false)
  have q1 : (L0.set (H.next + 1) (.cells [.int .i64 n0, .int .i64 0, .int .i64 0, .int .i64 0] 25 false)).get (H.next + 1) = some (.cells [.int .i64 n0, .int .i64 0, .int .i64 0, .int .i64 0] 25 false) := by rw [Heap.get_set, if_pos rfl]
  have r1 : (L0.set (H.next + 1) (.cells [.int .i64 n0, .int .i64 0, .int .i64 0, .int .i64 0] 25 false)).get H.next = some (.cells [.int .i64 0, .int .i64 0, .int .i64 0, .int .i64 0] 25 false) := by rw [Heap.get_set, if_neg (by omega), r0x]
  have hn1 : H.next + 2 ≤ (L0.set (H.next + 1) (.cells [.int .i64 n0, .int .i64 0, .int .i64 0, .int .i64 0] 25 false)).next := by rw [Heap.next_set]; omega
  generalize L0.set (H.next + 1) (.cells [.int .i64 n0, .int .i64 0, .int .i64 0, .int .i64 0] 25 false) = K1 at hs1 hr1 q1 r1 hn1 ⊢
  refine W_unroll ?_
  simp (maxSteps := 5000000) (disch := omega) only [g0, g2, g3, g5, q1, V_P, SX, W_block, exitW, goInt, Int.reduceEq, setCells, oneOf, cellOk, reduceIte, Nat.reduceLT, Nat.reduceLeDiff, Nat.reduceEqDiff, Nat.reduceAdd, Nat.reduceSub, Nat.reduceMul, Int.reduceToNat, Int.reduceLT, Int.reduceLE, Int.reduceAdd, Int.reduceSub, implies_true, ne_eq, if_true, if_false, reduceCtorEq]
  refine W_callR rfl (by simp (maxSteps := 5000000) (disch := omega) only [g0, g2, g3, g5, q1, V_P, SX, W_block, exitW, goInt, Int.reduceEq, setCells, oneOf, cellOk, reduceIte, Nat.reduceLT, Nat.reduceLeDiff, Nat.reduceEqDiff, Nat.reduceAdd, Nat.reduceSub, Nat.reduceMul, Int.reduceToNat, Int.reduceLT, Int.reduceLE, Int.reduceAdd, Int.reduceSub, implies_true, ne_eq, if_true, if_false, reduceCtorEq]) (rd_number p 2147483647 2147483647 rfl (by decide) _ _ _ hs1.ok hr1) ?_
  rintro v L1 ⟨⟨n1, rfl, hi1, hv1⟩, hr1x, hs1x⟩
  have q1x : L1.get (H.next + 1) = some (.cells [.int .i64 n0, .int .i64 0, .int .i64 0, .int .i64 0] 25 false) := by rw [hs1x.get _ (by omega) (by simp; omega), q1]
  have r1x : L1.get H.next = some (.cells [.int .i64 0, .int .i64 0, .int .i64 0, .int .i64 0] 25 false) := by rw [hs1x.get _ (by omega) (by simp; omega), r1]
  have hl1 := hs1x.le
  simp (maxSteps := 5000000) (disch := omega) only [g0, g2, g3, g5, q1, q1x, V_P, SX, W_block, exitW, goInt, Int.reduceEq, setCells, oneOf, cellOk, reduceIte, Nat.reduceLT, Nat.reduceLeDiff, Nat.reduceEqDiff, Nat.reduceAdd, Nat.reduceSub, Nat.reduceMul, Int.reduceToNat, Int.reduceLT, Int.reduceLE, Int.reduceAdd, Int.reduceSub, implies_true, ne_eq, if_true, if_false, reduceCtorEq]
  have hs2 : Same H (L1.set (H.next + 1) (.cells [.int .i64 n0, .int .i64 n1, .int .i64 0, .int .i64 0] 25 false)) [p] := (hs1.trans hs1x (by simp)).set q1x (fun z => by omega)
  have hr2 := rd_set hr1x q1x (by decide) (by omega) (.cells [.int .i64 n0, .int .i64 n1, .int .i64 0, .int .i64 0] 25 false)
  have q2 : (L1.set (H.next + 1) (.cells [.int .i64 n0, .int .i64 n1, .int .i64 0, .int .i64 0] 25 false)).get (H.next + 1) = some (.cells [.int .i64 n0, .int .i64 n1, .int .i64 0, .int .i64 0] 25 false) := by rw [Heap.get_set, if_pos rfl]
  have r2 : (L1.set (H.next + 1) (.cells [.int .i64 n0, .int .i64 n1, .int .i64 0, .int .i64 0] 25 false)).get H.next = some (.cells [.int .i64 0, .int .i64 0, .int .i64 0, .int .i64 0] 25 false) := by rw [Heap.get_set, if_neg (by omega), r1x]
  have hn2 : H.next + 2 ≤ (L1.set (H.next + 1) (.cells [.int .i64 n0, .int .i64 n1, .int .i64 0, .int .i64 0] 25 false)).next := by rw [Heap.next_set]; omega
  generalize L1.set (H.next + 1) (.cells [.int .i64 n0, .int .i64 n1, .int .i64 0, .int .i64 0] 25 false) = K2 at hs2 hr2 q2 r2 hn2 ⊢
  refine W_unroll ?_
  simp (maxSteps := 5000000) (disch := omega) only [g0, g2, g3, g5, q2, V_P, SX, W_block, exitW, goInt, Int.reduceEq, setCells, oneOf, cellOk, reduceIte, Nat.reduceLT, Nat.reduceLeDiff, Nat.reduceEqDiff, Nat.reduceAdd, Nat.reduceSub, Nat.reduceMul, Int.reduceToNat, Int.reduceLT, Int.reduceLE, Int.reduceAdd, Int.reduceSub, implies_true, ne_eq, if_true, if_false, reduceCtorEq]
  refine W_callR rfl (by simp (maxSteps := 5000000) (disch := omega) only [g0, g2, g3, g5, q2, V_P, SX, W_block, exitW, goInt, Int.reduceEq, setCells, oneOf, cellOk, reduceIte, Nat.reduceLT, Nat.reduceLeDiff, Nat.reduceEqDiff, Nat.reduceAdd, Nat.reduceSub, Nat.reduceMul, Int.reduceToNat, Int.reduceLT, Int.reduceLE, Int.reduceAdd, Int.reduceSub, implies_true, ne_eq, if_true, if_false, reduceCtorEq]) (rd_number p 2147483647 2147483647 rfl (by decide) _ _ _ hs2.ok hr2) ?_
  rintro v L2 ⟨⟨n2, rfl, hi2, hv2⟩, hr2x, hs2x⟩
  have q2x : L2.get (H.next + 1) = some (.cells [.int .i64 n0, .int .i64 n1, .int .i64 0, .int .i64 0] 25 false) := by rw [hs2x.get _ (by omega) (by simp; omega), q2]
  have r2x : L2.get H.next = some (.cells [.int .i64 0, .int .i64 0, .int .i64 0, .int .i64 0] 25 false) := by rw [hs2x.get _ (by omega) (by simp; omega), r2]
  have hl2 := hs2x.le
  simp (maxSteps := 5000000) (disch := omega) only [g0, g2, g3, g5, q2, q2x, V_P, SX, W_block, exitW, goInt, Int.reduceEq, setCells, oneOf, cellOk, reduceIte, Nat.reduceLT, Nat.reduceLeDiff, Nat.reduceEqDiff, Nat.reduceAdd, Nat.reduceSub, Nat.reduceMul, Int.reduceToNat, Int.reduceLT, Int.reduceLE, Int.reduceAdd, Int.reduceSub, implies_true, ne_eq, if_true, if_false, reduceCtorEq]
  have hs3 : Same H (L2.set (H.next + 1) (.cells [.int .i64 n0, .int .i64 n1, .int .i64 n2, .int .i64 0] 25 false)) [p] := (hs2.trans hs2x (by simp)).set q2x (fun z => by omega)
  have hr3 := rd_set hr2x q2x (by decide) (by omega) (.cells [.int .i64 n0, .int .i64 n1, .int .i64 n2, .int .i64 0] 25 false)
  have q3 : (L2.set (H.next + 1) (.cells [.int .i64 n0, .int .i64 n1, .int .i64 n2, .int .i64 0] 25 false)).get (H.next + 1) = some (.cells [.int .i64 n0, .int .i64 n1, .int .i64 n2, .int .i64 0] 25 false) := by rw [Heap.get_set, if_pos rfl]
  have r3 : (L2.set (H.next + 1) (.cells [.int .i64 n0, .int .i64 n1, .int .i64 n2, .int .i64 0] 25 false)).get H.next = some (.cells [.int .i64 0, .int .i64 0, .int .i64 0, .int .i64 0] 25 false) := by rw [Heap.get_set, if_neg (by omega), r2x]
  have hn3 : H.next + 2 ≤ (L2.set (H.next + 1) (.cells [.int .i64 n0, .int .i64 n1, .int .i64 n2, .int .i64 0] 25 false)).next := by rw [Heap.next_set]; omega
  generalize L2.set (H.next + 1) (.cells [.int .i64 n0, .int .i64 n1, .int .i64 n2, .int .i64 0] 25 false) = K3 at hs3 hr3 q3 r3 hn3 ⊢
  refine W_unroll ?_
  simp (maxSteps := 5000000) (disch := omega) only [g0, g2, g3, g5, q3, V_P, SX, W_block, exitW, goInt, Int.reduceEq, setCells, oneOf, cellOk, reduceIte, Nat.reduceLT, Nat.reduceLeDiff, Nat.reduceEqDiff, Nat.reduceAdd, Nat.reduceSub, Nat.reduceMul, Int.reduceToNat, Int.reduceLT, Int.reduceLE, Int.reduceAdd, Int.reduceSub, implies_true, ne_eq, if_true, if_false, reduceCtorEq]
  refine W_callR rfl (by simp (maxSteps := 5000000) (disch := omega) only [g0, g2, g3, g5, q3, V_P, SX, W_block, exitW, goInt, Int.reduceEq, setCells, oneOf, cellOk, reduceIte, Nat.reduceLT, Nat.reduceLeDiff, Nat.reduceEqDiff, Nat.reduceAdd, Nat.reduceSub, Nat.reduceMul, Int.reduceToNat, Int.reduceLT, Int.reduceLE, Int.reduceAdd, Int.reduceSub, implies_true, ne_eq, if_true, if_false, reduceCtorEq]) (rd_number p 2147483647 2147483647 rfl (by decide) _ _ _ hs3.ok hr3) ?_
  rintro v L3 ⟨⟨n3, rfl, hi3, hv3⟩, hr3x, hs3x⟩
  have q3x : L3.get (H.next + 1) = some (.cells [.int .i64 n0, .int .i64 n1, .int .i64 n2, .int .i64 0] 25 false) := by rw [hs3x.get _ (by omega) (by simp; omega), q3]
  have r3x : L3.get H.next = some (.cells [.int .i64 0, .int .i64 0, .int .i64 0, .int .i64 0] 25 false) := by rw [hs3x.get _ (by omega) (by simp; omega), r3]
  have hl3 := hs3x.le
  simp (maxSteps := 5000000) (disch := omega) only [g0, g2, g3, g5, q3, q3x, V_P, SX, W_block, exitW, goInt, Int.reduceEq, setCells, oneOf, cellOk, reduceIte, Nat.reduceLT, Nat.reduceLeDiff, Nat.reduceEqDiff, Nat.reduceAdd, Nat.reduceSub, Nat.reduceMul, Int.reduceToNat, Int.reduceLT, Int.reduceLE, Int.reduceAdd, Int.reduceSub, implies_true, ne_eq, if_true, if_false, reduceCtorEq]
  have hs4 : Same H (L3.set (H.next + 1) (.cells [.int .i64 n0, .int .i64 n1, .int .i64 n2, .int .i64 n3] 25 false)) [p] := (hs3.trans hs3x (by simp)).set q3x (fun z => by omega)
  have hr4 := rd_set hr3x q3x (by decide) (by omega) (.cells [.int .i64 n0, .int .i64 n1, .int .i64 n2, .int .i64 n3] 25 false)
  have q4 : (L3.set (H.next + 1) (.cells [.int .i64 n0, .int .i64 n1, .int .i64 n2, .int .i64 n3] 25 false)).get (H.next + 1) = some (.cells [.int .i64 n0, .int .i64 n1, .int .i64 n2, .int .i64 n3] 25 false) := by rw [Heap.get_set, if_pos rfl]
  have r4 : (L3.set (H.next + 1) (.cells [.int .i64 n0, .int .i64 n1, .int .i64 n2, .int .i64 n3] 25 false)).get H.next = some (.cells [.int .i64 0, .int .i64 0, .int .i64 0, .int .i64 0] 25 false) := by rw [Heap.get_set, if_neg (by omega), r3x]
  have hn4 : H.next + 2 ≤ (L3.set (H.next + 1) (.cells [.int .i64 n0, .int .i64 n1, .int .i64 n2, .int .i64 n3] 25 false)).next := by rw [Heap.next_set]; omega
  generalize L3.set (H.next + 1) (.cells [.int .i64 n0, .int .i64 n1, .int .i64 n2, .int .i64 n3] 25 false) = K4 at hs4 hr4 q4 r4 hn4 ⊢
  refine W_unroll ?_
  simp (maxSteps := 5000000) (disch := omega) only [g0, g2, g3, g5, q4, r4, V_P, SX, W_block, exitW, goInt, Int.reduceEq, setCells, oneOf, cellOk, reduceIte, Nat.reduceLT, Nat.reduceLeDiff, Nat.reduceEqDiff, Nat.reduceAdd, Nat.reduceSub, Nat.reduceMul, Int.reduceToNat, Int.reduceLT, Int.reduceLE, Int.reduceAdd, Int.reduceSub, implies_true, ne_eq, if_true, if_false, reduceCtorEq]
  obtain ⟨hc, hk⟩ := take4 bad hv0 hv1 hv2 hv3
  rw [hc] at hr4
  exact ⟨⟨⟨n0, n1, n2, n3⟩, rfl, hk⟩, rd_set hr4 r4 (by decide) (by omega) _, hs4.set r4 (fun z => by omega)⟩
end Go.B.YteigefgobkdmgaaDoor
/- Parts read into a message: plain laws. -/
namespace Go.B.YteigefgobkdmgaaDoor
open Go Go.B Go.Proofs
set_option maxRecDepth 100000
set_option maxHeartbeats 4000000
set_option linter.unusedSimpArgs false
set_option linter.unusedVariables false
def bnd (j : Nat) : Nat := if j = 1 then 65535 else if j = 2 then 999999 else if j = 4 then 1000000 else 2147483647
def bndR (j : Nat) : Nat := if j = 1 then 65535 else if j = 2 then 999999 else 9999999999
/-- Parts, one by one, into the cells. -/
def fillM (b : Nat → Nat) : List Nat → List ByteArray → Msg → Option (Msg × List ByteArray)
  | [], l, m => some (m, l)
  | j :: js, l, m => if j = 3 then (match l with | [] => none | s :: r => fillM b js r (m.setPan s)) else match numB (b j) (l.headD (S [])) with | some k => fillM b js l.tail (m.set j k) | none => none
theorem fill_pan {b : Nat → Nat} {js : List Nat} {s : ByteArray} {r : List ByteArray} {m : Msg} : fillM b (3 :: js) (s :: r) m = fillM b js r (m.setPan s) := by
  conv => lhs; unfold fillM
  exact if_pos rfl
theorem fill_pan0 {b : Nat → Nat} {js : List Nat} {m : Msg} : fillM b (3 :: js) [] m = none := by unfold fillM; exact if_pos rfl
theorem fill_some {b : Nat → Nat} {j k : Nat} {js : List Nat} {l : List ByteArray} {m : Msg} (hj : j ≠ 3) (h : numB (b j) (l.headD (S [])) = some k) : fillM b (j :: js) l m = fillM b js l.tail (m.set j k) := by
  conv => lhs; unfold fillM
  rw [if_neg hj, h]
theorem fill_none {b : Nat → Nat} {j : Nat} {js : List Nat} {l : List ByteArray} {m : Msg} (hj : j ≠ 3) (h : numB (b j) (l.headD (S [])) = none) : fillM b (j :: js) l m = none := by
  conv => lhs; unfold fillM
  rw [if_neg hj, h]
theorem fill_append {b : Nat → Nat} : ∀ (js ks : List Nat) (l : List ByteArray) (m : Msg), fillM b (js ++ ks) l m = (fillM b js l m).bind fun p => fillM b ks p.2 p.1
  | [], ks, l, m => rfl
  | j :: js, ks, l, m => by
    by_cases hj : j = 3
    · subst hj
      cases l with
      | nil => rw [List.cons_append, fill_pan0, fill_pan0]; rfl
      | cons s r => rw [List.cons_append, fill_pan, fill_pan, fill_append js ks]
    · cases hn : numB (b j) (l.headD (S [])) with
      | none => rw [List.cons_append, fill_none hj hn, fill_none hj hn]; rfl
      | some k => rw [List.cons_append, fill_some hj hn, fill_some hj hn, fill_append js ks]
theorem fill_other {b : Nat → Nat} : ∀ (js : List Nat) (l : List ByteArray) (m m' : Msg) (r : List ByteArray), fillM b js l m = some (m', r) → ∀ i, i ∉ js → m'.c i = m.c i
  | [], l, m, m', r, h, i, hi => by cases h; rfl
  | j :: js, l, m, m', r, h, i, hi => by
    simp only [List.mem_cons, not_or] at hi
    by_cases hj : j = 3
    · subst hj
      cases l with
      | nil => rw [fill_pan0] at h; cases h
      | cons s t => rw [fill_pan] at h; exact fill_other js t _ m' r h i hi.2
    · cases hn : numB (b j) (l.headD (S [])) with
      | none => rw [fill_none hj hn] at h; cases h
      | some k => rw [fill_some hj hn] at h; rw [fill_other js _ _ m' r h i hi.2, set_ne hi.1]
theorem numB_mono {a b : Nat} (h : a ≤ b) {s : ByteArray} {k : Nat} (hk : numB a s = some k) : numB b s = some k := by
  obtain ⟨h1, h2⟩ := numB_some hk
  exact numB_iff.mpr ⟨h1, by omega⟩
theorem fill_up {a b : Nat → Nat} (hab : ∀ j, a j ≤ b j) : ∀ (js : List Nat) (l : List ByteArray) (m : Msg) (x : Msg × List ByteArray), fillM a js l m = some x → fillM b js l m = some x
  | [], l, m, x, h => h
  | j :: js, l, m, x, h => by
    by_cases hj : j = 3
    · subst hj
      cases l with
      | nil => rw [fill_pan0] at h; cases h
      | cons s t => rw [fill_pan] at h ⊢; exact fill_up hab js t _ x h
    · cases hn : numB (a j) (l.headD (S [])) with
      | none => rw [fill_none hj hn] at h; cases h
      | some k => rw [fill_some hj hn] at h; rw [fill_some hj (numB_mono (hab j) hn)]; exact fill_up hab js _ _ x h
theorem fill_down {a b : Nat → Nat} : ∀ (js : List Nat) (l : List ByteArray) (m m' : Msg) (r : List ByteArray), js.Nodup → fillM b js l m = some (m', r) → (∀ j ∈ js, j ≠ 3 → m'.c j ≤ a j) → fillM a js l m = some (m', r)
  | [], l, m, m', r, _, h, _ => h
  | j :: js, l, m, m', r, hd, h, hb => by
    rw [List.nodup_cons] at hd
    by_cases hj : j = 3
    · subst hj
      cases l with
      | nil => rw [fill_pan0] at h; cases h
      | cons s t => rw [fill_pan] at h ⊢; exact fill_down js t _ m' r hd.2 h (fun i hi => hb i (List.mem_cons_of_mem _ hi))
    · cases hn : numB (b j) (l.headD (S [])) with
      | none => rw [fill_none hj hn] at h; cases h
      | some k =>
        rw [fill_some hj hn] at h
        have hc := fill_other js _ _ m' r h j hd.1
        rw [set_eq] at hc
        have h1 := hb j (by simp) hj
        obtain ⟨h2, _⟩ := numB_some hn
        rw [fill_some hj (numB_iff.mpr ⟨h2, by omega⟩)]
        exact fill_down js _ _ m' r hd.2 h (fun i hi => hb i (List.mem_cons_of_mem _ hi))
theorem bnd_le (j : Nat) : bnd j ≤ bndR j := by unfold bnd bndR; (repeat' split) <;> omega
theorem slots_nodup (k : Int) : (slots k).Nodup := by
  unfold slots
  repeat' split
  all_goals decide
/-- A right message's cells are within the code's bounds. -/
theorem right_bnd {m : Msg} (h : m.right = true) (h1 : m.c 1 ≤ 65535) {j : Nat} (hj : j < 26) (h3 : j ≠ 3) (h0 : j ≠ 0) : m.c j ≤ bnd j := by
  have hr := (right_iff m).mp h
  have g0 := within_iff.mp (hr.2.2.2.2 0 (by decide))
  have g1 := within_iff.mp (hr.2.2.2.2 1 (by decide))
  have g2 := within_iff.mp (hr.2.2.2.2 2 (by decide))
  have g3 := within_iff.mp (hr.2.2.2.2 3 (by decide))
  have g4 := within_iff.mp (hr.2.2.2.2 4 (by decide))
  have e0 : mostG 0 = 10000 := rfl
  have e1 : mostG 1 = 10000 := rfl
  have e2 : mostG 2 = 2147483647 := rfl
  have e3 : mostG 3 = 2147483647 := rfl
  have e4 : mostG 4 = 10000 := rfl
  rw [e0] at g0; rw [e1] at g1; rw [e2] at g2; rw [e3] at g3; rw [e4] at g4
  obtain ⟨⟨_, a0⟩, ⟨_, b0⟩, ⟨_, c0⟩, ⟨_, d0⟩⟩ := g0
  obtain ⟨⟨_, a1⟩, ⟨_, b1⟩, ⟨_, c1⟩, ⟨_, d1⟩⟩ := g1
  obtain ⟨⟨_, a2⟩, ⟨_, b2⟩, ⟨_, c2⟩, ⟨_, d2⟩⟩ := g2
  obtain ⟨⟨_, a3⟩, ⟨_, b3⟩, ⟨_, c3⟩, ⟨_, d3⟩⟩ := g3
  obtain ⟨⟨_, a4⟩, ⟨_, b4⟩, ⟨_, c4⟩, ⟨_, d4⟩⟩ := g4
  have k1 : m.c 1 ≤ bnd 1 := h1
  have k2 : m.c 2 ≤ bnd 2 := hr.2.1.1
  have k4 : m.c 4 ≤ bnd 4 := hr.2.1.2.2.1
  have k21 : m.c 21 ≤ bnd 21 := Int.le_trans hr.2.1.2.2.2.2 (by decide)
  have lift : ∀ {x : Int} {j : Nat}, x ≤ 10000 → (j ≠ 1 ∧ j ≠ 2 ∧ j ≠ 4) → x ≤ bnd j := fun {x j} hx hj => by unfold bnd; rw [if_neg hj.1, if_neg hj.2.1, if_neg hj.2.2]; omega
  have liftB : ∀ {x : Int} {j : Nat}, x ≤ 2147483647 → (j ≠ 1 ∧ j ≠ 2 ∧ j ≠ 4) → x ≤ bnd j := fun {x j} hx hj => by unfold bnd; rw [if_neg hj.1, if_neg hj.2.1, if_neg hj.2.2]; omega
  have : j = 1 ∨ j = 2 ∨ j = 4 ∨ j = 5 ∨ j = 6 ∨ j = 7 ∨ j = 8 ∨ j = 9 ∨ j = 10 ∨ j = 11 ∨ j = 12 ∨ j = 13 ∨ j = 14 ∨ j = 15 ∨ j = 16 ∨ j = 17 ∨ j = 18 ∨ j = 19 ∨ j = 20 ∨ j = 21 ∨ j = 22 ∨ j = 23 ∨ j = 24 ∨ j = 25 := by omega
  rcases this with rfl | rfl | rfl | rfl | rfl | rfl | rfl | rfl | rfl | rfl | rfl | rfl | rfl | rfl | rfl | rfl | rfl | rfl | rfl | rfl | rfl | rfl | rfl | rfl
  · exact k1
  · exact k2
  · exact k4
  · exact lift a0 (by decide)
  · exact lift b0 (by decide)
  · exact lift c0 (by decide)
  · exact lift d0 (by decide)
  · exact lift a1 (by decide)
  · exact lift b1 (by decide)
  · exact lift c1 (by decide)
  · exact lift d1 (by decide)
  · exact liftB a2 (by decide)
  · exact liftB b2 (by decide)
  · exact liftB c2 (by decide)
  · exact liftB d2 (by decide)
  · exact liftB a3 (by decide)
  · exact liftB b3 (by decide)
  · exact liftB c3 (by decide)
  · exact liftB d3 (by decide)
  · exact k21
  · exact lift a4 (by decide)
  · exact lift b4 (by decide)
  · exact lift c4 (by decide)
  · exact lift d4 (by decide)
def kindOf (s : ByteArray) : Int := if s = kindS 1 then 1 else if s = kindS 2 then 2 else if s = kindS 3 then 3 else if s = kindS 4 then 4 else if s = kindS 5 then 5 else if s = kindS 6 then 6 else if s = kindS 7 then 7 else 0
theorem kindOf_kind {k : Int} (h : 1 ≤ k ∧ k ≤ 7) : kindOf (kindS k) = k := by
  have ne : ∀ a b : Int, (1 ≤ a ∧ a ≤ 7) → (1 ≤ b ∧ b ≤ 7) → a ≠ b → kindS a ≠ kindS b := fun a b ha hb hab e => hab (kindS_inj ha hb e)
  unfold kindOf
  rcases (show k = 1 ∨ k = 2 ∨ k = 3 ∨ k = 4 ∨ k = 5 ∨ k = 6 ∨ k = 7 by omega) with rfl | rfl | rfl | rfl | rfl | rfl | rfl
  · rw [if_pos rfl]
  · rw [if_neg (ne 2 1 (by decide) (by decide) (by decide)), if_pos rfl]
  · rw [if_neg (ne 3 1 (by decide) (by decide) (by decide)), if_neg (ne 3 2 (by decide) (by decide) (by decide)), if_pos rfl]
  · rw [if_neg (ne 4 1 (by decide) (by decide) (by decide)), if_neg (ne 4 2 (by decide) (by decide) (by decide)), if_neg (ne 4 3 (by decide) (by decide) (by decide)), if_pos rfl]
  · rw [if_neg (ne 5 1 (by decide) (by decide) (by decide)), if_neg (ne 5 2 (by decide) (by decide) (by decide)), if_neg (ne 5 3 (by decide) (by decide) (by decide)), if_neg (ne 5 4 (by decide) (by decide) (by decide)), if_pos rfl]
  · rw [if_neg (ne 6 1 (by decide) (by decide) (by decide)), if_neg (ne 6 2 (by decide) (by decide) (by decide)), if_neg (ne 6 3 (by decide) (by decide) (by decide)), if_neg (ne 6 4 (by decide) (by decide) (by decide)), if_neg (ne 6 5 (by decide) (by decide) (by decide)), if_pos rfl]
  · rw [if_neg (ne 7 1 (by decide) (by decide) (by decide)), if_neg (ne 7 2 (by decide) (by decide) (by decide)), if_neg (ne 7 3 (by decide) (by decide) (by decide)), if_neg (ne 7 4 (by decide) (by decide) (by decide)), if_neg (ne 7 5 (by decide) (by decide) (by decide)), if_neg (ne 7 6 (by decide) (by decide) (by decide)), if_pos rfl]
/-- What parts tell, with bounds of one's own. -/
def readB (b : Nat → Nat) (ps : List ByteArray) : Option Msg :=
  match fillM b (slots (kindOf (ps.headD (S [])))) ps.tail (.new (kindOf (ps.headD (S []))) 0) with
  | some (m, []) => if m.right = true then some m else none
  | _ => none
theorem right_slots1 {k : Int} (h : 1 ≤ k ∧ k ≤ 7) : 1 ∈ slots k := by
  rcases (show k = 1 ∨ k = 2 ∨ k = 3 ∨ k = 4 ∨ k = 5 ∨ k = 6 ∨ k = 7 by omega) with rfl | rfl | rfl | rfl | rfl | rfl | rfl <;> decide
theorem slots_0 (k : Int) : 0 ∉ slots k := by
  unfold slots
  repeat' split
  all_goals decide
/-- What was read for a cell is within its bound. -/
theorem fill_val {b : Nat → Nat} : ∀ (js : List Nat) (l : List ByteArray) (m m' : Msg) (r : List ByteArray), js.Nodup → fillM b js l m = some (m', r) → ∀ j ∈ js, j ≠ 3 → 0 ≤ m'.c j ∧ m'.c j ≤ b j
  | [], l, m, m', r, _, h, j, hj, _ => by cases hj
  | i :: js, l, m, m', r, hd, h, j, hj, h3 => by
    rw [List.nodup_cons] at hd
    by_cases hi : i = 3
    · subst hi
      cases l with
      | nil => rw [fill_pan0] at h; cases h
      | cons s t =>
        rw [fill_pan] at h
        rcases List.mem_cons.mp hj with e | hj
        · exact absurd e h3
        · exact fill_val js t _ m' r hd.2 h j hj h3
    · cases hn : numB (b i) (l.headD (S [])) with
      | none => rw [fill_none hi hn] at h; cases h
      | some k =>
        rw [fill_some hi hn] at h
        rcases List.mem_cons.mp hj with rfl | hj
        · rw [fill_other js _ _ m' r h j hd.1, set_eq]
          obtain ⟨_, h2⟩ := numB_some hn
          omega
        · exact fill_val js _ _ m' r hd.2 h j hj h3
theorem read_same (ps : List ByteArray) : readB bnd ps = readB bndR ps := by
  unfold readB
  generalize hk : kindOf (ps.headD (S [])) = k
  cases h1 : fillM bnd (slots k) ps.tail (.new k 0) with
  | some x =>
    rw [fill_up bnd_le _ _ _ _ h1]
  | none =>
    cases h2 : fillM bndR (slots k) ps.tail (.new k 0) with
    | none => rfl
    | some x =>
      obtain ⟨m, r⟩ := x
      cases r with
      | cons a r => rfl
      | nil =>
        simp only
        by_cases hr : m.right = true
        · exfalso
          have hk0 : m.c 0 = k := by rw [fill_other _ _ _ _ _ h2 0 (slots_0 k)]; rfl
          have hkr := ((right_iff m).mp hr).1
          rw [hk0] at hkr
          have hv := fill_val _ _ _ _ _ (slots_nodup k) h2
          have h11 := (hv 1 (right_slots1 hkr) (by decide)).2
          have h3 := fill_down (a := bnd) _ _ _ _ _ (slots_nodup k) h2 (fun j hj hj3 => right_bnd hr h11 (slots_lt k j hj) hj3 (fun z => by rw [z] at hj; exact slots_0 k hj))
          rw [h1] at h3
          cases h3
        · rw [if_neg hr]
/-- A message's own parts tell it. -/
theorem fill_texts {b : Nat → Nat} (m : Msg) : ∀ (js : List Nat) (m0 : Msg), (∀ j ∈ js, j ≠ 3 → 0 ≤ m.c j ∧ m.c j ≤ b j) → ∃ m', fillM b js (js.map m.text) m0 = some (m', []) ∧ (∀ j, m'.c j = if j ∈ js ∧ j ≠ 3 then m.c j else m0.c j) ∧ m'.pan = (if 3 ∈ js then m.pan else m0.pan)
  | [], m0, _ => ⟨m0, rfl, fun j => by simp, by simp⟩
  | j :: js, m0, h => by
    by_cases hj : j = 3
    · subst hj
      obtain ⟨m', h1, h2, h3⟩ := fill_texts m js (m0.setPan m.pan) (fun i hi => h i (List.mem_cons_of_mem _ hi))
      refine ⟨m', ?_, fun i => ?_, ?_⟩
      · rw [List.map_cons, fill_pan]; exact h1
      · rw [h2 i, setPan_c]
        by_cases hi : i = 3
        · rw [if_neg (fun z => z.2 hi), if_neg (fun z => z.2 hi)]
        · simp [hi]
      · rw [h3, setPan_pan]
        by_cases hi : 3 ∈ js <;> simp [hi]
    · obtain ⟨a, c⟩ := h j (by simp) hj
      obtain ⟨k, hk⟩ := Int.eq_ofNat_of_zero_le a
      have htx : m.text j = S (Lib.decDigits k) := by unfold Msg.text; rw [if_neg hj, hk, txt, itoa_nat]
      obtain ⟨m', h1, h2, h3⟩ := fill_texts m js (m0.set j k) (fun i hi => h i (List.mem_cons_of_mem _ hi))
      refine ⟨m', ?_, fun i => ?_, ?_⟩
      · rw [List.map_cons, fill_some hj (k := k) (by rw [List.headD_cons, htx]; exact numB_dec (by omega))]; exact h1
      · rw [h2 i]
        by_cases hi : i = j
        · subst hi
          rw [set_eq]
          by_cases hin : i ∈ js <;> simp [hin, hj, hk]
        · rw [set_ne hi]; simp [hi]
      · rw [h3, set_pan]; simp [Ne.symm hj]
theorem read_texts {m : Msg} (h : m.right = true) (hw : m.wf) : ∃ m', readB bnd m.texts = some m' ∧ m'.same m = true := by
  have hr := (right_iff m).mp h
  have hb : ∀ j ∈ slots (m.c 0), j ≠ 3 → 0 ≤ m.c j ∧ m.c j ≤ bnd j := fun j hj h3 => ⟨right_nonneg h hw (slots_lt _ j hj) h3, right_bnd h (by have := hw.term; omega) (slots_lt _ j hj) h3 (fun z => by rw [z] at hj; exact slots_0 _ hj)⟩
  obtain ⟨m', h1, h2, h3⟩ := fill_texts m (slots (m.c 0)) (.new (m.c 0) 0) hb
  have hsame : m'.same m = true := by
    refine same_iff.mpr ⟨?_, fun j hj hj3 => ?_⟩
    · rw [h3]
      by_cases hp : 3 ∈ slots (m.c 0)
      · rw [if_pos hp]
      · rw [if_neg hp]
        rcases hr.2.2.2.1 with ⟨a, _⟩ | ⟨_, b⟩
        · rw [a] at hp; exact absurd (by decide) hp
        · rw [b]; rfl
    · rw [h2 j]
      by_cases hin : j ∈ slots (m.c 0)
      · rw [if_pos ⟨hin, hj3⟩]
      · rw [if_neg (fun z => hin z.1)]
        by_cases h0 : j = 0
        · subst h0; rfl
        · have hn : keep (m.c 0) j ≠ true := fun z => by
            rcases keep_slots hr.1 hj hj3 z with h | h
            · exact h0 h
            · exact hin h
          rw [(hr.2.2.1 j hj hj3).resolve_left hn]
          have h1' : j ≠ 1 := fun z => by rw [z] at hin; exact hin (right_slots1 hr.1)
          show (if j = 0 then _ else if j = 1 then _ else _) = _
          rw [if_neg h0, if_neg h1']
  have hright : m'.right = true := by
    have e : m'.right = m.right := by
      obtain ⟨p1, p2⟩ := same_iff.mp hsame
      have e2 : ∀ j, j < 26 → j ≠ 3 → m'.c j = m.c j := p2
      have hn : ∀ i, i < 5 → m'.n4 (grp i) = m.n4 (grp i) := fun i hi => by
        unfold Msg.n4
        have : 5 ≤ grp i ∧ grp i ≤ 22 := by unfold grp; (repeat' split) <;> omega
        rw [e2 _ (by omega) (by omega), e2 _ (by omega) (by omega), e2 _ (by omega) (by omega), e2 _ (by omega) (by omega)]
      rw [Bool.eq_iff_iff, right_iff, right_iff, p1, e2 0 (by decide) (by decide), e2 2 (by decide) (by decide), e2 4 (by decide) (by decide), e2 21 (by decide) (by decide)]
      refine and_congr_right fun _ => and_congr_right fun _ => ?_
      refine and_congr ?_ (and_congr_right fun _ => ?_)
      · exact ⟨fun z j a b => by rw [← e2 j a b]; exact z j a b, fun z j a b => by rw [e2 j a b]; exact z j a b⟩
      · exact ⟨fun z i hi => by rw [← hn i hi]; exact z i hi, fun z i hi => by rw [hn i hi]; exact z i hi⟩
    rw [e]; exact h
  refine ⟨m', ?_, hsame⟩
  unfold readB
  have hh : m.texts.headD (S []) = kindS (m.c 0) := rfl
  have ht : m.texts.tail = (slots (m.c 0)).map m.text := rfl
  rw [hh, ht, kindOf_kind hr.1, h1]
  simp only
  rw [if_pos hright]
end Go.B.YteigefgobkdmgaaDoor
/- The code's Split. -/
namespace Go.B.YteigefgobkdmgaaDoor
open Go Go.B Go.Proofs
set_option maxRecDepth 100000
set_option maxHeartbeats 16000000
set_option linter.unusedSimpArgs false
set_option linter.unusedVariables false
/-- Bytes of a row that may be empty, or none. -/
structure BRow (H : Heap) (b : Option Addr) (c : Nat) (y : List UInt8) : Prop where
  at_ : (y = [] ∧ (b = none ∧ c = 0 ∨ b = some empA ∧ c = capU)) ∨ ∃ i o cs e ro, b = some ⟨i, o, none⟩ ∧ H.get i = some (.cells cs e ro) ∧ o + y.length ≤ cs.length ∧ (cs.drop o).take y.length = bytesV y ∧ szOf Tryd.prog e = some 1
theorem BRow.mono {H H' : Heap} {b : Option Addr} {c : Nat} {y : List UInt8} (h : BRow H b c y) (hg : ∀ i o, H.get i = some o → H'.get i = some o) : BRow H' b c y := by
  rcases h.at_ with h0 | ⟨i, o, cs, e, ro, h1, h2, h3⟩
  · exact ⟨.inl h0⟩
  · exact ⟨.inr ⟨i, o, cs, e, ro, h1, hg _ _ h2, h3⟩⟩
theorem BRow.keep {H H' : Heap} {b : Option Addr} {c : Nat} {y : List UInt8} (h : BRow H b c y) (ok : Ok H) (hs : Same H H' []) : BRow H' b c y := h.mono (hs.keeps ok)
theorem BRow.row {H : Heap} {b : Option Addr} {c : Nat} {y : List UInt8} (h : BRow H b c y) : Row Tryd.prog H b y.length 1 (bytesV y) := by
  refine ⟨by rw [bytesV_length, Nat.mul_one], ?_⟩
  rcases h.at_ with ⟨rfl, _⟩ | ⟨i, o, cs, e, ro, h1, h2, h3, h4, h5⟩
  · exact .inl rfl
  · exact .inr ⟨i, o, cs, e, ro, h1, h2, by rw [bytesV_length]; exact h3, by rw [bytesV_length]; exact h4, h5⟩
theorem cv_brow {H : Heap} {b : Option Addr} {y : List UInt8} {c : Nat} (h : BRow H b c y) : cvV Tryd.prog H 31 9 (.slice b y.length c) = some (.val (.string (S y)) H) := by
  rcases h.at_ with ⟨rfl, hb⟩ | ⟨i, o, cs, e, ro, rfl, h2, h3, h4, _⟩
  · refine cvV_bytes un_31 un_9 u8_5 (l := []) ?_ rfl
    rcases hb with ⟨rfl, rfl⟩ | ⟨rfl, rfl⟩ <;> rfl
  · refine cv_row rfl ?_
    rw [h2, gcV_cells, if_pos h3, h4]
theorem wire_Split (y : List UInt8) (b : Option Addr) (c : Nat) (H : Heap) (ok : Ok H) (hy : BRow H b c y) (hl : y.length ≤ 1000000) :
    ∃ v H', Ca V 34 #[.slice b y.length c] H v H' ∧ (∃ i, H.next ≤ i ∧ v = .slice (some ⟨i, 0, none⟩) ((sp y).map S).length capU ∧ H'.get i = some (.cells (((sp y).map S).map Value.string) 9 false)) ∧ Same H H' [] := by
  refine Ca_run rfl tab_34 rfl ?_
  simp (maxSteps := 5000000) (disch := omega) only [Tryd.f34, cv_brow hy, cv_sep, V_P, SX, W_block, exitW, goInt, Int.reduceEq, setCells, oneOf, cellOk, reduceIte, Nat.reduceLT, Nat.reduceLeDiff, Nat.reduceEqDiff, Nat.reduceAdd, Nat.reduceSub, Nat.reduceMul, Int.reduceToNat, Int.reduceLT, Int.reduceLE, Int.reduceAdd, Int.reduceSub, implies_true, ne_eq, if_true, if_false, reduceCtorEq]
  refine W_callR rfl (by simp (maxSteps := 5000000) (disch := omega) only [cv_brow hy, cv_sep, V_P, SX, W_block, exitW, goInt, Int.reduceEq, setCells, oneOf, cellOk, reduceIte, Nat.reduceLT, Nat.reduceLeDiff, Nat.reduceEqDiff, Nat.reduceAdd, Nat.reduceSub, Nat.reduceMul, Int.reduceToNat, Int.reduceLT, Int.reduceLE, Int.reduceAdd, Int.reduceSub, implies_true, ne_eq, if_true, if_false, reduceCtorEq]) (Ca_is (c_Split (S y) _ (by show y.length < _; omega))) ?_
  rintro v H3 ⟨rfl, rfl⟩
  simp (maxSteps := 5000000) (disch := omega) only [cv_sep, V_P, SX, W_block, exitW, goInt, Int.reduceEq, setCells, oneOf, cellOk, reduceIte, Nat.reduceLT, Nat.reduceLeDiff, Nat.reduceEqDiff, Nat.reduceAdd, Nat.reduceSub, Nat.reduceMul, Int.reduceToNat, Int.reduceLT, Int.reduceLE, Int.reduceAdd, Int.reduceSub, implies_true, ne_eq, if_true, if_false, reduceCtorEq]
  rw [U_S]
  refine ⟨⟨H.next + 1, by omega, rfl, by rw [hite_same]⟩, by repeat (first | exact Same.same ok | refine Same.push ?_ _ | refine Same.room ?_ _ | (refine Same.make ?_ (by (try simp only [Heap.next_push, Heap.next_set, Heap.next_room]); omega) (by (try simp only [Heap.next_push, Heap.next_set, Heap.next_room]); omega)) | (refine Same.put ?_ (by simp (disch := omega) only [Heap.get_pushH, Heap.get_setH, hite_same, hite_ne, hite_eq, Heap.get_room, Heap.next_push, Heap.next_set, Heap.next_room, Option.isSome_some, *]) (fun z => by first | (simp; done) | (exfalso; (try simp only [Heap.next_push, Heap.next_set, Heap.next_room] at z); omega))))⟩
/-- What was read so far: all right, or a part was none. -/
def Got (b : Nat → Nat) (js : List Nat) (L : List ByteArray) (k : Int) (m : Msg) (l : List ByteArray) (bad : Bool) : Prop :=
  (fillM b js L (.new k 0) = some (m, l) ∧ bad = false) ∨ (fillM b js L (.new k 0) = none ∧ bad = true)
theorem Got.num {b : Nat → Nat} {js L : List _} {k : Int} {m : Msg} {l : List ByteArray} {bad : Bool} (h : Got b js L k m l bad) {j B : Nat} (hj : j ≠ 3) (hB : b j = B) (n : Int) (hn : ∀ x : Nat, numB B (l.headD (S [])) = some x → n = x) : Got b (js ++ [j]) L k (m.set j n) l.tail (bad || (numB B (l.headD (S []))).isNone) := by
  subst hB
  rcases h with ⟨h1, rfl⟩ | ⟨h1, rfl⟩
  · cases hx : numB (b j) (l.headD (S [])) with
    | none => exact .inr ⟨by rw [fill_append, h1]; exact fill_none hj hx, rfl⟩
    | some x => rw [hn x hx]; exact .inl ⟨by rw [fill_append, h1]; exact fill_some hj hx, rfl⟩
  · exact .inr ⟨by rw [fill_append, h1]; rfl, rfl⟩
theorem Got.pan {b : Nat → Nat} {js L : List _} {k : Int} {m : Msg} {l : List ByteArray} {bad : Bool} (h : Got b js L k m l bad) : Got b (js ++ [3]) L k (m.setPan (l.headD (S []))) l.tail (bad || l.isEmpty) := by
  rcases h with ⟨h1, rfl⟩ | ⟨h1, rfl⟩
  · cases l with
    | nil => exact .inr ⟨by rw [fill_append, h1]; exact fill_pan0, rfl⟩
    | cons s r => exact .inl ⟨by rw [fill_append, h1]; exact fill_pan, rfl⟩
  · exact .inr ⟨by rw [fill_append, h1]; rfl, rfl⟩
theorem set4_set {m : Msg} {j : Nat} {a b c d : Int} : (((m.set j a).set (j + 1) b).set (j + 2) c).set (j + 3) d = m.set4 j a b c d := by
  unfold Msg.set Msg.set4
  congr 1
  funext i
  by_cases h0 : i = j
  · subst h0; simp
  · by_cases h1 : i = j + 1
    · subst h1; simp
    · by_cases h2 : i = j + 2
      · subst h2; simp
      · simp [h0, h1, h2]
theorem Got.four {b : Nat → Nat} {js L : List _} {k : Int} {m : Msg} {l : List ByteArray} {bad : Bool} (h : Got b js L k m l bad) {j : Nat} (hj : 4 ≤ j) (hB : ∀ i, i < 4 → b (j + i) = 2147483647) (n : N4) (hn : ∀ ks, takeN 4 l = some ks → [n.a, n.b, n.c, n.d] = ks.map Int.ofNat) : Got b (js ++ [j, j + 1, j + 2, j + 3]) L k (m.set4 j n.a n.b n.c n.d) l.tail.tail.tail.tail (bad || (takeN 4 l).isNone) := by
  rcases h with ⟨h1, rfl⟩ | ⟨h1, rfl⟩
  rotate_left
  · exact .inr ⟨by rw [fill_append, h1]; rfl, rfl⟩
  have b0 : b j = 2147483647 := hB 0 (by omega)
  have b1 := hB 1 (by omega)
  have b2 := hB 2 (by omega)
  have b3 := hB 3 (by omega)
  have key : ∀ x, fillM b [j, j + 1, j + 2, j + 3] l m = x → fillM b (js ++ [j, j + 1, j + 2, j + 3]) L (.new k 0) = x := fun x hx => by rw [fill_append, h1]; exact hx
  simp only [takeN] at hn ⊢
  cases e0 : numB 2147483647 (l.headD (S [])) with
  | none => exact .inr ⟨key _ (fill_none (by omega) (by rw [b0]; exact e0)), rfl⟩
  | some x0 =>
  cases e1 : numB 2147483647 (l.tail.headD (S [])) with
  | none => exact .inr ⟨key _ (by rw [fill_some (by omega) (by rw [b0]; exact e0), fill_none (by omega) (by rw [b1]; exact e1)]), rfl⟩
  | some x1 =>
  cases e2 : numB 2147483647 (l.tail.tail.headD (S [])) with
  | none => exact .inr ⟨key _ (by rw [fill_some (by omega) (by rw [b0]; exact e0), fill_some (by omega) (by rw [b1]; exact e1), fill_none (by omega) (by rw [b2]; exact e2)]), rfl⟩
  | some x2 =>
  cases e3 : numB 2147483647 (l.tail.tail.tail.headD (S [])) with
  | none => exact .inr ⟨key _ (by rw [fill_some (by omega) (by rw [b0]; exact e0), fill_some (by omega) (by rw [b1]; exact e1), fill_some (by omega) (by rw [b2]; exact e2), fill_none (by omega) (by rw [b3]; exact e3)]), rfl⟩
  | some x3 =>
  have hl := hn [x0, x1, x2, x3] (by rw [e0]; simp only []; rw [e1]; simp only []; rw [e2]; simp only []; rw [e3]; rfl)
  simp only [List.map_cons, List.map_nil, List.cons.injEq, and_true] at hl
  obtain ⟨ha, hb, hc, hd⟩ := hl
  refine .inl ⟨key _ ?_, rfl⟩
  rw [fill_some (by omega) (by rw [b0]; exact e0), fill_some (by omega) (by rw [b1]; exact e1), fill_some (by omega) (by rw [b2]; exact e2), fill_some (by omega) (by rw [b3]; exact e3), ← set4_set, ha, hb, hc, hd]
  rfl
end Go.B.YteigefgobkdmgaaDoor
/- The code's Read. -/
namespace Go.B.YteigefgobkdmgaaDoor
open Go Go.B Go.Proofs
set_option maxRecDepth 100000
set_option maxHeartbeats 16000000
set_option linter.unusedSimpArgs false
set_option linter.unusedVariables false
/-- A reader at p, a message at q, what will be told at r. -/
structure RS (H : Heap) (p q r : Nat) (K : Heap) (m : Msg) (l : List ByteArray) (bad : Bool) : Prop where
  hq : K.get q = some (mO m)
  hr : K.get r = some (mO .zero)
  rd : Rd K p l bad
  same : Same H K []
  ne : p ≠ q ∧ p ≠ r ∧ q ≠ r ∧ H.next ≤ p ∧ H.next ≤ q ∧ H.next ≤ r
theorem RS.call {H : Heap} {p q r : Nat} {K K1 : Heap} {m : Msg} {l l' : List ByteArray} {bad bad' : Bool} (h : RS H p q r K m l bad) (hs : Same K K1 [p]) (hrd : Rd K1 p l' bad') : RS H p q r K1 m l' bad' := by
  obtain ⟨h1, h2, h3, h4, h5, h6, h7, h8, h9, h10⟩ := h
  have ok := h4.ok
  refine ⟨by rw [hs.get _ (ok.lt h1) (by simp; omega), h1], by rw [hs.get _ (ok.lt h2) (by simp; omega), h2], hrd, ?_, h5, h6, h7, h8, h9, h10⟩
  exact h4.trans hs (fun z hz hlt => by simp only [List.mem_singleton] at hz; omega)
theorem RS.put {H : Heap} {p q r : Nat} {K : Heap} {m : Msg} {l : List ByteArray} {bad : Bool} (h : RS H p q r K m l bad) (m' : Msg) : RS H p q r (K.set q (mO m')) m' l bad := by
  obtain ⟨h1, h2, h3, h4, h5, h6, h7, h8, h9, h10⟩ := h
  exact ⟨by rw [Heap.get_set, if_pos rfl], by rw [Heap.get_set, if_neg (Ne.symm h7)]; exact h2, rd_set h3 h1 (by decide) h5 _, h4.set h1 (fun z => by omega), h5, h6, h7, h8, h9, h10⟩
def kU : Nat → ByteArray → Int
  | 0, _ => 0
  | k + 1, s => if kindS k = s then k else kU k s
theorem kU_8 (s : ByteArray) : kU 8 s = kindOf s := by
  have ne : ∀ a b : Int, (1 ≤ a ∧ a ≤ 7) → (1 ≤ b ∧ b ≤ 7) → a ≠ b → kindS a ≠ kindS b := fun a b ha hb hab e => hab (kindS_inj ha hb e)
  by_cases h : ∃ k : Int, (1 ≤ k ∧ k ≤ 7) ∧ kindS k = s
  · obtain ⟨k, hk, rfl⟩ := h
    rw [kindOf_kind hk]
    rcases (show k = 1 ∨ k = 2 ∨ k = 3 ∨ k = 4 ∨ k = 5 ∨ k = 6 ∨ k = 7 by omega) with rfl | rfl | rfl | rfl | rfl | rfl | rfl <;> decide
  · have hn : ∀ k : Int, (1 ≤ k ∧ k ≤ 7) → kindS k ≠ s := fun k hk e => h ⟨k, hk, e⟩
    have hn' : ∀ k : Int, (1 ≤ k ∧ k ≤ 7) → s ≠ kindS k := fun k hk e => h ⟨k, hk, e.symm⟩
    simp only [kU]
    rw [if_neg (hn _ (by decide)), if_neg (hn _ (by decide)), if_neg (hn _ (by decide)), if_neg (hn _ (by decide)), if_neg (hn _ (by decide)), if_neg (hn _ (by decide)), if_neg (hn _ (by decide))]
    unfold kindOf
    rw [if_neg (hn' _ (by decide)), if_neg (hn' _ (by decide)), if_neg (hn' _ (by decide)), if_neg (hn' _ (by decide)), if_neg (hn' _ (by decide)), if_neg (hn' _ (by decide)), if_neg (hn' _ (by decide))]
    split <;> rfl
theorem kindOf_range (s : ByteArray) : 0 ≤ kindOf s ∧ kindOf s ≤ 7 := by
  unfold kindOf
  repeat' split
  all_goals omega
theorem new_set0 {a n : Int} : (Msg.new 0 n).set 0 a = (Msg.new a 0).set 1 n := by
  unfold Msg.new Msg.set
  congr 1
  funext j
  by_cases h0 : j = 0
  · subst h0; rfl
  · by_cases h1 : j = 1
    · subst h1; rfl
    · simp [h0, h1]
theorem new_00 {n : Int} : (Msg.new 0 n).set 0 0 = Msg.new 0 n := by
  unfold Msg.new Msg.set
  congr 1
  funext j
  by_cases h0 : j = 0
  · subst h0; rfl
  · simp [h0]
theorem set_set0 {m : Msg} {a b : Int} : (m.set 0 a).set 0 b = m.set 0 b := by
  unfold Msg.set
  congr 1
  funext j
  by_cases h0 : j = 0
  · subst h0; rfl
  · simp [h0]
theorem num_u16 {n : Int} {s : ByteArray} (h : ∀ x : Nat, numB 65535 s = some x → n = x) : ∀ x : Nat, numB 65535 s = some x → IntKind.u16.wrap n = x := fun x hx => by
  obtain rfl := h x hx
  obtain ⟨_, hle⟩ := numB_some hx
  have : (x : Int) ≤ 65535 := by omega
  exact wrap_u16 (by omega) (by omega)
theorem num_u32 {n : Int} {s : ByteArray} (h : ∀ x : Nat, numB 999999 s = some x → n = x) : ∀ x : Nat, numB 999999 s = some x → IntKind.u32.wrap n = x := fun x hx => by
  obtain rfl := h x hx
  obtain ⟨_, hle⟩ := numB_some hx
  have : (x : Int) ≤ 999999 := by omega
  exact wrap_u32 (by omega) (by omega)
theorem read_is {ps : List ByteArray} {m : Msg} {l : List ByteArray} {bad : Bool} {kk : Int} (hkk : kindOf (ps.headD (S [])) = kk) (hg : kk ≠ 0 → Got bnd (slots kk) ps.tail kk m l bad) (hc : m.c 0 = kk) : readB bnd ps = if bad = false ∧ l = [] ∧ m.right = true then some m else none := by
  unfold readB
  rw [hkk]
  by_cases h0 : kk = 0
  · subst h0
    have hr : m.right ≠ true := fun z => by have := ((right_iff m).mp z).1; omega
    rw [if_neg (fun z => hr z.2.2)]
    split
    · rename_i m' hf
      have hc' : m'.c 0 = 0 := by rw [fill_other _ _ _ _ _ hf 0 (slots_0 0)]; rfl
      rw [if_neg (fun z => by have := ((right_iff m').mp z).1; omega)]
    · rfl
  · rcases hg h0 with ⟨h1, rfl⟩ | ⟨h1, rfl⟩
    · rw [h1]
      cases l with
      | nil => simp
      | cons a l => simp
    · rw [h1]; simp
theorem ndc_Read (y : List UInt8) (b : Option Addr) (c : Nat) (H : Heap) (ok : Ok H) (hy : BRow H b c y) (hl : y.length ≤ 100000) :
    ∃ v H', Ca V 13 #[.slice b y.length c] H v H' ∧ v = (match readB bnd ((sp y).map S) with | some m => .tuple #[.agg m.cells.toArray, .int .i64 0] | none => .tuple #[.agg Msg.zero.cells.toArray, .int .i64 23]) ∧ Same H H' [] := by
  have okn : ∀ a, H.next ≤ a → H.get a = none := ok
  refine Ca_run rfl tab_13 rfl ?_
  simp (maxSteps := 5000000) (disch := omega) only [Tryd.f13, MX, V_P, SX, W_block, exitW, goInt, Int.reduceEq, setCells, oneOf, cellOk, reduceIte, Nat.reduceLT, Nat.reduceLeDiff, Nat.reduceEqDiff, Nat.reduceAdd, Nat.reduceSub, Nat.reduceMul, Int.reduceToNat, Int.reduceLT, Int.reduceLE, Int.reduceAdd, Int.reduceSub, implies_true, ne_eq, if_true, if_false, reduceCtorEq]
  refine W_callR rfl (by simp (maxSteps := 5000000) (disch := omega) only [MX, V_P, SX, W_block, exitW, goInt, Int.reduceEq, setCells, oneOf, cellOk, reduceIte, Nat.reduceLT, Nat.reduceLeDiff, Nat.reduceEqDiff, Nat.reduceAdd, Nat.reduceSub, Nat.reduceMul, Int.reduceToNat, Int.reduceLT, Int.reduceLE, Int.reduceAdd, Int.reduceSub, implies_true, ne_eq, if_true, if_false, reduceCtorEq]) (wire_Split y b c _ (ok.push _) (hy.keep ok ((Same.refl ok).push _)) (by omega)) ?_
  rintro v K ⟨⟨i, hi, rfl, hgi⟩, hsK⟩
  have hr0 : K.get H.next = some (mO .zero) := by rw [hsK.get _ (by rw [Heap.next_push]; omega) (by simp), Heap.get_push, if_pos rfl]
  have hsK0 : Same H K [] := (by repeat (first | exact Same.same ok | refine Same.push ?_ _ | refine Same.room ?_ _ | (refine Same.make ?_ (by (try simp only [Heap.next_push, Heap.next_set, Heap.next_room]); omega) (by (try simp only [Heap.next_push, Heap.next_set, Heap.next_room]); omega)) | (refine Same.put ?_ (by simp (disch := omega) only [Heap.get_pushH, Heap.get_setH, hite_same, hite_ne, hite_eq, Heap.get_room, Heap.next_push, Heap.next_set, Heap.next_room, Option.isSome_some, *]) (fun z => by first | (simp; done) | (exfalso; (try simp only [Heap.next_push, Heap.next_set, Heap.next_room] at z); omega)))) : Same H (H.push (mO .zero)) []).trans hsK (by simp)
  have hin := hsK.ok.lt hgi
  rw [Heap.next_push] at hi
  have hpsN : (sp y).map S ≠ [] := by simpa using sp_ne y
  have hpsS : ((sp y).map S).length ≤ 1000000 ∧ ∀ s ∈ (sp y).map S, s.size ≤ 1000000 := by
    refine ⟨by rw [List.length_map]; have := sp_length y; omega, fun s hs => ?_⟩
    obtain ⟨a, ha, rfl⟩ := List.mem_map.mp hs
    have := sp_part y a ha
    show a.length ≤ _
    omega
  generalize (sp y).map S = ps at *
  simp (maxSteps := 5000000) (disch := omega) only [V_P, SX, W_block, exitW, goInt, Int.reduceEq, setCells, oneOf, cellOk, reduceIte, Nat.reduceLT, Nat.reduceLeDiff, Nat.reduceEqDiff, Nat.reduceAdd, Nat.reduceSub, Nat.reduceMul, Int.reduceToNat, Int.reduceLT, Int.reduceLE, Int.reduceAdd, Int.reduceSub, implies_true, ne_eq, if_true, if_false, reduceCtorEq]
  have hsP : Same H (K.push (.cells [.slice (some ⟨i, 0, none⟩) ps.length capU, .bool false] 72 false)) [] := hsK0.push _
  have hrd : Rd (K.push (.cells [.slice (some ⟨i, 0, none⟩) ps.length capU, .bool false] 72 false)) K.next ps false := by
    refine ⟨⟨i, 0, _, by rw [Heap.get_push, if_pos rfl], ?_, by omega, by rw [Heap.get_push, if_neg (by omega)]; exact hgi⟩, hpsS⟩
    exact Row.whole (by rw [Heap.get_push, if_neg (by omega)]; exact hgi) (by simp) (by decide +kernel)
  have hrp : (K.push (.cells [.slice (some ⟨i, 0, none⟩) ps.length capU, .bool false] 72 false)).get H.next = some (mO .zero) := by
    have := hsK0.ok.lt hr0
    rw [Heap.get_push, if_neg (by omega)]; exact hr0
  have hnp : K.next < (K.push (.cells [.slice (some ⟨i, 0, none⟩) ps.length capU, .bool false] 72 false)).next := by rw [Heap.next_push]; omega
  generalize K.push (.cells [.slice (some ⟨i, 0, none⟩) ps.length capU, .bool false] 72 false) = P0 at *
  have hnH := hsK0.ok.lt hr0
  have hHp : H.next < K.next := by omega
  generalize K.next = p at *
  refine W_callR rfl (by simp (maxSteps := 5000000) (disch := omega) only [V_P, SX, W_block, exitW, goInt, Int.reduceEq, setCells, oneOf, cellOk, reduceIte, Nat.reduceLT, Nat.reduceLeDiff, Nat.reduceEqDiff, Nat.reduceAdd, Nat.reduceSub, Nat.reduceMul, Int.reduceToNat, Int.reduceLT, Int.reduceLE, Int.reduceAdd, Int.reduceSub, implies_true, ne_eq, if_true, if_false, reduceCtorEq]) (rd_text p ps false _ hsP.ok hrd) ?_
  rintro v P1 ⟨rfl, hr1, hs1⟩
  rw [show (false || ps.isEmpty) = false by cases ps with | nil => exact absurd rfl hpsN | cons a r => rfl] at hr1
  simp (maxSteps := 5000000) (disch := omega) only [V_P, SX, W_block, exitW, goInt, Int.reduceEq, setCells, oneOf, cellOk, reduceIte, Nat.reduceLT, Nat.reduceLeDiff, Nat.reduceEqDiff, Nat.reduceAdd, Nat.reduceSub, Nat.reduceMul, Int.reduceToNat, Int.reduceLT, Int.reduceLE, Int.reduceAdd, Int.reduceSub, implies_true, ne_eq, if_true, if_false, reduceCtorEq]
  refine W_callR rfl (by simp (maxSteps := 5000000) (disch := omega) only [V_P, SX, W_block, exitW, goInt, Int.reduceEq, setCells, oneOf, cellOk, reduceIte, Nat.reduceLT, Nat.reduceLeDiff, Nat.reduceEqDiff, Nat.reduceAdd, Nat.reduceSub, Nat.reduceMul, Int.reduceToNat, Int.reduceLT, Int.reduceLE, Int.reduceAdd, Int.reduceSub, implies_true, ne_eq, if_true, if_false, reduceCtorEq]) (rd_number p 65535 65535 rfl (by decide) _ _ _ hs1.ok hr1) ?_
  rintro v P2 ⟨⟨n, rfl, hin', hv⟩, hr2, hs2⟩
  simp (maxSteps := 5000000) (disch := omega) only [MX, mO_b2, V_P, SX, W_block, exitW, goInt, Int.reduceEq, setCells, oneOf, cellOk, reduceIte, Nat.reduceLT, Nat.reduceLeDiff, Nat.reduceEqDiff, Nat.reduceAdd, Nat.reduceSub, Nat.reduceMul, Int.reduceToNat, Int.reduceLT, Int.reduceLE, Int.reduceAdd, Int.reduceSub, implies_true, ne_eq, if_true, if_false, reduceCtorEq]
  have hrs0 : RS H p P2.next H.next ((P2.push (mO .zero)).set P2.next (mO (.new 0 (IntKind.u16.wrap n)))) (.new 0 (IntKind.u16.wrap n)) ps.tail.tail (false || (numB 65535 (ps.tail.headD (S []))).isNone) := by
    have hl1 := hs1.le
    have hl2 := hs2.le
    have hsP2 : Same H P2 [] := hsP.trans (hs1.trans hs2 (by simp)) (fun z hz hlt => by simp only [List.mem_singleton] at hz; omega)
    refine ⟨by rw [Heap.get_set, if_pos rfl], ?_, ?_, ?_, by omega, by omega, by omega, by omega, by omega, by omega⟩
    · rw [Heap.get_set, if_neg (by omega), Heap.get_push, if_neg (by omega), hs2.get _ (by omega) (by simp; omega), hs1.get _ (by omega) (by simp; omega)]; exact hrp
    · exact rd_set (q := P2.next) (hr2.keep hs2.ok ((Same.refl hs2.ok).push _)) (by rw [Heap.get_push, if_pos rfl]; rfl) (by decide) (by omega) _
    · exact (hsP2.push _).set (by rw [Heap.get_push, if_pos rfl]) (fun z => by omega)
  have hk8 := kU_8 (ps.headD (S []))
  have hnum := num_u16 hv
  generalize hs0 : ps.headD (S []) = s0 at *
  generalize IntKind.u16.wrap n = n' at *
  generalize (P2.push (mO .zero)).set P2.next (mO (.new 0 n')) = P3 at *
  generalize P2.next = q at *
  refine W_for (fun (k : Nat) t K => t.get 2 = some (.pointer (some ⟨H.next, 0, none⟩)) ∧ t.get 3 = some (.int .i64 0) ∧ t.get 4 = some (.pointer (some ⟨p, 0, none⟩)) ∧ t.get 6 = some (.pointer (some ⟨q, 0, none⟩)) ∧ t.get 5 = some (.string s0) ∧ t.get 18 = some (.int .i64 k) ∧ k ≤ 8 ∧ RS H p q H.next K ((Msg.new 0 n').set 0 (kU k s0)) ps.tail.tail (false || (numB 65535 (ps.tail.headD (S []))).isNone)) (fun k => 8 - k) 0 ?_ ?_
  · simp (maxSteps := 5000000) (disch := omega) only [V_P, SX, W_block, exitW, goInt, Int.reduceEq, setCells, oneOf, cellOk, reduceIte, Nat.reduceLT, Nat.reduceLeDiff, Nat.reduceEqDiff, Nat.reduceAdd, Nat.reduceSub, Nat.reduceMul, Int.reduceToNat, Int.reduceLT, Int.reduceLE, Int.reduceAdd, Int.reduceSub, implies_true, ne_eq, if_true, if_false, reduceCtorEq]
    refine ⟨rfl, ?_⟩
    rw [show kU 0 s0 = 0 from rfl, new_00]; exact hrs0
  rintro k t K4 ⟨g2, g3, g4, g6, g5, g18, hk, hrs⟩
  simp (maxSteps := 5000000) (disch := omega) only [g2, g3, g4, g6, g5, g18, V_P, SX, W_block, exitW, goInt, Int.reduceEq, setCells, oneOf, cellOk, reduceIte, Nat.reduceLT, Nat.reduceLeDiff, Nat.reduceEqDiff, Nat.reduceAdd, Nat.reduceSub, Nat.reduceMul, Int.reduceToNat, Int.reduceLT, Int.reduceLE, Int.reduceAdd, Int.reduceSub, implies_true, ne_eq, if_true, if_false, reduceCtorEq]
  refine cW_dec (fun hlt => ?_) (fun hlt => ?_)
  · simp (maxSteps := 5000000) (disch := omega) only [g2, g3, g4, g6, g5, g18, V_P, SX, W_block, exitW, goInt, Int.reduceEq, setCells, oneOf, cellOk, reduceIte, Nat.reduceLT, Nat.reduceLeDiff, Nat.reduceEqDiff, Nat.reduceAdd, Nat.reduceSub, Nat.reduceMul, Int.reduceToNat, Int.reduceLT, Int.reduceLE, Int.reduceAdd, Int.reduceSub, implies_true, ne_eq, if_true, if_false, reduceCtorEq]
    refine W_callR rfl (by simp (maxSteps := 5000000) (disch := omega) only [g2, g3, g4, g6, g5, g18, V_P, SX, W_block, exitW, goInt, Int.reduceEq, setCells, oneOf, cellOk, reduceIte, Nat.reduceLT, Nat.reduceLeDiff, Nat.reduceEqDiff, Nat.reduceAdd, Nat.reduceSub, Nat.reduceMul, Int.reduceToNat, Int.reduceLT, Int.reduceLE, Int.reduceAdd, Int.reduceSub, implies_true, ne_eq, if_true, if_false, reduceCtorEq]) (ndc_kind k _) ?_
    rintro v K5 ⟨rfl, e⟩
    obtain rfl := e.symm
    by_cases hks : kindS k = s0
    · simp (maxSteps := 5000000) (disch := omega) only [g2, g3, g4, g6, g5, g18, hks, eq_self, MX, hrs.hq, V_P, SX, W_block, exitW, goInt, Int.reduceEq, setCells, oneOf, cellOk, reduceIte, Nat.reduceLT, Nat.reduceLeDiff, Nat.reduceEqDiff, Nat.reduceAdd, Nat.reduceSub, Nat.reduceMul, Int.reduceToNat, Int.reduceLT, Int.reduceLE, Int.reduceAdd, Int.reduceSub, implies_true, ne_eq, if_true, if_false, reduceCtorEq]
      refine ⟨k + 1, ⟨by simp, by omega, ?_⟩, by omega⟩
      rw [show kU (k + 1) s0 = k from if_pos hks]
      have := hrs.put (((Msg.new 0 n').set 0 (kU k s0)).set 0 k)
      rw [set_set0] at this ⊢
      exact this
    · simp (maxSteps := 5000000) (disch := omega) only [g2, g3, g4, g6, g5, g18, hks, V_P, SX, W_block, exitW, goInt, Int.reduceEq, setCells, oneOf, cellOk, reduceIte, Nat.reduceLT, Nat.reduceLeDiff, Nat.reduceEqDiff, Nat.reduceAdd, Nat.reduceSub, Nat.reduceMul, Int.reduceToNat, Int.reduceLT, Int.reduceLE, Int.reduceAdd, Int.reduceSub, implies_true, ne_eq, if_true, if_false, reduceCtorEq]
      refine ⟨k + 1, ⟨by simp, by omega, ?_⟩, by omega⟩
      rw [show kU (k + 1) s0 = kU k s0 from if_neg hks]
      exact hrs
  obtain rfl : k = 8 := by omega
  rw [hk8, new_set0] at hrs
  have hgot0 : Got bnd [1] ps.tail (kindOf s0) ((Msg.new (kindOf s0) 0).set 1 n') ps.tail.tail (false || (numB 65535 (ps.tail.headD (S []))).isNone) := Got.num (js := []) (j := 1) (.inl ⟨rfl, rfl⟩) (by decide) rfl n' hnum
  have hc0 : ((Msg.new (kindOf s0) 0).set 1 n').c 0 = kindOf s0 := rfl
  have hpan0 : ((Msg.new (kindOf s0) 0).set 1 n').pan.size ≤ 1000000 := by show (0 : Nat) ≤ _; omega
  generalize hqs : ps.tail = qs at *
  generalize hkk : kindOf s0 = kk at *
  generalize (Msg.new kk 0).set 1 n' = m0 at *
  generalize (false || (numB 65535 (qs.headD (S []))).isNone) = bad0 at *
  have hkr : 0 ≤ kk ∧ kk ≤ 7 := by rw [← hkk]; exact kindOf_range s0
  have hq0 := hrs.hq
  simp (maxSteps := 5000000) (disch := omega) only [g2, g3, g4, g6, MX, hq0, hc0, V_P, SX, W_block, exitW, goInt, Int.reduceEq, setCells, oneOf, cellOk, reduceIte, Nat.reduceLT, Nat.reduceLeDiff, Nat.reduceEqDiff, Nat.reduceAdd, Nat.reduceSub, Nat.reduceMul, Int.reduceToNat, Int.reduceLT, Int.reduceLE, Int.reduceAdd, Int.reduceSub, implies_true, ne_eq, if_true, if_false, reduceCtorEq]
  refine cW_merge (fun t K => t.get 2 = some (.pointer (some ⟨H.next, 0, none⟩)) ∧ t.get 3 = some (.int .i64 0) ∧ t.get 4 = some (.pointer (some ⟨p, 0, none⟩)) ∧ t.get 6 = some (.pointer (some ⟨q, 0, none⟩)) ∧ ∃ m l bad js, RS H p q H.next K m l bad ∧ Got bnd js qs kk m l bad ∧ js = (if kk = 3 then [1] else [1, 2]) ∧ m.c 0 = kk ∧ m.pan.size ≤ 1000000) ?_ ?_ ?_
  · intro hne
    refine W_callR rfl (by simp (maxSteps := 5000000) (disch := omega) only [g2, g3, g4, g6, MX, hq0, V_P, SX, W_block, exitW, goInt, Int.reduceEq, setCells, oneOf, cellOk, reduceIte, Nat.reduceLT, Nat.reduceLeDiff, Nat.reduceEqDiff, Nat.reduceAdd, Nat.reduceSub, Nat.reduceMul, Int.reduceToNat, Int.reduceLT, Int.reduceLE, Int.reduceAdd, Int.reduceSub, implies_true, ne_eq, if_true, if_false, reduceCtorEq]) (rd_number p 999999 999999 rfl (by decide) _ _ _ hrs.same.ok hrs.rd) ?_
    rintro v K5 ⟨⟨n2, rfl, hi2, hv2⟩, hrd2, hs2'⟩
    have h2 := hrs.call hs2' hrd2
    have hq2 := h2.hq
    simp (maxSteps := 5000000) (disch := omega) only [g2, g3, g4, g6, MX, hq2, V_P, SX, W_block, exitW, goInt, Int.reduceEq, setCells, oneOf, cellOk, reduceIte, Nat.reduceLT, Nat.reduceLeDiff, Nat.reduceEqDiff, Nat.reduceAdd, Nat.reduceSub, Nat.reduceMul, Int.reduceToNat, Int.reduceLT, Int.reduceLE, Int.reduceAdd, Int.reduceSub, implies_true, ne_eq, if_true, if_false, reduceCtorEq]
    refine ⟨_, _, _, _, h2.put _, hgot0.num (j := 2) (by decide) rfl _ (num_u32 hv2), by rw [if_neg (of_decide_eq_true hne)]; rfl, hc0, hpan0⟩
  · intro he
    simp (maxSteps := 5000000) (disch := omega) only [g2, g3, g4, g6, MX, hq0, V_P, SX, W_block, exitW, goInt, Int.reduceEq, setCells, oneOf, cellOk, reduceIte, Nat.reduceLT, Nat.reduceLeDiff, Nat.reduceEqDiff, Nat.reduceAdd, Nat.reduceSub, Nat.reduceMul, Int.reduceToNat, Int.reduceLT, Int.reduceLE, Int.reduceAdd, Int.reduceSub, implies_true, ne_eq, if_true, if_false, reduceCtorEq]
    exact ⟨_, _, _, _, hrs, hgot0, by rw [if_pos (Decidable.not_not.mp (of_decide_eq_false he))], hc0, hpan0⟩
  rintro t K5 ⟨g2, g3, g4, g6, m, l, bad, js, hrs', hgot, hjs, hc, hpan⟩
  clear hrs hgot0 hc0 hpan0 hq0
  have hq0 := hrs'.hq
  simp (maxSteps := 5000000) (disch := omega) only [g2, g3, g4, g6, MX, hq0, hc, V_P, SX, exitW, goInt, Int.reduceEq, setCells, oneOf, cellOk, reduceIte, Nat.reduceLT, Nat.reduceLeDiff, Nat.reduceEqDiff, Nat.reduceAdd, Nat.reduceSub, Nat.reduceMul, Int.reduceToNat, Int.reduceLT, Int.reduceLE, Int.reduceAdd, Int.reduceSub, implies_true, ne_eq, if_true, if_false, reduceCtorEq]
  refine W_cutL [_] (fun t K => t.get 2 = some (.pointer (some ⟨H.next, 0, none⟩)) ∧ t.get 3 = some (.int .i64 0) ∧ t.get 4 = some (.pointer (some ⟨p, 0, none⟩)) ∧ t.get 6 = some (.pointer (some ⟨q, 0, none⟩)) ∧ ∃ m l bad, RS H p q H.next K m l bad ∧ (kk ≠ 0 → Got bnd (slots kk) qs kk m l bad) ∧ m.c 0 = kk ∧ m.pan.size ≤ 1000000) ?_ ?_
  · have hk8 : kk = 0 ∨ kk = 1 ∨ kk = 2 ∨ kk = 3 ∨ kk = 4 ∨ kk = 5 ∨ kk = 6 ∨ kk = 7 := by omega
    rcases hk8 with rfl | rfl | rfl | rfl | rfl | rfl | rfl | rfl
    · simp (maxSteps := 5000000) (disch := omega) only [g2, g3, g4, g6, MX, hc, hq0, V_P, SX, W_block, exitW, goInt, Int.reduceEq, setCells, oneOf, cellOk, reduceIte, Nat.reduceLT, Nat.reduceLeDiff, Nat.reduceEqDiff, Nat.reduceAdd, Nat.reduceSub, Nat.reduceMul, Int.reduceToNat, Int.reduceLT, Int.reduceLE, Int.reduceAdd, Int.reduceSub, implies_true, ne_eq, if_true, if_false, reduceCtorEq]
      exact ⟨m, l, bad, hrs', hc, hpan⟩
    · have hj : js = [1, 2] := by rw [hjs]; decide
      subst hj
      have r0 := hrs'
      have q0 := r0.hq
      simp (maxSteps := 5000000) (disch := omega) only [g2, g3, g4, g6, MX, hc, q0, V_P, SX, W_block, exitW, goInt, Int.reduceEq, setCells, oneOf, cellOk, reduceIte, Nat.reduceLT, Nat.reduceLeDiff, Nat.reduceEqDiff, Nat.reduceAdd, Nat.reduceSub, Nat.reduceMul, Int.reduceToNat, Int.reduceLT, Int.reduceLE, Int.reduceAdd, Int.reduceSub, implies_true, ne_eq, if_true, if_false, reduceCtorEq]
      refine W_callR rfl (by simp (maxSteps := 5000000) (disch := omega) only [g2, g3, g4, g6, MX, hc, q0, V_P, SX, W_block, exitW, goInt, Int.reduceEq, setCells, oneOf, cellOk, reduceIte, Nat.reduceLT, Nat.reduceLeDiff, Nat.reduceEqDiff, Nat.reduceAdd, Nat.reduceSub, Nat.reduceMul, Int.reduceToNat, Int.reduceLT, Int.reduceLE, Int.reduceAdd, Int.reduceSub, implies_true, ne_eq, if_true, if_false, reduceCtorEq]) (rd_text p _ _ _ r0.same.ok r0.rd) ?_
      rintro v K1a ⟨rfl, a1, s1⟩
      have r1 := r0.call s1 a1
      have q1 := r1.hq
      simp (maxSteps := 5000000) (disch := omega) only [g2, g3, g4, g6, MX, hc, q1, V_P, SX, W_block, exitW, goInt, Int.reduceEq, setCells, oneOf, cellOk, reduceIte, Nat.reduceLT, Nat.reduceLeDiff, Nat.reduceEqDiff, Nat.reduceAdd, Nat.reduceSub, Nat.reduceMul, Int.reduceToNat, Int.reduceLT, Int.reduceLE, Int.reduceAdd, Int.reduceSub, implies_true, ne_eq, if_true, if_false, reduceCtorEq]
      refine W_callR rfl (by simp (maxSteps := 5000000) (disch := omega) only [g2, g3, g4, g6, MX, hc, q1, V_P, SX, W_block, exitW, goInt, Int.reduceEq, setCells, oneOf, cellOk, reduceIte, Nat.reduceLT, Nat.reduceLeDiff, Nat.reduceEqDiff, Nat.reduceAdd, Nat.reduceSub, Nat.reduceMul, Int.reduceToNat, Int.reduceLT, Int.reduceLE, Int.reduceAdd, Int.reduceSub, implies_true, ne_eq, if_true, if_false, reduceCtorEq]) (rd_number p 1000000 1000000 rfl (by decide) _ _ _ r1.same.ok r1.rd) ?_
      rintro v K2a ⟨⟨n2, rfl, hi2, hv2⟩, a2, s2⟩
      have r2 := r1.call s2 a2
      have q2 := r2.hq
      simp (maxSteps := 5000000) (disch := omega) only [g2, g3, g4, g6, MX, hc, q2, V_P, SX, W_block, exitW, goInt, Int.reduceEq, setCells, oneOf, cellOk, reduceIte, Nat.reduceLT, Nat.reduceLeDiff, Nat.reduceEqDiff, Nat.reduceAdd, Nat.reduceSub, Nat.reduceMul, Int.reduceToNat, Int.reduceLT, Int.reduceLE, Int.reduceAdd, Int.reduceSub, implies_true, ne_eq, if_true, if_false, reduceCtorEq]
      refine ⟨_, _, _, ((r2.put _).put _), by have := hgot.pan.num (j := 4) (by decide) rfl _ hv2; exact this, hc, headD_size hrs'.rd.small.2⟩
    · have hj : js = [1, 2] := by rw [hjs]; decide
      subst hj
      have r0 := hrs'
      have q0 := r0.hq
      simp (maxSteps := 5000000) (disch := omega) only [g2, g3, g4, g6, MX, hc, q0, V_P, SX, W_block, exitW, goInt, Int.reduceEq, setCells, oneOf, cellOk, reduceIte, Nat.reduceLT, Nat.reduceLeDiff, Nat.reduceEqDiff, Nat.reduceAdd, Nat.reduceSub, Nat.reduceMul, Int.reduceToNat, Int.reduceLT, Int.reduceLE, Int.reduceAdd, Int.reduceSub, implies_true, ne_eq, if_true, if_false, reduceCtorEq]
      refine W_callR rfl (by simp (maxSteps := 5000000) (disch := omega) only [g2, g3, g4, g6, MX, hc, q0, V_P, SX, W_block, exitW, goInt, Int.reduceEq, setCells, oneOf, cellOk, reduceIte, Nat.reduceLT, Nat.reduceLeDiff, Nat.reduceEqDiff, Nat.reduceAdd, Nat.reduceSub, Nat.reduceMul, Int.reduceToNat, Int.reduceLT, Int.reduceLE, Int.reduceAdd, Int.reduceSub, implies_true, ne_eq, if_true, if_false, reduceCtorEq]) (rd_notes p _ _ _ r0.same.ok r0.rd) ?_
      rintro v K1a ⟨⟨n1, rfl, hv1⟩, a1, s1⟩
      have r1 := r0.call s1 a1
      have q1 := r1.hq
      simp (maxSteps := 5000000) (disch := omega) only [g2, g3, g4, g6, MX, hc, q1, V_P, SX, W_block, exitW, goInt, Int.reduceEq, setCells, oneOf, cellOk, reduceIte, Nat.reduceLT, Nat.reduceLeDiff, Nat.reduceEqDiff, Nat.reduceAdd, Nat.reduceSub, Nat.reduceMul, Int.reduceToNat, Int.reduceLT, Int.reduceLE, Int.reduceAdd, Int.reduceSub, implies_true, ne_eq, if_true, if_false, reduceCtorEq]
      refine W_callR rfl (by simp (maxSteps := 5000000) (disch := omega) only [g2, g3, g4, g6, MX, hc, q1, V_P, SX, W_block, exitW, goInt, Int.reduceEq, setCells, oneOf, cellOk, reduceIte, Nat.reduceLT, Nat.reduceLeDiff, Nat.reduceEqDiff, Nat.reduceAdd, Nat.reduceSub, Nat.reduceMul, Int.reduceToNat, Int.reduceLT, Int.reduceLE, Int.reduceAdd, Int.reduceSub, implies_true, ne_eq, if_true, if_false, reduceCtorEq]) (rd_notes p _ _ _ r1.same.ok r1.rd) ?_
      rintro v K2a ⟨⟨n2, rfl, hv2⟩, a2, s2⟩
      have r2 := r1.call s2 a2
      have q2 := r2.hq
      simp (maxSteps := 5000000) (disch := omega) only [g2, g3, g4, g6, MX, hc, q2, V_P, SX, W_block, exitW, goInt, Int.reduceEq, setCells, oneOf, cellOk, reduceIte, Nat.reduceLT, Nat.reduceLeDiff, Nat.reduceEqDiff, Nat.reduceAdd, Nat.reduceSub, Nat.reduceMul, Int.reduceToNat, Int.reduceLT, Int.reduceLE, Int.reduceAdd, Int.reduceSub, implies_true, ne_eq, if_true, if_false, reduceCtorEq]
      refine ⟨_, _, _, ((r2.put _).put _), by have := (hgot.four (j := 5) (by decide) (by decide) n1 hv1).four (j := 9) (by decide) (by decide) n2 hv2; exact this, hc, hpan⟩
    · have hj : js = [1] := by rw [hjs]; decide
      subst hj
      simp (maxSteps := 5000000) (disch := omega) only [g2, g3, g4, g6, MX, hc, hq0, V_P, SX, W_block, exitW, goInt, Int.reduceEq, setCells, oneOf, cellOk, reduceIte, Nat.reduceLT, Nat.reduceLeDiff, Nat.reduceEqDiff, Nat.reduceAdd, Nat.reduceSub, Nat.reduceMul, Int.reduceToNat, Int.reduceLT, Int.reduceLE, Int.reduceAdd, Int.reduceSub, implies_true, ne_eq, if_true, if_false, reduceCtorEq]
      exact ⟨m, l, bad, hrs', hgot, hc, hpan⟩
    · have hj : js = [1, 2] := by rw [hjs]; decide
      subst hj
      have r0 := hrs'
      have q0 := r0.hq
      simp (maxSteps := 5000000) (disch := omega) only [g2, g3, g4, g6, MX, hc, q0, V_P, SX, W_block, exitW, goInt, Int.reduceEq, setCells, oneOf, cellOk, reduceIte, Nat.reduceLT, Nat.reduceLeDiff, Nat.reduceEqDiff, Nat.reduceAdd, Nat.reduceSub, Nat.reduceMul, Int.reduceToNat, Int.reduceLT, Int.reduceLE, Int.reduceAdd, Int.reduceSub, implies_true, ne_eq, if_true, if_false, reduceCtorEq]
      refine W_callR rfl (by simp (maxSteps := 5000000) (disch := omega) only [g2, g3, g4, g6, MX, hc, q0, V_P, SX, W_block, exitW, goInt, Int.reduceEq, setCells, oneOf, cellOk, reduceIte, Nat.reduceLT, Nat.reduceLeDiff, Nat.reduceEqDiff, Nat.reduceAdd, Nat.reduceSub, Nat.reduceMul, Int.reduceToNat, Int.reduceLT, Int.reduceLE, Int.reduceAdd, Int.reduceSub, implies_true, ne_eq, if_true, if_false, reduceCtorEq]) (rd_notes p _ _ _ r0.same.ok r0.rd) ?_
      rintro v K1a ⟨⟨n1, rfl, hv1⟩, a1, s1⟩
      have r1 := r0.call s1 a1
      have q1 := r1.hq
      simp (maxSteps := 5000000) (disch := omega) only [g2, g3, g4, g6, MX, hc, q1, V_P, SX, W_block, exitW, goInt, Int.reduceEq, setCells, oneOf, cellOk, reduceIte, Nat.reduceLT, Nat.reduceLeDiff, Nat.reduceEqDiff, Nat.reduceAdd, Nat.reduceSub, Nat.reduceMul, Int.reduceToNat, Int.reduceLT, Int.reduceLE, Int.reduceAdd, Int.reduceSub, implies_true, ne_eq, if_true, if_false, reduceCtorEq]
      refine W_callR rfl (by simp (maxSteps := 5000000) (disch := omega) only [g2, g3, g4, g6, MX, hc, q1, V_P, SX, W_block, exitW, goInt, Int.reduceEq, setCells, oneOf, cellOk, reduceIte, Nat.reduceLT, Nat.reduceLeDiff, Nat.reduceEqDiff, Nat.reduceAdd, Nat.reduceSub, Nat.reduceMul, Int.reduceToNat, Int.reduceLT, Int.reduceLE, Int.reduceAdd, Int.reduceSub, implies_true, ne_eq, if_true, if_false, reduceCtorEq]) (rd_notes p _ _ _ r1.same.ok r1.rd) ?_
      rintro v K2a ⟨⟨n2, rfl, hv2⟩, a2, s2⟩
      have r2 := r1.call s2 a2
      have q2 := r2.hq
      simp (maxSteps := 5000000) (disch := omega) only [g2, g3, g4, g6, MX, hc, q2, V_P, SX, W_block, exitW, goInt, Int.reduceEq, setCells, oneOf, cellOk, reduceIte, Nat.reduceLT, Nat.reduceLeDiff, Nat.reduceEqDiff, Nat.reduceAdd, Nat.reduceSub, Nat.reduceMul, Int.reduceToNat, Int.reduceLT, Int.reduceLE, Int.reduceAdd, Int.reduceSub, implies_true, ne_eq, if_true, if_false, reduceCtorEq]
      refine W_callR rfl (by simp (maxSteps := 5000000) (disch := omega) only [g2, g3, g4, g6, MX, hc, q2, V_P, SX, W_block, exitW, goInt, Int.reduceEq, setCells, oneOf, cellOk, reduceIte, Nat.reduceLT, Nat.reduceLeDiff, Nat.reduceEqDiff, Nat.reduceAdd, Nat.reduceSub, Nat.reduceMul, Int.reduceToNat, Int.reduceLT, Int.reduceLE, Int.reduceAdd, Int.reduceSub, implies_true, ne_eq, if_true, if_false, reduceCtorEq]) (rd_notes p _ _ _ r2.same.ok r2.rd) ?_
      rintro v K3a ⟨⟨n3, rfl, hv3⟩, a3, s3⟩
      have r3 := r2.call s3 a3
      have q3 := r3.hq
      simp (maxSteps := 5000000) (disch := omega) only [g2, g3, g4, g6, MX, hc, q3, V_P, SX, W_block, exitW, goInt, Int.reduceEq, setCells, oneOf, cellOk, reduceIte, Nat.reduceLT, Nat.reduceLeDiff, Nat.reduceEqDiff, Nat.reduceAdd, Nat.reduceSub, Nat.reduceMul, Int.reduceToNat, Int.reduceLT, Int.reduceLE, Int.reduceAdd, Int.reduceSub, implies_true, ne_eq, if_true, if_false, reduceCtorEq]
      refine W_callR rfl (by simp (maxSteps := 5000000) (disch := omega) only [g2, g3, g4, g6, MX, hc, q3, V_P, SX, W_block, exitW, goInt, Int.reduceEq, setCells, oneOf, cellOk, reduceIte, Nat.reduceLT, Nat.reduceLeDiff, Nat.reduceEqDiff, Nat.reduceAdd, Nat.reduceSub, Nat.reduceMul, Int.reduceToNat, Int.reduceLT, Int.reduceLE, Int.reduceAdd, Int.reduceSub, implies_true, ne_eq, if_true, if_false, reduceCtorEq]) (rd_notes p _ _ _ r3.same.ok r3.rd) ?_
      rintro v K4a ⟨⟨n4, rfl, hv4⟩, a4, s4⟩
      have r4 := r3.call s4 a4
      have q4 := r4.hq
      simp (maxSteps := 5000000) (disch := omega) only [g2, g3, g4, g6, MX, hc, q4, V_P, SX, W_block, exitW, goInt, Int.reduceEq, setCells, oneOf, cellOk, reduceIte, Nat.reduceLT, Nat.reduceLeDiff, Nat.reduceEqDiff, Nat.reduceAdd, Nat.reduceSub, Nat.reduceMul, Int.reduceToNat, Int.reduceLT, Int.reduceLE, Int.reduceAdd, Int.reduceSub, implies_true, ne_eq, if_true, if_false, reduceCtorEq]
      have r5 := (((r4.put (m.set4 5 n1.a n1.b n1.c n1.d)).put ((m.set4 5 n1.a n1.b n1.c n1.d).set4 9 n2.a n2.b n2.c n2.d)).put (((m.set4 5 n1.a n1.b n1.c n1.d).set4 9 n2.a n2.b n2.c n2.d).set4 13 n3.a n3.b n3.c n3.d)).put ((((m.set4 5 n1.a n1.b n1.c n1.d).set4 9 n2.a n2.b n2.c n2.d).set4 13 n3.a n3.b n3.c n3.d).set4 17 n4.a n4.b n4.c n4.d)
      have q5 := r5.hq
      refine W_callR rfl (by simp (maxSteps := 5000000) (disch := omega) only [g2, g3, g4, g6, MX, hc, q5, V_P, SX, W_block, exitW, goInt, Int.reduceEq, setCells, oneOf, cellOk, reduceIte, Nat.reduceLT, Nat.reduceLeDiff, Nat.reduceEqDiff, Nat.reduceAdd, Nat.reduceSub, Nat.reduceMul, Int.reduceToNat, Int.reduceLT, Int.reduceLE, Int.reduceAdd, Int.reduceSub, implies_true, ne_eq, if_true, if_false, reduceCtorEq]) (rd_number p 2147483647 2147483647 rfl (by decide) _ _ _ r5.same.ok r5.rd) ?_
      rintro v K6a ⟨⟨n6, rfl, hi6, hv6⟩, a6, s6⟩
      have r6 := r5.call s6 a6
      have q6 := r6.hq
      simp (maxSteps := 5000000) (disch := omega) only [g2, g3, g4, g6, MX, hc, q6, V_P, SX, W_block, exitW, goInt, Int.reduceEq, setCells, oneOf, cellOk, reduceIte, Nat.reduceLT, Nat.reduceLeDiff, Nat.reduceEqDiff, Nat.reduceAdd, Nat.reduceSub, Nat.reduceMul, Int.reduceToNat, Int.reduceLT, Int.reduceLE, Int.reduceAdd, Int.reduceSub, implies_true, ne_eq, if_true, if_false, reduceCtorEq]
      refine W_callR rfl (by simp (maxSteps := 5000000) (disch := omega) only [g2, g3, g4, g6, MX, hc, q6, V_P, SX, W_block, exitW, goInt, Int.reduceEq, setCells, oneOf, cellOk, reduceIte, Nat.reduceLT, Nat.reduceLeDiff, Nat.reduceEqDiff, Nat.reduceAdd, Nat.reduceSub, Nat.reduceMul, Int.reduceToNat, Int.reduceLT, Int.reduceLE, Int.reduceAdd, Int.reduceSub, implies_true, ne_eq, if_true, if_false, reduceCtorEq]) (rd_notes p _ _ _ r6.same.ok r6.rd) ?_
      rintro v K7a ⟨⟨n7, rfl, hv7⟩, a7, s7⟩
      have r7 := r6.call s7 a7
      have q7 := r7.hq
      simp (maxSteps := 5000000) (disch := omega) only [g2, g3, g4, g6, MX, hc, q7, V_P, SX, W_block, exitW, goInt, Int.reduceEq, setCells, oneOf, cellOk, reduceIte, Nat.reduceLT, Nat.reduceLeDiff, Nat.reduceEqDiff, Nat.reduceAdd, Nat.reduceSub, Nat.reduceMul, Int.reduceToNat, Int.reduceLT, Int.reduceLE, Int.reduceAdd, Int.reduceSub, implies_true, ne_eq, if_true, if_false, reduceCtorEq]
      refine ⟨_, _, _, ((r7.put _).put _), by have := (((((hgot.four (j := 5) (by decide) (by decide) n1 hv1).four (j := 9) (by decide) (by decide) n2 hv2).four (j := 13) (by decide) (by decide) n3 hv3).four (j := 17) (by decide) (by decide) n4 hv4).num (j := 21) (by decide) rfl _ hv6).four (j := 22) (by decide) (by decide) n7 hv7; exact this, hc, hpan⟩
    · have hj : js = [1, 2] := by rw [hjs]; decide
      subst hj
      have r0 := hrs'
      have q0 := r0.hq
      simp (maxSteps := 5000000) (disch := omega) only [g2, g3, g4, g6, MX, hc, q0, V_P, SX, W_block, exitW, goInt, Int.reduceEq, setCells, oneOf, cellOk, reduceIte, Nat.reduceLT, Nat.reduceLeDiff, Nat.reduceEqDiff, Nat.reduceAdd, Nat.reduceSub, Nat.reduceMul, Int.reduceToNat, Int.reduceLT, Int.reduceLE, Int.reduceAdd, Int.reduceSub, implies_true, ne_eq, if_true, if_false, reduceCtorEq]
      refine W_callR rfl (by simp (maxSteps := 5000000) (disch := omega) only [g2, g3, g4, g6, MX, hc, q0, V_P, SX, W_block, exitW, goInt, Int.reduceEq, setCells, oneOf, cellOk, reduceIte, Nat.reduceLT, Nat.reduceLeDiff, Nat.reduceEqDiff, Nat.reduceAdd, Nat.reduceSub, Nat.reduceMul, Int.reduceToNat, Int.reduceLT, Int.reduceLE, Int.reduceAdd, Int.reduceSub, implies_true, ne_eq, if_true, if_false, reduceCtorEq]) (rd_number p 1000000 1000000 rfl (by decide) _ _ _ r0.same.ok r0.rd) ?_
      rintro v K1a ⟨⟨n1, rfl, hi1, hv1⟩, a1, s1⟩
      have r1 := r0.call s1 a1
      have q1 := r1.hq
      simp (maxSteps := 5000000) (disch := omega) only [g2, g3, g4, g6, MX, hc, q1, V_P, SX, W_block, exitW, goInt, Int.reduceEq, setCells, oneOf, cellOk, reduceIte, Nat.reduceLT, Nat.reduceLeDiff, Nat.reduceEqDiff, Nat.reduceAdd, Nat.reduceSub, Nat.reduceMul, Int.reduceToNat, Int.reduceLT, Int.reduceLE, Int.reduceAdd, Int.reduceSub, implies_true, ne_eq, if_true, if_false, reduceCtorEq]
      refine W_callR rfl (by simp (maxSteps := 5000000) (disch := omega) only [g2, g3, g4, g6, MX, hc, q1, V_P, SX, W_block, exitW, goInt, Int.reduceEq, setCells, oneOf, cellOk, reduceIte, Nat.reduceLT, Nat.reduceLeDiff, Nat.reduceEqDiff, Nat.reduceAdd, Nat.reduceSub, Nat.reduceMul, Int.reduceToNat, Int.reduceLT, Int.reduceLE, Int.reduceAdd, Int.reduceSub, implies_true, ne_eq, if_true, if_false, reduceCtorEq]) (rd_notes p _ _ _ r1.same.ok r1.rd) ?_
      rintro v K2a ⟨⟨n2, rfl, hv2⟩, a2, s2⟩
      have r2 := r1.call s2 a2
      have q2 := r2.hq
      simp (maxSteps := 5000000) (disch := omega) only [g2, g3, g4, g6, MX, hc, q2, V_P, SX, W_block, exitW, goInt, Int.reduceEq, setCells, oneOf, cellOk, reduceIte, Nat.reduceLT, Nat.reduceLeDiff, Nat.reduceEqDiff, Nat.reduceAdd, Nat.reduceSub, Nat.reduceMul, Int.reduceToNat, Int.reduceLT, Int.reduceLE, Int.reduceAdd, Int.reduceSub, implies_true, ne_eq, if_true, if_false, reduceCtorEq]
      refine ⟨_, _, _, ((r2.put _).put _), by have := (hgot.num (j := 4) (by decide) rfl _ hv1).four (j := 5) (by decide) (by decide) n2 hv2; exact this, hc, hpan⟩
    · have hj : js = [1, 2] := by rw [hjs]; decide
      subst hj
      simp (maxSteps := 5000000) (disch := omega) only [g2, g3, g4, g6, MX, hc, hq0, V_P, SX, W_block, exitW, goInt, Int.reduceEq, setCells, oneOf, cellOk, reduceIte, Nat.reduceLT, Nat.reduceLeDiff, Nat.reduceEqDiff, Nat.reduceAdd, Nat.reduceSub, Nat.reduceMul, Int.reduceToNat, Int.reduceLT, Int.reduceLE, Int.reduceAdd, Int.reduceSub, implies_true, ne_eq, if_true, if_false, reduceCtorEq]
      exact ⟨m, l, bad, hrs', hgot, hc, hpan⟩
    · have hj : js = [1, 2] := by rw [hjs]; decide
      subst hj
      simp (maxSteps := 5000000) (disch := omega) only [g2, g3, g4, g6, MX, hc, hq0, V_P, SX, W_block, exitW, goInt, Int.reduceEq, setCells, oneOf, cellOk, reduceIte, Nat.reduceLT, Nat.reduceLeDiff, Nat.reduceEqDiff, Nat.reduceAdd, Nat.reduceSub, Nat.reduceMul, Int.reduceToNat, Int.reduceLT, Int.reduceLE, Int.reduceAdd, Int.reduceSub, implies_true, ne_eq, if_true, if_false, reduceCtorEq]
      exact ⟨m, l, bad, hrs', hgot, hc, hpan⟩
  rintro t K6 ⟨g2, g3, g4, g6, m, l, bad, hrs, hgot, hc, hpan⟩
  have hread := read_is (ps := ps) (by rw [hs0]; exact hkk) (by rw [hqs]; exact hgot) hc
  obtain ⟨⟨i6, o6, c6, h1, h2, h3, h4⟩, h5⟩ := hrs.rd
  have hq6 := hrs.hq
  have hr6 := hrs.hr
  have hs6 := hrs.same
  rw [hread]
  have hz : (Msg.new 0 0).cells = Msg.zero.cells := rfl
  cases bad with
  | true =>
    simp (maxSteps := 5000000) (disch := omega) only [g2, g3, g4, g6, MX, hq6, hr6, h1, mO_b2, V_P, SX, W_block, exitW, goInt, Int.reduceEq, setCells, oneOf, cellOk, reduceIte, Nat.reduceLT, Nat.reduceLeDiff, Nat.reduceEqDiff, Nat.reduceAdd, Nat.reduceSub, Nat.reduceMul, Int.reduceToNat, Int.reduceLT, Int.reduceLE, Int.reduceAdd, Int.reduceSub, implies_true, ne_eq, if_true, if_false, reduceCtorEq]
    exact ⟨by rw [hz]; simp, hs6.set hr6 (fun z => by omega)⟩
  | false =>
    cases l with
    | cons a l =>
      have hd : decide ((0 : Int) < ((l.length + 1 : Nat) : Int)) = true := by rw [decide_eq_true_eq]; omega
      simp (maxSteps := 5000000) (disch := omega) only [g2, g3, g4, g6, MX, hq6, hr6, h1, mO_b2, hd, V_P, SX, W_block, exitW, goInt, Int.reduceEq, setCells, oneOf, cellOk, reduceIte, Nat.reduceLT, Nat.reduceLeDiff, Nat.reduceEqDiff, Nat.reduceAdd, Nat.reduceSub, Nat.reduceMul, Int.reduceToNat, Int.reduceLT, Int.reduceLE, Int.reduceAdd, Int.reduceSub, implies_true, ne_eq, if_true, if_false, reduceCtorEq]
      exact ⟨by rw [hz]; simp, hs6.set hr6 (fun z => by omega)⟩
    | nil =>
      have hd : decide ((0 : Int) < ((0 : Nat) : Int)) = false := rfl
      simp (maxSteps := 5000000) (disch := omega) only [g2, g3, g4, g6, MX, hq6, hr6, h1, mO_b2, hd, V_P, SX, W_block, exitW, goInt, Int.reduceEq, setCells, oneOf, cellOk, reduceIte, Nat.reduceLT, Nat.reduceLeDiff, Nat.reduceEqDiff, Nat.reduceAdd, Nat.reduceSub, Nat.reduceMul, Int.reduceToNat, Int.reduceLT, Int.reduceLE, Int.reduceAdd, Int.reduceSub, implies_true, ne_eq, if_true, if_false, reduceCtorEq]
      refine W_callR rfl (by simp (maxSteps := 5000000) (disch := omega) only [g2, g3, g4, g6, MX, hq6, hr6, h1, mO_b2, hd, V_P, SX, W_block, exitW, goInt, Int.reduceEq, setCells, oneOf, cellOk, reduceIte, Nat.reduceLT, Nat.reduceLeDiff, Nat.reduceEqDiff, Nat.reduceAdd, Nat.reduceSub, Nat.reduceMul, Int.reduceToNat, Int.reduceLT, Int.reduceLE, Int.reduceAdd, Int.reduceSub, implies_true, ne_eq, if_true, if_false, reduceCtorEq]) (ndc_Right m _ hs6.ok (by have : maxLen = 9223372036854775807 := rfl; omega)) ?_
      rintro v K7 ⟨rfl, hs7⟩
      have hq7 : K7.get q = some (mO m) := by rw [hs7.get _ (hs6.ok.lt hq6) (by simp), hq6]
      have hr7 : K7.get H.next = some (mO .zero) := by rw [hs7.get _ (hs6.ok.lt hr6) (by simp), hr6]
      have hs8 : Same H K7 [] := hs6.trans hs7 (by simp)
      cases hm : m.right with
      | true =>
        simp (maxSteps := 5000000) (disch := omega) only [g2, g3, g4, g6, MX, hq7, hr7, h1, Msg.cells_length, hd, hm, V_P, SX, W_block, exitW, goInt, Int.reduceEq, setCells, oneOf, cellOk, reduceIte, Nat.reduceLT, Nat.reduceLeDiff, Nat.reduceEqDiff, Nat.reduceAdd, Nat.reduceSub, Nat.reduceMul, Int.reduceToNat, Int.reduceLT, Int.reduceLE, Int.reduceAdd, Int.reduceSub, implies_true, ne_eq, if_true, if_false, reduceCtorEq]
        exact hs8.set hr7 (fun z => by omega)
      | false =>
        simp (maxSteps := 5000000) (disch := omega) only [g2, g3, g4, g6, MX, hq7, hr7, h1, mO_b2, hd, hm, V_P, SX, W_block, exitW, goInt, Int.reduceEq, setCells, oneOf, cellOk, reduceIte, Nat.reduceLT, Nat.reduceLeDiff, Nat.reduceEqDiff, Nat.reduceAdd, Nat.reduceSub, Nat.reduceMul, Int.reduceToNat, Int.reduceLT, Int.reduceLE, Int.reduceAdd, Int.reduceSub, implies_true, ne_eq, if_true, if_false, reduceCtorEq]
        exact ⟨by rw [hz], hs8.set hr7 (fun z => by omega)⟩
end Go.B.YteigefgobkdmgaaDoor
/- The document's numbers. -/
namespace Go.B.YteigefgobkdmgaaDoor
open Go Go.B Go.Proofs
set_option maxRecDepth 100000
set_option maxHeartbeats 16000000
set_option linter.unusedSimpArgs false
set_option linter.unusedVariables false
theorem val_lt : ∀ (k : Nat) (l : List UInt8), l.length = k → (∀ c ∈ l, isDig c = true) → val l < 10 ^ k
  | 0, l, h, _ => by
    obtain rfl := List.length_eq_zero_iff.1 h
    decide
  | k + 1, l, h, hd => by
    rcases List.eq_nil_or_concat l with rfl | ⟨l', c, rfl⟩
    · simp at h
    rw [List.concat_eq_append] at *
    have hl : l'.length = k := by simpa using h
    have hc := hd c (by simp)
    rw [isDig_iff] at hc
    have := val_lt k l' hl (fun x hx => hd x (by simp [hx]))
    rw [val_snoc, Nat.pow_succ]
    omega
theorem val_17 {l : List UInt8} (h : l.length ≤ 17) (hd : ∀ c ∈ l, isDig c = true) : val l < 100000000000000000 := by
  have h1 := val_lt l.length l rfl hd
  have h2 : (10 : Nat) ^ l.length ≤ 10 ^ 17 := Nat.pow_le_pow_right (by decide) h
  have h3 : (10 : Nat) ^ 17 = 100000000000000000 := by decide
  omega
theorem U_len (s : ByteArray) : (U s).length = s.size := (U_size s).symm
theorem U_get {s : ByteArray} {i : Nat} {b : UInt8} (h : s[i]? = some b) : (U s)[i]? = some b := by
  have hi : i < s.size := by
    rcases Nat.lt_or_ge i s.size with h1 | h1
    · exact h1
    · rw [getElem?_neg s i (by omega)] at h; cases h
  rw [getElem?_pos s i hi] at h
  rw [List.getElem?_eq_getElem (by rw [U_len]; exact hi)]
  rw [← h]
  rfl
theorem take_snoc {l : List UInt8} {i : Nat} {b : UInt8} (h : l[i]? = some b) : l.take (i + 1) = l.take i ++ [b] := by
  rw [List.take_add_one, h]; rfl
theorem digs_iff {s : ByteArray} : digs s = true ↔ ∀ c ∈ U s, isDig c = true := by unfold digs U; rw [List.all_eq_true]
theorem ref_Num (s : ByteArray) (H : Heap) (hl : s.size ≤ maxLen) : ∃ v H', Ca V 61 #[.string s] H v H' ∧ v = (if 1 ≤ s.size ∧ s.size ≤ 18 ∧ digs s = true then .tuple #[.int .i64 (val (U s)), .bool true] else .tuple #[.int .i64 0, .bool false]) ∧ H' = H := by
  have hl' : s.size ≤ 9223372036854775807 := hl
  refine Ca_run rfl tab_61 rfl ?_
  by_cases h1 : 1 ≤ s.size
  rotate_left
  · rw [if_neg (fun z => h1 z.1)]
    have d1 : decide ((s.size : Int) < 1) = true := by rw [decide_eq_true_eq]; omega
    simp (maxSteps := 5000000) (disch := omega) only [Tryd.f61, d1, V_P, SX, W_block, exitW, goInt, Int.reduceEq, setCells, oneOf, cellOk, reduceIte, Nat.reduceLT, Nat.reduceLeDiff, Nat.reduceEqDiff, Nat.reduceAdd, Nat.reduceSub, Nat.reduceMul, Int.reduceToNat, Int.reduceLT, Int.reduceLE, Int.reduceAdd, Int.reduceSub, implies_true, ne_eq, if_true, if_false, reduceCtorEq]
  by_cases h2 : s.size ≤ 18
  rotate_left
  · rw [if_neg (fun z => h2 z.2.1)]
    have d1 : decide ((s.size : Int) < 1) = false := by rw [decide_eq_false_iff_not]; omega
    have d2 : decide ((18 : Int) < (s.size : Int)) = true := by rw [decide_eq_true_eq]; omega
    simp (maxSteps := 5000000) (disch := omega) only [Tryd.f61, d1, d2, V_P, SX, W_block, exitW, goInt, Int.reduceEq, setCells, oneOf, cellOk, reduceIte, Nat.reduceLT, Nat.reduceLeDiff, Nat.reduceEqDiff, Nat.reduceAdd, Nat.reduceSub, Nat.reduceMul, Int.reduceToNat, Int.reduceLT, Int.reduceLE, Int.reduceAdd, Int.reduceSub, implies_true, ne_eq, if_true, if_false, reduceCtorEq]
  have d1 : decide ((s.size : Int) < 1) = false := by rw [decide_eq_false_iff_not]; omega
  have d2 : decide ((18 : Int) < (s.size : Int)) = false := by rw [decide_eq_false_iff_not]; omega
  simp (maxSteps := 5000000) (disch := omega) only [Tryd.f61, d1, d2, V_P, SX, W_block, exitW, goInt, Int.reduceEq, setCells, oneOf, cellOk, reduceIte, Nat.reduceLT, Nat.reduceLeDiff, Nat.reduceEqDiff, Nat.reduceAdd, Nat.reduceSub, Nat.reduceMul, Int.reduceToNat, Int.reduceLT, Int.reduceLE, Int.reduceAdd, Int.reduceSub, implies_true, ne_eq, if_true, if_false, reduceCtorEq]
  refine W_callR rfl (by simp (maxSteps := 5000000) (disch := omega) only [d1, d2, V_P, SX, W_block, exitW, goInt, Int.reduceEq, setCells, oneOf, cellOk, reduceIte, Nat.reduceLT, Nat.reduceLeDiff, Nat.reduceEqDiff, Nat.reduceAdd, Nat.reduceSub, Nat.reduceMul, Int.reduceToNat, Int.reduceLT, Int.reduceLE, Int.reduceAdd, Int.reduceSub, implies_true, ne_eq, if_true, if_false, reduceCtorEq]) (ref_AllDigits s H hl) ?_
  rintro v H' ⟨rfl, rfl⟩
  cases hd : digs s with
  | false =>
    rw [if_neg (fun z => by cases z.2.2)]
    simp (maxSteps := 5000000) (disch := omega) only [d1, d2, V_P, SX, W_block, exitW, goInt, Int.reduceEq, setCells, oneOf, cellOk, reduceIte, Nat.reduceLT, Nat.reduceLeDiff, Nat.reduceEqDiff, Nat.reduceAdd, Nat.reduceSub, Nat.reduceMul, Int.reduceToNat, Int.reduceLT, Int.reduceLE, Int.reduceAdd, Int.reduceSub, implies_true, ne_eq, if_true, if_false, reduceCtorEq]
  | true =>
  rw [if_pos ⟨h1, h2, rfl⟩]
  have hdig := digs_iff.mp hd
  simp (maxSteps := 5000000) (disch := omega) only [d1, d2, V_P, SX, W_block, exitW, goInt, Int.reduceEq, setCells, oneOf, cellOk, reduceIte, Nat.reduceLT, Nat.reduceLeDiff, Nat.reduceEqDiff, Nat.reduceAdd, Nat.reduceSub, Nat.reduceMul, Int.reduceToNat, Int.reduceLT, Int.reduceLE, Int.reduceAdd, Int.reduceSub, implies_true, ne_eq, if_true, if_false, reduceCtorEq]
  refine W_for (fun (i : Nat) t H2 => H2 = H' ∧ t.get 0 = some (.string s) ∧ t.get 4 = some (.int .i64 (val ((U s).take i))) ∧ t.get 5 = some (.int .i64 i) ∧ i ≤ s.size) (fun i => s.size - i) 0 ?_ ?_
  · simp (maxSteps := 5000000) (disch := omega) only [V_P, SX, W_block, exitW, goInt, Int.reduceEq, setCells, oneOf, cellOk, reduceIte, Nat.reduceLT, Nat.reduceLeDiff, Nat.reduceEqDiff, Nat.reduceAdd, Nat.reduceSub, Nat.reduceMul, Int.reduceToNat, Int.reduceLT, Int.reduceLE, Int.reduceAdd, Int.reduceSub, implies_true, ne_eq, if_true, if_false, reduceCtorEq]
    exact ⟨rfl, rfl, Nat.zero_le _⟩
  rintro i t H2 ⟨rfl, g0, g4, g5, hi⟩
  have hv : i ≤ 17 → val ((U s).take i) < 100000000000000000 := fun h => val_17 (by rw [List.length_take]; omega) (fun c hc => hdig c (List.mem_of_mem_take hc))
  simp (maxSteps := 5000000) (disch := omega) only [g0, g4, g5, V_P, SX, W_block, exitW, goInt, Int.reduceEq, setCells, oneOf, cellOk, reduceIte, Nat.reduceLT, Nat.reduceLeDiff, Nat.reduceEqDiff, Nat.reduceAdd, Nat.reduceSub, Nat.reduceMul, Int.reduceToNat, Int.reduceLT, Int.reduceLE, Int.reduceAdd, Int.reduceSub, implies_true, ne_eq, if_true, if_false, reduceCtorEq]
  refine cW_dec (fun hlt => ?_) (fun hlt => ?_)
  · have hlt' : i < s.size := by omega
    have hb : s[i]? = some s[i] := getElem?_pos s i hlt'
    generalize s[i] = b at hb
    have hib := hdig b (List.mem_of_getElem? (U_get hb))
    rw [isDig_iff] at hib
    have hts := take_snoc (U_get hb)
    have hv := hv (by omega)
    have hsn := val_snoc ((U s).take i) b
    rw [← hts] at hsn
    generalize val ((U s).take i) = x at *
    simp (maxSteps := 5000000) (disch := omega) only [g0, g4, g5, hb, V_P, SX, W_block, exitW, goInt, Int.reduceEq, setCells, oneOf, cellOk, reduceIte, Nat.reduceLT, Nat.reduceLeDiff, Nat.reduceEqDiff, Nat.reduceAdd, Nat.reduceSub, Nat.reduceMul, Int.reduceToNat, Int.reduceLT, Int.reduceLE, Int.reduceAdd, Int.reduceSub, implies_true, ne_eq, if_true, if_false, reduceCtorEq]
    refine ⟨i + 1, ⟨by rw [hsn]; simp only [Value.int.injEq, true_and]; omega, by simp, by omega⟩, by omega⟩
  · simp (maxSteps := 5000000) (disch := omega) only [g0, g4, g5, V_P, SX, W_block, exitW, goInt, Int.reduceEq, setCells, oneOf, cellOk, reduceIte, Nat.reduceLT, Nat.reduceLeDiff, Nat.reduceEqDiff, Nat.reduceAdd, Nat.reduceSub, Nat.reduceMul, Int.reduceToNat, Int.reduceLT, Int.reduceLE, Int.reduceAdd, Int.reduceSub, implies_true, ne_eq, if_true, if_false, reduceCtorEq]
    obtain rfl : i = s.size := by omega
    rw [List.take_of_length_le (by rw [U_len]; exact Nat.le_refl _)]
theorem ref_number (s : ByteArray) (H : Heap) (hl : s.size ≤ maxLen) : ∃ v H', Ca V 49 #[.string s] H v H' ∧ v = (match numB 9999999999 s with | some k => .tuple #[.int .i64 k, .bool true] | none => .tuple #[.int .i64 0, .bool false]) ∧ H' = H := by
  have hl' : s.size ≤ 9223372036854775807 := hl
  have hdec : ∀ k, numB 9999999999 s = some k → U s = Lib.decDigits k ∧ s.size ≤ 10 := fun k hk => by
    obtain ⟨a, b⟩ := numB_some hk
    have : U s = Lib.decDigits k := by rw [a]
    refine ⟨this, ?_⟩
    rw [← U_len, this]
    exact (dec_ten k).mpr b
  refine Ca_run rfl tab_49 rfl ?_
  by_cases h10 : s.size ≤ 10
  rotate_left
  · have hn : numB 9999999999 s = none := by
      cases h : numB 9999999999 s with
      | none => rfl
      | some k => exact absurd (hdec k h).2 h10
    rw [hn]
    have d1 : decide ((10 : Int) < (s.size : Int)) = true := by rw [decide_eq_true_eq]; omega
    simp (maxSteps := 5000000) (disch := omega) only [Tryd.f49, d1, V_P, SX, W_block, exitW, goInt, Int.reduceEq, setCells, oneOf, cellOk, reduceIte, Nat.reduceLT, Nat.reduceLeDiff, Nat.reduceEqDiff, Nat.reduceAdd, Nat.reduceSub, Nat.reduceMul, Int.reduceToNat, Int.reduceLT, Int.reduceLE, Int.reduceAdd, Int.reduceSub, implies_true, ne_eq, if_true, if_false, reduceCtorEq]
  have d1 : decide ((10 : Int) < (s.size : Int)) = false := by rw [decide_eq_false_iff_not]; omega
  have good : ∀ c r, U s = c :: r → (r = [] ∨ c.toNat ≠ 48) → digs s = true → numB 9999999999 s = some (val (U s)) := fun c r hu hc hd => by
    have hv := dec_val (U s).length (U s) rfl (by rw [hu]; simp) (digs_iff.mp hd) (by
      rcases hc with hc | hc
      · exact .inl (by rw [hu, hc]; rfl)
      · exact .inr ⟨c, r, hu, hc⟩)
    rw [numB_iff]
    refine ⟨by rw [hv, S_U], (dec_ten _).mp ?_⟩
    rw [hv, U_len]; exact h10
  have bad : digs s = false → numB 9999999999 s = none := fun hd => by
    cases h : numB 9999999999 s with
    | none => rfl
    | some k =>
      have : digs s = true := digs_iff.mpr (by rw [(hdec k h).1]; exact dec_dig k)
      rw [hd] at this; cases this
  have call : ∀ (c : UInt8) (r : List UInt8), U s = c :: r → (r = [] ∨ c.toNat ≠ 48) → (if 1 ≤ s.size ∧ s.size ≤ 18 ∧ digs s = true then Value.tuple #[.int .i64 (val (U s)), .bool true] else .tuple #[.int .i64 0, .bool false]) = (match numB 9999999999 s with | some k => .tuple #[.int .i64 k, .bool true] | none => .tuple #[.int .i64 0, .bool false]) := fun c r hu hc => by
    have hs : s.size = r.length + 1 := by rw [← U_len, hu]; rfl
    cases hd : digs s with
    | true => rw [if_pos ⟨by omega, by omega, rfl⟩, good c r hu hc hd]
    | false => rw [if_neg (fun z => by cases z.2.2), bad hd]
  rcases hu : U s with _ | ⟨c, r⟩
  · have h0 : s.size = 0 := by rw [← U_len, hu]; rfl
    have hn : numB 9999999999 s = none := by
      have : s = S [] := by rw [← hu, S_U]
      rw [this]; exact numB_empty _
    rw [hn]
    have d2 : decide ((1 : Int) < (s.size : Int)) = false := by rw [decide_eq_false_iff_not]; omega
    simp (maxSteps := 5000000) (disch := omega) only [Tryd.f49, d1, d2, V_P, SX, W_block, exitW, goInt, Int.reduceEq, setCells, oneOf, cellOk, reduceIte, Nat.reduceLT, Nat.reduceLeDiff, Nat.reduceEqDiff, Nat.reduceAdd, Nat.reduceSub, Nat.reduceMul, Int.reduceToNat, Int.reduceLT, Int.reduceLE, Int.reduceAdd, Int.reduceSub, implies_true, ne_eq, if_true, if_false, reduceCtorEq]
    refine W_callR rfl (by simp (maxSteps := 5000000) (disch := omega) only [d1, d2, V_P, SX, W_block, exitW, goInt, Int.reduceEq, setCells, oneOf, cellOk, reduceIte, Nat.reduceLT, Nat.reduceLeDiff, Nat.reduceEqDiff, Nat.reduceAdd, Nat.reduceSub, Nat.reduceMul, Int.reduceToNat, Int.reduceLT, Int.reduceLE, Int.reduceAdd, Int.reduceSub, implies_true, ne_eq, if_true, if_false, reduceCtorEq]) (ref_Num s H hl) ?_
    rintro v H' ⟨rfl, rfl⟩
    rw [if_neg (fun z => by omega)]
    simp (maxSteps := 5000000) (disch := omega) only [d1, d2, V_P, SX, W_block, exitW, goInt, Int.reduceEq, setCells, oneOf, cellOk, reduceIte, Nat.reduceLT, Nat.reduceLeDiff, Nat.reduceEqDiff, Nat.reduceAdd, Nat.reduceSub, Nat.reduceMul, Int.reduceToNat, Int.reduceLT, Int.reduceLE, Int.reduceAdd, Int.reduceSub, implies_true, ne_eq, if_true, if_false, reduceCtorEq]
  have hs : s.size = r.length + 1 := by rw [← U_len, hu]; rfl
  by_cases hr : r = []
  · have d2 : decide ((1 : Int) < (s.size : Int)) = false := by rw [decide_eq_false_iff_not]; subst hr; simp at hs; omega
    simp (maxSteps := 5000000) (disch := omega) only [Tryd.f49, d1, d2, V_P, SX, W_block, exitW, goInt, Int.reduceEq, setCells, oneOf, cellOk, reduceIte, Nat.reduceLT, Nat.reduceLeDiff, Nat.reduceEqDiff, Nat.reduceAdd, Nat.reduceSub, Nat.reduceMul, Int.reduceToNat, Int.reduceLT, Int.reduceLE, Int.reduceAdd, Int.reduceSub, implies_true, ne_eq, if_true, if_false, reduceCtorEq]
    refine W_callR rfl (by simp (maxSteps := 5000000) (disch := omega) only [d1, d2, V_P, SX, W_block, exitW, goInt, Int.reduceEq, setCells, oneOf, cellOk, reduceIte, Nat.reduceLT, Nat.reduceLeDiff, Nat.reduceEqDiff, Nat.reduceAdd, Nat.reduceSub, Nat.reduceMul, Int.reduceToNat, Int.reduceLT, Int.reduceLE, Int.reduceAdd, Int.reduceSub, implies_true, ne_eq, if_true, if_false, reduceCtorEq]) (ref_Num s H hl) ?_
    rintro v H' ⟨rfl, rfl⟩
    rw [call c r hu (.inl hr)]
    cases numB 9999999999 s <;> simp (maxSteps := 5000000) (disch := omega) only [d1, d2, V_P, SX, W_block, exitW, goInt, Int.reduceEq, setCells, oneOf, cellOk, reduceIte, Nat.reduceLT, Nat.reduceLeDiff, Nat.reduceEqDiff, Nat.reduceAdd, Nat.reduceSub, Nat.reduceMul, Int.reduceToNat, Int.reduceLT, Int.reduceLE, Int.reduceAdd, Int.reduceSub, implies_true, ne_eq, if_true, if_false, reduceCtorEq]
  have hr1 : 0 < r.length := by rcases r with _ | ⟨a, r⟩; exact absurd rfl hr; simp
  have d2 : decide ((1 : Int) < (s.size : Int)) = true := by rw [decide_eq_true_eq]; omega
  have hb : s[0]? = some c := by
    have h0 : 0 < s.size := by omega
    have h1 := U_get (getElem?_pos s 0 h0)
    rw [hu] at h1
    rw [getElem?_pos s 0 h0]
    simpa using h1.symm
  have hb' : s[(0 : Int).toNat]? = some c := hb
  by_cases h48 : c.toNat = 48
  · have d3 : decide ((c.toNat : Int) = 48) = true := by rw [decide_eq_true_eq]; omega
    have hn : numB 9999999999 s = none := by
      cases h : numB 9999999999 s with
      | none => rfl
      | some k =>
        have hu2 := (hdec k h).1
        rw [hu] at hu2
        rcases dec_head k with h1 | ⟨c', r', h1, h2⟩
        · rw [dec_small h1] at hu2; cases hu2; exact absurd rfl hr
        · rw [h1] at hu2; cases hu2; exact absurd h48 h2
    rw [hn]
    simp (maxSteps := 5000000) (disch := omega) only [Tryd.f49, d1, d2, hb, hb', d3, V_P, SX, W_block, exitW, goInt, Int.reduceEq, setCells, oneOf, cellOk, reduceIte, Nat.reduceLT, Nat.reduceLeDiff, Nat.reduceEqDiff, Nat.reduceAdd, Nat.reduceSub, Nat.reduceMul, Int.reduceToNat, Int.reduceLT, Int.reduceLE, Int.reduceAdd, Int.reduceSub, implies_true, ne_eq, if_true, if_false, reduceCtorEq]
  · have d3 : decide ((c.toNat : Int) = 48) = false := by rw [decide_eq_false_iff_not]; omega
    simp (maxSteps := 5000000) (disch := omega) only [Tryd.f49, d1, d2, hb, hb', d3, V_P, SX, W_block, exitW, goInt, Int.reduceEq, setCells, oneOf, cellOk, reduceIte, Nat.reduceLT, Nat.reduceLeDiff, Nat.reduceEqDiff, Nat.reduceAdd, Nat.reduceSub, Nat.reduceMul, Int.reduceToNat, Int.reduceLT, Int.reduceLE, Int.reduceAdd, Int.reduceSub, implies_true, ne_eq, if_true, if_false, reduceCtorEq]
    refine W_callR rfl (by simp (maxSteps := 5000000) (disch := omega) only [d1, d2, hb, hb', d3, V_P, SX, W_block, exitW, goInt, Int.reduceEq, setCells, oneOf, cellOk, reduceIte, Nat.reduceLT, Nat.reduceLeDiff, Nat.reduceEqDiff, Nat.reduceAdd, Nat.reduceSub, Nat.reduceMul, Int.reduceToNat, Int.reduceLT, Int.reduceLE, Int.reduceAdd, Int.reduceSub, implies_true, ne_eq, if_true, if_false, reduceCtorEq]) (ref_Num s H hl) ?_
    rintro v H' ⟨rfl, rfl⟩
    rw [call c r hu (.inr h48)]
    cases numB 9999999999 s <;> simp (maxSteps := 5000000) (disch := omega) only [d1, d2, V_P, SX, W_block, exitW, goInt, Int.reduceEq, setCells, oneOf, cellOk, reduceIte, Nat.reduceLT, Nat.reduceLeDiff, Nat.reduceEqDiff, Nat.reduceAdd, Nat.reduceSub, Nat.reduceMul, Int.reduceToNat, Int.reduceLT, Int.reduceLE, Int.reduceAdd, Int.reduceSub, implies_true, ne_eq, if_true, if_false, reduceCtorEq]
end Go.B.YteigefgobkdmgaaDoor
/- The document's Split. -/
namespace Go.B.YteigefgobkdmgaaDoor
open Go Go.B Go.Proofs
set_option maxRecDepth 100000
set_option maxHeartbeats 16000000
set_option linter.unusedSimpArgs false
set_option linter.unusedVariables false
theorem bytesV_get {y : List UInt8} {i : Nat} {x : UInt8} (h : y[i]? = some x) : ((bytesV y).drop (i * 1)).take 1 = [.int .u8 x.toNat] := by
  have := one_get (fun b : UInt8 => Value.int .u8 b.toNat) h
  exact this
theorem brow_seg {H : Heap} {i o c : Nat} {y : List UInt8} (h : BRow H (some ⟨i, o, none⟩) c y) {a b : Nat} (hab : a ≤ b) (hb : b ≤ y.length) : gcV (o + a) (b - a) (H.get i) = some (bytesV ((y.drop a).take (b - a))) := by
  rcases h.at_ with ⟨_, ⟨hz, _⟩ | ⟨hz, _⟩⟩ | ⟨i', o', cs, e, ro, he, h2, h3, h4, _⟩
  · cases hz
  · cases hz
  cases he
  rw [h2, gcV_cells, if_pos (by omega)]
  have h5 := congrArg (fun l => (l.drop a).take (b - a)) h4
  have h6 : ((cs.drop o).take y.length |>.drop a).take (b - a) = (bytesV y |>.drop a).take (b - a) := h5
  rw [List.drop_take, List.take_take, List.drop_drop, show min (b - a) (y.length - a) = b - a by omega] at h6
  rw [h6]
  unfold bytesV
  rw [List.map_take, List.map_drop]
theorem brow_cut {H : Heap} {i o c : Nat} {y : List UInt8} (h : BRow H (some ⟨i, o, none⟩) c y) {l hh cap : Nat} : cutV Tryd.prog i o 1 l hh cap (H.get i) = some (.slice (some ⟨i, o + l * 1, none⟩) (hh - l) cap) := by
  rcases h.at_ with ⟨_, ⟨hz, _⟩ | ⟨hz, _⟩⟩ | ⟨i', o', cs, e, ro, he, h2, h3, h4, h5⟩
  · cases hz
  · cases hz
  cases he
  rw [h2, cutV_cells, if_pos h5]
theorem cut_emp {H : Heap} {b : Option Addr} {c : Nat} (h : b = none ∧ c = 0 ∨ b = some empA ∧ c = capU) : sliceB Tryd.prog H 31 (.slice b 0 c) (some (.int .i64 ((0 : Nat) : Int))) none none = some (.slice b 0 c) := by
  rcases h with ⟨rfl, rfl⟩ | ⟨rfl, rfl⟩
  · exact sliceB_nil un_31 sz_5 rfl rfl (Nat.le_refl _) (Nat.le_refl _)
  · unfold sliceB
    rw [un_31]
    simp only [sz_5]
    rfl
theorem drop_cons {α : Type} {l : List α} {i : Nat} {x : α} (h : l[i]? = some x) : l.drop i = x :: l.drop (i + 1) := by
  have hi := (List.getElem?_eq_some_iff.mp h).1
  rw [List.drop_eq_getElem_cons hi, (List.getElem?_eq_some_iff.mp h).2]
theorem ref_Split (y : List UInt8) (b0 : Option Addr) (c : Nat) (H : Heap) (ok : Ok H) (hy : BRow H b0 c y) (hl : y.length ≤ 100000) :
    ∃ v H', Ca V 38 #[.slice b0 y.length c] H v H' ∧ (∃ i, H.next ≤ i ∧ v = .slice (some ⟨i, 0, none⟩) ((sp y).map S).length capU ∧ H'.get i = some (.cells (((sp y).map S).map Value.string) 9 false)) ∧ Same H H' [] := by
  refine Ca_run rfl tab_38 rfl ?_
  simp (maxSteps := 5000000) (disch := omega) only [Tryd.f38, V_P, SX, W_block, exitW, goInt, Int.reduceEq, setCells, oneOf, cellOk, reduceIte, Nat.reduceLT, Nat.reduceLeDiff, Nat.reduceEqDiff, Nat.reduceAdd, Nat.reduceSub, Nat.reduceMul, Int.reduceToNat, Int.reduceLT, Int.reduceLE, Int.reduceAdd, Int.reduceSub, implies_true, ne_eq, if_true, if_false, reduceCtorEq]
  refine W_for (fun (i : Nat) t K => ∃ (fr : Nat) (out : List (List UInt8)) (b : Option Addr) (n co : Nat), t.get 0 = some (.slice b0 y.length c) ∧ t.get 3 = some (.slice b n co) ∧ t.get 4 = some (.int .i64 fr) ∧ t.get 5 = some (.int .i64 i) ∧ i ≤ y.length ∧ fr ≤ i ∧ n = out.length ∧ GRow K H.next 9 b n co ((out.map S).map Value.string) ∧ sp y = out ++ sp (y.drop fr) ∧ (28 : UInt8) ∉ (y.drop fr).take (i - fr) ∧ Same H K [] ∧ out.length ≤ i) (fun i => y.length - i) 0 ?_ ?_
  · simp (maxSteps := 5000000) (disch := omega) only [V_P, SX, W_block, exitW, goInt, Int.reduceEq, setCells, oneOf, cellOk, reduceIte, Nat.reduceLT, Nat.reduceLeDiff, Nat.reduceEqDiff, Nat.reduceAdd, Nat.reduceSub, Nat.reduceMul, Int.reduceToNat, Int.reduceLT, Int.reduceLE, Int.reduceAdd, Int.reduceSub, implies_true, ne_eq, if_true, if_false, reduceCtorEq]
    refine ⟨0, [], none, 0, 0, ?_⟩
    simp only [List.drop_zero, List.nil_append, List.take_zero, List.length_nil, List.map_nil]
    exact ⟨trivial, rfl, rfl, Nat.zero_le _, Nat.le_refl _, trivial, .nil, trivial, by simp, Same.refl ok, Nat.le_refl _⟩
  rintro i t K ⟨fr, out, b, n, co, g0, g3, g4, g5, hi, hfr, hn, hm, hsp, hpl, hs, hol⟩
  have ok2 := hs.ok
  have hyK := hy.keep ok hs
  have hcl : ((out.map S).map Value.string).length = n := by simp [hn]
  simp (maxSteps := 5000000) (disch := omega) only [g0, g3, g4, g5, V_P, SX, W_block, exitW, goInt, Int.reduceEq, setCells, oneOf, cellOk, reduceIte, Nat.reduceLT, Nat.reduceLeDiff, Nat.reduceEqDiff, Nat.reduceAdd, Nat.reduceSub, Nat.reduceMul, Int.reduceToNat, Int.reduceLT, Int.reduceLE, Int.reduceAdd, Int.reduceSub, implies_true, ne_eq, if_true, if_false, reduceCtorEq]
  refine cW_dec (fun hlt => ?_) (fun hlt => ?_)
  · have hlt' : i < y.length := by omega
    have hx : y[i]? = some y[i] := List.getElem?_eq_getElem hlt'
    generalize y[i] = x at hx
    obtain ⟨i0, o, rfl, hgc⟩ := hyK.row.get hlt'
    rw [bytesV_get hx] at hgc
    rw [Nat.mul_one] at hgc
    by_cases h28 : x = 28
    · subst h28
      have hseg := brow_seg hyK hfr hi
      have hcut := fun {l hh cap : Nat} => brow_cut (l := l) (hh := hh) (cap := cap) hyK
      have hb28 : decide (((28 : UInt8).toNat : Int) = 28) = true := by decide
      generalize hsg : (y.drop fr).take (i - fr) = seg at *
      have hlen : seg.length = i - fr := by rw [← hsg, List.length_take, List.length_drop]; omega
      have hcv : ∀ cap, cvV Tryd.prog K 31 9 (.slice (some ⟨i0, o + fr, none⟩) (i - fr) cap) = some (.val (.string (S seg)) K) := fun cap => cv_row hlen.symm hseg
      have hys : sp (y.drop fr) = seg :: sp (y.drop (i + 1)) := by
        have e : y.drop fr = seg ++ 28 :: y.drop (i + 1) := by
          rw [← hsg, ← drop_cons hx]
          have := List.take_append_drop (i - fr) (y.drop fr)
          rw [List.drop_drop, show fr + (i - fr) = i by omega] at this
          exact this.symm
        rw [e, sp_app _ _ hpl]
      obtain ⟨H3, b3, ap1, hm1, hs1, nx1, ot1, eb1, _⟩ := mrow_app (new := [.string (S seg)]) (k := 1) (hs.push (.cells [.string (S seg)] 9 false)) (mrow_push hm hs.ok (.cells [.string (S seg)] 9 false)) hcl (by decide) (by omega) rfl
      simp (maxSteps := 5000000) (disch := omega) only [g0, g3, g4, g5, hgc, hb28, hcut, hcv, ap1, V_P, SX, W_block, exitW, goInt, Int.reduceEq, setCells, oneOf, cellOk, reduceIte, Nat.reduceLT, Nat.reduceLeDiff, Nat.reduceEqDiff, Nat.reduceAdd, Nat.reduceSub, Nat.reduceMul, Int.reduceToNat, Int.reduceLT, Int.reduceLE, Int.reduceAdd, Int.reduceSub, implies_true, ne_eq, if_true, if_false, reduceCtorEq]
      refine ⟨i + 1, ⟨i + 1, out ++ [seg], b3, n + 1, capU, rfl, by simp, by simp, by omega, by omega, by simp [hn], ?_, ?_, by simp, hs1, by simp; omega⟩, by omega⟩
      · have e : ((out ++ [seg]).map S).map Value.string = (out.map S).map Value.string ++ [Value.string (S seg)] := by simp
        rw [e]; exact hm1
      · rw [hsp, hys]; simp
    · have hb28 : decide ((x.toNat : Int) = 28) = false := by
        rw [decide_eq_false_iff_not]
        intro z
        exact h28 (UInt8.toNat_inj.1 (by show x.toNat = 28; omega))
      simp (maxSteps := 5000000) (disch := omega) only [g0, g3, g4, g5, hgc, hb28, V_P, SX, W_block, exitW, goInt, Int.reduceEq, setCells, oneOf, cellOk, reduceIte, Nat.reduceLT, Nat.reduceLeDiff, Nat.reduceEqDiff, Nat.reduceAdd, Nat.reduceSub, Nat.reduceMul, Int.reduceToNat, Int.reduceLT, Int.reduceLE, Int.reduceAdd, Int.reduceSub, implies_true, ne_eq, if_true, if_false, reduceCtorEq]
      refine ⟨i + 1, ⟨fr, out, b, n, co, rfl, rfl, by simp, by omega, by omega, hn, hm, hsp, ?_, hs, by omega⟩, by omega⟩
      have hx2 : (y.drop fr)[i - fr]? = some x := by rw [List.getElem?_drop, show fr + (i - fr) = i by omega]; exact hx
      rw [show i + 1 - fr = i - fr + 1 by omega, take_snoc hx2, List.mem_append, List.mem_singleton]
      rintro (h | h)
      · exact hpl h
      · exact h28 h.symm
  · obtain rfl : i = y.length := by omega
    have hfin : sp (y.drop fr) = [y.drop fr] := by
      refine sp_plain _ ?_
      rw [List.take_of_length_le (by rw [List.length_drop]; exact Nat.le_refl _)] at hpl
      exact hpl
    obtain ⟨H3, b3, ap1, hm1, hs1, nx1, ot1, eb1, _⟩ := mrow_app (new := [.string (S (y.drop fr))]) (k := 1) (hs.push (.cells [.string (S (y.drop fr))] 9 false)) (mrow_push hm hs.ok (.cells [.string (S (y.drop fr))] 9 false)) hcl (by decide) (by omega) rfl
    have fin : (∃ i, H.next ≤ i ∧ Value.slice b3 (n + 1) capU = .slice (some ⟨i, 0, none⟩) ((sp y).map S).length capU ∧ H3.get i = some (.cells (((sp y).map S).map Value.string) 9 false)) ∧ Same H H3 [] := by
      refine ⟨?_, hs1⟩
      have e : ((out.map S).map Value.string ++ [Value.string (S (y.drop fr))]) = ((sp y).map S).map Value.string := by rw [hsp, hfin]; simp
      have e2 : n + 1 = ((sp y).map S).length := by rw [hsp, hfin, hn]; simp
      rw [e] at hm1
      rcases hm1.ways with ⟨h, _⟩ | ⟨j, h, _, _, hlo, hg⟩
      · rw [eb1] at h; cases h
      · exact ⟨j, hlo, by rw [h, e2], hg⟩
    rcases hyK.at_ with ⟨rfl, hb⟩ | ⟨i0, o, cs, e, ro, rfl, q2, q3, q4, q5⟩
    · obtain rfl : fr = 0 := by simpa using hfr
      have hce := cut_emp (H := K) hb
      rw [List.drop_nil] at ap1
      have hcv : cvV Tryd.prog K 31 9 (.slice b0 0 c) = some (.val (.string (S [])) K) := cv_brow hyK
      simp (maxSteps := 5000000) (disch := omega) only [g0, g3, g4, g5, hce, hcv, ap1, V_P, SX, W_block, exitW, goInt, Int.reduceEq, setCells, oneOf, cellOk, reduceIte, Nat.reduceLT, Nat.reduceLeDiff, Nat.reduceEqDiff, Nat.reduceAdd, Nat.reduceSub, Nat.reduceMul, Int.reduceToNat, Int.reduceLT, Int.reduceLE, Int.reduceAdd, Int.reduceSub, implies_true, ne_eq, if_true, if_false, reduceCtorEq]
      exact fin
    · have hseg := brow_seg hyK hfr (Nat.le_refl _)
      have hcut := fun {l hh cap : Nat} => brow_cut (l := l) (hh := hh) (cap := cap) hyK
      rw [List.take_of_length_le (by rw [List.length_drop]; exact Nat.le_refl _)] at hseg
      have hcv : ∀ cap, cvV Tryd.prog K 31 9 (.slice (some ⟨i0, o + fr, none⟩) (y.length - fr) cap) = some (.val (.string (S (y.drop fr))) K) := fun cap => cv_row (by rw [List.length_drop]) hseg
      simp (maxSteps := 5000000) (disch := omega) only [g0, g3, g4, g5, hcut, hcv, ap1, V_P, SX, W_block, exitW, goInt, Int.reduceEq, setCells, oneOf, cellOk, reduceIte, Nat.reduceLT, Nat.reduceLeDiff, Nat.reduceEqDiff, Nat.reduceAdd, Nat.reduceSub, Nat.reduceMul, Int.reduceToNat, Int.reduceLT, Int.reduceLE, Int.reduceAdd, Int.reduceSub, implies_true, ne_eq, if_true, if_false, reduceCtorEq]
      exact fin
end Go.B.YteigefgobkdmgaaDoor
