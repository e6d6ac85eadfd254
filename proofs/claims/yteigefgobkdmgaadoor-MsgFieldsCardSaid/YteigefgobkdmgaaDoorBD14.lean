import Derived.Test.YteigefgobkdmgaaDoorBD13
/- Messages of two kinds, or of two terminals, numbers, are never the same bytes. -/
namespace Go.B.YteigefgobkdmgaaDoor
open Go Go.B Go.Proofs
set_option maxRecDepth 100000
set_option maxHeartbeats 16000000
set_option linter.unusedSimpArgs false
set_option linter.unusedVariables false
theorem right_nonneg {m : Msg} (h : m.right = true) (hw : m.wf) {j : Nat} (hj : j < 26) (h3 : j ≠ 3) : 0 ≤ m.c j := by
  have hr := (right_iff m).mp h
  have g0 := within_iff.mp (hr.2.2.2.2 0 (by decide))
  have g1 := within_iff.mp (hr.2.2.2.2 1 (by decide))
  have g2 := within_iff.mp (hr.2.2.2.2 2 (by decide))
  have g3 := within_iff.mp (hr.2.2.2.2 3 (by decide))
  have g4 := within_iff.mp (hr.2.2.2.2 4 (by decide))
  obtain ⟨⟨a0, _⟩, ⟨b0, _⟩, ⟨c0, _⟩, ⟨d0, _⟩⟩ := g0
  obtain ⟨⟨a1, _⟩, ⟨b1, _⟩, ⟨c1, _⟩, ⟨d1, _⟩⟩ := g1
  obtain ⟨⟨a2, _⟩, ⟨b2, _⟩, ⟨c2, _⟩, ⟨d2, _⟩⟩ := g2
  obtain ⟨⟨a3, _⟩, ⟨b3, _⟩, ⟨c3, _⟩, ⟨d3, _⟩⟩ := g3
  obtain ⟨⟨a4, _⟩, ⟨b4, _⟩, ⟨c4, _⟩, ⟨d4, _⟩⟩ := g4
  have k0 : 0 ≤ m.c 0 := by omega
  have k1 : 0 ≤ m.c 1 := hw.term.1
  have k2 : 0 ≤ m.c 2 := hw.stan.1
  have k4 : 0 ≤ m.c 4 := hr.2.1.2.1
  have k21 : 0 ≤ m.c 21 := hr.2.1.2.2.2.1
  have : j = 0 ∨ j = 1 ∨ j = 2 ∨ j = 4 ∨ j = 5 ∨ j = 6 ∨ j = 7 ∨ j = 8 ∨ j = 9 ∨ j = 10 ∨ j = 11 ∨ j = 12 ∨ j = 13 ∨ j = 14 ∨ j = 15 ∨ j = 16 ∨ j = 17 ∨ j = 18 ∨ j = 19 ∨ j = 20 ∨ j = 21 ∨ j = 22 ∨ j = 23 ∨ j = 24 ∨ j = 25 := by omega
  rcases this with rfl | rfl | rfl | rfl | rfl | rfl | rfl | rfl | rfl | rfl | rfl | rfl | rfl | rfl | rfl | rfl | rfl | rfl | rfl | rfl | rfl | rfl | rfl | rfl | rfl <;> assumption
theorem txt_inj {a b : Int} (ha : 0 ≤ a) (hb : 0 ≤ b) (h : txt a = txt b) : a = b := by
  obtain ⟨m, rfl⟩ := Int.eq_ofNat_of_zero_le ha
  obtain ⟨n, rfl⟩ := Int.eq_ofNat_of_zero_le hb
  have h2 := S_inj h
  rw [itoa_nat, itoa_nat] at h2
  rw [dec_inj h2]
theorem kindS_inj {a b : Int} (ha : 1 ≤ a ∧ a ≤ 7) (hb : 1 ≤ b ∧ b ≤ 7) (h : kindS a = kindS b) : a = b := by
  have h := S_inj h
  rcases (show a = 1 ∨ a = 2 ∨ a = 3 ∨ a = 4 ∨ a = 5 ∨ a = 6 ∨ a = 7 by omega) with rfl | rfl | rfl | rfl | rfl | rfl | rfl <;>
    rcases (show b = 1 ∨ b = 2 ∨ b = 3 ∨ b = 4 ∨ b = 5 ∨ b = 6 ∨ b = 7 by omega) with rfl | rfl | rfl | rfl | rfl | rfl | rfl <;> first | rfl | exact absurd h (by decide)
theorem keep_slots {k : Int} (h : 1 ≤ k ∧ k ≤ 7) {j : Nat} (hj : j < 26) (h3 : j ≠ 3) (hk : keep k j = true) : j = 0 ∨ j ∈ slots k := by
  have key : ∀ f : Fin 26, f.val ≠ 3 → (keep 1 f.val = true → f.val = 0 ∨ f.val ∈ slots 1) ∧ (keep 2 f.val = true → f.val = 0 ∨ f.val ∈ slots 2) ∧ (keep 3 f.val = true → f.val = 0 ∨ f.val ∈ slots 3) ∧ (keep 4 f.val = true → f.val = 0 ∨ f.val ∈ slots 4) ∧ (keep 5 f.val = true → f.val = 0 ∨ f.val ∈ slots 5) ∧ (keep 6 f.val = true → f.val = 0 ∨ f.val ∈ slots 6) ∧ (keep 7 f.val = true → f.val = 0 ∨ f.val ∈ slots 7) := by decide +kernel
  obtain ⟨k1, k2, k3, k4, k5, k6, k7⟩ := key ⟨j, hj⟩ h3
  rcases (show k = 1 ∨ k = 2 ∨ k = 3 ∨ k = 4 ∨ k = 5 ∨ k = 6 ∨ k = 7 by omega) with rfl | rfl | rfl | rfl | rfl | rfl | rfl
  · exact k1 hk
  · exact k2 hk
  · exact k3 hk
  · exact k4 hk
  · exact k5 hk
  · exact k6 hk
  · exact k7 hk
theorem map_U_inj : ∀ {a b : List ByteArray}, a.map U = b.map U → a = b
  | [], [], _ => rfl
  | x :: a, y :: b, h => by
    simp only [List.map_cons, List.cons.injEq] at h
    rw [U_inj h.1, map_U_inj h.2]
theorem texts_same {m x : Msg} (h : m.same x = true) : m.texts = x.texts := by
  obtain ⟨h1, h2⟩ := same_iff.mp h
  unfold Msg.texts
  rw [h2 0 (by decide) (by decide)]
  congr 1
  refine List.map_congr_left fun j hj => ?_
  unfold Msg.text
  by_cases h3 : j = 3
  · rw [if_pos h3, if_pos h3, h1]
  · rw [if_neg h3, if_neg h3, h2 j (slots_lt _ j hj) h3]
theorem same_of_texts {m x : Msg} (hm : m.right = true) (hx : x.right = true) (wm : m.wf) (wx : x.wf) (h : m.texts = x.texts) : m.same x = true := by
  have rm := (right_iff m).mp hm
  have rx := (right_iff x).mp hx
  unfold Msg.texts at h
  simp only [List.cons.injEq] at h
  obtain ⟨hk, hs⟩ := h
  have hk0 := kindS_inj rm.1 rx.1 hk
  rw [← hk0] at hs
  have hall : ∀ j ∈ slots (m.c 0), m.text j = x.text j := List.map_inj_left.mp hs
  refine same_iff.mpr ⟨?_, fun j hj h3 => ?_⟩
  · rcases rm.2.2.2.1 with ⟨a, _⟩ | ⟨a, b⟩
    · exact hall 3 (by rw [a]; decide)
    · rcases rx.2.2.2.1 with ⟨a', _⟩ | ⟨_, b'⟩
      · exact absurd (hk0.trans a') a
      · rw [b, b']
  · by_cases h0 : j = 0
    · subst h0; exact hk0
    by_cases hin : j ∈ slots (m.c 0)
    · have := hall j hin
      unfold Msg.text at this
      rw [if_neg h3, if_neg h3] at this
      exact txt_inj (right_nonneg hm wm hj h3) (right_nonneg hx wx hj h3) this
    · have hn : keep (m.c 0) j ≠ true := fun z => by
        rcases keep_slots rm.1 hj h3 z with h | h
        · exact h0 h
        · exact hin h
      have e1 := (rm.2.2.1 j hj h3).resolve_left hn
      have e2 := (rx.2.2.1 j hj h3).resolve_left (by rw [← hk0]; exact hn)
      rw [e1, e2]
theorem bytes_same {m x : Msg} (hm : m.right = true) (hx : x.right = true) (wm : m.wf) (wx : x.wf) : (m.bytes = x.bytes) ↔ m.same x = true := by
  constructor
  · intro h
    obtain ⟨p1, _⟩ := texts_ok hm wm
    obtain ⟨p2, _⟩ := texts_ok hx wx
    have e1 := sp_jn (m.texts.map U) (by unfold Msg.texts; simp) (fun a ha => by obtain ⟨s, hs, rfl⟩ := List.mem_map.mp ha; exact p1 s hs)
    have e2 := sp_jn (x.texts.map U) (by unfold Msg.texts; simp) (fun a ha => by obtain ⟨s, hs, rfl⟩ := List.mem_map.mp ha; exact p2 s hs)
    unfold Msg.bytes at h
    rw [← h, e1] at e2
    exact same_of_texts hm hx wm wx (map_U_inj e2)
  · intro h
    unfold Msg.bytes
    rw [texts_same h]
section
variable {P : Program} {H : Heap}
theorem binV_beq {t : TypeId} {x y : Operand} {a b : Bool} (hu : P.underlying t = some .bool) : binV P H .eql t x y (.bool a) (.bool b) = some (.val (.bool (a == b)) H) := by
  refine binV_eq nilEq_bool rfl rfl ?_ rfl
  simp only [binOp]
  rw [runP_bind]
  have : runP P (Op.equal t (.bool a) (.bool b)) = some (a == b) := by
    unfold Op.equal Op.maxDepth Op.equalIn
    rw [runP_bind, runP_und hu]
    rfl
  rw [this]
  rfl
theorem runP_ret {α : Type} {a : α} : runP P (pure a) = some a := rfl
end
theorem law_kinds (a b k mm st am : Int) (a0 : 0 ≤ a ∧ a < 256) (b0 : 0 ≤ b ∧ b < 256) (k0 : 0 ≤ k ∧ k < 256) (m0 : 0 ≤ mm ∧ mm < 256) (s0 : 0 ≤ st ∧ st < 65536) (am0 : 0 ≤ am ∧ am < 65536) (H : Heap) (ok : Ok H) :
    ∃ v H', Ca V 6 #[.int .u8 a, .int .u8 b, .int .u8 k, .int .u8 mm, .int .u16 st, .int .u16 am] H v H' ∧ v = .bool true := by
  refine Ca_run rfl tab_6 rfl ?_
  simp (maxSteps := 5000000) (disch := omega) only [Tryd.f6, V_P, SX, W_block, exitW, goInt, Int.reduceEq, setCells, oneOf, cellOk, reduceIte, Nat.reduceLT, Nat.reduceLeDiff, Nat.reduceEqDiff, Nat.reduceAdd, Nat.reduceSub, Nat.reduceMul, Int.reduceToNat, Int.reduceLT, Int.reduceLE, Int.reduceAdd, Int.reduceSub, implies_true, ne_eq, if_true, if_false, reduceCtorEq]
  refine W_callR rfl (by simp (maxSteps := 5000000) (disch := omega) only [V_P, SX, W_block, exitW, goInt, Int.reduceEq, setCells, oneOf, cellOk, reduceIte, Nat.reduceLT, Nat.reduceLeDiff, Nat.reduceEqDiff, Nat.reduceAdd, Nat.reduceSub, Nat.reduceMul, Int.reduceToNat, Int.reduceLT, Int.reduceLE, Int.reduceAdd, Int.reduceSub, implies_true, ne_eq, if_true, if_false, reduceCtorEq]) (Ca_is (c_known _)) ?_
  rintro v H1 ⟨rfl, rfl⟩
  simp (maxSteps := 5000000) (disch := omega) only [V_P, SX, W_block, exitW, goInt, Int.reduceEq, setCells, oneOf, cellOk, reduceIte, Nat.reduceLT, Nat.reduceLeDiff, Nat.reduceEqDiff, Nat.reduceAdd, Nat.reduceSub, Nat.reduceMul, Int.reduceToNat, Int.reduceLT, Int.reduceLE, Int.reduceAdd, Int.reduceSub, implies_true, ne_eq, if_true, if_false, reduceCtorEq]
  refine W_callR rfl (by simp (maxSteps := 5000000) (disch := omega) only [V_P, SX, W_block, exitW, goInt, Int.reduceEq, setCells, oneOf, cellOk, reduceIte, Nat.reduceLT, Nat.reduceLeDiff, Nat.reduceEqDiff, Nat.reduceAdd, Nat.reduceSub, Nat.reduceMul, Int.reduceToNat, Int.reduceLT, Int.reduceLE, Int.reduceAdd, Int.reduceSub, implies_true, ne_eq, if_true, if_false, reduceCtorEq]) (seat_Msg a k st am a0.1 a0.2 k0.1 k0.2 s0.1 s0.2 am0.1 am0.2 _ ok) ?_
  rintro v H1 ⟨⟨x, rfl, rx, wx⟩, hs1⟩
  simp (maxSteps := 5000000) (disch := omega) only [V_P, SX, W_block, exitW, goInt, Int.reduceEq, setCells, oneOf, cellOk, reduceIte, Nat.reduceLT, Nat.reduceLeDiff, Nat.reduceEqDiff, Nat.reduceAdd, Nat.reduceSub, Nat.reduceMul, Int.reduceToNat, Int.reduceLT, Int.reduceLE, Int.reduceAdd, Int.reduceSub, implies_true, ne_eq, if_true, if_false, reduceCtorEq]
  refine W_callR rfl (by simp (maxSteps := 5000000) (disch := omega) only [V_P, SX, W_block, exitW, goInt, Int.reduceEq, setCells, oneOf, cellOk, reduceIte, Nat.reduceLT, Nat.reduceLeDiff, Nat.reduceEqDiff, Nat.reduceAdd, Nat.reduceSub, Nat.reduceMul, Int.reduceToNat, Int.reduceLT, Int.reduceLE, Int.reduceAdd, Int.reduceSub, implies_true, ne_eq, if_true, if_false, reduceCtorEq]) (seat_Msg b mm st am b0.1 b0.2 m0.1 m0.2 s0.1 s0.2 am0.1 am0.2 _ hs1.ok) ?_
  rintro v H2 ⟨⟨y, rfl, ry, wy⟩, hs2⟩
  have ok2 := hs2.ok
  simp (maxSteps := 5000000) (disch := omega) only [MX, Msg.cells_length, V_P, SX, W_block, exitW, goInt, Int.reduceEq, setCells, oneOf, cellOk, reduceIte, Nat.reduceLT, Nat.reduceLeDiff, Nat.reduceEqDiff, Nat.reduceAdd, Nat.reduceSub, Nat.reduceMul, Int.reduceToNat, Int.reduceLT, Int.reduceLE, Int.reduceAdd, Int.reduceSub, implies_true, ne_eq, if_true, if_false, reduceCtorEq]
  refine W_callR rfl (by simp (maxSteps := 5000000) (disch := omega) only [MX, Msg.cells_length, V_P, SX, W_block, exitW, goInt, Int.reduceEq, setCells, oneOf, cellOk, reduceIte, Nat.reduceLT, Nat.reduceLeDiff, Nat.reduceEqDiff, Nat.reduceAdd, Nat.reduceSub, Nat.reduceMul, Int.reduceToNat, Int.reduceLT, Int.reduceLE, Int.reduceAdd, Int.reduceSub, implies_true, ne_eq, if_true, if_false, reduceCtorEq]) (ndc_Put x _ (by repeat (first | exact ok2 | refine Ok.push ?_ _ | refine Ok.room ?_ _ | (refine Ok.put ?_ _ (by simp (disch := omega) only [Heap.get_pushH, Heap.get_setH, hite_same, hite_ne, hite_eq, Heap.get_room, Heap.next_push, Heap.next_set, Heap.next_room, Option.isSome_some, *])))) wx) ?_
  rintro v H3 ⟨_, hp3, hs3⟩
  obtain ⟨i3, hi3, rfl, hg3⟩ := hp3 rx
  have q3 : H3.get H2.next = some (mO x) := by
    rw [hs3.get _ (by simp only [Heap.next_set, Heap.next_push]; omega) (by simp)]
    simp only [Heap.get_set, Heap.get_push, Heap.next_push, Heap.next_set]
    rw [if_neg (by omega), if_pos trivial]
  have q4 : H3.get (H2.next + 1) = some (mO y) := by
    rw [hs3.get _ (by simp only [Heap.next_set, Heap.next_push]; omega) (by simp)]
    simp only [Heap.get_set, Heap.get_push, Heap.next_push, Heap.next_set]
    rw [if_pos trivial]
  have hn3 := hs3.le
  simp only [Heap.next_set, Heap.next_push] at hn3 hi3
  simp (maxSteps := 5000000) (disch := omega) only [MX, Msg.cells_length, q3, q4, V_P, SX, W_block, exitW, goInt, Int.reduceEq, setCells, oneOf, cellOk, reduceIte, Nat.reduceLT, Nat.reduceLeDiff, Nat.reduceEqDiff, Nat.reduceAdd, Nat.reduceSub, Nat.reduceMul, Int.reduceToNat, Int.reduceLT, Int.reduceLE, Int.reduceAdd, Int.reduceSub, implies_true, ne_eq, if_true, if_false, reduceCtorEq]
  refine W_callR rfl (by simp (maxSteps := 5000000) (disch := omega) only [MX, Msg.cells_length, q3, q4, V_P, SX, W_block, exitW, goInt, Int.reduceEq, setCells, oneOf, cellOk, reduceIte, Nat.reduceLT, Nat.reduceLeDiff, Nat.reduceEqDiff, Nat.reduceAdd, Nat.reduceSub, Nat.reduceMul, Int.reduceToNat, Int.reduceLT, Int.reduceLE, Int.reduceAdd, Int.reduceSub, implies_true, ne_eq, if_true, if_false, reduceCtorEq]) (ndc_Put y _ hs3.ok wy) ?_
  rintro v H4 ⟨_, hp4, hs4⟩
  obtain ⟨i4, hi4, rfl, hg4⟩ := hp4 ry
  have ok4 := hs4.ok
  have okn4 : ∀ a, H4.next ≤ a → H4.get a = none := ok4
  have hn4 := hs4.le
  have q5 : H4.get H2.next = some (mO x) := by rw [hs4.get _ (by omega) (by simp), q3]
  have q6 : H4.get (H2.next + 1) = some (mO y) := by rw [hs4.get _ (by omega) (by simp), q4]
  have q7 : H4.get i3 = some (.cells (bytesV x.bytes) 5 false) := by rw [hs4.get _ (hs3.ok.lt hg3) (by simp), hg3]
  have cv1 := cv_row (H := H4.room 16) (i := i3) (o := 0) (c := capU) (n := x.bytes.length) (l := x.bytes) rfl (by rw [Heap.get_room, q7, gcV_cells, if_pos (by rw [bytesV_length]; omega), List.drop_zero, List.take_of_length_le (by rw [bytesV_length]; omega)])
  have cv2 := cv_row (H := H4.room 16) (i := i4) (o := 0) (c := capU) (n := y.bytes.length) (l := y.bytes) rfl (by rw [Heap.get_room, hg4, gcV_cells, if_pos (by rw [bytesV_length]; omega), List.drop_zero, List.take_of_length_le (by rw [bytesV_length]; omega)])
  simp (maxSteps := 5000000) (disch := omega) only [MX, Msg.cells_length, q5, q6, V_P, SX, W_block, exitW, goInt, Int.reduceEq, setCells, oneOf, cellOk, reduceIte, Nat.reduceLT, Nat.reduceLeDiff, Nat.reduceEqDiff, Nat.reduceAdd, Nat.reduceSub, Nat.reduceMul, Int.reduceToNat, Int.reduceLT, Int.reduceLE, Int.reduceAdd, Int.reduceSub, implies_true, ne_eq, if_true, if_false, reduceCtorEq]
  refine W_drawR [[], [], [0, 1], [2, 0, 1], [3, 2, 0, 1], [4, 3, 2, 0, 1], [5, 4, 3, 2, 0, 1], [4, 3, 2, 0, 1], [7, 4, 3, 2, 0, 1], [6, 5, 4, 3, 2, 0, 1, 8, 7], [4, 3, 2, 0, 1], [4, 3, 2, 0, 1], [10, 4, 3, 2, 0, 1, 11], [9, 6, 5, 4, 3, 2, 0, 1, 8, 7, 12, 10, 11], [4, 3, 2, 0, 1, 13, 9, 6, 5, 8, 7, 12, 10, 11], [14, 4, 3, 2, 0, 1, 13, 9, 6, 5, 8, 7, 12, 10, 11]] [0, 1, 2, 3, 4, 5, 6, 7, 8, 9, 10, 11, 12, 13, 14, 15] (by decide +kernel) (by repeat (first | exact ok4 | refine Ok.push ?_ _ | refine Ok.room ?_ _ | (refine Ok.put ?_ _ (by simp (disch := omega) only [Heap.get_pushH, Heap.get_setH, hite_same, hite_ne, hite_eq, Heap.get_room, Heap.next_push, Heap.next_set, Heap.next_room, Option.isSome_some, *])))) ?_
  have hd : decide (S x.bytes = S y.bytes) = x.same y := by
    rw [Bool.eq_iff_iff, decide_eq_true_eq, ← bytes_same rx ry wx wy]
    exact ⟨S_inj, fun h => by rw [h]⟩
  have hbb := fun (x1 y1 : Operand) => binV_beq (P := Tryd.prog) (H := H4.room 16) (t := 4) (x := x1) (y := y1) (a := x.same y) (b := x.same y) un_4
  rw [beq_self_eq_true] at hbb
  simp (maxSteps := 5000000) (disch := omega) only [MX, okn4, q5, q6, cv1, cv2, hd, hbb, V_P, SX, W_block, exitW, goInt, Int.reduceEq, setCells, oneOf, cellOk, reduceIte, Nat.reduceLT, Nat.reduceLeDiff, Nat.reduceEqDiff, Nat.reduceAdd, Nat.reduceSub, Nat.reduceMul, Int.reduceToNat, Int.reduceLT, Int.reduceLE, Int.reduceAdd, Int.reduceSub, implies_true, ne_eq, if_true, if_false, reduceCtorEq, DX, Nat.reduceBEq]
end Go.B.YteigefgobkdmgaaDoor
