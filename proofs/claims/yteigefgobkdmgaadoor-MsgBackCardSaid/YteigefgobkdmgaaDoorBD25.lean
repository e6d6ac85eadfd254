import Derived.Test.YteigefgobkdmgaaDoorBD24
/- The law MsgBack. -/
namespace Go.B.YteigefgobkdmgaaDoor
open Go Go.B Go.Proofs
set_option maxRecDepth 100000
set_option maxHeartbeats 16000000
set_option linter.unusedSimpArgs false
set_option linter.unusedVariables false
theorem co_i : Program.cellsOf Tryd.prog 3 = 1 := by kernel_rfl
theorem co_i64 : Program.cellsOf Tryd.prog 2 = 1 := by kernel_rfl
theorem co_u16 : Program.cellsOf Tryd.prog 22 = 1 := by kernel_rfl
theorem co_u32 : Program.cellsOf Tryd.prog 23 = 1 := by kernel_rfl
theorem co_s : Program.cellsOf Tryd.prog 9 = 1 := by kernel_rfl
theorem co_n4 : Program.cellsOf Tryd.prog 25 = 4 := by kernel_rfl
theorem co_msg : Program.cellsOf Tryd.prog 27 = 26 := by kernel_rfl
theorem dec_n4 {H : Heap} {cs : List Value} {d : Dat} (h : Enc Tryd.prog H 25 cs d) : ∃ x : N4, cs = x.cells := by
  obtain ⟨hl, l, hll, hf⟩ := h.array_inv un_25
  rw [co_n4] at hl
  rw [co_i] at hf
  match cs, hl with
  | [a0, a1, a2, a3], _ =>
    match l, hll with
    | [y0, y1, y2, y3], _ =>
      obtain ⟨n0, e0, _⟩ := (hf 0 y0 rfl).int_inv un_3
      obtain ⟨n1, e1, _⟩ := (hf 1 y1 rfl).int_inv un_3
      obtain ⟨n2, e2, _⟩ := (hf 2 y2 rfl).int_inv un_3
      obtain ⟨n3, e3, _⟩ := (hf 3 y3 rfl).int_inv un_3
      simp at e0 e1 e2 e3
      subst e0 e1 e2 e3
      exact ⟨⟨n0, n1, n2, n3⟩, rfl⟩
theorem dec_msg {H : Heap} {cs : List Value} {d : Dat} (h : Enc Tryd.prog H 27 cs d) : ∃ m : Msg, cs = m.cells ∧ m.wf := by
  obtain ⟨hl, l, hll, hf⟩ := h.struct_inv un_27
  rw [co_msg] at hl
  match l, hll with
  | [y0, y1, y2, y3, y4, y5, y6, y7, y8, y9, y10], _ =>
    obtain ⟨n0, e0, w0⟩ := (hf 0 _ y0 rfl rfl).int_inv un_3
    obtain ⟨n1, e1, w1⟩ := (hf 1 _ y1 rfl rfl).int_inv un_22
    obtain ⟨n2, e2, w2⟩ := (hf 2 _ y2 rfl rfl).int_inv un_23
    obtain ⟨s3, e3, w3⟩ := (hf 3 _ y3 rfl rfl).str_inv un_9
    obtain ⟨n4, e4, w4⟩ := (hf 4 _ y4 rfl rfl).int_inv un_2
    obtain ⟨x5, e5⟩ := dec_n4 (hf 5 _ y5 rfl rfl)
    obtain ⟨x6, e6⟩ := dec_n4 (hf 6 _ y6 rfl rfl)
    obtain ⟨x7, e7⟩ := dec_n4 (hf 7 _ y7 rfl rfl)
    obtain ⟨x8, e8⟩ := dec_n4 (hf 8 _ y8 rfl rfl)
    obtain ⟨n9, e9, w9⟩ := (hf 9 _ y9 rfl rfl).int_inv un_3
    obtain ⟨x10, e10⟩ := dec_n4 (hf 10 _ y10 rfl rfl)
    have e0 : (cs.drop 0).take (Program.cellsOf Tryd.prog 3) = [.int .i64 n0] := e0
    rw [co_i] at e0
    have e1 : (cs.drop 1).take (Program.cellsOf Tryd.prog 22) = [.int .u16 n1] := e1
    rw [co_u16] at e1
    have e2 : (cs.drop 2).take (Program.cellsOf Tryd.prog 23) = [.int .u32 n2] := e2
    rw [co_u32] at e2
    have e3 : (cs.drop 3).take (Program.cellsOf Tryd.prog 9) = [.string s3] := e3
    rw [co_s] at e3
    have e4 : (cs.drop 4).take (Program.cellsOf Tryd.prog 2) = [.int .i64 n4] := e4
    rw [co_i64] at e4
    have e5 : (cs.drop 5).take (Program.cellsOf Tryd.prog 25) = x5.cells := e5
    rw [co_n4] at e5
    have e6 : (cs.drop 9).take (Program.cellsOf Tryd.prog 25) = x6.cells := e6
    rw [co_n4] at e6
    have e7 : (cs.drop 13).take (Program.cellsOf Tryd.prog 25) = x7.cells := e7
    rw [co_n4] at e7
    have e8 : (cs.drop 17).take (Program.cellsOf Tryd.prog 25) = x8.cells := e8
    rw [co_n4] at e8
    have e9 : (cs.drop 21).take (Program.cellsOf Tryd.prog 3) = [.int .i64 n9] := e9
    rw [co_i] at e9
    have e10 : (cs.drop 22).take (Program.cellsOf Tryd.prog 25) = x10.cells := e10
    rw [co_n4] at e10
    have hsum : cs = (cs.drop 0).take 1 ++ ((cs.drop 1).take 1 ++ ((cs.drop 2).take 1 ++ ((cs.drop 3).take 1 ++ ((cs.drop 4).take 1 ++ ((cs.drop 5).take 4 ++ ((cs.drop 9).take 4 ++ ((cs.drop 13).take 4 ++ ((cs.drop 17).take 4 ++ ((cs.drop 21).take 1 ++ (cs.drop 22).take 4))))))))) := by
      have go : ∀ (a b : Nat) (r : List Value), cs.drop (a + b) = r → cs.drop a = (cs.drop a).take b ++ r := fun a b r h => by
        rw [← h, ← List.drop_drop, List.take_append_drop]
      exact go 0 1 _ (go 1 1 _ (go 2 1 _ (go 3 1 _ (go 4 1 _ (go 5 4 _ (go 9 4 _ (go 13 4 _ (go 17 4 _ (go 21 1 _ (List.take_of_length_le (by rw [List.length_drop]; omega)).symm)))))))))
    rw [e0, e1, e2, e3, e4, e5, e6, e7, e8, e9, e10] at hsum
    refine ⟨⟨s3, fun j => if j = 0 then n0 else if j = 1 then n1 else if j = 2 then n2 else if j = 4 then n4 else if j = 5 then x5.a else if j = 6 then x5.b else if j = 7 then x5.c else if j = 8 then x5.d else if j = 9 then x6.a else if j = 10 then x6.b else if j = 11 then x6.c else if j = 12 then x6.d else if j = 13 then x7.a else if j = 14 then x7.b else if j = 15 then x7.c else if j = 16 then x7.d else if j = 17 then x8.a else if j = 18 then x8.b else if j = 19 then x8.c else if j = 20 then x8.d else if j = 21 then n9 else if j = 22 then x10.a else if j = 23 then x10.b else if j = 24 then x10.c else x10.d⟩, hsum, w3, wf_u16 w1, wf_u32 w2⟩
theorem sp_bytes {m : Msg} (h : m.right = true) (hw : m.wf) : (sp m.bytes).map S = m.texts := by
  obtain ⟨p1, _⟩ := texts_ok h hw
  have e1 := sp_jn (m.texts.map U) (by unfold Msg.texts; simp) (fun a ha => by obtain ⟨s, hs, rfl⟩ := List.mem_map.mp ha; exact p1 s hs)
  unfold Msg.bytes
  rw [e1, List.map_map]
  exact (List.map_id _)
theorem brow_of {H : Heap} {i : Nat} {y : List UInt8} (h : H.get i = some (.cells (bytesV y) 5 false)) : BRow H (some ⟨i, 0, none⟩) capU y :=
  ⟨.inr ⟨i, 0, bytesV y, 5, false, rfl, h, by rw [bytesV_length]; omega, by rw [List.drop_zero, List.take_of_length_le (by rw [bytesV_length]; omega)], sz_5⟩⟩
theorem setCells_length : ∀ (l c : List Value) (o : Nat), (setCells c o l).length = c.length
  | [], c, o => rfl
  | v :: l, c, o => by rw [setCells, setCells_length l, List.length_set]
theorem setCells_eq : ∀ (l c : List Value) (o : Nat), o + l.length ≤ c.length → setCells c o l = c.take o ++ (l ++ c.drop (o + l.length))
  | [], c, o, _ => by simp [setCells]
  | v :: l, c, o, h => by
    simp only [List.length_cons] at h ⊢
    rw [setCells, setCells_eq l (c.set o v) (o + 1) (by rw [List.length_set]; omega), List.drop_set_of_lt (by omega), show o + 1 + l.length = o + (l.length + 1) by omega]
    have : (c.set o v).take (o + 1) = c.take o ++ [v] := by
      rw [List.take_add_one, List.take_set_of_le (Nat.le_refl _), List.getElem?_set_self (by omega)]
      rfl
    rw [this]; simp
theorem msgs2 {m x : Msg} {Z : List Value} (h : Z.length = 52) : setCells (setCells Z 0 m.cells) 26 x.cells = m.cells ++ x.cells := by
  rw [setCells_eq m.cells Z 0 (by rw [Msg.cells_length]; omega), setCells_eq x.cells _ 26 (by simp [Msg.cells_length]; omega)]
  simp only [List.take_zero, List.nil_append, Msg.cells_length]
  rw [List.take_append_of_le_length (by rw [Msg.cells_length]; exact Nat.le_refl _), List.take_of_length_le (by rw [Msg.cells_length]; exact Nat.le_refl _), List.drop_of_length_le (by simp [Msg.cells_length]; omega)]
  simp
theorem binV_bne {P : Program} {H : Heap} {t : TypeId} {x y : Operand} {a b : Bool} (hu : P.underlying t = some .bool) : binV P H .neq t x y (.bool a) (.bool b) = some (.val (.bool (!(a == b))) H) := by
  refine binV_eq nilEq_bool rfl rfl ?_ rfl
  simp only [binOp]
  rw [runP_bind]
  have : runP P (Op.equal t (.bool a) (.bool b)) = some (a == b) := by
    unfold Op.equal Op.maxDepth Op.equalIn
    rw [runP_bind, runP_und hu]
    rfl
  rw [this]
  rfl
theorem law_back (raw : Msg) (wr : raw.wf) (a k st am : Int) (a0 : 0 ≤ a ∧ a < 256) (k0 : 0 ≤ k ∧ k < 256) (s0 : 0 ≤ st ∧ st < 65536) (am0 : 0 ≤ am ∧ am < 65536) (H : Heap) (ok : Ok H) :
    ∃ v H', Ca V 3 #[.agg raw.cells.toArray, .int .u8 a, .int .u8 k, .int .u16 st, .int .u16 am] H v H' ∧ v = .bool true := by
  have okn : ∀ a, H.next ≤ a → H.get a = none := ok
  refine Ca_run rfl tab_3 rfl ?_
  simp (maxSteps := 5000000) (disch := omega) only [Tryd.f3, MX, Msg.cells_length, V_P, SX, W_block, exitW, goInt, Int.reduceEq, setCells, oneOf, cellOk, reduceIte, Nat.reduceLT, Nat.reduceLeDiff, Nat.reduceEqDiff, Nat.reduceAdd, Nat.reduceSub, Nat.reduceMul, Int.reduceToNat, Int.reduceLT, Int.reduceLE, Int.reduceAdd, Int.reduceSub, implies_true, ne_eq, if_true, if_false, reduceCtorEq]
  refine W_callR rfl (by simp (maxSteps := 5000000) (disch := omega) only [MX, Msg.cells_length, V_P, SX, W_block, exitW, goInt, Int.reduceEq, setCells, oneOf, cellOk, reduceIte, Nat.reduceLT, Nat.reduceLeDiff, Nat.reduceEqDiff, Nat.reduceAdd, Nat.reduceSub, Nat.reduceMul, Int.reduceToNat, Int.reduceLT, Int.reduceLE, Int.reduceAdd, Int.reduceSub, implies_true, ne_eq, if_true, if_false, reduceCtorEq]) (Ca_is (c_known _)) ?_
  rintro v H1 ⟨rfl, rfl⟩
  simp (maxSteps := 5000000) (disch := omega) only [MX, Msg.cells_length, V_P, SX, W_block, exitW, goInt, Int.reduceEq, setCells, oneOf, cellOk, reduceIte, Nat.reduceLT, Nat.reduceLeDiff, Nat.reduceEqDiff, Nat.reduceAdd, Nat.reduceSub, Nat.reduceMul, Int.reduceToNat, Int.reduceLT, Int.reduceLE, Int.reduceAdd, Int.reduceSub, implies_true, ne_eq, if_true, if_false, reduceCtorEq]
  refine cW_dec (fun hx => ?_) (fun hx => ?_)
  · simp (maxSteps := 5000000) (disch := omega) only [V_P, SX, W_block, exitW, goInt, Int.reduceEq, setCells, oneOf, cellOk, reduceIte, Nat.reduceLT, Nat.reduceLeDiff, Nat.reduceEqDiff, Nat.reduceAdd, Nat.reduceSub, Nat.reduceMul, Int.reduceToNat, Int.reduceLT, Int.reduceLE, Int.reduceAdd, Int.reduceSub, implies_true, ne_eq, if_true, if_false, reduceCtorEq]
  simp (maxSteps := 5000000) (disch := omega) only [V_P, SX, W_block, exitW, goInt, Int.reduceEq, setCells, oneOf, cellOk, reduceIte, Nat.reduceLT, Nat.reduceLeDiff, Nat.reduceEqDiff, Nat.reduceAdd, Nat.reduceSub, Nat.reduceMul, Int.reduceToNat, Int.reduceLT, Int.reduceLE, Int.reduceAdd, Int.reduceSub, implies_true, ne_eq, if_true, if_false, reduceCtorEq]
  refine W_drawR [[], [], [], [], [], [1, 2, 3, 4], [0, 5, 1, 2, 3, 4], [6, 0, 5, 1, 2, 3, 4], []] [1, 2, 3, 4, 5, 0, 6, 7, 8] (by decide +kernel) (by repeat (first | exact ok | refine Ok.push ?_ _ | refine Ok.room ?_ _ | (refine Ok.put ?_ _ (by simp (disch := omega) only [Heap.get_pushH, Heap.get_setH, hite_same, hite_ne, hite_eq, Heap.get_room, Heap.next_push, Heap.next_set, Heap.next_room, Option.isSome_some, *])))) ?_
  simp (maxSteps := 5000000) (disch := omega) only [MX, Msg.cells_length, okn, V_P, SX, W_block, exitW, goInt, Int.reduceEq, setCells, oneOf, cellOk, reduceIte, Nat.reduceLT, Nat.reduceLeDiff, Nat.reduceEqDiff, Nat.reduceAdd, Nat.reduceSub, Nat.reduceMul, Int.reduceToNat, Int.reduceLT, Int.reduceLE, Int.reduceAdd, Int.reduceSub, implies_true, ne_eq, if_true, if_false, reduceCtorEq, DX, Nat.reduceBEq]
  refine DOpd_callR (by decide) rfl (by simp (maxSteps := 5000000) (disch := omega) only [MX, okn, V_P, SX, W_block, exitW, goInt, Int.reduceEq, setCells, oneOf, cellOk, reduceIte, Nat.reduceLT, Nat.reduceLeDiff, Nat.reduceEqDiff, Nat.reduceAdd, Nat.reduceSub, Nat.reduceMul, Int.reduceToNat, Int.reduceLT, Int.reduceLE, Int.reduceAdd, Int.reduceSub, implies_true, ne_eq, if_true, if_false, reduceCtorEq, DX, Nat.reduceBEq]) (seat_Msg a k st am a0.1 a0.2 k0.1 k0.2 s0.1 s0.2 am0.1 am0.2 _ (by repeat (first | exact ok | refine Ok.push ?_ _ | refine Ok.room ?_ _ | (refine Ok.put ?_ _ (by simp (disch := omega) only [Heap.get_pushH, Heap.get_setH, hite_same, hite_ne, hite_eq, Heap.get_room, Heap.next_push, Heap.next_set, Heap.next_room, Option.isSome_some, *]))))) ?_
  rintro v H2 ⟨⟨x, rfl, rx, wx⟩, hs2⟩
  refine ⟨by rw [isV_agg']; exact of_eq_true vs_cells, hs2.keep (by simp only [Heap.next_room, Heap.next_push]; exact Nat.le_refl _), ?_⟩
  have hn2 := hs2.le
  simp only [Heap.next_room, Heap.next_push] at hn2
  have q0 : H2.get H.next = some (mO raw) := by
    rw [hs2.get _ (by simp only [Heap.next_room, Heap.next_push]; omega) (by simp), Heap.get_room, Heap.get_push, if_pos rfl]
  have hs3 : Same H H2 [] := (by repeat (first | exact Same.same ok | refine Same.push ?_ _ | refine Same.room ?_ _ | (refine Same.make ?_ (by (try simp only [Heap.next_push, Heap.next_set, Heap.next_room]); omega) (by (try simp only [Heap.next_push, Heap.next_set, Heap.next_room]); omega)) | (refine Same.put ?_ (by simp (disch := omega) only [Heap.get_pushH, Heap.get_setH, hite_same, hite_ne, hite_eq, Heap.get_room, Heap.next_push, Heap.next_set, Heap.next_room, Option.isSome_some, *]) (fun z => by first | (simp; done) | (exfalso; (try simp only [Heap.next_push, Heap.next_set, Heap.next_room] at z); omega)))) : Same H ((H.push (mO raw)).room 9) []).trans hs2 (by simp)
  have ok2 := hs2.ok
  have q7 : H2.get (H.next + 1 + 6) = none := by
    rw [hs2.get _ (by simp only [Heap.next_room, Heap.next_push]; omega) (by simp), Heap.get_room, Heap.get_push, if_neg (by omega)]
    exact ok _ (by omega)
  simp (maxSteps := 5000000) (disch := omega) only [MX, okn, Msg.cells_length, q0, q7, V_P, SX, W_block, exitW, goInt, Int.reduceEq, setCells, oneOf, cellOk, reduceIte, Nat.reduceLT, Nat.reduceLeDiff, Nat.reduceEqDiff, Nat.reduceAdd, Nat.reduceSub, Nat.reduceMul, Int.reduceToNat, Int.reduceLT, Int.reduceLE, Int.reduceAdd, Int.reduceSub, implies_true, ne_eq, if_true, if_false, reduceCtorEq, DX, Nat.reduceBEq]
  rw [if_pos (by rw [setCells_length]; decide), msgs2 (by rfl)]
  simp (maxSteps := 5000000) (disch := omega) only [MX, okn, Msg.cells_length, q0, q7, V_P, SX, W_block, exitW, goInt, Int.reduceEq, setCells, oneOf, cellOk, reduceIte, Nat.reduceLT, Nat.reduceLeDiff, Nat.reduceEqDiff, Nat.reduceAdd, Nat.reduceSub, Nat.reduceMul, Int.reduceToNat, Int.reduceLT, Int.reduceLE, Int.reduceAdd, Int.reduceSub, implies_true, ne_eq, if_true, if_false, reduceCtorEq, DX, Nat.reduceBEq]
  have hjn : H.next + 1 + 6 < H2.next := by omega
  have hK0 : (H2.set (H.next + 1 + 6) (.cells (raw.cells ++ x.cells) 27 false)).get (H.next + 1 + 6) = some (.cells (raw.cells ++ x.cells) 27 false) := by rw [Heap.get_set, if_pos rfl]
  have okK0 : Ok (H2.set (H.next + 1 + 6) (.cells (raw.cells ++ x.cells) 27 false)) := ok2.set _ hjn
  generalize H2.set (H.next + 1 + 6) (.cells (raw.cells ++ x.cells) 27 false) = K0 at *
  generalize H.next + 1 + 6 = j at *
  clear hs3 hs2 q0 q7 hn2 hjn ok2
  refine W_for (fun (i : Nat) t K => t.get 31 = some (.slice (some ⟨j, 0, none⟩) 2 2) ∧ t.get 32 = some (.int .i64 2) ∧ t.get 33 = some (.int .i64 i) ∧ i ≤ 2 ∧ Ok K ∧ K.get j = some (.cells (raw.cells ++ x.cells) 27 false)) (fun i => 2 - i) 0 ?_ ?_
  · simp (maxSteps := 5000000) (disch := omega) only [V_P, SX, W_block, exitW, goInt, Int.reduceEq, setCells, oneOf, cellOk, reduceIte, Nat.reduceLT, Nat.reduceLeDiff, Nat.reduceEqDiff, Nat.reduceAdd, Nat.reduceSub, Nat.reduceMul, Int.reduceToNat, Int.reduceLT, Int.reduceLE, Int.reduceAdd, Int.reduceSub, implies_true, ne_eq, if_true, if_false, reduceCtorEq]
    exact ⟨rfl, rfl, okK0, hK0⟩
  clear hK0 okK0
  rintro i t K ⟨g31, g32, g33, hi2, okK, hK⟩
  simp (maxSteps := 5000000) (disch := omega) only [g31, g32, g33, V_P, SX, W_block, exitW, goInt, Int.reduceEq, setCells, oneOf, cellOk, reduceIte, Nat.reduceLT, Nat.reduceLeDiff, Nat.reduceEqDiff, Nat.reduceAdd, Nat.reduceSub, Nat.reduceMul, Int.reduceToNat, Int.reduceLT, Int.reduceLE, Int.reduceAdd, Int.reduceSub, implies_true, ne_eq, if_true, if_false, reduceCtorEq]
  refine cW_dec (fun hlt => ?_) (fun hlt => ?_)
  rotate_left
  · simp (maxSteps := 5000000) (disch := omega) only [V_P, SX, W_block, exitW, goInt, Int.reduceEq, setCells, oneOf, cellOk, reduceIte, Nat.reduceLT, Nat.reduceLeDiff, Nat.reduceEqDiff, Nat.reduceAdd, Nat.reduceSub, Nat.reduceMul, Int.reduceToNat, Int.reduceLT, Int.reduceLE, Int.reduceAdd, Int.reduceSub, implies_true, ne_eq, if_true, if_false, reduceCtorEq]
  obtain ⟨m, wm, hgc⟩ : ∃ m : Msg, m.wf ∧ gcV (i * 26) 26 (K.get j) = some m.cells := by
    have hfl : raw.cells ++ x.cells = [raw, x].flatMap Msg.cells := by simp
    rw [hK, hfl]
    rcases (show i = 0 ∨ i = 1 by omega) with rfl | rfl
    · exact ⟨raw, wr, gcV_flat Msg.cells 26 (fun _ => rfl) rfl⟩
    · exact ⟨x, wx, gcV_flat Msg.cells 26 (fun _ => rfl) rfl⟩
  have hjK := okK.lt hK
  simp (maxSteps := 5000000) (disch := omega) only [MX, Msg.cells_length, g31, g32, g33, hgc, V_P, SX, W_block, exitW, goInt, Int.reduceEq, setCells, oneOf, cellOk, reduceIte, Nat.reduceLT, Nat.reduceLeDiff, Nat.reduceEqDiff, Nat.reduceAdd, Nat.reduceSub, Nat.reduceMul, Int.reduceToNat, Int.reduceLT, Int.reduceLE, Int.reduceAdd, Int.reduceSub, implies_true, ne_eq, if_true, if_false, reduceCtorEq]
  have okK1 : Ok ((K.push (mO .zero)).set K.next (mO m)) := (by repeat (first | exact okK | refine Ok.push ?_ _ | refine Ok.room ?_ _ | (refine Ok.put ?_ _ (by simp (disch := omega) only [Heap.get_pushH, Heap.get_setH, hite_same, hite_ne, hite_eq, Heap.get_room, Heap.next_push, Heap.next_set, Heap.next_room, Option.isSome_some, *]))))
  have q1 : ((K.push (mO .zero)).set K.next (mO m)).get K.next = some (mO m) := by rw [Heap.get_set, if_pos rfl]
  have qj : ((K.push (mO .zero)).set K.next (mO m)).get j = some (.cells (raw.cells ++ x.cells) 27 false) := by rw [Heap.get_set, if_neg (by omega), Heap.get_push, if_neg (by omega), hK]
  generalize (K.push (mO .zero)).set K.next (mO m) = K1 at *
  generalize K.next = q at *
  clear hK okK hgc hjK
  refine W_callR rfl (by simp (maxSteps := 5000000) (disch := omega) only [MX, Msg.cells_length, g31, g32, g33, V_P, SX, W_block, exitW, goInt, Int.reduceEq, setCells, oneOf, cellOk, reduceIte, Nat.reduceLT, Nat.reduceLeDiff, Nat.reduceEqDiff, Nat.reduceAdd, Nat.reduceSub, Nat.reduceMul, Int.reduceToNat, Int.reduceLT, Int.reduceLE, Int.reduceAdd, Int.reduceSub, implies_true, ne_eq, if_true, if_false, reduceCtorEq]) (ndc_Put m _ okK1 wm) ?_
  rintro v1 H3 ⟨hf3, ht3, hs3⟩
  have q3 : H3.get q = some (mO m) := by rw [hs3.get _ (okK1.lt q1) (by simp), q1]
  obtain ⟨b1, n1, c1, e1, rfl, hb1⟩ : ∃ (b1 : Option Addr) (n1 c1 : Nat) (e1 : Int), v1 = .tuple #[.slice b1 n1 c1, .int .i64 e1] ∧ (m.right = false ∧ b1 = none ∧ n1 = 0 ∧ c1 = 0 ∧ e1 = 27 ∨ m.right = true ∧ e1 = 0 ∧ ∃ i, b1 = some ⟨i, 0, none⟩ ∧ n1 = m.bytes.length ∧ c1 = capU ∧ H3.get i = some (.cells (bytesV m.bytes) 5 false)) := by
    cases hr : m.right
    · exact ⟨none, 0, 0, 27, hf3 hr, .inl ⟨rfl, rfl, rfl, rfl, rfl⟩⟩
    · obtain ⟨i, _, h1, h2⟩ := ht3 hr
      exact ⟨_, _, _, 0, h1, .inr ⟨rfl, rfl, i, rfl, rfl, rfl, h2⟩⟩
  simp (maxSteps := 5000000) (disch := omega) only [MX, Msg.cells_length, g31, g32, g33, q3, V_P, SX, W_block, exitW, goInt, Int.reduceEq, setCells, oneOf, cellOk, reduceIte, Nat.reduceLT, Nat.reduceLeDiff, Nat.reduceEqDiff, Nat.reduceAdd, Nat.reduceSub, Nat.reduceMul, Int.reduceToNat, Int.reduceLT, Int.reduceLE, Int.reduceAdd, Int.reduceSub, implies_true, ne_eq, if_true, if_false, reduceCtorEq]
  refine W_callR rfl (by simp (maxSteps := 5000000) (disch := omega) only [MX, Msg.cells_length, g31, g32, g33, q3, V_P, SX, W_block, exitW, goInt, Int.reduceEq, setCells, oneOf, cellOk, reduceIte, Nat.reduceLT, Nat.reduceLeDiff, Nat.reduceEqDiff, Nat.reduceAdd, Nat.reduceSub, Nat.reduceMul, Int.reduceToNat, Int.reduceLT, Int.reduceLE, Int.reduceAdd, Int.reduceSub, implies_true, ne_eq, if_true, if_false, reduceCtorEq]) (ref_Put m _ hs3.ok wm) ?_
  rintro v2 H4 ⟨hf4, ht4, hs4⟩
  have q4 : H4.get q = some (mO m) := by rw [hs4.get _ (hs3.ok.lt q3) (by simp), q3]
  have ok4 := hs4.ok
  have okn4 : ∀ a, H4.next ≤ a → H4.get a = none := ok4
  obtain ⟨b2, n2, c2, e2, rfl, hb2⟩ : ∃ (b2 : Option Addr) (n2 c2 : Nat) (e2 : Int), v2 = .tuple #[.slice b2 n2 c2, .int .i64 e2] ∧ (m.right = false ∧ b2 = none ∧ n2 = 0 ∧ c2 = 0 ∧ e2 = 27 ∨ m.right = true ∧ e2 = 0 ∧ ∃ i, b2 = some ⟨i, 0, none⟩ ∧ n2 = m.bytes.length ∧ c2 = capU ∧ H4.get i = some (.cells (bytesV m.bytes) 5 false)) := by
    cases hr : m.right
    · exact ⟨none, 0, 0, 27, hf4 hr, .inl ⟨rfl, rfl, rfl, rfl, rfl⟩⟩
    · obtain ⟨i, _, h1, h2⟩ := ht4 hr
      exact ⟨_, _, _, 0, h1, .inr ⟨rfl, rfl, i, rfl, rfl, rfl, h2⟩⟩
  have e12 : e1 = e2 := by
    rcases hb1 with ⟨r1, _, _, _, h⟩ | ⟨r1, h, _⟩ <;> rcases hb2 with ⟨r2, _, _, _, h'⟩ | ⟨r2, h', _⟩
    · rw [h, h']
    · rw [r1] at r2; cases r2
    · rw [r1] at r2; cases r2
    · rw [h, h']
  subst e12
  obtain ⟨s, hcv⟩ : ∃ s, ∀ K : Heap, (∀ i o, H4.get i = some o → K.get i = some o) → cvV Tryd.prog K 31 9 (.slice b1 n1 c1) = some (.val (.string s) K) ∧ cvV Tryd.prog K 31 9 (.slice b2 n2 c2) = some (.val (.string s) K) := by
    rcases hb1 with ⟨r1, rfl, rfl, rfl, _⟩ | ⟨r1, _, i, rfl, rfl, rfl, hi⟩ <;> rcases hb2 with ⟨r2, rfl, rfl, rfl, _⟩ | ⟨r2, _, i', rfl, rfl, rfl, hi'⟩
    · exact ⟨S [], fun K _ => ⟨cv_nil, cv_nil⟩⟩
    · rw [r1] at r2; cases r2
    · rw [r1] at r2; cases r2
    · have row : ∀ K : Heap, (∀ i o, H4.get i = some o → K.get i = some o) → ∀ j, H4.get j = some (.cells (bytesV m.bytes) 5 false) → gcV 0 m.bytes.length (K.get j) = some (bytesV m.bytes) := fun K hK j hj => by
        rw [hK j _ hj, gcV_cells, if_pos (by rw [bytesV_length]; omega), List.drop_zero, List.take_of_length_le (by rw [bytesV_length]; omega)]
      exact ⟨S m.bytes, fun K hK => ⟨cv_row rfl (row K hK i (by rw [hs4.get _ (hs3.ok.lt hi) (by simp)]; exact hi)), cv_row rfl (row K hK i' hi')⟩⟩
  simp (maxSteps := 5000000) (disch := omega) only [MX, Msg.cells_length, g31, g32, g33, q4, V_P, SX, W_block, exitW, goInt, Int.reduceEq, setCells, oneOf, cellOk, reduceIte, Nat.reduceLT, Nat.reduceLeDiff, Nat.reduceEqDiff, Nat.reduceAdd, Nat.reduceSub, Nat.reduceMul, Int.reduceToNat, Int.reduceLT, Int.reduceLE, Int.reduceAdd, Int.reduceSub, implies_true, ne_eq, if_true, if_false, reduceCtorEq]
  refine W_drawR [[], [0], [], [2], [1, 0, 3, 2], [4, 1, 0, 3, 2], [5, 4, 1, 0, 3, 2], [5, 4, 1, 0, 3, 2], [6, 5, 4, 1, 0, 3, 2, 7], [5, 4, 1, 0, 3, 2, 8, 6, 7], [9, 5, 4, 1, 0, 3, 2, 8, 6, 7], [10, 9, 5, 4, 1, 0, 3, 2, 8, 6, 7], [11, 10, 9, 5, 4, 1, 0, 3, 2, 8, 6, 7], [10, 9, 5, 4, 1, 0, 3, 2, 8, 6, 7], [13, 10, 9, 5, 4, 1, 0, 3, 2, 8, 6, 7, 12, 11], [12, 11, 10, 9, 5, 4, 1, 0, 3, 2, 8, 6, 7, 14, 13], [10, 9, 5, 4, 1, 0, 3, 2, 8, 6, 7, 15, 12, 11, 14, 13]] [0, 1, 2, 3, 4, 5, 6, 7, 8, 9, 10, 11, 12, 13, 14, 15, 16] (by decide +kernel) (by repeat (first | exact ok4 | refine Ok.push ?_ _ | refine Ok.room ?_ _ | (refine Ok.put ?_ _ (by simp (disch := omega) only [Heap.get_pushH, Heap.get_setH, hite_same, hite_ne, hite_eq, Heap.get_room, Heap.next_push, Heap.next_set, Heap.next_room, Option.isSome_some, *])))) ?_
  have hbb := fun (K : Heap) (x1 y1 : Operand) => binV_bne (P := Tryd.prog) (H := K) (t := 4) (x := x1) (y := y1) (a := m.right) (b := m.right) un_4
  rw [beq_self_eq_true] at hbb
  obtain ⟨ca, cb⟩ := hcv (H4.room 17) (fun i o h => by rw [Heap.get_room]; exact h)
  simp (maxSteps := 5000000) (disch := omega) only [MX, okn4, q4, g31, g32, g33, ca, cb, hbb, eq_self, V_P, SX, W_block, exitW, goInt, Int.reduceEq, setCells, oneOf, cellOk, reduceIte, Nat.reduceLT, Nat.reduceLeDiff, Nat.reduceEqDiff, Nat.reduceAdd, Nat.reduceSub, Nat.reduceMul, Int.reduceToNat, Int.reduceLT, Int.reduceLE, Int.reduceAdd, Int.reduceSub, implies_true, ne_eq, if_true, if_false, reduceCtorEq, DX, Nat.reduceBEq]
  refine DOpd_callR (by decide) rfl (by simp (maxSteps := 5000000) (disch := omega) only [MX, okn4, q4, g31, g32, g33, V_P, SX, W_block, exitW, goInt, Int.reduceEq, setCells, oneOf, cellOk, reduceIte, Nat.reduceLT, Nat.reduceLeDiff, Nat.reduceEqDiff, Nat.reduceAdd, Nat.reduceSub, Nat.reduceMul, Int.reduceToNat, Int.reduceLT, Int.reduceLE, Int.reduceAdd, Int.reduceSub, implies_true, ne_eq, if_true, if_false, reduceCtorEq, DX, Nat.reduceBEq]) (ndc_Right m _ (by repeat (first | exact ok4 | refine Ok.push ?_ _ | refine Ok.room ?_ _ | (refine Ok.put ?_ _ (by simp (disch := omega) only [Heap.get_pushH, Heap.get_setH, hite_same, hite_ne, hite_eq, Heap.get_room, Heap.next_push, Heap.next_set, Heap.next_room, Option.isSome_some, *])))) wm.pan) ?_
  rintro v3 H5 ⟨rfl, hs5⟩
  have hr5 : Same H4 (H4.room 17) [] := by repeat (first | exact Same.refl ok4 | refine Same.push ?_ _ | refine Same.room ?_ _ | (refine Same.make ?_ (by (try simp only [Heap.next_push, Heap.next_set, Heap.next_room]); omega) (by (try simp only [Heap.next_push, Heap.next_set, Heap.next_room]); omega)) | (refine Same.put ?_ (by simp (disch := omega) only [Heap.get_pushH, Heap.get_setH, hite_same, hite_ne, hite_eq, Heap.get_room, Heap.next_push, Heap.next_set, Heap.next_room, Option.isSome_some, *]) (fun z => by first | (simp; done) | (exfalso; (try simp only [Heap.next_push, Heap.next_set, Heap.next_room] at z); omega))))
  have hs45 := hr5.trans hs5 (by simp)
  have q5 : H5.get q = some (mO m) := by rw [hs45.get _ (ok4.lt q4) (by simp), q4]
  refine ⟨isV_bool, hs5.keep (by rw [Heap.next_room]; exact Nat.le_refl _), ?_⟩
  have hn5 := hs5.le
  rw [Heap.next_room] at hn5
  simp (maxSteps := 5000000) (disch := omega) only [MX, okn4, q4, q5, V_P, SX, W_block, exitW, goInt, Int.reduceEq, setCells, oneOf, cellOk, reduceIte, Nat.reduceLT, Nat.reduceLeDiff, Nat.reduceEqDiff, Nat.reduceAdd, Nat.reduceSub, Nat.reduceMul, Int.reduceToNat, Int.reduceLT, Int.reduceLE, Int.reduceAdd, Int.reduceSub, implies_true, ne_eq, if_true, if_false, reduceCtorEq, DX, Nat.reduceBEq]
  refine DOpd_callR (by decide) rfl (by simp (maxSteps := 5000000) (disch := omega) only [MX, okn4, q4, q5, V_P, SX, W_block, exitW, goInt, Int.reduceEq, setCells, oneOf, cellOk, reduceIte, Nat.reduceLT, Nat.reduceLeDiff, Nat.reduceEqDiff, Nat.reduceAdd, Nat.reduceSub, Nat.reduceMul, Int.reduceToNat, Int.reduceLT, Int.reduceLE, Int.reduceAdd, Int.reduceSub, implies_true, ne_eq, if_true, if_false, reduceCtorEq, DX, Nat.reduceBEq]) (ref_Right m _ hs5.ok wm.pan) ?_
  rintro v3 H6 ⟨rfl, hs6⟩
  have hs46 := hs45.trans hs6 (by simp)
  refine ⟨isV_bool, hs6.keep (by omega), ?_⟩
  simp (maxSteps := 5000000) (disch := omega) only [MX, okn4, q4, q5, hbb, V_P, SX, W_block, exitW, goInt, Int.reduceEq, setCells, oneOf, cellOk, reduceIte, Nat.reduceLT, Nat.reduceLeDiff, Nat.reduceEqDiff, Nat.reduceAdd, Nat.reduceSub, Nat.reduceMul, Int.reduceToNat, Int.reduceLT, Int.reduceLE, Int.reduceAdd, Int.reduceSub, implies_true, ne_eq, if_true, if_false, reduceCtorEq, DX, Nat.reduceBEq]
  have okK6 := hs6.ok
  have q6 : H6.get q = some (mO m) := by rw [hs46.get _ (ok4.lt q4) (by simp), q4]
  have qj6 : H6.get j = some (.cells (raw.cells ++ x.cells) 27 false) := by
    rw [hs46.get _ (hs4.ok.lt (by rw [hs4.get _ (hs3.ok.lt (by rw [hs3.get _ (okK1.lt qj) (by simp), qj])) (by simp), hs3.get _ (okK1.lt qj) (by simp), qj])) (by simp), hs4.get _ (hs3.ok.lt (by rw [hs3.get _ (okK1.lt qj) (by simp), qj])) (by simp), hs3.get _ (okK1.lt qj) (by simp), qj]
  have hfin : ∀ K : Heap, Same H6 K [] → Ok K ∧ K.get j = some (.cells (raw.cells ++ x.cells) 27 false) := fun K hs => ⟨hs.ok, by rw [hs.get _ (okK6.lt qj6) (by simp), qj6]⟩
  rcases hb1 with ⟨r1, rfl, rfl, rfl, rfl⟩ | ⟨r1, rfl, i1, rfl, rfl, rfl, hi1⟩
  · simp (maxSteps := 5000000) (disch := omega) only [MX, g31, g32, g33, V_P, SX, W_block, exitW, goInt, Int.reduceEq, setCells, oneOf, cellOk, reduceIte, Nat.reduceLT, Nat.reduceLeDiff, Nat.reduceEqDiff, Nat.reduceAdd, Nat.reduceSub, Nat.reduceMul, Int.reduceToNat, Int.reduceLT, Int.reduceLE, Int.reduceAdd, Int.reduceSub, implies_true, ne_eq, if_true, if_false, reduceCtorEq]
    exact ⟨i + 1, ⟨by simp, by omega, hfin _ (Same.refl okK6)⟩, by omega⟩
  have hb6 : H6.get i1 = some (.cells (bytesV m.bytes) 5 false) := by
    have h4 : H4.get i1 = some (.cells (bytesV m.bytes) 5 false) := by rw [hs4.get _ (hs3.ok.lt hi1) (by simp), hi1]
    rw [hs46.get _ (ok4.lt h4) (by simp), h4]
  simp (maxSteps := 5000000) (disch := omega) only [MX, g31, g32, g33, V_P, SX, W_block, exitW, goInt, Int.reduceEq, setCells, oneOf, cellOk, reduceIte, Nat.reduceLT, Nat.reduceLeDiff, Nat.reduceEqDiff, Nat.reduceAdd, Nat.reduceSub, Nat.reduceMul, Int.reduceToNat, Int.reduceLT, Int.reduceLE, Int.reduceAdd, Int.reduceSub, implies_true, ne_eq, if_true, if_false, reduceCtorEq]
  refine W_callR rfl (by simp (maxSteps := 5000000) (disch := omega) only [MX, g31, g32, g33, V_P, SX, W_block, exitW, goInt, Int.reduceEq, setCells, oneOf, cellOk, reduceIte, Nat.reduceLT, Nat.reduceLeDiff, Nat.reduceEqDiff, Nat.reduceAdd, Nat.reduceSub, Nat.reduceMul, Int.reduceToNat, Int.reduceLT, Int.reduceLE, Int.reduceAdd, Int.reduceSub, implies_true, ne_eq, if_true, if_false, reduceCtorEq]) (ndc_Read m.bytes _ _ _ okK6 (brow_of hb6) (texts_ok r1 wm).2.2) ?_
  rintro v H7 ⟨rfl, hs7⟩
  rw [sp_bytes r1 wm]
  obtain ⟨m', hm', hsame⟩ := read_texts r1 wm
  rw [hm']
  have q7 : H7.get q = some (mO m) := by rw [hs7.get _ (okK6.lt q6) (by simp), q6]
  have hq7 := hs7.ok.lt q7
  have hqn : q ≠ H7.next := by omega
  simp (maxSteps := 5000000) (disch := omega) only [MX, Msg.cells_length, g31, g32, g33, q7, hsame, V_P, SX, W_block, exitW, goInt, Int.reduceEq, setCells, oneOf, cellOk, reduceIte, Nat.reduceLT, Nat.reduceLeDiff, Nat.reduceEqDiff, Nat.reduceAdd, Nat.reduceSub, Nat.reduceMul, Int.reduceToNat, Int.reduceLT, Int.reduceLE, Int.reduceAdd, Int.reduceSub, implies_true, ne_eq, if_true, if_false, reduceCtorEq]
  have hle7 := hs7.le
  have hf7 := hfin ((H7.push (mO .zero)).set H7.next (mO m')) (by repeat (first | exact hs7 | refine Same.push ?_ _ | refine Same.room ?_ _ | (refine Same.make ?_ (by (try simp only [Heap.next_push, Heap.next_set, Heap.next_room]); omega) (by (try simp only [Heap.next_push, Heap.next_set, Heap.next_room]); omega)) | (refine Same.put ?_ (by simp (disch := omega) only [Heap.get_pushH, Heap.get_setH, hite_same, hite_ne, hite_eq, Heap.get_room, Heap.next_push, Heap.next_set, Heap.next_room, Option.isSome_some, *]) (fun z => by first | (simp; done) | (exfalso; (try simp only [Heap.next_push, Heap.next_set, Heap.next_room] at z); omega)))))
  rw [Heap.get_setH, Heap.get_pushH] at hf7
  exact ⟨i + 1, ⟨by simp, by omega, hf7⟩, by omega⟩
end Go.B.YteigefgobkdmgaaDoor
