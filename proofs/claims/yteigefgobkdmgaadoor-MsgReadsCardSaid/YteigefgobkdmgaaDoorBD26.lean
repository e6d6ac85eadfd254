import Derived.Test.YteigefgobkdmgaaDoorBD25
/- The law MsgReads. -/
namespace Go.B.YteigefgobkdmgaaDoor
open Go Go.B Go.Proofs
set_option maxRecDepth 100000
set_option maxHeartbeats 16000000
set_option linter.unusedSimpArgs false
set_option linter.unusedVariables false
/-- Bytes of a message: the document's. -/
theorem seat_Bytes (m : Msg) (H : Heap) (ok : Ok H) (hw : m.wf) (hr : m.right = true) : ∃ v H', Ca V 14 #[.agg m.cells.toArray] H v H' ∧ (∃ i, H.next ≤ i ∧ v = .slice (some ⟨i, 0, none⟩) m.bytes.length capU ∧ H'.get i = some (.cells (bytesV m.bytes) 5 false)) ∧ Same H H' [] := by
  refine Ca_run rfl tab_14 rfl ?_
  simp (maxSteps := 5000000) (disch := omega) only [Tryd.f14, MX, Msg.cells_length, V_P, SX, W_block, exitW, goInt, Int.reduceEq, setCells, oneOf, cellOk, reduceIte, Nat.reduceLT, Nat.reduceLeDiff, Nat.reduceEqDiff, Nat.reduceAdd, Nat.reduceSub, Nat.reduceMul, Int.reduceToNat, Int.reduceLT, Int.reduceLE, Int.reduceAdd, Int.reduceSub, implies_true, ne_eq, if_true, if_false, reduceCtorEq]
  refine W_callR rfl (by simp (maxSteps := 5000000) (disch := omega) only [MX, Msg.cells_length, V_P, SX, W_block, exitW, goInt, Int.reduceEq, setCells, oneOf, cellOk, reduceIte, Nat.reduceLT, Nat.reduceLeDiff, Nat.reduceEqDiff, Nat.reduceAdd, Nat.reduceSub, Nat.reduceMul, Int.reduceToNat, Int.reduceLT, Int.reduceLE, Int.reduceAdd, Int.reduceSub, implies_true, ne_eq, if_true, if_false, reduceCtorEq]) (ref_Put m _ (by repeat (first | exact ok | refine Ok.push ?_ _ | refine Ok.room ?_ _ | (refine Ok.put ?_ _ (by simp (disch := omega) only [Heap.get_pushH, Heap.get_setH, hite_same, hite_ne, hite_eq, Heap.get_room, Heap.next_push, Heap.next_set, Heap.next_room, Option.isSome_some, *])))) hw) ?_
  rintro v H2 ⟨_, ht, hs⟩
  obtain ⟨i, hi, rfl, hg⟩ := ht hr
  rw [Heap.next_push] at hi
  simp (maxSteps := 5000000) (disch := omega) only [MX, V_P, SX, W_block, exitW, goInt, Int.reduceEq, setCells, oneOf, cellOk, reduceIte, Nat.reduceLT, Nat.reduceLeDiff, Nat.reduceEqDiff, Nat.reduceAdd, Nat.reduceSub, Nat.reduceMul, Int.reduceToNat, Int.reduceLT, Int.reduceLE, Int.reduceAdd, Int.reduceSub, implies_true, ne_eq, if_true, if_false, reduceCtorEq]
  exact ⟨⟨i, by omega, rfl, hg⟩, ((Same.refl ok).push _).trans hs (by simp)⟩
theorem slice_max {K : Heap} {i n p c : Nat} {cs : List Value} {e : TypeId} {ro : Bool} (h : K.get i = some (.cells cs e ro)) (he : szOf Tryd.prog e = some 1) (hp : p ≤ n) : sliceB Tryd.prog K 31 (.slice (some ⟨i, 0, none⟩) n c) none (some (.int .i64 (p : Int))) (some (.int .i64 (p : Int))) = some (.slice (some ⟨i, 0, none⟩) p p) := by
  unfold sliceB
  rw [un_31]
  simp only [sz_5, boundB, Int.natCast_nonneg, if_true, Int.toNat_natCast, h, he]
  rw [if_pos ⟨Nat.zero_le _, hp, .inr ⟨Nat.le_refl _, hp, rfl⟩⟩]
  simp
theorem app_zero {H : Heap} {b : Option Addr} {n c : Nat} {e : TypeId} {cells new : List Value} : apV H b n c e (some cells) (some 0) (some new) = some (.slice b n c, H) := by rw [apV_some, if_pos rfl]
theorem app_full {H : Heap} {i n k : Nat} {e : TypeId} {cells new : List Value} (hk : k ≠ 0) (hb : n + k ≤ 1000000) (hok : new.all cellOk = true) : apV H (some ⟨i, 0, none⟩) n n e (some cells) (some k) (some new) = some (.slice (some ⟨H.next, 0, none⟩) (n + k) capU, H.push (.cells (cells ++ new) e false)) := by
  rw [apV_some, if_neg hk, if_pos ⟨by omega, hok⟩, apW_some, if_pos rfl]
theorem app_own {H : Heap} {i n k : Nat} {e : TypeId} {c0 cells new : List Value} (hg : H.get i = some (.cells c0 e false)) (hk : k ≠ 0) (hb : n + k ≤ 1000000) (hok : new.all cellOk = true) : apV H (some ⟨i, 0, none⟩) n capU e (some cells) (some k) (some new) = some (.slice (some ⟨H.next, 0, none⟩) (n + k) capU, (H.set i .dead).push (.cells (cells ++ new) e false)) := by
  have hcn : ¬ capU = n := by have : capU = 18446744073709551616 := rfl; omega
  rw [apV_some, if_neg hk, if_pos ⟨by omega, hok⟩, apW_some, if_neg hcn, hg, apX_cells, if_pos ⟨rfl, rfl⟩]
theorem bytesV_app (a b : List UInt8) : bytesV a ++ bytesV b = bytesV (a ++ b) := by unfold bytesV; rw [List.map_append]
theorem bytesV_ok (a : List UInt8) : (bytesV a).all cellOk = true := by
  unfold bytesV
  rw [List.all_map, List.all_eq_true]
  intro b _; rfl
theorem seg_if {K : Heap} {i c : Nat} {z : List UInt8} (h : BRow K (some ⟨i, 0, none⟩) c z) {a n : Nat} (hn : a + n ≤ z.length) : (if n = 0 then some [] else gcV a n (K.get i)) = some (bytesV ((z.drop a).take n)) := by
  by_cases h0 : n = 0
  · rw [if_pos h0, h0, List.take_zero]; rfl
  · have := brow_seg h (a := a) (b := a + n) (by omega) hn
    rw [Nat.zero_add, Nat.add_sub_cancel_left] at this
    rw [if_neg h0, this]
theorem brow_pre {H : Heap} {i c p : Nat} {z : List UInt8} (h : H.get i = some (.cells (bytesV z) 5 false)) (hp : p ≤ z.length) : BRow H (some ⟨i, 0, none⟩) c (z.take p) := by
  have hl : (z.take p).length = p := by rw [List.length_take]; omega
  exact ⟨.inr ⟨i, 0, bytesV z, 5, false, rfl, h, by rw [bytesV_length, hl]; omega, by rw [hl, List.drop_zero]; unfold bytesV; rw [List.map_take], sz_5⟩⟩
theorem row_if {n : Nat} {l : List Value} (h : l.length = n) : (if n ≤ l.length then some (List.take n l) else none) = some l := by
  rw [if_pos (by omega), List.take_of_length_le (by omega)]
theorem jn_head (a : List UInt8) (r : List (List UInt8)) : a.length ≤ (jn (a :: r)).length := by
  cases r with
  | nil => exact Nat.le_refl _
  | cons b r => rw [jn]; simp; simp
theorem bytes_len {m : Msg} (h : m.right = true) (hw : m.wf) : 2 ≤ m.bytes.length ∧ m.bytes.length ≤ 600 := by
  have hr := (right_iff m).mp h
  have hpan : (U m.pan).length ≤ 20 := by
    rcases hr.2.2.2.1 with ⟨_, hp⟩ | ⟨_, hp⟩
    · unfold panOk at hp
      simp only [Bool.and_eq_true, decide_eq_true_eq] at hp
      rw [← U_size]; omega
    · rw [hp]; simp [U_S]
  have hlen : m.texts.length ≤ 24 := by
    unfold Msg.texts
    rw [List.length_cons, List.length_map]
    have := slots_length (m.c 0)
    omega
  constructor
  · unfold Msg.bytes Msg.texts
    rw [List.map_cons]
    refine Nat.le_trans ?_ (jn_head _ _)
    show 2 ≤ (kindL (m.c 0)).length
    rcases (show m.c 0 = 1 ∨ m.c 0 = 2 ∨ m.c 0 = 3 ∨ m.c 0 = 4 ∨ m.c 0 = 5 ∨ m.c 0 = 6 ∨ m.c 0 = 7 by omega) with h | h | h | h | h | h | h <;> rw [h] <;> decide
  · have := jn_len (m.texts.map U) 20 (by
      intro a ha
      obtain ⟨s, hs, rfl⟩ := List.mem_map.mp ha
      unfold Msg.texts at hs
      rcases List.mem_cons.mp hs with rfl | hs
      · show (kindL _).length ≤ 20
        unfold kindL
        repeat' split
        all_goals decide
      · obtain ⟨j, hj, rfl⟩ := List.mem_map.mp hs
        unfold Msg.text
        split
        · exact hpan
        · rename_i h3
          exact itoa_len (right_i64 h hw (slots_lt _ j hj) h3))
    rw [List.length_map] at this
    have h24 := Nat.mul_le_mul_right (20 + 1) hlen
    unfold Msg.bytes
    omega
def rdV : Option Msg → Value
  | some m => .tuple #[.agg m.cells.toArray, .int .i64 0]
  | none => .tuple #[.agg Msg.zero.cells.toArray, .int .i64 23]
theorem ndc_ReadV (y : List UInt8) (b : Option Addr) (c : Nat) (H : Heap) (ok : Ok H) (hy : BRow H b c y) (hl : y.length ≤ 100000) :
    ∃ v H', Ca V 13 #[.slice b y.length c] H v H' ∧ v = rdV (readB bnd ((sp y).map S)) ∧ Same H H' [] := by
  obtain ⟨v, H', h1, h2, h3⟩ := ndc_Read y b c H ok hy hl
  refine ⟨v, H', h1, ?_, h3⟩
  rw [h2]; cases readB bnd ((sp y).map S) <;> rfl
theorem ref_ReadV (y : List UInt8) (b : Option Addr) (c : Nat) (H : Heap) (ok : Ok H) (hy : BRow H b c y) (hl : y.length ≤ 100000) :
    ∃ v H', Ca V 15 #[.slice b y.length c] H v H' ∧ v = rdV (readB bnd ((sp y).map S)) ∧ Same H H' [] := by
  obtain ⟨v, H', h1, h2, h3⟩ := ref_Read y b c H ok hy hl
  refine ⟨v, H', h1, ?_, h3⟩
  rw [h2]; cases readB bnd ((sp y).map S) <;> rfl
/-- The part that holds Read against Read. -/
theorem law_reads (y : List UInt8) (b0 : Option Addr) (c0 : Nat) (hl : y.length ≤ maxLen) (a k st am at' x how : Int) (a0 : 0 ≤ a ∧ a < 256) (k0 : 0 ≤ k ∧ k < 256) (s0 : 0 ≤ st ∧ st < 65536) (am0 : 0 ≤ am ∧ am < 65536) (at0 : 0 ≤ at' ∧ at' < 65536) (x0 : 0 ≤ x ∧ x < 256) (how0 : 0 ≤ how ∧ how < 256) (H : Heap) (ok : Ok H) (hy : BRow H b0 c0 y) :
    ∃ v H', Ca V 4 #[.slice b0 y.length c0, .int .u8 a, .int .u8 k, .int .u16 st, .int .u16 am, .int .u16 at', .int .u8 x, .int .u8 how] H v H' ∧ v = .bool true := by
  have okn : ∀ a, H.next ≤ a → H.get a = none := ok
  refine Ca_run rfl tab_4 rfl ?_
  simp (maxSteps := 5000000) (disch := omega) only [Tryd.f4, V_P, SX, W_block, exitW, goInt, Int.reduceEq, setCells, oneOf, cellOk, reduceIte, Nat.reduceLT, Nat.reduceLeDiff, Nat.reduceEqDiff, Nat.reduceAdd, Nat.reduceSub, Nat.reduceMul, Int.reduceToNat, Int.reduceLT, Int.reduceLE, Int.reduceAdd, Int.reduceSub, implies_true, ne_eq, if_true, if_false, reduceCtorEq]
  refine W_callR rfl (by simp (maxSteps := 5000000) (disch := omega) only [V_P, SX, W_block, exitW, goInt, Int.reduceEq, setCells, oneOf, cellOk, reduceIte, Nat.reduceLT, Nat.reduceLeDiff, Nat.reduceEqDiff, Nat.reduceAdd, Nat.reduceSub, Nat.reduceMul, Int.reduceToNat, Int.reduceLT, Int.reduceLE, Int.reduceAdd, Int.reduceSub, implies_true, ne_eq, if_true, if_false, reduceCtorEq]) (Ca_is (c_known _)) ?_
  rintro v H1 ⟨rfl, rfl⟩
  simp (maxSteps := 5000000) (disch := omega) only [V_P, SX, W_block, exitW, goInt, Int.reduceEq, setCells, oneOf, cellOk, reduceIte, Nat.reduceLT, Nat.reduceLeDiff, Nat.reduceEqDiff, Nat.reduceAdd, Nat.reduceSub, Nat.reduceMul, Int.reduceToNat, Int.reduceLT, Int.reduceLE, Int.reduceAdd, Int.reduceSub, implies_true, ne_eq, if_true, if_false, reduceCtorEq]
  refine cW_dec (fun hx => ?_) (fun hx => ?_)
  · simp (maxSteps := 5000000) (disch := omega) only [V_P, SX, W_block, exitW, goInt, Int.reduceEq, setCells, oneOf, cellOk, reduceIte, Nat.reduceLT, Nat.reduceLeDiff, Nat.reduceEqDiff, Nat.reduceAdd, Nat.reduceSub, Nat.reduceMul, Int.reduceToNat, Int.reduceLT, Int.reduceLE, Int.reduceAdd, Int.reduceSub, implies_true, ne_eq, if_true, if_false, reduceCtorEq]
  simp (maxSteps := 5000000) (disch := omega) only [V_P, SX, W_block, exitW, goInt, Int.reduceEq, setCells, oneOf, cellOk, reduceIte, Nat.reduceLT, Nat.reduceLeDiff, Nat.reduceEqDiff, Nat.reduceAdd, Nat.reduceSub, Nat.reduceMul, Int.reduceToNat, Int.reduceLT, Int.reduceLE, Int.reduceAdd, Int.reduceSub, implies_true, ne_eq, if_true, if_false, reduceCtorEq]
  refine W_callR rfl (by simp (maxSteps := 5000000) (disch := omega) only [V_P, SX, W_block, exitW, goInt, Int.reduceEq, setCells, oneOf, cellOk, reduceIte, Nat.reduceLT, Nat.reduceLeDiff, Nat.reduceEqDiff, Nat.reduceAdd, Nat.reduceSub, Nat.reduceMul, Int.reduceToNat, Int.reduceLT, Int.reduceLE, Int.reduceAdd, Int.reduceSub, implies_true, ne_eq, if_true, if_false, reduceCtorEq]) (seat_Msg a k st am a0.1 a0.2 k0.1 k0.2 s0.1 s0.2 am0.1 am0.2 _ ok) ?_
  rintro v H2 ⟨⟨m, rfl, rm, wm⟩, hs2⟩
  simp (maxSteps := 5000000) (disch := omega) only [V_P, SX, W_block, exitW, goInt, Int.reduceEq, setCells, oneOf, cellOk, reduceIte, Nat.reduceLT, Nat.reduceLeDiff, Nat.reduceEqDiff, Nat.reduceAdd, Nat.reduceSub, Nat.reduceMul, Int.reduceToNat, Int.reduceLT, Int.reduceLE, Int.reduceAdd, Int.reduceSub, implies_true, ne_eq, if_true, if_false, reduceCtorEq]
  refine W_callR rfl (by simp (maxSteps := 5000000) (disch := omega) only [V_P, SX, W_block, exitW, goInt, Int.reduceEq, setCells, oneOf, cellOk, reduceIte, Nat.reduceLT, Nat.reduceLeDiff, Nat.reduceEqDiff, Nat.reduceAdd, Nat.reduceSub, Nat.reduceMul, Int.reduceToNat, Int.reduceLT, Int.reduceLE, Int.reduceAdd, Int.reduceSub, implies_true, ne_eq, if_true, if_false, reduceCtorEq]) (seat_Bytes m _ hs2.ok wm rm) ?_
  rintro v H3 ⟨⟨i, hi, rfl, hgi⟩, hs3⟩
  have hlen := bytes_len rm wm
  have hs4 := hs2.trans hs3 (by simp)
  have hyK := hy.keep ok hs4
  have okK := hs4.ok
  generalize m.bytes = z at *
  have hyS : ∀ K : Heap, (∀ a, a < H1.next → K.get a = H3.get a) → BRow K b0 c0 y := fun K h => hy.mono (fun a o ha => by rw [h a (ok.lt ha)]; exact hs4.keeps ok a o ha)
  have hilow : H1.next ≤ i := Nat.le_trans hs2.le hi
  have hin : i < H3.next := okK.lt hgi
  have hbz := brow_of hgi
  have okn3 : ∀ a, H3.next ≤ a → H3.get a = none := okK
  obtain ⟨x', rfl⟩ : ∃ x' : UInt8, x = (x'.toNat : Int) := ⟨UInt8.ofNat x.toNat, by rw [UInt8.toNat_ofNat']; omega⟩
  clear hs3 hs2 hs4
  have hmod : 0 ≤ at' % (z.length : Int) ∧ at' % (z.length : Int) < z.length := ⟨Int.emod_nonneg _ (by omega), Int.emod_lt_of_pos _ (by omega)⟩
  obtain ⟨p, hp⟩ := Int.eq_ofNat_of_zero_le hmod.1
  have hpz : p < z.length := by omega
  clear hmod
  have hr5 : 0 ≤ how % 5 ∧ how % 5 < 5 := by omega
  simp (maxSteps := 5000000) (disch := omega) only [hp, V_P, SX, exitW, goInt, Int.reduceEq, setCells, oneOf, cellOk, reduceIte, Nat.reduceLT, Nat.reduceLeDiff, Nat.reduceEqDiff, Nat.reduceAdd, Nat.reduceSub, Nat.reduceMul, Int.reduceToNat, Int.reduceLT, Int.reduceLE, Int.reduceAdd, Int.reduceSub, implies_true, ne_eq, if_true, if_false, reduceCtorEq]
  generalize how % 5 = r at *
  refine W_cutL [_] (fun t K => ∃ (b : Option Addr) (n c : Nat) (z' : List UInt8), t.get 0 = some (.slice b0 y.length c0) ∧ t.get 17 = some (.slice b n c) ∧ n = z'.length ∧ z'.length ≤ 700 ∧ BRow K b c z' ∧ BRow K b0 c0 y ∧ Ok K) ?_ ?_
  · rcases (show r = 0 ∨ r = 1 ∨ r = 2 ∨ r = 3 ∨ r = 4 by omega) with rfl | rfl | rfl | rfl | rfl
    · have hpc : pcV H3 i p [.int .u8 x'.toNat] (H3.get i) = some (H3.set i (.cells (bytesV (z.set p x')) 5 false)) := by
        rw [hgi, pcV_cells, if_pos ⟨by rw [bytesV_length]; show p + 1 ≤ _; omega, rfl⟩]
        show some (H3.set i (.cells ((bytesV z).set p _) _ false)) = _
        unfold bytesV
        rw [List.map_set]
      simp (maxSteps := 5000000) (disch := omega) only [hpc, V_P, SX, W_block, exitW, goInt, Int.reduceEq, setCells, oneOf, cellOk, reduceIte, Nat.reduceLT, Nat.reduceLeDiff, Nat.reduceEqDiff, Nat.reduceAdd, Nat.reduceSub, Nat.reduceMul, Int.reduceToNat, Int.reduceLT, Int.reduceLE, Int.reduceAdd, Int.reduceSub, implies_true, ne_eq, if_true, if_false, reduceCtorEq]
      refine ⟨_, _, _, z.set p x', rfl, by simp, by simp; omega, brow_of (by rw [Heap.get_set, if_pos rfl]), hyS _ (fun a ha => by rw [Heap.get_set, if_neg (by omega)]), okK.set _ hin⟩
    · simp (maxSteps := 5000000) (disch := omega) only [V_P, SX, W_block, exitW, goInt, Int.reduceEq, setCells, oneOf, cellOk, reduceIte, Nat.reduceLT, Nat.reduceLeDiff, Nat.reduceEqDiff, Nat.reduceAdd, Nat.reduceSub, Nat.reduceMul, Int.reduceToNat, Int.reduceLT, Int.reduceLE, Int.reduceAdd, Int.reduceSub, implies_true, ne_eq, if_true, if_false, reduceCtorEq]
      refine W_drawLR [[], [], [], [0, 1, 2], [], [], [5], [4, 6, 5], [3, 0, 1, 2, 7, 4, 6, 5], [8, 3, 0, 1, 2, 7, 4, 6, 5]] [0, 1, 2, 3, 4, 5, 6, 7, 8, 9] (by decide +kernel) okK ?_
      have hcut := fun {l hh cap : Nat} => brow_cut (l := l) (hh := hh) (cap := cap) hbz
      have hmx : sliceB Tryd.prog (H3.room 10) 31 (.slice (some ⟨i, 0, none⟩) z.length capU) none (some (.int .i64 (p : Int))) (some (.int .i64 (p : Int))) = some (.slice (some ⟨i, 0, none⟩) p p) := slice_max (by rw [Heap.get_room]; exact hgi) sz_5 (by omega)
      have hf1 := seg_if hbz (a := 0) (n := p) (by omega)
      rw [List.drop_zero] at hf1
      have hf2 := seg_if hbz (a := p + 1) (n := z.length - (p + 1)) (by omega)
      rw [List.take_of_length_le (by rw [List.length_drop]; exact Nat.le_refl _)] at hf2
      have hpp : p + 1 ≤ z.length := hpz
      have htn : ((p : Int) + 1).toNat = p + 1 := rfl
      by_cases hk0 : z.length - (p + 1) = 0
      · rw [hk0] at hf2
        simp (maxSteps := 5000000) (disch := omega) only [okn3, hcut, hmx, hf1, hf2, htn, if_pos hpp, hk0, app_zero, V_P, SX, W_block, exitW, goInt, Int.reduceEq, setCells, oneOf, cellOk, reduceIte, Nat.reduceLT, Nat.reduceLeDiff, Nat.reduceEqDiff, Nat.reduceAdd, Nat.reduceSub, Nat.reduceMul, Int.reduceToNat, Int.reduceLT, Int.reduceLE, Int.reduceAdd, Int.reduceSub, implies_true, ne_eq, if_true, if_false, reduceCtorEq, DX, Nat.reduceBEq]
        exact ⟨KeepB.refl, _, _, _, z.take p, rfl, by rw [List.length_take]; omega, by rw [List.length_take]; omega, brow_pre hgi (by omega), hyS _ (fun a ha => rfl), okK.room _⟩
      · have ap := app_full (H := H3.room 10) (i := i) (e := 5) (cells := bytesV (z.take p)) (new := bytesV (z.drop (p + 1))) hk0 (n := p) (by omega) (bytesV_ok _)
        simp (maxSteps := 5000000) (disch := omega) only [okn3, hcut, hmx, hf1, hf2, htn, if_pos hpp, ap, V_P, SX, W_block, exitW, goInt, Int.reduceEq, setCells, oneOf, cellOk, reduceIte, Nat.reduceLT, Nat.reduceLeDiff, Nat.reduceEqDiff, Nat.reduceAdd, Nat.reduceSub, Nat.reduceMul, Int.reduceToNat, Int.reduceLT, Int.reduceLE, Int.reduceAdd, Int.reduceSub, implies_true, ne_eq, if_true, if_false, reduceCtorEq, DX, Nat.reduceBEq]
        have okr := okK.room 10
        refine ⟨(by repeat (first | exact Same.refl okr | refine Same.push ?_ _ | refine Same.room ?_ _ | (refine Same.make ?_ (by (try simp only [Heap.next_push, Heap.next_set, Heap.next_room]); omega) (by (try simp only [Heap.next_push, Heap.next_set, Heap.next_room]); omega)) | (refine Same.put ?_ (by simp (disch := omega) only [Heap.get_pushH, Heap.get_setH, hite_same, hite_ne, hite_eq, Heap.get_room, Heap.next_push, Heap.next_set, Heap.next_room, Option.isSome_some, *]) (fun z => by first | (simp; done) | (exfalso; (try simp only [Heap.next_push, Heap.next_set, Heap.next_room] at z); omega)))) : Same (H3.room 10) _ []).keep (by rw [Heap.next_room]; exact Nat.le_refl _), _, _, _, z.take p ++ z.drop (p + 1), rfl, by rw [List.length_append, List.length_take, List.length_drop]; omega, by rw [List.length_append, List.length_take, List.length_drop]; omega, brow_of ?_, hyS _ (fun a ha => ?_), okr.push _⟩
        · rw [Heap.get_push, if_pos (by rw [Heap.next_room]), bytesV_app]
        · rw [Heap.get_push, if_neg (by rw [Heap.next_room]; omega), Heap.get_room]
    · simp (maxSteps := 5000000) (disch := omega) only [V_P, SX, W_block, exitW, goInt, Int.reduceEq, setCells, oneOf, cellOk, reduceIte, Nat.reduceLT, Nat.reduceLeDiff, Nat.reduceEqDiff, Nat.reduceAdd, Nat.reduceSub, Nat.reduceMul, Int.reduceToNat, Int.reduceLT, Int.reduceLE, Int.reduceAdd, Int.reduceSub, implies_true, ne_eq, if_true, if_false, reduceCtorEq]
      refine W_drawLR [[], [], [], [0, 1, 2], [], [4], [3, 0, 1, 2, 5, 4], [], [], [7, 8], [6, 3, 0, 1, 2, 5, 4, 9, 7, 8], [10, 6, 3, 0, 1, 2, 5, 4, 9, 7, 8]] [0, 1, 2, 3, 4, 5, 6, 7, 8, 9, 10, 11] (by decide +kernel) okK ?_
      have hcut := fun {l hh cap : Nat} => brow_cut (l := l) (hh := hh) (cap := cap) hbz
      have hmx : ∀ K : Heap, K.get i = H3.get i → sliceB Tryd.prog K 31 (.slice (some ⟨i, 0, none⟩) z.length capU) none (some (.int .i64 (p : Int))) (some (.int .i64 (p : Int))) = some (.slice (some ⟨i, 0, none⟩) p p) := fun K hK => slice_max (by rw [hK]; exact hgi) sz_5 (by omega)
      have hmx1 := hmx (H3.room 12) rfl
      have hmx2 := hmx ((H3.room 12).set (H3.next + 5) (.cells [.int .u8 x'.toNat] 5 false)) (by rw [Heap.get_set, if_neg (by omega), Heap.get_room])
      have hf1 := seg_if hbz (a := 0) (n := p) (by omega)
      rw [List.drop_zero] at hf1
      have hf2 := seg_if hbz (a := p) (n := z.length - p) (by omega)
      rw [List.take_of_length_le (by rw [List.length_drop]; exact Nat.le_refl _)] at hf2
      have ap1 := app_full (H := (H3.room 12).set (H3.next + 5) (.cells [.int .u8 x'.toNat] 5 false)) (i := i) (e := 5) (cells := bytesV (z.take p)) (new := [.int .u8 x'.toNat]) (k := 1) (n := p) (by decide) (by omega) rfl
      have hlt : (bytesV (z.take p) ++ [Value.int .u8 x'.toNat]).length = p + 1 := by rw [List.length_append, bytesV_length, List.length_take]; show _ + 1 = _; omega
      have hf3 := row_if hlt
      have hgd : (((H3.room 12).set (H3.next + 5) (.cells [.int .u8 x'.toNat] 5 false)).push (.cells (bytesV (z.take p) ++ [.int .u8 x'.toNat]) 5 false)).get (H3.next + 12) = some (.cells (bytesV (z.take p) ++ [.int .u8 x'.toNat]) 5 false) := by
        rw [Heap.get_push, if_pos (by rw [Heap.next_set, Heap.next_room])]
      have ap2 := app_own (k := z.length - p) (n := p + 1) (cells := bytesV (z.take p) ++ [.int .u8 x'.toNat]) (new := bytesV (z.drop p)) hgd (by omega) (by omega) (bytesV_ok _)
      simp (maxSteps := 5000000) (disch := omega) only [okn3, hcut, hmx1, hmx2, hf1, hf2, hf3, ap1, ap2, V_P, SX, W_block, exitW, goInt, Int.reduceEq, setCells, oneOf, cellOk, reduceIte, Nat.reduceLT, Nat.reduceLeDiff, Nat.reduceEqDiff, Nat.reduceAdd, Nat.reduceSub, Nat.reduceMul, Int.reduceToNat, Int.reduceLT, Int.reduceLE, Int.reduceAdd, Int.reduceSub, implies_true, ne_eq, if_true, if_false, reduceCtorEq, DX, Nat.reduceBEq]
      have okr : Ok ((H3.room 12).set (H3.next + 5) (.cells [.int .u8 x'.toNat] 5 false)) := (okK.room _).set _ (by rw [Heap.next_room]; omega)
      have hxx : bytesV (z.take p) ++ [Value.int .u8 x'.toNat] ++ bytesV (z.drop p) = bytesV (z.take p ++ [x'] ++ z.drop p) := by rw [← bytesV_app, ← bytesV_app]; rfl
      refine ⟨KeepB_push (by rw [Heap.next_set, Heap.next_room]; exact Nat.le_refl _), (KeepB_set (by rw [hgd]; rfl)).trans (KeepB_push (by simp only [Heap.next_set, Heap.next_push, Heap.next_room]; omega)), _, _, _, z.take p ++ [x'] ++ z.drop p, rfl, by simp; omega, by simp; omega, brow_of ?_, hyS _ (fun a ha => ?_), ((okr.push _).set _ (by simp only [Heap.next_push, Heap.next_set, Heap.next_room]; omega)).push _⟩
      · rw [Heap.get_push, if_pos (by simp only [Heap.next_set, Heap.next_push, Heap.next_room]), hxx]
      · rw [Heap.get_push, if_neg (by simp only [Heap.next_set, Heap.next_push, Heap.next_room]; omega), Heap.get_set, if_neg (by omega), Heap.get_push, if_neg (by simp only [Heap.next_set, Heap.next_room]; omega), Heap.get_set, if_neg (by omega), Heap.get_room]
    · have hf1 := seg_if hbz (a := 0) (n := z.length) (by omega)
      rw [List.drop_zero, List.take_length] at hf1
      have ap := app_own (H := H3.push (.cells [.int .u8 28] 5 false)) (i := i) (e := 5) (c0 := bytesV z) (cells := bytesV z) (new := [.int .u8 28]) (n := z.length) (k := 1) (by rw [Heap.get_push, if_neg (by omega)]; exact hgi) (by decide) (by omega) rfl
      simp (maxSteps := 5000000) (disch := omega) only [hf1, ap, V_P, SX, W_block, exitW, goInt, Int.reduceEq, setCells, oneOf, cellOk, reduceIte, Nat.reduceLT, Nat.reduceLeDiff, Nat.reduceEqDiff, Nat.reduceAdd, Nat.reduceSub, Nat.reduceMul, Int.reduceToNat, Int.reduceLT, Int.reduceLE, Int.reduceAdd, Int.reduceSub, implies_true, ne_eq, if_true, if_false, reduceCtorEq]
      have h28 : bytesV z ++ [Value.int .u8 28] = bytesV (z ++ [28]) := by rw [← bytesV_app]; rfl
      refine ⟨_, _, _, z ++ [28], rfl, by simp, by simp; omega, brow_of ?_, hyS _ (fun a ha => ?_), ((okK.push _).set _ (by rw [Heap.next_push]; omega)).push _⟩
      · rw [Heap.get_push, if_pos (by rw [Heap.next_set, Heap.next_push]), h28]
      · rw [Heap.get_push, if_neg (by simp only [Heap.next_set, Heap.next_push]; omega), Heap.get_set, if_neg (by omega), Heap.get_push, if_neg (by omega)]
    · simp (maxSteps := 5000000) (disch := omega) only [V_P, SX, W_block, exitW, goInt, Int.reduceEq, setCells, oneOf, cellOk, reduceIte, Nat.reduceLT, Nat.reduceLeDiff, Nat.reduceEqDiff, Nat.reduceAdd, Nat.reduceSub, Nat.reduceMul, Int.reduceToNat, Int.reduceLT, Int.reduceLE, Int.reduceAdd, Int.reduceSub, implies_true, ne_eq, if_true, if_false, reduceCtorEq]
      refine W_drawLR [[], [], [], [0, 1, 2], [], [3, 0, 1, 2, 4], [], [], [6, 7], [5, 3, 0, 1, 2, 4, 8, 6, 7], [9, 5, 3, 0, 1, 2, 4, 8, 6, 7]] [0, 1, 2, 3, 4, 5, 6, 7, 8, 9, 10] (by decide +kernel) okK ?_
      have hcut := fun {l hh cap : Nat} => brow_cut (l := l) (hh := hh) (cap := cap) hbz
      have hmx : ∀ K : Heap, K.get i = H3.get i → sliceB Tryd.prog K 31 (.slice (some ⟨i, 0, none⟩) z.length capU) none (some (.int .i64 (p : Int))) (some (.int .i64 (p : Int))) = some (.slice (some ⟨i, 0, none⟩) p p) := fun K hK => slice_max (by rw [hK]; exact hgi) sz_5 (by omega)
      have hmx1 := hmx (H3.room 11) rfl
      have hmx2 := hmx ((H3.room 11).set (H3.next + 4) (.cells [.int .u8 28] 5 false)) (by rw [Heap.get_set, if_neg (by omega), Heap.get_room])
      have hf1 := seg_if hbz (a := 0) (n := p) (by omega)
      rw [List.drop_zero] at hf1
      have hf2 := seg_if hbz (a := p) (n := z.length - p) (by omega)
      rw [List.take_of_length_le (by rw [List.length_drop]; exact Nat.le_refl _)] at hf2
      have ap1 := app_full (H := (H3.room 11).set (H3.next + 4) (.cells [.int .u8 28] 5 false)) (i := i) (e := 5) (cells := bytesV (z.take p)) (new := [.int .u8 28]) (k := 1) (n := p) (by decide) (by omega) rfl
      have hlt : (bytesV (z.take p) ++ [Value.int .u8 28]).length = p + 1 := by rw [List.length_append, bytesV_length, List.length_take]; show _ + 1 = _; omega
      have hf3 := row_if hlt
      have hgd : (((H3.room 11).set (H3.next + 4) (.cells [.int .u8 28] 5 false)).push (.cells (bytesV (z.take p) ++ [.int .u8 28]) 5 false)).get (H3.next + 11) = some (.cells (bytesV (z.take p) ++ [.int .u8 28]) 5 false) := by
        rw [Heap.get_push, if_pos (by rw [Heap.next_set, Heap.next_room])]
      have ap2 := app_own (k := z.length - p) (n := p + 1) (cells := bytesV (z.take p) ++ [.int .u8 28]) (new := bytesV (z.drop p)) hgd (by omega) (by omega) (bytesV_ok _)
      simp (maxSteps := 5000000) (disch := omega) only [okn3, hcut, hmx1, hmx2, hf1, hf2, hf3, ap1, ap2, V_P, SX, W_block, exitW, goInt, Int.reduceEq, setCells, oneOf, cellOk, reduceIte, Nat.reduceLT, Nat.reduceLeDiff, Nat.reduceEqDiff, Nat.reduceAdd, Nat.reduceSub, Nat.reduceMul, Int.reduceToNat, Int.reduceLT, Int.reduceLE, Int.reduceAdd, Int.reduceSub, implies_true, ne_eq, if_true, if_false, reduceCtorEq, DX, Nat.reduceBEq]
      have okr : Ok ((H3.room 11).set (H3.next + 4) (.cells [.int .u8 28] 5 false)) := (okK.room _).set _ (by rw [Heap.next_room]; omega)
      have hxx : bytesV (z.take p) ++ [Value.int .u8 28] ++ bytesV (z.drop p) = bytesV (z.take p ++ [28] ++ z.drop p) := by rw [← bytesV_app, ← bytesV_app]; rfl
      refine ⟨KeepB_push (by rw [Heap.next_set, Heap.next_room]; exact Nat.le_refl _), (KeepB_set (by rw [hgd]; rfl)).trans (KeepB_push (by simp only [Heap.next_set, Heap.next_push, Heap.next_room]; omega)), _, _, _, z.take p ++ [28] ++ z.drop p, rfl, by simp; omega, by simp; omega, brow_of ?_, hyS _ (fun a ha => ?_), ((okr.push _).set _ (by simp only [Heap.next_push, Heap.next_set, Heap.next_room]; omega)).push _⟩
      · rw [Heap.get_push, if_pos (by simp only [Heap.next_set, Heap.next_push, Heap.next_room]), hxx]
      · rw [Heap.get_push, if_neg (by simp only [Heap.next_set, Heap.next_push, Heap.next_room]; omega), Heap.get_set, if_neg (by omega), Heap.get_push, if_neg (by simp only [Heap.next_set, Heap.next_room]; omega), Heap.get_set, if_neg (by omega), Heap.get_room]
  rintro t K ⟨b, n, c, z', g0, g17, rfl, hz', hb, hby, okK2⟩
  have hy2 : y.length ≤ 200 := by omega
  clear hyS hbz hgi hin hilow okn3 okK hyK
  simp (maxSteps := 5000000) (disch := omega) only [g0, g17, V_P, SX, W_block, exitW, goInt, Int.reduceEq, setCells, oneOf, cellOk, reduceIte, Nat.reduceLT, Nat.reduceLeDiff, Nat.reduceEqDiff, Nat.reduceAdd, Nat.reduceSub, Nat.reduceMul, Int.reduceToNat, Int.reduceLT, Int.reduceLE, Int.reduceAdd, Int.reduceSub, implies_true, ne_eq, if_true, if_false, reduceCtorEq]
  refine W_for (fun (i : Nat) t K2 => t.get 90 = some (.slice (some ⟨K.next, 0, none⟩) 2 2) ∧ t.get 91 = some (.int .i64 2) ∧ t.get 92 = some (.int .i64 i) ∧ i ≤ 2 ∧ Ok K2 ∧ K2.get K.next = some (.cells [.slice b0 y.length c0, .slice b z'.length c] 31 false) ∧ BRow K2 b0 c0 y ∧ BRow K2 b c z') (fun i => 2 - i) 0 ?_ ?_
  · simp (maxSteps := 5000000) (disch := omega) only [V_P, SX, W_block, exitW, goInt, Int.reduceEq, setCells, oneOf, cellOk, reduceIte, Nat.reduceLT, Nat.reduceLeDiff, Nat.reduceEqDiff, Nat.reduceAdd, Nat.reduceSub, Nat.reduceMul, Int.reduceToNat, Int.reduceLT, Int.reduceLE, Int.reduceAdd, Int.reduceSub, implies_true, ne_eq, if_true, if_false, reduceCtorEq]
    exact ⟨rfl, rfl, okK2.push _, hby.keep okK2 ((Same.refl okK2).push _), hb.keep okK2 ((Same.refl okK2).push _)⟩
  rintro i t K2 ⟨g90, g91, g92, hi2, okK3, hrow, hby3, hb3⟩
  simp (maxSteps := 5000000) (disch := omega) only [g90, g91, g92, V_P, SX, W_block, exitW, goInt, Int.reduceEq, setCells, oneOf, cellOk, reduceIte, Nat.reduceLT, Nat.reduceLeDiff, Nat.reduceEqDiff, Nat.reduceAdd, Nat.reduceSub, Nat.reduceMul, Int.reduceToNat, Int.reduceLT, Int.reduceLE, Int.reduceAdd, Int.reduceSub, implies_true, ne_eq, if_true, if_false, reduceCtorEq]
  refine cW_dec (fun hlt => ?_) (fun hlt => ?_)
  rotate_left
  · simp (maxSteps := 5000000) (disch := omega) only [V_P, SX, W_block, exitW, goInt, Int.reduceEq, setCells, oneOf, cellOk, reduceIte, Nat.reduceLT, Nat.reduceLeDiff, Nat.reduceEqDiff, Nat.reduceAdd, Nat.reduceSub, Nat.reduceMul, Int.reduceToNat, Int.reduceLT, Int.reduceLE, Int.reduceAdd, Int.reduceSub, implies_true, ne_eq, if_true, if_false, reduceCtorEq]
  obtain ⟨bb, cc, w, hbw, hwl, hgc⟩ : ∃ (bb : Option Addr) (cc : Nat) (w : List UInt8), BRow K2 bb cc w ∧ w.length ≤ 100000 ∧ gcV i 1 (K2.get K.next) = some [.slice bb w.length cc] := by
    rw [hrow]
    rcases (show i = 0 ∨ i = 1 by omega) with rfl | rfl
    · exact ⟨b0, c0, y, hby3, by omega, rfl⟩
    · exact ⟨b, c, z', hb3, by omega, rfl⟩
  simp (maxSteps := 5000000) (disch := omega) only [g90, g91, g92, hgc, V_P, SX, W_block, exitW, goInt, Int.reduceEq, setCells, oneOf, cellOk, reduceIte, Nat.reduceLT, Nat.reduceLeDiff, Nat.reduceEqDiff, Nat.reduceAdd, Nat.reduceSub, Nat.reduceMul, Int.reduceToNat, Int.reduceLT, Int.reduceLE, Int.reduceAdd, Int.reduceSub, implies_true, ne_eq, if_true, if_false, reduceCtorEq]
  refine W_callR rfl (by simp (maxSteps := 5000000) (disch := omega) only [g90, g91, g92, hgc, V_P, SX, W_block, exitW, goInt, Int.reduceEq, setCells, oneOf, cellOk, reduceIte, Nat.reduceLT, Nat.reduceLeDiff, Nat.reduceEqDiff, Nat.reduceAdd, Nat.reduceSub, Nat.reduceMul, Int.reduceToNat, Int.reduceLT, Int.reduceLE, Int.reduceAdd, Int.reduceSub, implies_true, ne_eq, if_true, if_false, reduceCtorEq]) (ndc_ReadV w bb cc _ okK3 hbw hwl) ?_
  rintro v K4 ⟨rfl, hs4⟩
  have ok4 := hs4.ok
  obtain ⟨m1, e1, hm1⟩ : ∃ (m1 : Msg) (e1 : Int), rdV (readB bnd ((sp w).map S)) = .tuple #[.agg m1.cells.toArray, .int .i64 e1] := by
    cases readB bnd ((sp w).map S) with
    | none => exact ⟨_, _, rfl⟩
    | some m => exact ⟨_, _, rfl⟩
  rw [hm1]
  have hbw4 := hbw.keep okK3 hs4
  have hsA : Same K4 ((K4.push (mO .zero)).set K4.next (mO m1)) [] := by repeat (first | exact Same.refl ok4 | refine Same.push ?_ _ | refine Same.room ?_ _ | (refine Same.make ?_ (by (try simp only [Heap.next_push, Heap.next_set, Heap.next_room]); omega) (by (try simp only [Heap.next_push, Heap.next_set, Heap.next_room]); omega)) | (refine Same.put ?_ (by simp (disch := omega) only [Heap.get_pushH, Heap.get_setH, hite_same, hite_ne, hite_eq, Heap.get_room, Heap.next_push, Heap.next_set, Heap.next_room, Option.isSome_some, *]) (fun z => by first | (simp; done) | (exfalso; (try simp only [Heap.next_push, Heap.next_set, Heap.next_room] at z); omega))))
  simp (maxSteps := 5000000) (disch := omega) only [MX, Msg.cells_length, g90, g91, g92, hgc, V_P, SX, W_block, exitW, goInt, Int.reduceEq, setCells, oneOf, cellOk, reduceIte, Nat.reduceLT, Nat.reduceLeDiff, Nat.reduceEqDiff, Nat.reduceAdd, Nat.reduceSub, Nat.reduceMul, Int.reduceToNat, Int.reduceLT, Int.reduceLE, Int.reduceAdd, Int.reduceSub, implies_true, ne_eq, if_true, if_false, reduceCtorEq]
  refine W_callR rfl (by simp (maxSteps := 5000000) (disch := omega) only [MX, Msg.cells_length, g90, g91, g92, hgc, V_P, SX, W_block, exitW, goInt, Int.reduceEq, setCells, oneOf, cellOk, reduceIte, Nat.reduceLT, Nat.reduceLeDiff, Nat.reduceEqDiff, Nat.reduceAdd, Nat.reduceSub, Nat.reduceMul, Int.reduceToNat, Int.reduceLT, Int.reduceLE, Int.reduceAdd, Int.reduceSub, implies_true, ne_eq, if_true, if_false, reduceCtorEq]) (ref_ReadV w bb cc _ hsA.ok (hbw4.keep ok4 hsA) hwl) ?_
  rintro v K5 ⟨rfl, hs5⟩
  rw [hm1]
  have hs6 : Same K2 K5 [] := hs4.trans (hsA.trans hs5 (by simp)) (by simp)
  have hsm : m1.same m1 = true := same_iff.mpr ⟨rfl, fun _ _ _ => rfl⟩
  have q5 : K5.get K4.next = some (mO m1) := by
    rw [hs5.get _ (by simp only [Heap.next_set, Heap.next_push]; omega) (by simp), Heap.get_set, if_pos rfl]
  have hn5 := hs5.ok.lt q5
  have hne : K4.next ≠ K5.next := by omega
  simp (maxSteps := 5000000) (disch := omega) only [MX, Msg.cells_length, g90, g91, g92, q5, hsm, V_P, SX, W_block, exitW, goInt, Int.reduceEq, setCells, oneOf, cellOk, reduceIte, Nat.reduceLT, Nat.reduceLeDiff, Nat.reduceEqDiff, Nat.reduceAdd, Nat.reduceSub, Nat.reduceMul, Int.reduceToNat, Int.reduceLT, Int.reduceLE, Int.reduceAdd, Int.reduceSub, implies_true, ne_eq, if_true, if_false, reduceCtorEq]
  have hle5 := hs6.le
  have hs7 : Same K2 ((K5.push (mO .zero)).set K5.next (mO m1)) [] := by repeat (first | exact hs6 | refine Same.push ?_ _ | refine Same.room ?_ _ | (refine Same.make ?_ (by (try simp only [Heap.next_push, Heap.next_set, Heap.next_room]); omega) (by (try simp only [Heap.next_push, Heap.next_set, Heap.next_room]); omega)) | (refine Same.put ?_ (by simp (disch := omega) only [Heap.get_pushH, Heap.get_setH, hite_same, hite_ne, hite_eq, Heap.get_room, Heap.next_push, Heap.next_set, Heap.next_room, Option.isSome_some, *]) (fun z => by first | (simp; done) | (exfalso; (try simp only [Heap.next_push, Heap.next_set, Heap.next_room] at z); omega))))
  have hr7 : ((K5.push (mO .zero)).set K5.next (mO m1)).get K.next = some (.cells [.slice b0 y.length c0, .slice b z'.length c] 31 false) := by rw [hs7.get _ (okK3.lt hrow) (by simp), hrow]
  rw [Heap.get_setH, Heap.get_pushH] at hr7
  exact ⟨i + 1, ⟨by simp, by omega, hs7.ok, hr7, hby3.keep okK3 hs7, hb3.keep okK3 hs7⟩, by omega⟩
end Go.B.YteigefgobkdmgaaDoor
