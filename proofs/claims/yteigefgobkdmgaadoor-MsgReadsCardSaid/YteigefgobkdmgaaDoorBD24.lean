import Derived.Test.YteigefgobkdmgaaDoorBD22
/- Parts told as a message: the document's. -/
namespace Go.B.YteigefgobkdmgaaDoor
open Go Go.B Go.Proofs
set_option maxRecDepth 100000
set_option maxHeartbeats 16000000
set_option linter.unusedSimpArgs false
set_option linter.unusedVariables false
def cellsOf (c : UInt8) : List Nat := if c = 116 then [1] else if c = 115 then [2] else if c = 112 then [3] else if c = 97 then [4] else if c = 108 then [21] else if c = 110 then [5, 6, 7, 8] else if c = 114 then [9, 10, 11, 12] else if c = 99 then [13, 14, 15, 16] else if c = 100 then [17, 18, 19, 20] else if c = 109 then [22, 23, 24, 25] else []
theorem slots_letL {k : Int} (hk : 1 ≤ k ∧ k ≤ 7) : slots k = (letL k).flatMap cellsOf := by
  rcases (show k = 1 ∨ k = 2 ∨ k = 3 ∨ k = 4 ∨ k = 5 ∨ k = 6 ∨ k = 7 by omega) with rfl | rfl | rfl | rfl | rfl | rfl | rfl <;> decide
theorem letL_in {k : Int} (hk : 1 ≤ k ∧ k ≤ 7) : ∀ c ∈ letL k, c = 116 ∨ c = 115 ∨ c = 112 ∨ c = 97 ∨ c = 108 ∨ ∃ g, g < 5 ∧ c = lett g := by
  have key : ∀ c ∈ ([116, 115, 112, 97, 108, 110, 114, 99, 100, 109] : List UInt8), c = 116 ∨ c = 115 ∨ c = 112 ∨ c = 97 ∨ c = 108 ∨ ∃ g, g < 5 ∧ c = lett g := by
    intro c hc
    simp only [List.mem_cons, List.not_mem_nil, or_false] at hc
    rcases hc with rfl | rfl | rfl | rfl | rfl | rfl | rfl | rfl | rfl | rfl
    · simp
    · simp
    · simp
    · simp
    · simp
    · exact .inr (.inr (.inr (.inr (.inr ⟨0, by decide, rfl⟩))))
    · exact .inr (.inr (.inr (.inr (.inr ⟨1, by decide, rfl⟩))))
    · exact .inr (.inr (.inr (.inr (.inr ⟨2, by decide, rfl⟩))))
    · exact .inr (.inr (.inr (.inr (.inr ⟨3, by decide, rfl⟩))))
    · exact .inr (.inr (.inr (.inr (.inr ⟨4, by decide, rfl⟩))))
  intro c hc
  refine key c ?_
  rcases (show k = 1 ∨ k = 2 ∨ k = 3 ∨ k = 4 ∨ k = 5 ∨ k = 6 ∨ k = 7 by omega) with rfl | rfl | rfl | rfl | rfl | rfl | rfl <;> (revert c; decide)
theorem mO_pj {H : Heap} {i j : Nat} {m : Msg} {v : Int} (h : 5 ≤ j ∧ j ≤ 25) : pcV H i j [.int .i64 v] (some (mO m)) = some (H.set i (mO (m.set j v))) := by
  rcases (show j = 5 ∨ j = 6 ∨ j = 7 ∨ j = 8 ∨ j = 9 ∨ j = 10 ∨ j = 11 ∨ j = 12 ∨ j = 13 ∨ j = 14 ∨ j = 15 ∨ j = 16 ∨ j = 17 ∨ j = 18 ∨ j = 19 ∨ j = 20 ∨ j = 21 ∨ j = 22 ∨ j = 23 ∨ j = 24 ∨ j = 25 by omega) with rfl | rfl | rfl | rfl | rfl | rfl | rfl | rfl | rfl | rfl | rfl | rfl | rfl | rfl | rfl | rfl | rfl | rfl | rfl | rfl | rfl <;> rfl
theorem ref_hasG (c : UInt8) (H : Heap) : ∃ v H', Ca V 31 #[.string ⟨#[110, 114, 99, 100, 109]⟩, .int .u8 c.toNat] H v H' ∧ v = .bool (hasB [110, 114, 99, 100, 109] c.toNat) ∧ H' = H := ref_has [110, 114, 99, 100, 109] c.toNat H (by decide)
theorem num_le {a b x : Nat} {s : ByteArray} (h : numB a s = some x) (hx : x ≤ b) : numB b s = some x := by
  obtain ⟨h1, _⟩ := numB_some h
  exact numB_iff.mpr ⟨h1, hx⟩
theorem num_gt {a b x : Nat} {s : ByteArray} (h : numB a s = some x) (hx : b < x) : numB b s = none := by
  refine numB_none fun n hn => ?_
  obtain ⟨h1, _⟩ := numB_some h
  rw [h1] at hn
  obtain rfl := dec_inj (S_inj hn)
  exact hx
theorem fill_few {b : Nat → Nat} : ∀ (js : List Nat) (l : List ByteArray) (m : Msg), (∀ j ∈ js, j ≠ 3) → l.length < js.length → fillM b js l m = none
  | [], l, m, _, h => by simp at h
  | j :: js, l, m, hj, h => by
    cases hn : numB (b j) (l.headD (S [])) with
    | none => exact fill_none (hj j (by simp)) hn
    | some k =>
      rw [fill_some (hj j (by simp)) hn]
      refine fill_few js _ _ (fun i hi => hj i (by simp [hi])) ?_
      rcases l with _ | ⟨a, l⟩
      · rw [List.headD_nil, numB_empty] at hn; cases hn
      · simpa using h
theorem ref_told (kk : Int) (hk : 1 ≤ kk ∧ kk ≤ 7) (L : List ByteArray) (i0 o c : Nat) (H : Heap) (ok : Ok H) (hrow : Row Tryd.prog H (some ⟨i0, o, none⟩) L.length 1 (L.map Value.string)) (hsm : L.length ≤ 1000000 ∧ ∀ s ∈ L, s.size ≤ 1000000) :
    ∃ v H', Ca V 39 #[.int .i64 kk, .string (S (letL kk)), .slice (some ⟨i0, o, none⟩) L.length c] H v H' ∧ (∃ m ok', v = .tuple #[.agg m.cells.toArray, .bool ok'] ∧ (ok' = true → fillM bndR (slots kk) L (.new kk 0) = some (m, []) ∧ m.pan.size ≤ 1000000) ∧ (ok' = false → ∀ m', fillM bndR (slots kk) L (.new kk 0) ≠ some (m', []))) ∧ Same H H' [] := by
  have okn : ∀ a, H.next ≤ a → H.get a = none := ok
  have hsl := slots_letL hk
  have hin := letL_in hk
  have hn0 : (0 : Int) ≤ kk ∧ kk < 8 := by omega
  have hz : (Msg.new 0 0).cells = Msg.zero.cells := rfl
  have hll : (letL kk).length ≤ 8 := by
    rcases (show kk = 1 ∨ kk = 2 ∨ kk = 3 ∨ kk = 4 ∨ kk = 5 ∨ kk = 6 ∨ kk = 7 by omega) with rfl | rfl | rfl | rfl | rfl | rfl | rfl <;> decide
  refine Ca_run rfl tab_39 rfl ?_
  generalize hlt : letL kk = lt at *
  have hss : (S lt).size = lt.length := rfl
  simp (maxSteps := 5000000) (disch := omega) only [Tryd.f39, MX, mO_b2, V_P, SX, W_block, exitW, goInt, Int.reduceEq, setCells, oneOf, cellOk, reduceIte, Nat.reduceLT, Nat.reduceLeDiff, Nat.reduceEqDiff, Nat.reduceAdd, Nat.reduceSub, Nat.reduceMul, Int.reduceToNat, Int.reduceLT, Int.reduceLE, Int.reduceAdd, Int.reduceSub, implies_true, ne_eq, if_true, if_false, reduceCtorEq]
  refine W_for (fun (i : Nat) t K => ∃ (at' : Nat) (m : Msg), t.get 1 = some (.string (S lt)) ∧ t.get 2 = some (.slice (some ⟨i0, o, none⟩) L.length c) ∧ t.get 6 = some (.pointer (some ⟨H.next, 0, none⟩)) ∧ t.get 8 = some (.pointer (some ⟨H.next + 1, 0, none⟩)) ∧ t.get 9 = some (.int .i64 at') ∧ t.get 10 = some (.int .i64 i) ∧ i ≤ lt.length ∧ K.get H.next = some (mO .zero) ∧ K.get (H.next + 1) = some (mO m) ∧ Same H K [] ∧ at' ≤ L.length ∧ m.pan.size ≤ 1000000 ∧ fillM bndR ((lt.take i).flatMap cellsOf) L (.new kk 0) = some (m, L.drop at')) (fun i => lt.length - i) 0 ?_ ?_
  · simp (maxSteps := 5000000) (disch := omega) only [V_P, SX, W_block, exitW, goInt, Int.reduceEq, setCells, oneOf, cellOk, reduceIte, Nat.reduceLT, Nat.reduceLeDiff, Nat.reduceEqDiff, Nat.reduceAdd, Nat.reduceSub, Nat.reduceMul, Int.reduceToNat, Int.reduceLT, Int.reduceLE, Int.reduceAdd, Int.reduceSub, implies_true, ne_eq, if_true, if_false, reduceCtorEq]
    refine ⟨0, .new kk 0, rfl, rfl, Nat.zero_le _, rfl, by repeat (first | exact (Same.refl ok) | refine Same.push ?_ _ | refine Same.room ?_ _ | (refine Same.make ?_ (by (try simp only [Heap.next_push, Heap.next_set, Heap.next_room]); omega) (by (try simp only [Heap.next_push, Heap.next_set, Heap.next_room]); omega)) | (refine Same.put ?_ (by simp (disch := omega) only [Heap.get_pushH, Heap.get_setH, hite_same, hite_ne, hite_eq, Heap.get_room, Heap.next_push, Heap.next_set, Heap.next_room, Option.isSome_some, *]) (fun z => by first | (simp; done) | (exfalso; (try simp only [Heap.next_push, Heap.next_set, Heap.next_room] at z); omega)))), Nat.zero_le _, by show (0 : Nat) ≤ _; omega, rfl⟩
  rintro i t K ⟨at', m, g1, g2, g6, g8, g9, g10, hi, hr, hq, hs, hat, hpan, hfl⟩
  have ok2 := hs.ok
  simp (maxSteps := 5000000) (disch := omega) only [g1, g2, g6, g8, g9, g10, hss, V_P, SX, W_block, exitW, goInt, Int.reduceEq, setCells, oneOf, cellOk, reduceIte, Nat.reduceLT, Nat.reduceLeDiff, Nat.reduceEqDiff, Nat.reduceAdd, Nat.reduceSub, Nat.reduceMul, Int.reduceToNat, Int.reduceLT, Int.reduceLE, Int.reduceAdd, Int.reduceSub, implies_true, ne_eq, if_true, if_false, reduceCtorEq]
  refine cW_dec (fun hltI => ?_) (fun hltI => ?_)
  rotate_left
  · obtain rfl : i = lt.length := by omega
    rw [List.take_length, ← hsl] at hfl
    simp (maxSteps := 5000000) (disch := omega) only [g1, g2, g6, g8, g9, g10, hss, MX, hr, hq, Msg.cells_length, V_P, SX, W_block, exitW, goInt, Int.reduceEq, setCells, oneOf, cellOk, reduceIte, Nat.reduceLT, Nat.reduceLeDiff, Nat.reduceEqDiff, Nat.reduceAdd, Nat.reduceSub, Nat.reduceMul, Int.reduceToNat, Int.reduceLT, Int.reduceLE, Int.reduceAdd, Int.reduceSub, implies_true, ne_eq, if_true, if_false, reduceCtorEq]
    refine ⟨⟨m, _, rfl, fun h => ?_, fun h m' hm => ?_⟩, hs.set hr (fun z => absurd z (Nat.lt_irrefl _))⟩
    · have e : at' = L.length := by simp at h; omega
      refine ⟨?_, hpan⟩
      rw [hfl, e, List.drop_length]
    · have e : at' ≠ L.length := by simp at h; omega
      rw [hfl] at hm
      have h2 : L.drop at' = [] := (Prod.mk.inj (Option.some.inj hm)).2
      have := congrArg List.length h2
      rw [List.length_drop, List.length_nil] at this
      omega
  have hi' : i < lt.length := by omega
  have hc : lt[i]? = some lt[i] := List.getElem?_eq_getElem hi'
  have hmem := hin _ (List.getElem_mem hi')
  generalize lt[i] = ch at hc hmem
  have hcS : (S lt)[i]? = some ch := by
    have h1 : i < (S lt).size := hi'
    have := U_get (getElem?_pos (S lt) i h1)
    rw [U_S, hc] at this
    rw [getElem?_pos (S lt) i h1]; exact this.symm
  have htk := take_snoc hc
  have hdr := drop_cons hc
  have hbad : fillM bndR (cellsOf ch) (L.drop at') m = none → ∀ m', fillM bndR (slots kk) L (.new kk 0) ≠ some (m', []) := fun h m' hm => by
    rw [hsl, ← List.take_append_drop i lt, hdr, List.flatMap_append, List.flatMap_cons, fill_append, hfl] at hm
    simp only [Option.bind_some] at hm
    rw [fill_append, h] at hm
    cases hm
  have hgood : ∀ x, fillM bndR (cellsOf ch) (L.drop at') m = some x → fillM bndR ((lt.take (i + 1)).flatMap cellsOf) L (.new kk 0) = some x := fun x h => by
    rw [htk, List.flatMap_append, fill_append, hfl]
    simp only [Option.bind_some, List.flatMap_cons, List.flatMap_nil, List.append_nil]
    exact h
  have hrowK := hrow.mono ok hs (by simp)
  have hqn : H.next < K.next := hs.ok.lt hr
  have hqn1 : H.next + 1 < K.next := hs.ok.lt hq
  rcases hmem with rfl | rfl | rfl | rfl | rfl | ⟨g, hg, rfl⟩
  · have hcl : cellsOf 116 = [1] := by decide
    rw [hcl] at hbad hgood
    have q112 : decide (((116 : UInt8).toNat : Int) = 112) = false := by decide
    have q116 : decide (((116 : UInt8).toNat : Int) = 116) = true := by decide
    have q115 : decide (((116 : UInt8).toNat : Int) = 115) = false := by decide
    have q97 : decide (((116 : UInt8).toNat : Int) = 97) = false := by decide
    have q108 : decide (((116 : UInt8).toNat : Int) = 108) = false := by decide
    simp (maxSteps := 5000000) (disch := omega) only [g1, g2, g6, g8, g9, g10, hcS, V_P, SX, W_block, exitW, goInt, Int.reduceEq, setCells, oneOf, cellOk, reduceIte, Nat.reduceLT, Nat.reduceLeDiff, Nat.reduceEqDiff, Nat.reduceAdd, Nat.reduceSub, Nat.reduceMul, Int.reduceToNat, Int.reduceLT, Int.reduceLE, Int.reduceAdd, Int.reduceSub, implies_true, ne_eq, if_true, if_false, reduceCtorEq]
    refine W_callR rfl (by simp (maxSteps := 5000000) (disch := omega) only [g1, g2, g6, g8, g9, g10, hcS, V_P, SX, W_block, exitW, goInt, Int.reduceEq, setCells, oneOf, cellOk, reduceIte, Nat.reduceLT, Nat.reduceLeDiff, Nat.reduceEqDiff, Nat.reduceAdd, Nat.reduceSub, Nat.reduceMul, Int.reduceToNat, Int.reduceLT, Int.reduceLE, Int.reduceAdd, Int.reduceSub, implies_true, ne_eq, if_true, if_false, reduceCtorEq]) (ref_hasG 116 _) ?_
    rintro v H3 ⟨rfl, e3⟩
    obtain rfl := e3.symm
    rw [show hasB [110, 114, 99, 100, 109] ((116 : UInt8).toNat : Int) = false by decide]
    simp (maxSteps := 5000000) (disch := omega) only [g1, g2, g6, g8, g9, g10, hcS, V_P, SX, W_block, exitW, goInt, Int.reduceEq, setCells, oneOf, cellOk, reduceIte, Nat.reduceLT, Nat.reduceLeDiff, Nat.reduceEqDiff, Nat.reduceAdd, Nat.reduceSub, Nat.reduceMul, Int.reduceToNat, Int.reduceLT, Int.reduceLE, Int.reduceAdd, Int.reduceSub, implies_true, ne_eq, if_true, if_false, reduceCtorEq]
    refine cW_dec (fun hx => ?_) (fun hx => ?_)
    · have hd : L.drop at' = [] := List.drop_of_length_le (by omega)
      simp (maxSteps := 5000000) (disch := omega) only [g1, g2, g6, g8, g9, g10, hcS, MX, mO_b2, hr, V_P, SX, W_block, exitW, goInt, Int.reduceEq, setCells, oneOf, cellOk, reduceIte, Nat.reduceLT, Nat.reduceLeDiff, Nat.reduceEqDiff, Nat.reduceAdd, Nat.reduceSub, Nat.reduceMul, Int.reduceToNat, Int.reduceLT, Int.reduceLE, Int.reduceAdd, Int.reduceSub, implies_true, ne_eq, if_true, if_false, reduceCtorEq]
      exact ⟨⟨.new 0 0, false, rfl, by simp, fun _ => hbad (by rw [hd]; exact fill_none (by decide) (numB_empty _))⟩, hs.set hr (fun z => absurd z (Nat.lt_irrefl _))⟩
    · simp (maxSteps := 5000000) (disch := omega) only [g1, g2, g6, g8, g9, g10, hcS, V_P, SX, W_block, exitW, goInt, Int.reduceEq, setCells, oneOf, cellOk, reduceIte, Nat.reduceLT, Nat.reduceLeDiff, Nat.reduceEqDiff, Nat.reduceAdd, Nat.reduceSub, Nat.reduceMul, Int.reduceToNat, Int.reduceLT, Int.reduceLE, Int.reduceAdd, Int.reduceSub, implies_true, ne_eq, if_true, if_false, reduceCtorEq]
      have hlt1 : at' < L.length := by omega
      obtain ⟨j0, o1, e, hgc⟩ := row_at hrowK hlt1
      cases e
      have hs0 : L[at']? = some L[at'] := List.getElem?_eq_getElem hlt1
      have hsz := hsm.2 _ (List.getElem_mem hlt1)
      have hd := drop_cons hs0
      have ea : (at' : Int) + 0 = at' := Int.add_zero _
      generalize L[at'] = s at hgc hsz hd
      refine W_unroll ?_
      simp (maxSteps := 5000000) (disch := omega) only [g1, g2, g6, g8, g9, g10, hcS, hgc, ea, V_P, SX, W_block, exitW, goInt, Int.reduceEq, setCells, oneOf, cellOk, reduceIte, Nat.reduceLT, Nat.reduceLeDiff, Nat.reduceEqDiff, Nat.reduceAdd, Nat.reduceSub, Nat.reduceMul, Int.reduceToNat, Int.reduceLT, Int.reduceLE, Int.reduceAdd, Int.reduceSub, implies_true, ne_eq, if_true, if_false, reduceCtorEq]
      refine W_callR rfl (by simp (maxSteps := 5000000) (disch := omega) only [g1, g2, g6, g8, g9, g10, hcS, hgc, ea, V_P, SX, W_block, exitW, goInt, Int.reduceEq, setCells, oneOf, cellOk, reduceIte, Nat.reduceLT, Nat.reduceLeDiff, Nat.reduceEqDiff, Nat.reduceAdd, Nat.reduceSub, Nat.reduceMul, Int.reduceToNat, Int.reduceLT, Int.reduceLE, Int.reduceAdd, Int.reduceSub, implies_true, ne_eq, if_true, if_false, reduceCtorEq]) (ref_number s _ (by have : maxLen = 9223372036854775807 := rfl; omega)) ?_
      rintro v H4 ⟨rfl, e4⟩
      obtain rfl := e4.symm
      cases hnum : numB 9999999999 s with
      | none =>
        simp (maxSteps := 5000000) (disch := omega) only [g1, g2, g6, g8, g9, g10, hcS, hgc, ea, q112, q116, q115, q97, q108, MX, mO_b2, hr, V_P, SX, W_block, exitW, goInt, Int.reduceEq, setCells, oneOf, cellOk, reduceIte, Nat.reduceLT, Nat.reduceLeDiff, Nat.reduceEqDiff, Nat.reduceAdd, Nat.reduceSub, Nat.reduceMul, Int.reduceToNat, Int.reduceLT, Int.reduceLE, Int.reduceAdd, Int.reduceSub, implies_true, ne_eq, if_true, if_false, reduceCtorEq]
        exact ⟨⟨.new 0 0, false, rfl, by simp, fun _ => hbad (by rw [hd]; exact fill_none (by decide) (by cases h : numB 65535 s with | none => exact h | some x => exact absurd (num_le (b := 9999999999) h (by have := (numB_some h).2; omega)) (by rw [hnum]; simp)))⟩, hs.set hr (fun z => absurd z (Nat.lt_irrefl _))⟩
      | some x =>
        obtain ⟨_, hxle⟩ := numB_some hnum
        simp (maxSteps := 5000000) (disch := omega) only [g1, g2, g6, g8, g9, g10, hcS, hgc, ea, q112, q116, q115, q97, q108, MX, hq, V_P, SX, W_block, exitW, goInt, Int.reduceEq, setCells, oneOf, cellOk, reduceIte, Nat.reduceLT, Nat.reduceLeDiff, Nat.reduceEqDiff, Nat.reduceAdd, Nat.reduceSub, Nat.reduceMul, Int.reduceToNat, Int.reduceLT, Int.reduceLE, Int.reduceAdd, Int.reduceSub, implies_true, ne_eq, if_true, if_false, reduceCtorEq]
        refine cW_dec (fun hgt => ?_) (fun hgt => ?_)
        · simp (maxSteps := 5000000) (disch := omega) only [g1, g2, g6, g8, g9, g10, hcS, hgc, ea, q112, q116, q115, q97, q108, MX, mO_b2, hr, V_P, SX, W_block, exitW, goInt, Int.reduceEq, setCells, oneOf, cellOk, reduceIte, Nat.reduceLT, Nat.reduceLeDiff, Nat.reduceEqDiff, Nat.reduceAdd, Nat.reduceSub, Nat.reduceMul, Int.reduceToNat, Int.reduceLT, Int.reduceLE, Int.reduceAdd, Int.reduceSub, implies_true, ne_eq, if_true, if_false, reduceCtorEq]
          exact ⟨⟨.new 0 0, false, rfl, by simp, fun _ => hbad (by rw [hd]; exact fill_none (by decide) (show numB 65535 s = none from num_gt hnum (by omega)))⟩, hs.set hr (fun z => absurd z (Nat.lt_irrefl _))⟩
        · simp (maxSteps := 5000000) (disch := omega) only [g1, g2, g6, g8, g9, g10, hcS, hgc, ea, q112, q116, q115, q97, q108, MX, hq, V_P, SX, W_block, exitW, goInt, Int.reduceEq, setCells, oneOf, cellOk, reduceIte, Nat.reduceLT, Nat.reduceLeDiff, Nat.reduceEqDiff, Nat.reduceAdd, Nat.reduceSub, Nat.reduceMul, Int.reduceToNat, Int.reduceLT, Int.reduceLE, Int.reduceAdd, Int.reduceSub, implies_true, ne_eq, if_true, if_false, reduceCtorEq]
          have hs2 : Same H (K.set (H.next + 1) (mO (m.set 1 x))) [] := hs.set hq (fun z => absurd z (by omega))
          have hr2 : (K.set (H.next + 1) (mO (m.set 1 x))).get H.next = some (mO .zero) := by rw [Heap.get_set, if_neg (by omega)]; exact hr
          have hq2 : (K.set (H.next + 1) (mO (m.set 1 x))).get (H.next + 1) = some (mO (m.set 1 x)) := by rw [Heap.get_set, if_pos rfl]
          generalize K.set (H.next + 1) (mO (m.set 1 x)) = K5 at *
          refine W_unroll ?_
          simp (maxSteps := 5000000) (disch := omega) only [g1, g2, g6, g8, g9, g10, hcS, V_P, SX, W_block, exitW, goInt, Int.reduceEq, setCells, oneOf, cellOk, reduceIte, Nat.reduceLT, Nat.reduceLeDiff, Nat.reduceEqDiff, Nat.reduceAdd, Nat.reduceSub, Nat.reduceMul, Int.reduceToNat, Int.reduceLT, Int.reduceLE, Int.reduceAdd, Int.reduceSub, implies_true, ne_eq, if_true, if_false, reduceCtorEq]
          refine ⟨i + 1, ⟨at' + 1, m.set 1 x, by simp, by simp, by omega, hr2, hq2, hs2, by omega, hpan, hgood _ (by rw [hd]; exact fill_some (by decide) (show numB 65535 s = some x from num_le hnum (by omega)))⟩, by omega⟩
  · have hcl : cellsOf 115 = [2] := by decide
    rw [hcl] at hbad hgood
    have q112 : decide (((115 : UInt8).toNat : Int) = 112) = false := by decide
    have q116 : decide (((115 : UInt8).toNat : Int) = 116) = false := by decide
    have q115 : decide (((115 : UInt8).toNat : Int) = 115) = true := by decide
    have q97 : decide (((115 : UInt8).toNat : Int) = 97) = false := by decide
    have q108 : decide (((115 : UInt8).toNat : Int) = 108) = false := by decide
    simp (maxSteps := 5000000) (disch := omega) only [g1, g2, g6, g8, g9, g10, hcS, V_P, SX, W_block, exitW, goInt, Int.reduceEq, setCells, oneOf, cellOk, reduceIte, Nat.reduceLT, Nat.reduceLeDiff, Nat.reduceEqDiff, Nat.reduceAdd, Nat.reduceSub, Nat.reduceMul, Int.reduceToNat, Int.reduceLT, Int.reduceLE, Int.reduceAdd, Int.reduceSub, implies_true, ne_eq, if_true, if_false, reduceCtorEq]
    refine W_callR rfl (by simp (maxSteps := 5000000) (disch := omega) only [g1, g2, g6, g8, g9, g10, hcS, V_P, SX, W_block, exitW, goInt, Int.reduceEq, setCells, oneOf, cellOk, reduceIte, Nat.reduceLT, Nat.reduceLeDiff, Nat.reduceEqDiff, Nat.reduceAdd, Nat.reduceSub, Nat.reduceMul, Int.reduceToNat, Int.reduceLT, Int.reduceLE, Int.reduceAdd, Int.reduceSub, implies_true, ne_eq, if_true, if_false, reduceCtorEq]) (ref_hasG 115 _) ?_
    rintro v H3 ⟨rfl, e3⟩
    obtain rfl := e3.symm
    rw [show hasB [110, 114, 99, 100, 109] ((115 : UInt8).toNat : Int) = false by decide]
    simp (maxSteps := 5000000) (disch := omega) only [g1, g2, g6, g8, g9, g10, hcS, V_P, SX, W_block, exitW, goInt, Int.reduceEq, setCells, oneOf, cellOk, reduceIte, Nat.reduceLT, Nat.reduceLeDiff, Nat.reduceEqDiff, Nat.reduceAdd, Nat.reduceSub, Nat.reduceMul, Int.reduceToNat, Int.reduceLT, Int.reduceLE, Int.reduceAdd, Int.reduceSub, implies_true, ne_eq, if_true, if_false, reduceCtorEq]
    refine cW_dec (fun hx => ?_) (fun hx => ?_)
    · have hd : L.drop at' = [] := List.drop_of_length_le (by omega)
      simp (maxSteps := 5000000) (disch := omega) only [g1, g2, g6, g8, g9, g10, hcS, MX, mO_b2, hr, V_P, SX, W_block, exitW, goInt, Int.reduceEq, setCells, oneOf, cellOk, reduceIte, Nat.reduceLT, Nat.reduceLeDiff, Nat.reduceEqDiff, Nat.reduceAdd, Nat.reduceSub, Nat.reduceMul, Int.reduceToNat, Int.reduceLT, Int.reduceLE, Int.reduceAdd, Int.reduceSub, implies_true, ne_eq, if_true, if_false, reduceCtorEq]
      exact ⟨⟨.new 0 0, false, rfl, by simp, fun _ => hbad (by rw [hd]; exact fill_none (by decide) (numB_empty _))⟩, hs.set hr (fun z => absurd z (Nat.lt_irrefl _))⟩
    · simp (maxSteps := 5000000) (disch := omega) only [g1, g2, g6, g8, g9, g10, hcS, V_P, SX, W_block, exitW, goInt, Int.reduceEq, setCells, oneOf, cellOk, reduceIte, Nat.reduceLT, Nat.reduceLeDiff, Nat.reduceEqDiff, Nat.reduceAdd, Nat.reduceSub, Nat.reduceMul, Int.reduceToNat, Int.reduceLT, Int.reduceLE, Int.reduceAdd, Int.reduceSub, implies_true, ne_eq, if_true, if_false, reduceCtorEq]
      have hlt1 : at' < L.length := by omega
      obtain ⟨j0, o1, e, hgc⟩ := row_at hrowK hlt1
      cases e
      have hs0 : L[at']? = some L[at'] := List.getElem?_eq_getElem hlt1
      have hsz := hsm.2 _ (List.getElem_mem hlt1)
      have hd := drop_cons hs0
      have ea : (at' : Int) + 0 = at' := Int.add_zero _
      generalize L[at'] = s at hgc hsz hd
      refine W_unroll ?_
      simp (maxSteps := 5000000) (disch := omega) only [g1, g2, g6, g8, g9, g10, hcS, hgc, ea, V_P, SX, W_block, exitW, goInt, Int.reduceEq, setCells, oneOf, cellOk, reduceIte, Nat.reduceLT, Nat.reduceLeDiff, Nat.reduceEqDiff, Nat.reduceAdd, Nat.reduceSub, Nat.reduceMul, Int.reduceToNat, Int.reduceLT, Int.reduceLE, Int.reduceAdd, Int.reduceSub, implies_true, ne_eq, if_true, if_false, reduceCtorEq]
      refine W_callR rfl (by simp (maxSteps := 5000000) (disch := omega) only [g1, g2, g6, g8, g9, g10, hcS, hgc, ea, V_P, SX, W_block, exitW, goInt, Int.reduceEq, setCells, oneOf, cellOk, reduceIte, Nat.reduceLT, Nat.reduceLeDiff, Nat.reduceEqDiff, Nat.reduceAdd, Nat.reduceSub, Nat.reduceMul, Int.reduceToNat, Int.reduceLT, Int.reduceLE, Int.reduceAdd, Int.reduceSub, implies_true, ne_eq, if_true, if_false, reduceCtorEq]) (ref_number s _ (by have : maxLen = 9223372036854775807 := rfl; omega)) ?_
      rintro v H4 ⟨rfl, e4⟩
      obtain rfl := e4.symm
      cases hnum : numB 9999999999 s with
      | none =>
        simp (maxSteps := 5000000) (disch := omega) only [g1, g2, g6, g8, g9, g10, hcS, hgc, ea, q112, q116, q115, q97, q108, MX, mO_b2, hr, V_P, SX, W_block, exitW, goInt, Int.reduceEq, setCells, oneOf, cellOk, reduceIte, Nat.reduceLT, Nat.reduceLeDiff, Nat.reduceEqDiff, Nat.reduceAdd, Nat.reduceSub, Nat.reduceMul, Int.reduceToNat, Int.reduceLT, Int.reduceLE, Int.reduceAdd, Int.reduceSub, implies_true, ne_eq, if_true, if_false, reduceCtorEq]
        exact ⟨⟨.new 0 0, false, rfl, by simp, fun _ => hbad (by rw [hd]; exact fill_none (by decide) (by cases h : numB 999999 s with | none => exact h | some x => exact absurd (num_le (b := 9999999999) h (by have := (numB_some h).2; omega)) (by rw [hnum]; simp)))⟩, hs.set hr (fun z => absurd z (Nat.lt_irrefl _))⟩
      | some x =>
        obtain ⟨_, hxle⟩ := numB_some hnum
        simp (maxSteps := 5000000) (disch := omega) only [g1, g2, g6, g8, g9, g10, hcS, hgc, ea, q112, q116, q115, q97, q108, MX, hq, V_P, SX, W_block, exitW, goInt, Int.reduceEq, setCells, oneOf, cellOk, reduceIte, Nat.reduceLT, Nat.reduceLeDiff, Nat.reduceEqDiff, Nat.reduceAdd, Nat.reduceSub, Nat.reduceMul, Int.reduceToNat, Int.reduceLT, Int.reduceLE, Int.reduceAdd, Int.reduceSub, implies_true, ne_eq, if_true, if_false, reduceCtorEq]
        refine cW_dec (fun hgt => ?_) (fun hgt => ?_)
        · simp (maxSteps := 5000000) (disch := omega) only [g1, g2, g6, g8, g9, g10, hcS, hgc, ea, q112, q116, q115, q97, q108, MX, mO_b2, hr, V_P, SX, W_block, exitW, goInt, Int.reduceEq, setCells, oneOf, cellOk, reduceIte, Nat.reduceLT, Nat.reduceLeDiff, Nat.reduceEqDiff, Nat.reduceAdd, Nat.reduceSub, Nat.reduceMul, Int.reduceToNat, Int.reduceLT, Int.reduceLE, Int.reduceAdd, Int.reduceSub, implies_true, ne_eq, if_true, if_false, reduceCtorEq]
          exact ⟨⟨.new 0 0, false, rfl, by simp, fun _ => hbad (by rw [hd]; exact fill_none (by decide) (show numB 999999 s = none from num_gt hnum (by omega)))⟩, hs.set hr (fun z => absurd z (Nat.lt_irrefl _))⟩
        · simp (maxSteps := 5000000) (disch := omega) only [g1, g2, g6, g8, g9, g10, hcS, hgc, ea, q112, q116, q115, q97, q108, MX, hq, V_P, SX, W_block, exitW, goInt, Int.reduceEq, setCells, oneOf, cellOk, reduceIte, Nat.reduceLT, Nat.reduceLeDiff, Nat.reduceEqDiff, Nat.reduceAdd, Nat.reduceSub, Nat.reduceMul, Int.reduceToNat, Int.reduceLT, Int.reduceLE, Int.reduceAdd, Int.reduceSub, implies_true, ne_eq, if_true, if_false, reduceCtorEq]
          have hs2 : Same H (K.set (H.next + 1) (mO (m.set 2 x))) [] := hs.set hq (fun z => absurd z (by omega))
          have hr2 : (K.set (H.next + 1) (mO (m.set 2 x))).get H.next = some (mO .zero) := by rw [Heap.get_set, if_neg (by omega)]; exact hr
          have hq2 : (K.set (H.next + 1) (mO (m.set 2 x))).get (H.next + 1) = some (mO (m.set 2 x)) := by rw [Heap.get_set, if_pos rfl]
          generalize K.set (H.next + 1) (mO (m.set 2 x)) = K5 at *
          refine W_unroll ?_
          simp (maxSteps := 5000000) (disch := omega) only [g1, g2, g6, g8, g9, g10, hcS, V_P, SX, W_block, exitW, goInt, Int.reduceEq, setCells, oneOf, cellOk, reduceIte, Nat.reduceLT, Nat.reduceLeDiff, Nat.reduceEqDiff, Nat.reduceAdd, Nat.reduceSub, Nat.reduceMul, Int.reduceToNat, Int.reduceLT, Int.reduceLE, Int.reduceAdd, Int.reduceSub, implies_true, ne_eq, if_true, if_false, reduceCtorEq]
          refine ⟨i + 1, ⟨at' + 1, m.set 2 x, by simp, by simp, by omega, hr2, hq2, hs2, by omega, hpan, hgood _ (by rw [hd]; exact fill_some (by decide) (show numB 999999 s = some x from num_le hnum (by omega)))⟩, by omega⟩
  · have hcl : cellsOf 112 = [3] := by decide
    rw [hcl] at hbad hgood
    have q112 : decide (((112 : UInt8).toNat : Int) = 112) = true := by decide
    have q116 : decide (((112 : UInt8).toNat : Int) = 116) = false := by decide
    have q115 : decide (((112 : UInt8).toNat : Int) = 115) = false := by decide
    have q97 : decide (((112 : UInt8).toNat : Int) = 97) = false := by decide
    have q108 : decide (((112 : UInt8).toNat : Int) = 108) = false := by decide
    simp (maxSteps := 5000000) (disch := omega) only [g1, g2, g6, g8, g9, g10, hcS, V_P, SX, W_block, exitW, goInt, Int.reduceEq, setCells, oneOf, cellOk, reduceIte, Nat.reduceLT, Nat.reduceLeDiff, Nat.reduceEqDiff, Nat.reduceAdd, Nat.reduceSub, Nat.reduceMul, Int.reduceToNat, Int.reduceLT, Int.reduceLE, Int.reduceAdd, Int.reduceSub, implies_true, ne_eq, if_true, if_false, reduceCtorEq]
    refine W_callR rfl (by simp (maxSteps := 5000000) (disch := omega) only [g1, g2, g6, g8, g9, g10, hcS, V_P, SX, W_block, exitW, goInt, Int.reduceEq, setCells, oneOf, cellOk, reduceIte, Nat.reduceLT, Nat.reduceLeDiff, Nat.reduceEqDiff, Nat.reduceAdd, Nat.reduceSub, Nat.reduceMul, Int.reduceToNat, Int.reduceLT, Int.reduceLE, Int.reduceAdd, Int.reduceSub, implies_true, ne_eq, if_true, if_false, reduceCtorEq]) (ref_hasG 112 _) ?_
    rintro v H3 ⟨rfl, e3⟩
    obtain rfl := e3.symm
    rw [show hasB [110, 114, 99, 100, 109] ((112 : UInt8).toNat : Int) = false by decide]
    simp (maxSteps := 5000000) (disch := omega) only [g1, g2, g6, g8, g9, g10, hcS, V_P, SX, W_block, exitW, goInt, Int.reduceEq, setCells, oneOf, cellOk, reduceIte, Nat.reduceLT, Nat.reduceLeDiff, Nat.reduceEqDiff, Nat.reduceAdd, Nat.reduceSub, Nat.reduceMul, Int.reduceToNat, Int.reduceLT, Int.reduceLE, Int.reduceAdd, Int.reduceSub, implies_true, ne_eq, if_true, if_false, reduceCtorEq]
    refine cW_dec (fun hx => ?_) (fun hx => ?_)
    · have hd : L.drop at' = [] := List.drop_of_length_le (by omega)
      simp (maxSteps := 5000000) (disch := omega) only [g1, g2, g6, g8, g9, g10, hcS, MX, mO_b2, hr, V_P, SX, W_block, exitW, goInt, Int.reduceEq, setCells, oneOf, cellOk, reduceIte, Nat.reduceLT, Nat.reduceLeDiff, Nat.reduceEqDiff, Nat.reduceAdd, Nat.reduceSub, Nat.reduceMul, Int.reduceToNat, Int.reduceLT, Int.reduceLE, Int.reduceAdd, Int.reduceSub, implies_true, ne_eq, if_true, if_false, reduceCtorEq]
      exact ⟨⟨.new 0 0, false, rfl, by simp, fun _ => hbad (by rw [hd]; exact fill_pan0)⟩, hs.set hr (fun z => absurd z (Nat.lt_irrefl _))⟩
    · simp (maxSteps := 5000000) (disch := omega) only [g1, g2, g6, g8, g9, g10, hcS, V_P, SX, W_block, exitW, goInt, Int.reduceEq, setCells, oneOf, cellOk, reduceIte, Nat.reduceLT, Nat.reduceLeDiff, Nat.reduceEqDiff, Nat.reduceAdd, Nat.reduceSub, Nat.reduceMul, Int.reduceToNat, Int.reduceLT, Int.reduceLE, Int.reduceAdd, Int.reduceSub, implies_true, ne_eq, if_true, if_false, reduceCtorEq]
      have hlt1 : at' < L.length := by omega
      obtain ⟨j0, o1, e, hgc⟩ := row_at hrowK hlt1
      cases e
      have hs0 : L[at']? = some L[at'] := List.getElem?_eq_getElem hlt1
      have hsz := hsm.2 _ (List.getElem_mem hlt1)
      have hd := drop_cons hs0
      have ea : (at' : Int) + 0 = at' := Int.add_zero _
      generalize L[at'] = s at hgc hsz hd
      refine W_unroll ?_
      simp (maxSteps := 5000000) (disch := omega) only [g1, g2, g6, g8, g9, g10, hcS, hgc, ea, V_P, SX, W_block, exitW, goInt, Int.reduceEq, setCells, oneOf, cellOk, reduceIte, Nat.reduceLT, Nat.reduceLeDiff, Nat.reduceEqDiff, Nat.reduceAdd, Nat.reduceSub, Nat.reduceMul, Int.reduceToNat, Int.reduceLT, Int.reduceLE, Int.reduceAdd, Int.reduceSub, implies_true, ne_eq, if_true, if_false, reduceCtorEq]
      refine W_callR rfl (by simp (maxSteps := 5000000) (disch := omega) only [g1, g2, g6, g8, g9, g10, hcS, hgc, ea, V_P, SX, W_block, exitW, goInt, Int.reduceEq, setCells, oneOf, cellOk, reduceIte, Nat.reduceLT, Nat.reduceLeDiff, Nat.reduceEqDiff, Nat.reduceAdd, Nat.reduceSub, Nat.reduceMul, Int.reduceToNat, Int.reduceLT, Int.reduceLE, Int.reduceAdd, Int.reduceSub, implies_true, ne_eq, if_true, if_false, reduceCtorEq]) (ref_number s _ (by have : maxLen = 9223372036854775807 := rfl; omega)) ?_
      rintro v H4 ⟨rfl, e4⟩
      obtain rfl := e4.symm
      cases hnum : numB 9999999999 s with
      | none =>
        simp (maxSteps := 5000000) (disch := omega) only [g1, g2, g6, g8, g9, g10, hcS, hgc, ea, q112, q116, q115, q97, q108, MX, hq, V_P, SX, W_block, exitW, goInt, Int.reduceEq, setCells, oneOf, cellOk, reduceIte, Nat.reduceLT, Nat.reduceLeDiff, Nat.reduceEqDiff, Nat.reduceAdd, Nat.reduceSub, Nat.reduceMul, Int.reduceToNat, Int.reduceLT, Int.reduceLE, Int.reduceAdd, Int.reduceSub, implies_true, ne_eq, if_true, if_false, reduceCtorEq]
        have hs2 : Same H (K.set (H.next + 1) (mO (m.setPan s))) [] := hs.set hq (fun z => absurd z (by omega))
        have hr2 : (K.set (H.next + 1) (mO (m.setPan s))).get H.next = some (mO .zero) := by rw [Heap.get_set, if_neg (by omega)]; exact hr
        have hq2 : (K.set (H.next + 1) (mO (m.setPan s))).get (H.next + 1) = some (mO (m.setPan s)) := by rw [Heap.get_set, if_pos rfl]
        generalize K.set (H.next + 1) (mO (m.setPan s)) = K5 at *
        refine W_unroll ?_
        simp (maxSteps := 5000000) (disch := omega) only [g1, g2, g6, g8, g9, g10, hcS, V_P, SX, W_block, exitW, goInt, Int.reduceEq, setCells, oneOf, cellOk, reduceIte, Nat.reduceLT, Nat.reduceLeDiff, Nat.reduceEqDiff, Nat.reduceAdd, Nat.reduceSub, Nat.reduceMul, Int.reduceToNat, Int.reduceLT, Int.reduceLE, Int.reduceAdd, Int.reduceSub, implies_true, ne_eq, if_true, if_false, reduceCtorEq]
        refine ⟨i + 1, ⟨at' + 1, m.setPan s, by simp, by simp, by omega, hr2, hq2, hs2, by omega, hsz, hgood _ (by rw [hd]; exact fill_pan)⟩, by omega⟩
      | some x =>
        simp (maxSteps := 5000000) (disch := omega) only [g1, g2, g6, g8, g9, g10, hcS, hgc, ea, q112, q116, q115, q97, q108, MX, hq, V_P, SX, W_block, exitW, goInt, Int.reduceEq, setCells, oneOf, cellOk, reduceIte, Nat.reduceLT, Nat.reduceLeDiff, Nat.reduceEqDiff, Nat.reduceAdd, Nat.reduceSub, Nat.reduceMul, Int.reduceToNat, Int.reduceLT, Int.reduceLE, Int.reduceAdd, Int.reduceSub, implies_true, ne_eq, if_true, if_false, reduceCtorEq]
        have hs2 : Same H (K.set (H.next + 1) (mO (m.setPan s))) [] := hs.set hq (fun z => absurd z (by omega))
        have hr2 : (K.set (H.next + 1) (mO (m.setPan s))).get H.next = some (mO .zero) := by rw [Heap.get_set, if_neg (by omega)]; exact hr
        have hq2 : (K.set (H.next + 1) (mO (m.setPan s))).get (H.next + 1) = some (mO (m.setPan s)) := by rw [Heap.get_set, if_pos rfl]
        generalize K.set (H.next + 1) (mO (m.setPan s)) = K5 at *
        refine W_unroll ?_
        simp (maxSteps := 5000000) (disch := omega) only [g1, g2, g6, g8, g9, g10, hcS, V_P, SX, W_block, exitW, goInt, Int.reduceEq, setCells, oneOf, cellOk, reduceIte, Nat.reduceLT, Nat.reduceLeDiff, Nat.reduceEqDiff, Nat.reduceAdd, Nat.reduceSub, Nat.reduceMul, Int.reduceToNat, Int.reduceLT, Int.reduceLE, Int.reduceAdd, Int.reduceSub, implies_true, ne_eq, if_true, if_false, reduceCtorEq]
        refine ⟨i + 1, ⟨at' + 1, m.setPan s, by simp, by simp, by omega, hr2, hq2, hs2, by omega, hsz, hgood _ (by rw [hd]; exact fill_pan)⟩, by omega⟩
  · have hcl : cellsOf 97 = [4] := by decide
    rw [hcl] at hbad hgood
    have q112 : decide (((97 : UInt8).toNat : Int) = 112) = false := by decide
    have q116 : decide (((97 : UInt8).toNat : Int) = 116) = false := by decide
    have q115 : decide (((97 : UInt8).toNat : Int) = 115) = false := by decide
    have q97 : decide (((97 : UInt8).toNat : Int) = 97) = true := by decide
    have q108 : decide (((97 : UInt8).toNat : Int) = 108) = false := by decide
    simp (maxSteps := 5000000) (disch := omega) only [g1, g2, g6, g8, g9, g10, hcS, V_P, SX, W_block, exitW, goInt, Int.reduceEq, setCells, oneOf, cellOk, reduceIte, Nat.reduceLT, Nat.reduceLeDiff, Nat.reduceEqDiff, Nat.reduceAdd, Nat.reduceSub, Nat.reduceMul, Int.reduceToNat, Int.reduceLT, Int.reduceLE, Int.reduceAdd, Int.reduceSub, implies_true, ne_eq, if_true, if_false, reduceCtorEq]
    refine W_callR rfl (by simp (maxSteps := 5000000) (disch := omega) only [g1, g2, g6, g8, g9, g10, hcS, V_P, SX, W_block, exitW, goInt, Int.reduceEq, setCells, oneOf, cellOk, reduceIte, Nat.reduceLT, Nat.reduceLeDiff, Nat.reduceEqDiff, Nat.reduceAdd, Nat.reduceSub, Nat.reduceMul, Int.reduceToNat, Int.reduceLT, Int.reduceLE, Int.reduceAdd, Int.reduceSub, implies_true, ne_eq, if_true, if_false, reduceCtorEq]) (ref_hasG 97 _) ?_
    rintro v H3 ⟨rfl, e3⟩
    obtain rfl := e3.symm
    rw [show hasB [110, 114, 99, 100, 109] ((97 : UInt8).toNat : Int) = false by decide]
    simp (maxSteps := 5000000) (disch := omega) only [g1, g2, g6, g8, g9, g10, hcS, V_P, SX, W_block, exitW, goInt, Int.reduceEq, setCells, oneOf, cellOk, reduceIte, Nat.reduceLT, Nat.reduceLeDiff, Nat.reduceEqDiff, Nat.reduceAdd, Nat.reduceSub, Nat.reduceMul, Int.reduceToNat, Int.reduceLT, Int.reduceLE, Int.reduceAdd, Int.reduceSub, implies_true, ne_eq, if_true, if_false, reduceCtorEq]
    refine cW_dec (fun hx => ?_) (fun hx => ?_)
    · have hd : L.drop at' = [] := List.drop_of_length_le (by omega)
      simp (maxSteps := 5000000) (disch := omega) only [g1, g2, g6, g8, g9, g10, hcS, MX, mO_b2, hr, V_P, SX, W_block, exitW, goInt, Int.reduceEq, setCells, oneOf, cellOk, reduceIte, Nat.reduceLT, Nat.reduceLeDiff, Nat.reduceEqDiff, Nat.reduceAdd, Nat.reduceSub, Nat.reduceMul, Int.reduceToNat, Int.reduceLT, Int.reduceLE, Int.reduceAdd, Int.reduceSub, implies_true, ne_eq, if_true, if_false, reduceCtorEq]
      exact ⟨⟨.new 0 0, false, rfl, by simp, fun _ => hbad (by rw [hd]; exact fill_none (by decide) (numB_empty _))⟩, hs.set hr (fun z => absurd z (Nat.lt_irrefl _))⟩
    · simp (maxSteps := 5000000) (disch := omega) only [g1, g2, g6, g8, g9, g10, hcS, V_P, SX, W_block, exitW, goInt, Int.reduceEq, setCells, oneOf, cellOk, reduceIte, Nat.reduceLT, Nat.reduceLeDiff, Nat.reduceEqDiff, Nat.reduceAdd, Nat.reduceSub, Nat.reduceMul, Int.reduceToNat, Int.reduceLT, Int.reduceLE, Int.reduceAdd, Int.reduceSub, implies_true, ne_eq, if_true, if_false, reduceCtorEq]
      have hlt1 : at' < L.length := by omega
      obtain ⟨j0, o1, e, hgc⟩ := row_at hrowK hlt1
      cases e
      have hs0 : L[at']? = some L[at'] := List.getElem?_eq_getElem hlt1
      have hsz := hsm.2 _ (List.getElem_mem hlt1)
      have hd := drop_cons hs0
      have ea : (at' : Int) + 0 = at' := Int.add_zero _
      generalize L[at'] = s at hgc hsz hd
      refine W_unroll ?_
      simp (maxSteps := 5000000) (disch := omega) only [g1, g2, g6, g8, g9, g10, hcS, hgc, ea, V_P, SX, W_block, exitW, goInt, Int.reduceEq, setCells, oneOf, cellOk, reduceIte, Nat.reduceLT, Nat.reduceLeDiff, Nat.reduceEqDiff, Nat.reduceAdd, Nat.reduceSub, Nat.reduceMul, Int.reduceToNat, Int.reduceLT, Int.reduceLE, Int.reduceAdd, Int.reduceSub, implies_true, ne_eq, if_true, if_false, reduceCtorEq]
      refine W_callR rfl (by simp (maxSteps := 5000000) (disch := omega) only [g1, g2, g6, g8, g9, g10, hcS, hgc, ea, V_P, SX, W_block, exitW, goInt, Int.reduceEq, setCells, oneOf, cellOk, reduceIte, Nat.reduceLT, Nat.reduceLeDiff, Nat.reduceEqDiff, Nat.reduceAdd, Nat.reduceSub, Nat.reduceMul, Int.reduceToNat, Int.reduceLT, Int.reduceLE, Int.reduceAdd, Int.reduceSub, implies_true, ne_eq, if_true, if_false, reduceCtorEq]) (ref_number s _ (by have : maxLen = 9223372036854775807 := rfl; omega)) ?_
      rintro v H4 ⟨rfl, e4⟩
      obtain rfl := e4.symm
      cases hnum : numB 9999999999 s with
      | none =>
        simp (maxSteps := 5000000) (disch := omega) only [g1, g2, g6, g8, g9, g10, hcS, hgc, ea, q112, q116, q115, q97, q108, MX, mO_b2, hr, V_P, SX, W_block, exitW, goInt, Int.reduceEq, setCells, oneOf, cellOk, reduceIte, Nat.reduceLT, Nat.reduceLeDiff, Nat.reduceEqDiff, Nat.reduceAdd, Nat.reduceSub, Nat.reduceMul, Int.reduceToNat, Int.reduceLT, Int.reduceLE, Int.reduceAdd, Int.reduceSub, implies_true, ne_eq, if_true, if_false, reduceCtorEq]
        exact ⟨⟨.new 0 0, false, rfl, by simp, fun _ => hbad (by rw [hd]; exact fill_none (by decide) hnum)⟩, hs.set hr (fun z => absurd z (Nat.lt_irrefl _))⟩
      | some x =>
        obtain ⟨_, hxle⟩ := numB_some hnum
        simp (maxSteps := 5000000) (disch := omega) only [g1, g2, g6, g8, g9, g10, hcS, hgc, ea, q112, q116, q115, q97, q108, MX, hq, V_P, SX, W_block, exitW, goInt, Int.reduceEq, setCells, oneOf, cellOk, reduceIte, Nat.reduceLT, Nat.reduceLeDiff, Nat.reduceEqDiff, Nat.reduceAdd, Nat.reduceSub, Nat.reduceMul, Int.reduceToNat, Int.reduceLT, Int.reduceLE, Int.reduceAdd, Int.reduceSub, implies_true, ne_eq, if_true, if_false, reduceCtorEq]
        have hs2 : Same H (K.set (H.next + 1) (mO (m.set 4 x))) [] := hs.set hq (fun z => absurd z (by omega))
        have hr2 : (K.set (H.next + 1) (mO (m.set 4 x))).get H.next = some (mO .zero) := by rw [Heap.get_set, if_neg (by omega)]; exact hr
        have hq2 : (K.set (H.next + 1) (mO (m.set 4 x))).get (H.next + 1) = some (mO (m.set 4 x)) := by rw [Heap.get_set, if_pos rfl]
        generalize K.set (H.next + 1) (mO (m.set 4 x)) = K5 at *
        refine W_unroll ?_
        simp (maxSteps := 5000000) (disch := omega) only [g1, g2, g6, g8, g9, g10, hcS, V_P, SX, W_block, exitW, goInt, Int.reduceEq, setCells, oneOf, cellOk, reduceIte, Nat.reduceLT, Nat.reduceLeDiff, Nat.reduceEqDiff, Nat.reduceAdd, Nat.reduceSub, Nat.reduceMul, Int.reduceToNat, Int.reduceLT, Int.reduceLE, Int.reduceAdd, Int.reduceSub, implies_true, ne_eq, if_true, if_false, reduceCtorEq]
        refine ⟨i + 1, ⟨at' + 1, m.set 4 x, by simp, by simp, by omega, hr2, hq2, hs2, by omega, hpan, hgood _ (by rw [hd]; exact fill_some (by decide) hnum)⟩, by omega⟩
  · have hcl : cellsOf 108 = [21] := by decide
    rw [hcl] at hbad hgood
    have q112 : decide (((108 : UInt8).toNat : Int) = 112) = false := by decide
    have q116 : decide (((108 : UInt8).toNat : Int) = 116) = false := by decide
    have q115 : decide (((108 : UInt8).toNat : Int) = 115) = false := by decide
    have q97 : decide (((108 : UInt8).toNat : Int) = 97) = false := by decide
    have q108 : decide (((108 : UInt8).toNat : Int) = 108) = true := by decide
    simp (maxSteps := 5000000) (disch := omega) only [g1, g2, g6, g8, g9, g10, hcS, V_P, SX, W_block, exitW, goInt, Int.reduceEq, setCells, oneOf, cellOk, reduceIte, Nat.reduceLT, Nat.reduceLeDiff, Nat.reduceEqDiff, Nat.reduceAdd, Nat.reduceSub, Nat.reduceMul, Int.reduceToNat, Int.reduceLT, Int.reduceLE, Int.reduceAdd, Int.reduceSub, implies_true, ne_eq, if_true, if_false, reduceCtorEq]
    refine W_callR rfl (by simp (maxSteps := 5000000) (disch := omega) only [g1, g2, g6, g8, g9, g10, hcS, V_P, SX, W_block, exitW, goInt, Int.reduceEq, setCells, oneOf, cellOk, reduceIte, Nat.reduceLT, Nat.reduceLeDiff, Nat.reduceEqDiff, Nat.reduceAdd, Nat.reduceSub, Nat.reduceMul, Int.reduceToNat, Int.reduceLT, Int.reduceLE, Int.reduceAdd, Int.reduceSub, implies_true, ne_eq, if_true, if_false, reduceCtorEq]) (ref_hasG 108 _) ?_
    rintro v H3 ⟨rfl, e3⟩
    obtain rfl := e3.symm
    rw [show hasB [110, 114, 99, 100, 109] ((108 : UInt8).toNat : Int) = false by decide]
    simp (maxSteps := 5000000) (disch := omega) only [g1, g2, g6, g8, g9, g10, hcS, V_P, SX, W_block, exitW, goInt, Int.reduceEq, setCells, oneOf, cellOk, reduceIte, Nat.reduceLT, Nat.reduceLeDiff, Nat.reduceEqDiff, Nat.reduceAdd, Nat.reduceSub, Nat.reduceMul, Int.reduceToNat, Int.reduceLT, Int.reduceLE, Int.reduceAdd, Int.reduceSub, implies_true, ne_eq, if_true, if_false, reduceCtorEq]
    refine cW_dec (fun hx => ?_) (fun hx => ?_)
    · have hd : L.drop at' = [] := List.drop_of_length_le (by omega)
      simp (maxSteps := 5000000) (disch := omega) only [g1, g2, g6, g8, g9, g10, hcS, MX, mO_b2, hr, V_P, SX, W_block, exitW, goInt, Int.reduceEq, setCells, oneOf, cellOk, reduceIte, Nat.reduceLT, Nat.reduceLeDiff, Nat.reduceEqDiff, Nat.reduceAdd, Nat.reduceSub, Nat.reduceMul, Int.reduceToNat, Int.reduceLT, Int.reduceLE, Int.reduceAdd, Int.reduceSub, implies_true, ne_eq, if_true, if_false, reduceCtorEq]
      exact ⟨⟨.new 0 0, false, rfl, by simp, fun _ => hbad (by rw [hd]; exact fill_none (by decide) (numB_empty _))⟩, hs.set hr (fun z => absurd z (Nat.lt_irrefl _))⟩
    · simp (maxSteps := 5000000) (disch := omega) only [g1, g2, g6, g8, g9, g10, hcS, V_P, SX, W_block, exitW, goInt, Int.reduceEq, setCells, oneOf, cellOk, reduceIte, Nat.reduceLT, Nat.reduceLeDiff, Nat.reduceEqDiff, Nat.reduceAdd, Nat.reduceSub, Nat.reduceMul, Int.reduceToNat, Int.reduceLT, Int.reduceLE, Int.reduceAdd, Int.reduceSub, implies_true, ne_eq, if_true, if_false, reduceCtorEq]
      have hlt1 : at' < L.length := by omega
      obtain ⟨j0, o1, e, hgc⟩ := row_at hrowK hlt1
      cases e
      have hs0 : L[at']? = some L[at'] := List.getElem?_eq_getElem hlt1
      have hsz := hsm.2 _ (List.getElem_mem hlt1)
      have hd := drop_cons hs0
      have ea : (at' : Int) + 0 = at' := Int.add_zero _
      generalize L[at'] = s at hgc hsz hd
      refine W_unroll ?_
      simp (maxSteps := 5000000) (disch := omega) only [g1, g2, g6, g8, g9, g10, hcS, hgc, ea, V_P, SX, W_block, exitW, goInt, Int.reduceEq, setCells, oneOf, cellOk, reduceIte, Nat.reduceLT, Nat.reduceLeDiff, Nat.reduceEqDiff, Nat.reduceAdd, Nat.reduceSub, Nat.reduceMul, Int.reduceToNat, Int.reduceLT, Int.reduceLE, Int.reduceAdd, Int.reduceSub, implies_true, ne_eq, if_true, if_false, reduceCtorEq]
      refine W_callR rfl (by simp (maxSteps := 5000000) (disch := omega) only [g1, g2, g6, g8, g9, g10, hcS, hgc, ea, V_P, SX, W_block, exitW, goInt, Int.reduceEq, setCells, oneOf, cellOk, reduceIte, Nat.reduceLT, Nat.reduceLeDiff, Nat.reduceEqDiff, Nat.reduceAdd, Nat.reduceSub, Nat.reduceMul, Int.reduceToNat, Int.reduceLT, Int.reduceLE, Int.reduceAdd, Int.reduceSub, implies_true, ne_eq, if_true, if_false, reduceCtorEq]) (ref_number s _ (by have : maxLen = 9223372036854775807 := rfl; omega)) ?_
      rintro v H4 ⟨rfl, e4⟩
      obtain rfl := e4.symm
      cases hnum : numB 9999999999 s with
      | none =>
        simp (maxSteps := 5000000) (disch := omega) only [g1, g2, g6, g8, g9, g10, hcS, hgc, ea, q112, q116, q115, q97, q108, MX, mO_b2, hr, V_P, SX, W_block, exitW, goInt, Int.reduceEq, setCells, oneOf, cellOk, reduceIte, Nat.reduceLT, Nat.reduceLeDiff, Nat.reduceEqDiff, Nat.reduceAdd, Nat.reduceSub, Nat.reduceMul, Int.reduceToNat, Int.reduceLT, Int.reduceLE, Int.reduceAdd, Int.reduceSub, implies_true, ne_eq, if_true, if_false, reduceCtorEq]
        exact ⟨⟨.new 0 0, false, rfl, by simp, fun _ => hbad (by rw [hd]; exact fill_none (by decide) hnum)⟩, hs.set hr (fun z => absurd z (Nat.lt_irrefl _))⟩
      | some x =>
        obtain ⟨_, hxle⟩ := numB_some hnum
        simp (maxSteps := 5000000) (disch := omega) only [g1, g2, g6, g8, g9, g10, hcS, hgc, ea, q112, q116, q115, q97, q108, MX, hq, V_P, SX, W_block, exitW, goInt, Int.reduceEq, setCells, oneOf, cellOk, reduceIte, Nat.reduceLT, Nat.reduceLeDiff, Nat.reduceEqDiff, Nat.reduceAdd, Nat.reduceSub, Nat.reduceMul, Int.reduceToNat, Int.reduceLT, Int.reduceLE, Int.reduceAdd, Int.reduceSub, implies_true, ne_eq, if_true, if_false, reduceCtorEq]
        have hs2 : Same H (K.set (H.next + 1) (mO (m.set 21 x))) [] := hs.set hq (fun z => absurd z (by omega))
        have hr2 : (K.set (H.next + 1) (mO (m.set 21 x))).get H.next = some (mO .zero) := by rw [Heap.get_set, if_neg (by omega)]; exact hr
        have hq2 : (K.set (H.next + 1) (mO (m.set 21 x))).get (H.next + 1) = some (mO (m.set 21 x)) := by rw [Heap.get_set, if_pos rfl]
        generalize K.set (H.next + 1) (mO (m.set 21 x)) = K5 at *
        refine W_unroll ?_
        simp (maxSteps := 5000000) (disch := omega) only [g1, g2, g6, g8, g9, g10, hcS, V_P, SX, W_block, exitW, goInt, Int.reduceEq, setCells, oneOf, cellOk, reduceIte, Nat.reduceLT, Nat.reduceLeDiff, Nat.reduceEqDiff, Nat.reduceAdd, Nat.reduceSub, Nat.reduceMul, Int.reduceToNat, Int.reduceLT, Int.reduceLE, Int.reduceAdd, Int.reduceSub, implies_true, ne_eq, if_true, if_false, reduceCtorEq]
        refine ⟨i + 1, ⟨at' + 1, m.set 21 x, by simp, by simp, by omega, hr2, hq2, hs2, by omega, hpan, hgood _ (by rw [hd]; exact fill_some (by decide) hnum)⟩, by omega⟩
  · have hgr : 5 ≤ grp g ∧ grp g + 3 ≤ 25 := by unfold grp; (repeat' split) <;> omega
    have hcl : cellsOf (lett g) = [grp g, grp g + 1, grp g + 2, grp g + 3] := by
      rcases (show g = 0 ∨ g = 1 ∨ g = 2 ∨ g = 3 ∨ g = 4 by omega) with rfl | rfl | rfl | rfl | rfl <;> decide
    have hha : hasB [110, 114, 99, 100, 109] ((lett g).toNat : Int) = true := by
      rcases (show g = 0 ∨ g = 1 ∨ g = 2 ∨ g = 3 ∨ g = 4 by omega) with rfl | rfl | rfl | rfl | rfl <;> decide
    obtain ⟨n116, n115, n112, n97, n108⟩ := lett_ne hg
    have q112 : decide (((lett g).toNat : Int) = 112) = false := decide_eq_false n112
    have q116 : decide (((lett g).toNat : Int) = 116) = false := decide_eq_false n116
    have q115 : decide (((lett g).toNat : Int) = 115) = false := decide_eq_false n115
    have q97 : decide (((lett g).toNat : Int) = 97) = false := decide_eq_false n97
    have q108 : decide (((lett g).toNat : Int) = 108) = false := decide_eq_false n108
    rw [hcl] at hbad hgood
    simp (maxSteps := 5000000) (disch := omega) only [g1, g2, g6, g8, g9, g10, hcS, V_P, SX, W_block, exitW, goInt, Int.reduceEq, setCells, oneOf, cellOk, reduceIte, Nat.reduceLT, Nat.reduceLeDiff, Nat.reduceEqDiff, Nat.reduceAdd, Nat.reduceSub, Nat.reduceMul, Int.reduceToNat, Int.reduceLT, Int.reduceLE, Int.reduceAdd, Int.reduceSub, implies_true, ne_eq, if_true, if_false, reduceCtorEq]
    refine W_callR rfl (by simp (maxSteps := 5000000) (disch := omega) only [g1, g2, g6, g8, g9, g10, hcS, V_P, SX, W_block, exitW, goInt, Int.reduceEq, setCells, oneOf, cellOk, reduceIte, Nat.reduceLT, Nat.reduceLeDiff, Nat.reduceEqDiff, Nat.reduceAdd, Nat.reduceSub, Nat.reduceMul, Int.reduceToNat, Int.reduceLT, Int.reduceLE, Int.reduceAdd, Int.reduceSub, implies_true, ne_eq, if_true, if_false, reduceCtorEq]) (ref_hasG (lett g) _) ?_
    rintro v H3 ⟨rfl, e3⟩
    obtain rfl := e3.symm
    rw [hha]
    simp (maxSteps := 5000000) (disch := omega) only [g1, g2, g6, g8, g9, g10, hcS, V_P, SX, W_block, exitW, goInt, Int.reduceEq, setCells, oneOf, cellOk, reduceIte, Nat.reduceLT, Nat.reduceLeDiff, Nat.reduceEqDiff, Nat.reduceAdd, Nat.reduceSub, Nat.reduceMul, Int.reduceToNat, Int.reduceLT, Int.reduceLE, Int.reduceAdd, Int.reduceSub, implies_true, ne_eq, if_true, if_false, reduceCtorEq]
    refine cW_dec (fun hx => ?_) (fun hx => ?_)
    · simp (maxSteps := 5000000) (disch := omega) only [g1, g2, g6, g8, g9, g10, hcS, MX, mO_b2, hr, V_P, SX, W_block, exitW, goInt, Int.reduceEq, setCells, oneOf, cellOk, reduceIte, Nat.reduceLT, Nat.reduceLeDiff, Nat.reduceEqDiff, Nat.reduceAdd, Nat.reduceSub, Nat.reduceMul, Int.reduceToNat, Int.reduceLT, Int.reduceLE, Int.reduceAdd, Int.reduceSub, implies_true, ne_eq, if_true, if_false, reduceCtorEq]
      exact ⟨⟨.new 0 0, false, rfl, by simp, fun _ => hbad (fill_few _ _ _ (by intro j hj; simp at hj; omega) (by rw [List.length_drop]; simp; omega))⟩, hs.set hr (fun z => absurd z (Nat.lt_irrefl _))⟩
    simp (maxSteps := 5000000) (disch := omega) only [g1, g2, g6, g8, g9, g10, hcS, V_P, SX, W_block, exitW, goInt, Int.reduceEq, setCells, oneOf, cellOk, reduceIte, Nat.reduceLT, Nat.reduceLeDiff, Nat.reduceEqDiff, Nat.reduceAdd, Nat.reduceSub, Nat.reduceMul, Int.reduceToNat, Int.reduceLT, Int.reduceLE, Int.reduceAdd, Int.reduceSub, implies_true, ne_eq, if_true, if_false, reduceCtorEq]
    have hatL : at' + 4 ≤ L.length := by omega
    refine W_for (fun (k : Nat) t K => ∃ mk : Msg, t.get 1 = some (.string (S lt)) ∧ t.get 2 = some (.slice (some ⟨i0, o, none⟩) L.length c) ∧ t.get 6 = some (.pointer (some ⟨H.next, 0, none⟩)) ∧ t.get 8 = some (.pointer (some ⟨H.next + 1, 0, none⟩)) ∧ t.get 9 = some (.int .i64 at') ∧ t.get 10 = some (.int .i64 i) ∧ t.get 11 = some (.int .i64 4) ∧ t.get 12 = some (.int .i64 k) ∧ k ≤ 4 ∧ K.get H.next = some (mO .zero) ∧ K.get (H.next + 1) = some (mO mk) ∧ Same H K [] ∧ mk.pan.size ≤ 1000000 ∧ fillM bndR ((List.range k).map (grp g + ·)) (L.drop at') m = some (mk, L.drop (at' + k))) (fun k => 4 - k) 0 ?_ ?_
    · simp (maxSteps := 5000000) (disch := omega) only [g1, g2, g6, g8, g9, g10, V_P, SX, W_block, exitW, goInt, Int.reduceEq, setCells, oneOf, cellOk, reduceIte, Nat.reduceLT, Nat.reduceLeDiff, Nat.reduceEqDiff, Nat.reduceAdd, Nat.reduceSub, Nat.reduceMul, Int.reduceToNat, Int.reduceLT, Int.reduceLE, Int.reduceAdd, Int.reduceSub, implies_true, ne_eq, if_true, if_false, reduceCtorEq]
      exact ⟨m, rfl, hr, hq, hs, hpan, rfl⟩
    rintro k t K ⟨mk, g1, g2, g6, g8, g9, g10, g11, g12, hk4, hr, hq, hs, hpan, hfk⟩
    simp (maxSteps := 5000000) (disch := omega) only [g1, g2, g6, g8, g9, g10, g11, g12, V_P, SX, W_block, exitW, goInt, Int.reduceEq, setCells, oneOf, cellOk, reduceIte, Nat.reduceLT, Nat.reduceLeDiff, Nat.reduceEqDiff, Nat.reduceAdd, Nat.reduceSub, Nat.reduceMul, Int.reduceToNat, Int.reduceLT, Int.reduceLE, Int.reduceAdd, Int.reduceSub, implies_true, ne_eq, if_true, if_false, reduceCtorEq]
    refine cW_dec (fun hlt4 => ?_) (fun hlt4 => ?_)
    rotate_left
    · obtain rfl : k = 4 := by omega
      simp (maxSteps := 5000000) (disch := omega) only [g1, g2, g6, g8, g9, g10, g11, g12, V_P, SX, W_block, exitW, goInt, Int.reduceEq, setCells, oneOf, cellOk, reduceIte, Nat.reduceLT, Nat.reduceLeDiff, Nat.reduceEqDiff, Nat.reduceAdd, Nat.reduceSub, Nat.reduceMul, Int.reduceToNat, Int.reduceLT, Int.reduceLE, Int.reduceAdd, Int.reduceSub, implies_true, ne_eq, if_true, if_false, reduceCtorEq]
      refine ⟨i + 1, ⟨at' + 4, mk, by simp, by simp, by omega, hr, hq, hs, by omega, hpan, hgood _ hfk⟩, by omega⟩
    have hk5 : k < 4 := by omega
    have hrowK := hrow.mono ok hs (by simp)
    have hqn : H.next < K.next := hs.ok.lt hr
    have hqn1 : H.next + 1 < K.next := hs.ok.lt hq
    obtain ⟨rest, hsplit⟩ : ∃ rest, [grp g, grp g + 1, grp g + 2, grp g + 3] = (List.range k).map (grp g + ·) ++ (grp g + k) :: rest := by
      rcases (show k = 0 ∨ k = 1 ∨ k = 2 ∨ k = 3 by omega) with rfl | rfl | rfl | rfl <;> exact ⟨_, rfl⟩
    have hbR : bndR (grp g + k) = 9999999999 := by unfold bndR; rw [if_neg (by omega), if_neg (by omega)]
    have hput : ∀ (H : Heap) (i : Nat) (v : Int), pcV H i (grp g + k) [.int .i64 v] (some (mO mk)) = some (H.set i (mO (mk.set (grp g + k) v))) := fun H i v => mO_pj (by omega)
    have hlt1 : at' + k < L.length := by omega
    obtain ⟨j0, o1, e, hgc⟩ := row_at hrowK hlt1
    cases e
    have hs0 : L[at' + k]? = some L[at' + k] := List.getElem?_eq_getElem hlt1
    have hsz := hsm.2 _ (List.getElem_mem hlt1)
    have hd := drop_cons hs0
    have ea : (at' : Int) + (k : Int) = ((at' + k : Nat) : Int) := rfl
    generalize L[at' + k] = s at hgc hsz hd
    simp (maxSteps := 5000000) (disch := omega) only [g1, g2, g6, g8, g9, g10, g11, g12, hcS, hgc, ea, V_P, SX, W_block, exitW, goInt, Int.reduceEq, setCells, oneOf, cellOk, reduceIte, Nat.reduceLT, Nat.reduceLeDiff, Nat.reduceEqDiff, Nat.reduceAdd, Nat.reduceSub, Nat.reduceMul, Int.reduceToNat, Int.reduceLT, Int.reduceLE, Int.reduceAdd, Int.reduceSub, implies_true, ne_eq, if_true, if_false, reduceCtorEq]
    refine W_callR rfl (by simp (maxSteps := 5000000) (disch := omega) only [g1, g2, g6, g8, g9, g10, g11, g12, hcS, hgc, ea, V_P, SX, W_block, exitW, goInt, Int.reduceEq, setCells, oneOf, cellOk, reduceIte, Nat.reduceLT, Nat.reduceLeDiff, Nat.reduceEqDiff, Nat.reduceAdd, Nat.reduceSub, Nat.reduceMul, Int.reduceToNat, Int.reduceLT, Int.reduceLE, Int.reduceAdd, Int.reduceSub, implies_true, ne_eq, if_true, if_false, reduceCtorEq]) (ref_number s _ (by have : maxLen = 9223372036854775807 := rfl; omega)) ?_
    rintro v H4 ⟨rfl, e4⟩
    obtain rfl := e4.symm
    cases hnum : numB 9999999999 s with
    | none =>
      simp (maxSteps := 5000000) (disch := omega) only [g1, g2, g6, g8, g9, g10, g11, g12, hcS, hgc, ea, q112, q116, q115, q97, q108, MX, mO_b2, hr, V_P, SX, W_block, exitW, goInt, Int.reduceEq, setCells, oneOf, cellOk, reduceIte, Nat.reduceLT, Nat.reduceLeDiff, Nat.reduceEqDiff, Nat.reduceAdd, Nat.reduceSub, Nat.reduceMul, Int.reduceToNat, Int.reduceLT, Int.reduceLE, Int.reduceAdd, Int.reduceSub, implies_true, ne_eq, if_true, if_false, reduceCtorEq]
      refine ⟨⟨.new 0 0, false, rfl, by simp, fun _ => hbad ?_⟩, hs.set hr (fun z => absurd z (Nat.lt_irrefl _))⟩
      rw [hsplit, fill_append, hfk]
      exact fill_none (by omega) (by rw [hd, hbR]; exact hnum)
    | some x =>
      obtain ⟨_, hxle⟩ := numB_some hnum
      simp (maxSteps := 5000000) (disch := omega) only [g1, g2, g6, g8, g9, g10, g11, g12, hcS, hgc, ea, q112, q116, q115, q97, q108, V_P, SX, W_block, exitW, goInt, Int.reduceEq, setCells, oneOf, cellOk, reduceIte, Nat.reduceLT, Nat.reduceLeDiff, Nat.reduceEqDiff, Nat.reduceAdd, Nat.reduceSub, Nat.reduceMul, Int.reduceToNat, Int.reduceLT, Int.reduceLE, Int.reduceAdd, Int.reduceSub, implies_true, ne_eq, if_true, if_false, reduceCtorEq]
      refine W_callR rfl (by simp (maxSteps := 5000000) (disch := omega) only [g1, g2, g6, g8, g9, g10, g11, g12, hcS, hgc, ea, q112, q116, q115, q97, q108, V_P, SX, W_block, exitW, goInt, Int.reduceEq, setCells, oneOf, cellOk, reduceIte, Nat.reduceLT, Nat.reduceLeDiff, Nat.reduceEqDiff, Nat.reduceAdd, Nat.reduceSub, Nat.reduceMul, Int.reduceToNat, Int.reduceLT, Int.reduceLE, Int.reduceAdd, Int.reduceSub, implies_true, ne_eq, if_true, if_false, reduceCtorEq]) (ref_notes (H.next + 1) g hg _) ?_
      rintro v H5 ⟨rfl, e5⟩
      obtain rfl := e5.symm
      simp (maxSteps := 5000000) (disch := omega) only [g1, g2, g6, g8, g9, g10, g11, g12, hcS, hgc, ea, q112, q116, q115, q97, q108, hq, hput, V_P, SX, W_block, exitW, goInt, Int.reduceEq, setCells, oneOf, cellOk, reduceIte, Nat.reduceLT, Nat.reduceLeDiff, Nat.reduceEqDiff, Nat.reduceAdd, Nat.reduceSub, Nat.reduceMul, Int.reduceToNat, Int.reduceLT, Int.reduceLE, Int.reduceAdd, Int.reduceSub, implies_true, ne_eq, if_true, if_false, reduceCtorEq]
      refine ⟨k + 1, ⟨mk.set (grp g + k) x, by simp, by omega, hr, rfl, hs.set hq (fun z => absurd z (by omega)), hpan, ?_⟩, by omega⟩
      rw [List.range_succ, List.map_append, fill_append, hfk]
      simp only [Option.bind_some, List.map_cons, List.map_nil]
      rw [fill_some (k := x) (by omega) (by rw [hd, hbR]; exact hnum), hd]
      rfl
end Go.B.YteigefgobkdmgaaDoor
/- The document's Read. -/
namespace Go.B.YteigefgobkdmgaaDoor
open Go Go.B Go.Proofs
set_option maxRecDepth 100000
set_option maxHeartbeats 16000000
set_option linter.unusedSimpArgs false
set_option linter.unusedVariables false
theorem kindOf_none {s : ByteArray} (h : ∀ j : Int, 1 ≤ j ∧ j ≤ 7 → s ≠ kindS j) : kindOf s = 0 := by
  unfold kindOf
  rw [if_neg (h 1 (by decide)), if_neg (h 2 (by decide)), if_neg (h 3 (by decide)), if_neg (h 4 (by decide)), if_neg (h 5 (by decide)), if_neg (h 6 (by decide)), if_neg (h 7 (by decide))]
theorem read_none0 {p0 : ByteArray} {qs : List ByteArray} (h : ∀ j : Int, 1 ≤ j ∧ j ≤ 7 → p0 ≠ kindS j) : readB bnd (p0 :: qs) = none := by
  rw [read_is (ps := p0 :: qs) (m := .new 0 0) (l := []) (bad := true) (kk := 0) (kindOf_none h) (fun z => absurd rfl z) rfl]
  rw [if_neg (fun z => by cases z.1)]
theorem read_some {k : Int} (hk : 1 ≤ k ∧ k ≤ 7) {qs : List ByteArray} {m : Msg} (hf : fillM bndR (slots k) qs (.new k 0) = some (m, [])) : readB bndR (kindS k :: qs) = if m.right = true then some m else none := by
  unfold readB
  rw [List.headD_cons, List.tail_cons, kindOf_kind hk, hf]
theorem read_no {k : Int} (hk : 1 ≤ k ∧ k ≤ 7) {qs : List ByteArray} (hf : ∀ m, fillM bndR (slots k) qs (.new k 0) ≠ some (m, [])) : readB bndR (kindS k :: qs) = none := by
  unfold readB
  rw [List.headD_cons, List.tail_cons, kindOf_kind hk]
  split
  · rename_i m h; exact absurd h (hf m)
  · rfl
theorem ref_Read (y : List UInt8) (b : Option Addr) (c : Nat) (H : Heap) (ok : Ok H) (hy : BRow H b c y) (hl : y.length ≤ 100000) :
    ∃ v H', Ca V 15 #[.slice b y.length c] H v H' ∧ v = (match readB bnd ((sp y).map S) with | some m => .tuple #[.agg m.cells.toArray, .int .i64 0] | none => .tuple #[.agg Msg.zero.cells.toArray, .int .i64 23]) ∧ Same H H' [] := by
  have okn : ∀ a, H.next ≤ a → H.get a = none := ok
  refine Ca_run rfl tab_15 rfl ?_
  simp (maxSteps := 5000000) (disch := omega) only [Tryd.f15, MX, V_P, SX, W_block, exitW, goInt, Int.reduceEq, setCells, oneOf, cellOk, reduceIte, Nat.reduceLT, Nat.reduceLeDiff, Nat.reduceEqDiff, Nat.reduceAdd, Nat.reduceSub, Nat.reduceMul, Int.reduceToNat, Int.reduceLT, Int.reduceLE, Int.reduceAdd, Int.reduceSub, implies_true, ne_eq, if_true, if_false, reduceCtorEq]
  refine W_callR rfl (by simp (maxSteps := 5000000) (disch := omega) only [MX, V_P, SX, W_block, exitW, goInt, Int.reduceEq, setCells, oneOf, cellOk, reduceIte, Nat.reduceLT, Nat.reduceLeDiff, Nat.reduceEqDiff, Nat.reduceAdd, Nat.reduceSub, Nat.reduceMul, Int.reduceToNat, Int.reduceLT, Int.reduceLE, Int.reduceAdd, Int.reduceSub, implies_true, ne_eq, if_true, if_false, reduceCtorEq]) (ref_Split y b c _ (ok.push _) (hy.keep ok ((Same.refl ok).push _)) (by omega)) ?_
  rintro v K ⟨⟨i, hi, rfl, hgi⟩, hsK⟩
  have hr0 : K.get H.next = some (mO .zero) := by rw [hsK.get _ (by rw [Heap.next_push]; omega) (by simp), Heap.get_push, if_pos rfl]
  have hsK0 : Same H K [] := (by repeat (first | exact Same.same ok | refine Same.push ?_ _ | refine Same.room ?_ _ | (refine Same.make ?_ (by (try simp only [Heap.next_push, Heap.next_set, Heap.next_room]); omega) (by (try simp only [Heap.next_push, Heap.next_set, Heap.next_room]); omega)) | (refine Same.put ?_ (by simp (disch := omega) only [Heap.get_pushH, Heap.get_setH, hite_same, hite_ne, hite_eq, Heap.get_room, Heap.next_push, Heap.next_set, Heap.next_room, Option.isSome_some, *]) (fun z => by first | (simp; done) | (exfalso; (try simp only [Heap.next_push, Heap.next_set, Heap.next_room] at z); omega)))) : Same H (H.push (mO .zero)) []).trans hsK (by simp)
  rw [Heap.next_push] at hi
  have hpsN : (sp y).map S ≠ [] := by simpa using sp_ne y
  have hpsS : ((sp y).map S).length ≤ 1000000 ∧ ∀ s ∈ (sp y).map S, s.size ≤ 1000000 := by
    refine ⟨by rw [List.length_map]; have := sp_length y; omega, fun s hs => ?_⟩
    obtain ⟨a, ha, rfl⟩ := List.mem_map.mp hs
    have := sp_part y a ha
    show a.length ≤ _
    omega
  generalize (sp y).map S = ps at *
  obtain ⟨p0, qs, rfl⟩ : ∃ p0 qs, ps = p0 :: qs := by
    cases ps with
    | nil => exact absurd rfl hpsN
    | cons a r => exact ⟨a, r, rfl⟩
  have hz : (Msg.new 0 0).cells = Msg.zero.cells := rfl
  have hqsS : qs.length ≤ 1000000 ∧ ∀ s ∈ qs, s.size ≤ 1000000 := ⟨by have := hpsS.1; simp at this; omega, fun s hs => hpsS.2 s (by simp [hs])⟩
  simp (maxSteps := 5000000) (disch := omega) only [V_P, SX, W_block, exitW, goInt, Int.reduceEq, setCells, oneOf, cellOk, reduceIte, Nat.reduceLT, Nat.reduceLeDiff, Nat.reduceEqDiff, Nat.reduceAdd, Nat.reduceSub, Nat.reduceMul, Int.reduceToNat, Int.reduceLT, Int.reduceLE, Int.reduceAdd, Int.reduceSub, implies_true, ne_eq, if_true, if_false, reduceCtorEq]
  refine W_for (fun (k : Nat) t K => t.get 2 = some (.pointer (some ⟨H.next, 0, none⟩)) ∧ t.get 3 = some (.int .i64 0) ∧ t.get 4 = some (.slice (some ⟨i, 0, none⟩) (qs.length + 1) capU) ∧ t.get 5 = some (.int .i64 k) ∧ 1 ≤ k ∧ k ≤ 8 ∧ Same H K [] ∧ K.get H.next = some (mO .zero) ∧ K.get i = some (.cells ((p0 :: qs).map Value.string) 9 false) ∧ ∀ j : Int, 1 ≤ j ∧ j < k → p0 ≠ kindS j) (fun k => 8 - k) 1 ?_ ?_
  · simp (maxSteps := 5000000) (disch := omega) only [V_P, SX, W_block, exitW, goInt, Int.reduceEq, setCells, oneOf, cellOk, reduceIte, Nat.reduceLT, Nat.reduceLeDiff, Nat.reduceEqDiff, Nat.reduceAdd, Nat.reduceSub, Nat.reduceMul, Int.reduceToNat, Int.reduceLT, Int.reduceLE, Int.reduceAdd, Int.reduceSub, implies_true, ne_eq, if_true, if_false, reduceCtorEq]
    exact ⟨rfl, hsK0, hr0, hgi, fun j hj => by omega⟩
  clear hr0 hgi hsK0 hsK
  rintro k t K ⟨g2, g3, g4, g5, hk1, hk8, hs, hr, hgi, hne⟩
  have ok2 := hs.ok
  simp (maxSteps := 5000000) (disch := omega) only [g2, g3, g4, g5, V_P, SX, W_block, exitW, goInt, Int.reduceEq, setCells, oneOf, cellOk, reduceIte, Nat.reduceLT, Nat.reduceLeDiff, Nat.reduceEqDiff, Nat.reduceAdd, Nat.reduceSub, Nat.reduceMul, Int.reduceToNat, Int.reduceLT, Int.reduceLE, Int.reduceAdd, Int.reduceSub, implies_true, ne_eq, if_true, if_false, reduceCtorEq]
  refine cW_dec (fun hlt => ?_) (fun hlt => ?_)
  rotate_left
  · have hread : readB bnd (p0 :: qs) = none := read_none0 (fun j hj => hne j (by omega))
    rw [hread]
    simp (maxSteps := 5000000) (disch := omega) only [g2, g3, g4, g5, MX, hr, mO_b2, V_P, SX, W_block, exitW, goInt, Int.reduceEq, setCells, oneOf, cellOk, reduceIte, Nat.reduceLT, Nat.reduceLeDiff, Nat.reduceEqDiff, Nat.reduceAdd, Nat.reduceSub, Nat.reduceMul, Int.reduceToNat, Int.reduceLT, Int.reduceLE, Int.reduceAdd, Int.reduceSub, implies_true, ne_eq, if_true, if_false, reduceCtorEq]
    exact ⟨by rw [hz], hs.set hr (fun z => absurd z (Nat.lt_irrefl _))⟩
  have hk7 : 1 ≤ (k : Int) ∧ (k : Int) ≤ 7 := by omega
  simp (maxSteps := 5000000) (disch := omega) only [g2, g3, g4, g5, V_P, SX, W_block, exitW, goInt, Int.reduceEq, setCells, oneOf, cellOk, reduceIte, Nat.reduceLT, Nat.reduceLeDiff, Nat.reduceEqDiff, Nat.reduceAdd, Nat.reduceSub, Nat.reduceMul, Int.reduceToNat, Int.reduceLT, Int.reduceLE, Int.reduceAdd, Int.reduceSub, implies_true, ne_eq, if_true, if_false, reduceCtorEq]
  refine W_callR rfl (by simp (maxSteps := 5000000) (disch := omega) only [g2, g3, g4, g5, V_P, SX, W_block, exitW, goInt, Int.reduceEq, setCells, oneOf, cellOk, reduceIte, Nat.reduceLT, Nat.reduceLeDiff, Nat.reduceEqDiff, Nat.reduceAdd, Nat.reduceSub, Nat.reduceMul, Int.reduceToNat, Int.reduceLT, Int.reduceLE, Int.reduceAdd, Int.reduceSub, implies_true, ne_eq, if_true, if_false, reduceCtorEq]) (ref_parts k _) ?_
  rintro v K2 ⟨rfl, e2⟩
  obtain rfl := e2.symm
  by_cases hks : p0 = kindS k
  rotate_left
  · simp (maxSteps := 5000000) (disch := omega) only [g2, g3, g4, g5, hgi, hks, V_P, SX, W_block, exitW, goInt, Int.reduceEq, setCells, oneOf, cellOk, reduceIte, Nat.reduceLT, Nat.reduceLeDiff, Nat.reduceEqDiff, Nat.reduceAdd, Nat.reduceSub, Nat.reduceMul, Int.reduceToNat, Int.reduceLT, Int.reduceLE, Int.reduceAdd, Int.reduceSub, implies_true, ne_eq, if_true, if_false, reduceCtorEq]
    refine ⟨k + 1, ⟨by simp, by omega, by omega, hs, hr, fun j hj => ?_⟩, by omega⟩
    by_cases hjk : j = k
    · rw [hjk]; exact hks
    · exact hne j (by omega)
  subst hks
  rw [read_same]
  have hrow : Row Tryd.prog K (some ⟨i, 1, none⟩) qs.length 1 (qs.map Value.string) := row_tail (s := kindS k) (o := 0) (Row.whole hgi (by simp) (by decide +kernel))
  have hn : (1 : Nat) ≤ qs.length + 1 := by omega
  simp (maxSteps := 5000000) (disch := omega) only [g2, g3, g4, g5, hgi, if_pos hn, Nat.add_sub_cancel, V_P, SX, W_block, exitW, goInt, Int.reduceEq, setCells, oneOf, cellOk, reduceIte, Nat.reduceLT, Nat.reduceLeDiff, Nat.reduceEqDiff, Nat.reduceAdd, Nat.reduceSub, Nat.reduceMul, Int.reduceToNat, Int.reduceLT, Int.reduceLE, Int.reduceAdd, Int.reduceSub, implies_true, ne_eq, if_true, if_false, reduceCtorEq]
  refine W_callR rfl (by simp (maxSteps := 5000000) (disch := omega) only [g2, g3, g4, g5, hgi, if_pos hn, V_P, SX, W_block, exitW, goInt, Int.reduceEq, setCells, oneOf, cellOk, reduceIte, Nat.reduceLT, Nat.reduceLeDiff, Nat.reduceEqDiff, Nat.reduceAdd, Nat.reduceSub, Nat.reduceMul, Int.reduceToNat, Int.reduceLT, Int.reduceLE, Int.reduceAdd, Int.reduceSub, implies_true, ne_eq, if_true, if_false, reduceCtorEq]) (ref_told k hk7 qs i 1 capU _ ok2 hrow hqsS) ?_
  rintro v K3 ⟨⟨m, ok', rfl, hgood, hbad⟩, hs3⟩
  have hs4 : Same H K3 [] := hs.trans hs3 (by simp)
  have hr3 : K3.get H.next = some (mO .zero) := by rw [hs3.get _ (ok2.lt hr) (by simp), hr]
  have hlt3 := hs4.ok.lt hr3
  cases ok' with
  | false =>
    rw [read_no hk7 (hbad rfl)]
    have hnx := hs4.le
    simp (maxSteps := 5000000) (disch := omega) only [g2, g3, g4, g5, MX, Msg.cells_length, hr3, mO_b2, V_P, SX, W_block, exitW, goInt, Int.reduceEq, setCells, oneOf, cellOk, reduceIte, Nat.reduceLT, Nat.reduceLeDiff, Nat.reduceEqDiff, Nat.reduceAdd, Nat.reduceSub, Nat.reduceMul, Int.reduceToNat, Int.reduceLT, Int.reduceLE, Int.reduceAdd, Int.reduceSub, implies_true, ne_eq, if_true, if_false, reduceCtorEq]
    exact ⟨by rw [hz], by repeat (first | exact hs4 | refine Same.push ?_ _ | refine Same.room ?_ _ | (refine Same.make ?_ (by (try simp only [Heap.next_push, Heap.next_set, Heap.next_room]); omega) (by (try simp only [Heap.next_push, Heap.next_set, Heap.next_room]); omega)) | (refine Same.put ?_ (by simp (disch := omega) only [Heap.get_pushH, Heap.get_setH, hite_same, hite_ne, hite_eq, Heap.get_room, Heap.next_push, Heap.next_set, Heap.next_room, Option.isSome_some, *]) (fun z => by first | (simp; done) | (exfalso; (try simp only [Heap.next_push, Heap.next_set, Heap.next_room] at z); omega))))⟩
  | true =>
    obtain ⟨hf, hpan⟩ := hgood rfl
    rw [read_some hk7 hf]
    simp (maxSteps := 5000000) (disch := omega) only [g2, g3, g4, g5, MX, Msg.cells_length, hr3, mO_b2, V_P, SX, W_block, exitW, goInt, Int.reduceEq, setCells, oneOf, cellOk, reduceIte, Nat.reduceLT, Nat.reduceLeDiff, Nat.reduceEqDiff, Nat.reduceAdd, Nat.reduceSub, Nat.reduceMul, Int.reduceToNat, Int.reduceLT, Int.reduceLE, Int.reduceAdd, Int.reduceSub, implies_true, ne_eq, if_true, if_false, reduceCtorEq]
    refine W_callR rfl (by simp (maxSteps := 5000000) (disch := omega) only [g2, g3, g4, g5, MX, Msg.cells_length, hr3, mO_b2, V_P, SX, W_block, exitW, goInt, Int.reduceEq, setCells, oneOf, cellOk, reduceIte, Nat.reduceLT, Nat.reduceLeDiff, Nat.reduceEqDiff, Nat.reduceAdd, Nat.reduceSub, Nat.reduceMul, Int.reduceToNat, Int.reduceLT, Int.reduceLE, Int.reduceAdd, Int.reduceSub, implies_true, ne_eq, if_true, if_false, reduceCtorEq]) (ref_Right m _ (by repeat (first | exact hs4.ok | refine Ok.push ?_ _ | refine Ok.room ?_ _ | (refine Ok.put ?_ _ (by simp (disch := omega) only [Heap.get_pushH, Heap.get_setH, hite_same, hite_ne, hite_eq, Heap.get_room, Heap.next_push, Heap.next_set, Heap.next_room, Option.isSome_some, *])))) (by have : maxLen = 9223372036854775807 := rfl; omega)) ?_
    rintro v K5 ⟨rfl, hs5⟩
    have hs6 : Same H K5 [] := (by repeat (first | exact hs4 | refine Same.push ?_ _ | refine Same.room ?_ _ | (refine Same.make ?_ (by (try simp only [Heap.next_push, Heap.next_set, Heap.next_room]); omega) (by (try simp only [Heap.next_push, Heap.next_set, Heap.next_room]); omega)) | (refine Same.put ?_ (by simp (disch := omega) only [Heap.get_pushH, Heap.get_setH, hite_same, hite_ne, hite_eq, Heap.get_room, Heap.next_push, Heap.next_set, Heap.next_room, Option.isSome_some, *]) (fun z => by first | (simp; done) | (exfalso; (try simp only [Heap.next_push, Heap.next_set, Heap.next_room] at z); omega)))) : Same H ((K3.push (mO .zero)).set K3.next (mO m)) []).trans hs5 (by simp)
    have hr5 : K5.get H.next = some (mO .zero) := by
      rw [hs5.get _ (by simp only [Heap.next_set, Heap.next_push]; omega) (by simp), Heap.get_set, if_neg (by omega), Heap.get_push, if_neg (by omega), hr3]
    have hq5 : K5.get K3.next = some (mO m) := by
      rw [hs5.get _ (by simp only [Heap.next_set, Heap.next_push]; omega) (by simp), Heap.get_set, if_pos rfl]
    have hne5 : H.next ≠ K3.next := by omega
    cases hm : m.right with
    | true =>
      rw [if_pos rfl]
      simp (maxSteps := 5000000) (disch := omega) only [g2, g3, g4, g5, MX, Msg.cells_length, hr5, hq5, V_P, SX, W_block, exitW, goInt, Int.reduceEq, setCells, oneOf, cellOk, reduceIte, Nat.reduceLT, Nat.reduceLeDiff, Nat.reduceEqDiff, Nat.reduceAdd, Nat.reduceSub, Nat.reduceMul, Int.reduceToNat, Int.reduceLT, Int.reduceLE, Int.reduceAdd, Int.reduceSub, implies_true, ne_eq, if_true, if_false, reduceCtorEq]
      exact hs6.set hr5 (fun z => absurd z (Nat.lt_irrefl _))
    | false =>
      rw [if_neg (by simp)]
      simp (maxSteps := 5000000) (disch := omega) only [g2, g3, g4, g5, MX, Msg.cells_length, hr5, hq5, mO_b2, V_P, SX, W_block, exitW, goInt, Int.reduceEq, setCells, oneOf, cellOk, reduceIte, Nat.reduceLT, Nat.reduceLeDiff, Nat.reduceEqDiff, Nat.reduceAdd, Nat.reduceSub, Nat.reduceMul, Int.reduceToNat, Int.reduceLT, Int.reduceLE, Int.reduceAdd, Int.reduceSub, implies_true, ne_eq, if_true, if_false, reduceCtorEq]
      exact ⟨by rw [hz], hs6.set hr5 (fun z => absurd z (Nat.lt_irrefl _))⟩
end Go.B.YteigefgobkdmgaaDoor
