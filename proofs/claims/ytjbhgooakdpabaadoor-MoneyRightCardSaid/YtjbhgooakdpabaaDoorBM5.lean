import Derived.Test.YtjbhgooakdpabaaDoorBM4
/- The bank of two numbers. -/
namespace Go.B.YtjbhgooakdpabaaDoor
open Go Go.B Go.Proofs
set_option maxRecDepth 100000
set_option maxHeartbeats 16000000
set_option linter.unusedSimpArgs false
set_option linter.unusedVariables false

/-- A row that one may write: not there yet, or an object of its own. -/
inductive MRow (H : Heap) (lo : Nat) (e : TypeId) : Option Addr → Nat → Nat → List Value → Prop
  | nil : MRow H lo e none 0 0 []
  | own {i n : Nat} {cells : List Value} (h : Heap.get H i = some (.cells cells e false)) (hlo : lo ≤ i) (hn : n ≠ 0) : MRow H lo e (some ⟨i, 0, none⟩) n capU cells

theorem MRow.mono {H H2 : Heap} {lo n c : Nat} {e : TypeId} {b : Option Addr} {cells : List Value} (h : MRow H lo e b n c cells) (hg : ∀ i, b = some (Addr.mk i 0 none) → H2.get i = H.get i) : MRow H2 lo e b n c cells := by
  cases h with
  | nil => exact .nil
  | own h1 h2 h3 => exact .own ((hg _ rfl).trans h1) h2 h3

theorem MRow.ways {H : Heap} {lo n c : Nat} {e : TypeId} {b : Option Addr} {cells : List Value} (h : MRow H lo e b n c cells) :
    (b = none ∧ n = 0 ∧ c = 0 ∧ cells = []) ∨ ∃ i, b = some (Addr.mk i 0 none) ∧ c = capU ∧ n ≠ 0 ∧ lo ≤ i ∧ H.get i = some (.cells cells e false) := by
  cases h with
  | nil => exact .inl ⟨rfl, rfl, rfl, rfl⟩
  | own h1 h2 h3 => exact .inr ⟨_, rfl, rfl, h3, h2, h1⟩

theorem W_gen {V : Env} {r : List It} {Q : Ex → St → Prop} {n : Nat} {t : Tr Value} {H : Heap} (I : Tr Value → Heap → Prop) (h : I t H) (h2 : ∀ t H, I t H → W V r ⟨n, t, H⟩ Q) : W V r ⟨n, t, H⟩ Q := h2 t H h

theorem seat_Bank (a k : Int) (a0 : 0 ≤ a) (a1 : a < 256) (h0 : 0 ≤ k) (h1 : k < 256) (H : Heap) (ok : Ok H) : ∃ v H', Ca V 13 #[.int .u8 a, .int .u8 k] H v H'
    ∧ (∃ (c : Cfg) (i1 i2 i3 : Nat), v = .agg (cfgV c (some ⟨i1, 0, none⟩) (some ⟨i2, 0, none⟩) (some ⟨i3, 0, none⟩) capU capU capU).toArray
      ∧ 1 ≤ c.terms.length ∧ c.terms.length ≤ 3 ∧ c.pans.length = 4 ∧ c.funds.length = 4 ∧ (∀ p ∈ c.pans, p.size ≤ maxLen)
      ∧ H'.get i1 = some (.cells (c.terms.flatMap T4.cells) 39 false) ∧ H'.get i2 = some (.cells (c.pans.map Value.string) 9 false) ∧ H'.get i3 = some (.cells (c.funds.map (Value.int .i64)) 2 false)
      ∧ H.next ≤ i1 ∧ H.next ≤ i2 ∧ H.next ≤ i3) ∧ Same H H' [] := by
  refine Ca_run rfl tab_13 rfl ?_
  have okn : ∀ a, H.next ≤ a → H.get a = none := ok
  simp (maxSteps := 5000000) (disch := omega) only [Tryd.f13, V_P, SX, W_block, exitW, goInt, yieldB, setCells, oneOf, cellOk, reduceIte, Nat.reduceLT, Nat.reduceLeDiff, Nat.reduceEqDiff, Nat.reduceAdd, Nat.reduceSub, Nat.reduceMul, Int.reduceToNat, Int.reduceLT, Int.reduceLE, Int.reduceAdd, Int.reduceSub, implies_true, ne_eq, if_true, if_false, reduceCtorEq]
  refine W_for (fun (i : Nat) t H2 => t.get 0 = some (.int .u8 a) ∧ t.get 1 = some (.int .u8 k) ∧ t.get 4 = some (.pointer (some ⟨H.next, 0, none⟩)) ∧ t.get 5 = some (.pointer (some ⟨H.next + 1, 0, none⟩)) ∧ t.get 6 = some (.int .i64 i) ∧ (i : Int) ≤ a % 3 + 1
      ∧ H2.get H.next = some (.cells [.slice none 0 0, .slice none 0 0, .slice none 0 0, .int .i64 0, .int .i64 0] 35 false)
      ∧ (∃ (l : List T4) (b : Option Addr) (c : Nat), l.length = i ∧ H2.get (H.next + 1) = some (.cells [.slice b i c, .slice none 0 0, .slice none 0 0, .int .i64 500, .int .i64 100000] 35 false) ∧ MRow H2 (H.next + 2) 39 b i c (l.flatMap T4.cells))
      ∧ Same H H2 [] ∧ H.next + 2 ≤ H2.next) (fun i => 4 - i) 0 ?_ ?_
  · simp (maxSteps := 5000000) (disch := omega) only [okn, V_P, SX, W_block, exitW, goInt, yieldB, setCells, oneOf, cellOk, reduceIte, Nat.reduceLT, Nat.reduceLeDiff, Nat.reduceEqDiff, Nat.reduceAdd, Nat.reduceSub, Nat.reduceMul, Int.reduceToNat, Int.reduceLT, Int.reduceLE, Int.reduceAdd, Int.reduceSub, implies_true, ne_eq, if_true, if_false, reduceCtorEq]
    refine ⟨rfl, by omega, ⟨[], none, 0, rfl, rfl, .nil⟩, ?_⟩
    repeat (first | exact Same.same ok | refine Same.push ?_ _ | refine Same.room ?_ _ | (refine Same.make ?_ (by (try simp only [Heap.next_push, Heap.next_set, Heap.next_room]); omega) (by (try simp only [Heap.next_push, Heap.next_set, Heap.next_room]); omega)) | (refine Same.put ?_ (by simp (disch := omega) only [Heap.get_pushH, Heap.get_setH, hite_same, hite_ne, hite_eq, Heap.get_room, Heap.next_push, Heap.next_set, Heap.next_room, Option.isSome_some, *]) (fun z => by first | (simp; done) | (exfalso; (try simp only [Heap.next_push, Heap.next_set, Heap.next_room] at z); omega))))
  rintro i t H2 ⟨g0, g1, g4, g5, g6, hi, q0, ⟨l, b, cp, hl, q1, hm⟩, hs, hn⟩
  have ok2 := hs.ok
  simp (maxSteps := 5000000) (disch := omega) only [g0, g1, g4, g5, g6, V_P, SX, W_block, exitW, goInt, yieldB, setCells, oneOf, cellOk, reduceIte, Nat.reduceLT, Nat.reduceLeDiff, Nat.reduceEqDiff, Nat.reduceAdd, Nat.reduceSub, Nat.reduceMul, Int.reduceToNat, Int.reduceLT, Int.reduceLE, Int.reduceAdd, Int.reduceSub, implies_true, ne_eq, if_true, if_false, reduceCtorEq]
  refine cW_dec (fun hlt => ?_) (fun hlt => ?_)
  · have hw : IntKind.wrap .u8 (k + i) = (k + i) % 256 := wrap_u8e _
    simp (maxSteps := 5000000) (disch := omega) only [g0, g1, g4, g5, g6, hw, V_P, SX, W_block, exitW, goInt, yieldB, setCells, oneOf, cellOk, reduceIte, Nat.reduceLT, Nat.reduceLeDiff, Nat.reduceEqDiff, Nat.reduceAdd, Nat.reduceSub, Nat.reduceMul, Int.reduceToNat, Int.reduceLT, Int.reduceLE, Int.reduceAdd, Int.reduceSub, implies_true, ne_eq, if_true, if_false, reduceCtorEq]
    refine W_callR rfl (by simp (maxSteps := 5000000) (disch := omega) only [V_P, SX, W_block, exitW, goInt, yieldB, setCells, oneOf, cellOk, reduceIte, Nat.reduceLT, Nat.reduceLeDiff, Nat.reduceEqDiff, Nat.reduceAdd, Nat.reduceSub, Nat.reduceMul, Int.reduceToNat, Int.reduceLT, Int.reduceLE, Int.reduceAdd, Int.reduceSub, implies_true, ne_eq, if_true, if_false, reduceCtorEq]) (seat_Cass ((k + i) % 256) (by omega) (by omega) H2 ok2) ?_
    rintro v H3 ⟨⟨x, rfl⟩, hs3⟩
    have q0 := (hs3.get H.next (by omega) (by simp)).trans q0
    have q1 := (hs3.get (H.next + 1) (by omega) (by simp)).trans q1
    have hn3 : H.next + 2 ≤ H3.next := Nat.le_trans hn hs3.le
    have sH3 : Same H H3 [] := hs.trans hs3 (fun _ hq => by cases hq)
    have okn3 : ∀ a, H3.next ≤ a → H3.get a = none := hs3.ok
    have hm3 : MRow H3 (H.next + 2) 39 b i cp (l.flatMap T4.cells) := hm.mono (fun j hj => by
      rcases hm.ways with ⟨h, _⟩ | ⟨j', h, _, _, _, h2⟩
      · rw [h] at hj; cases hj
      · rw [h] at hj; cases hj; exact hs3.get _ (ok2.lt h2) (by simp))
    clear hm 
    simp (maxSteps := 5000000) (disch := omega) only [g0, g1, g4, g5, g6, hw, T4.cells, okn3, V_P, SX, W_block, exitW, goInt, yieldB, setCells, oneOf, cellOk, reduceIte, Nat.reduceLT, Nat.reduceLeDiff, Nat.reduceEqDiff, Nat.reduceAdd, Nat.reduceSub, Nat.reduceMul, Int.reduceToNat, Int.reduceLT, Int.reduceLE, Int.reduceAdd, Int.reduceSub, implies_true, ne_eq, if_true, if_false, reduceCtorEq]
    refine W_gen (fun t H4 => t.get 0 = some (.int .u8 a) ∧ t.get 1 = some (.int .u8 k) ∧ t.get 4 = some (.pointer (some ⟨H.next, 0, none⟩)) ∧ t.get 5 = some (.pointer (some ⟨H.next + 1, 0, none⟩)) ∧ t.get 6 = some (.int .i64 i) ∧ t.get 7 = some (.pointer (some ⟨H3.next, 0, none⟩)) ∧ t.get 8 = some (.int .i64 0)
      ∧ H4.get H3.next = some (.cells x.cells 39 false) ∧ H3.next + 1 ≤ H4.next ∧ Same H3 H4 []) ?_ ?_
    · simp (maxSteps := 5000000) (disch := omega) only [g0, g1, g4, g5, g6, T4.cells, V_P, SX, W_block, exitW, goInt, yieldB, setCells, oneOf, cellOk, reduceIte, Nat.reduceLT, Nat.reduceLeDiff, Nat.reduceEqDiff, Nat.reduceAdd, Nat.reduceSub, Nat.reduceMul, Int.reduceToNat, Int.reduceLT, Int.reduceLE, Int.reduceAdd, Int.reduceSub, implies_true, ne_eq, if_true, if_false, reduceCtorEq]
      repeat (first | exact Same.refl hs3.ok | refine Same.push ?_ _ | refine Same.room ?_ _ | (refine Same.make ?_ (by (try simp only [Heap.next_push, Heap.next_set, Heap.next_room]); omega) (by (try simp only [Heap.next_push, Heap.next_set, Heap.next_room]); omega)) | (refine Same.put ?_ (by simp (disch := omega) only [Heap.get_pushH, Heap.get_setH, hite_same, hite_ne, hite_eq, Heap.get_room, Heap.next_push, Heap.next_set, Heap.next_room, Option.isSome_some, *]) (fun z => by first | (simp; done) | (exfalso; (try simp only [Heap.next_push, Heap.next_set, Heap.next_room] at z); omega))))
    clear g0 g1 g4 g5 g6 t
    rintro t H4 ⟨g0, g1, g4, g5, g6, g7, g8, q7, hn4, hs4⟩
    refine W_for (fun (n : Nat) t H5 => t.get 0 = some (.int .u8 a) ∧ t.get 1 = some (.int .u8 k) ∧ t.get 4 = some (.pointer (some ⟨H.next, 0, none⟩)) ∧ t.get 5 = some (.pointer (some ⟨H.next + 1, 0, none⟩)) ∧ t.get 6 = some (.int .i64 i) ∧ t.get 7 = some (.pointer (some ⟨H3.next, 0, none⟩)) ∧ t.get 8 = some (.int .i64 n) ∧ n ≤ 4
      ∧ (∃ x : T4, H5.get H3.next = some (.cells x.cells 39 false)) ∧ H3.next + 1 ≤ H5.next ∧ Same H3 H5 []) (fun n => 4 - n) 0 ?_ ?_
    · simp (maxSteps := 5000000) (disch := omega) only [g0, g1, g4, g5, g6, g7, g8, V_P, SX, W_block, exitW, goInt, yieldB, setCells, oneOf, cellOk, reduceIte, Nat.reduceLT, Nat.reduceLeDiff, Nat.reduceEqDiff, Nat.reduceAdd, Nat.reduceSub, Nat.reduceMul, Int.reduceToNat, Int.reduceLT, Int.reduceLE, Int.reduceAdd, Int.reduceSub, implies_true, ne_eq, if_true, if_false, reduceCtorEq]
      exact ⟨rfl, ⟨x, q7⟩, hn4, hs4⟩
    clear g0 g1 g4 g5 g6 g7 g8 t q7 x hn4 hs4 H4
    rintro n t H4 ⟨g0, g1, g4, g5, g6, g7, g8, hn4, ⟨x, q7⟩, hn5, hs4⟩
    simp only [T4.cells] at q7
    simp (maxSteps := 5000000) (disch := omega) only [g0, g1, g4, g5, g6, g7, g8, V_P, SX, W_block, exitW, goInt, yieldB, setCells, oneOf, cellOk, reduceIte, Nat.reduceLT, Nat.reduceLeDiff, Nat.reduceEqDiff, Nat.reduceAdd, Nat.reduceSub, Nat.reduceMul, Int.reduceToNat, Int.reduceLT, Int.reduceLE, Int.reduceAdd, Int.reduceSub, implies_true, ne_eq, if_true, if_false, reduceCtorEq]
    refine cW_dec (fun hlt4 => ?_) (fun hlt4 => ?_)
    · rcases (show n = 0 ∨ n = 1 ∨ n = 2 ∨ n = 3 by omega) with rfl | rfl | rfl | rfl
      · simp (maxSteps := 5000000) (disch := omega) only [g0, g1, g4, g5, g6, g7, g8, q7, V_P, SX, W_block, exitW, goInt, yieldB, setCells, oneOf, cellOk, reduceIte, Nat.reduceLT, Nat.reduceLeDiff, Nat.reduceEqDiff, Nat.reduceAdd, Nat.reduceSub, Nat.reduceMul, Int.reduceToNat, Int.reduceLT, Int.reduceLE, Int.reduceAdd, Int.reduceSub, implies_true, ne_eq, if_true, if_false, reduceCtorEq]
        refine ⟨1, ⟨rfl, by decide, ⟨⟨⟨x.a.denom, (if 9 > x.a.loaded then 9 else x.a.loaded), x.a.given, x.a.rejected⟩, x.b, x.c, x.d⟩, rfl⟩, hn5, ?_⟩, by decide⟩
        repeat (first | exact hs4 | refine Same.push ?_ _ | refine Same.room ?_ _ | (refine Same.make ?_ (by (try simp only [Heap.next_push, Heap.next_set, Heap.next_room]); omega) (by (try simp only [Heap.next_push, Heap.next_set, Heap.next_room]); omega)) | (refine Same.put ?_ (by simp (disch := omega) only [Heap.get_pushH, Heap.get_setH, hite_same, hite_ne, hite_eq, Heap.get_room, Heap.next_push, Heap.next_set, Heap.next_room, Option.isSome_some, *]) (fun z => by first | (simp; done) | (exfalso; (try simp only [Heap.next_push, Heap.next_set, Heap.next_room] at z); omega))))
      · simp (maxSteps := 5000000) (disch := omega) only [g0, g1, g4, g5, g6, g7, g8, q7, V_P, SX, W_block, exitW, goInt, yieldB, setCells, oneOf, cellOk, reduceIte, Nat.reduceLT, Nat.reduceLeDiff, Nat.reduceEqDiff, Nat.reduceAdd, Nat.reduceSub, Nat.reduceMul, Int.reduceToNat, Int.reduceLT, Int.reduceLE, Int.reduceAdd, Int.reduceSub, implies_true, ne_eq, if_true, if_false, reduceCtorEq]
        refine ⟨2, ⟨rfl, by decide, ⟨⟨x.a, ⟨x.b.denom, (if 9 > x.b.loaded then 9 else x.b.loaded), x.b.given, x.b.rejected⟩, x.c, x.d⟩, rfl⟩, hn5, ?_⟩, by decide⟩
        repeat (first | exact hs4 | refine Same.push ?_ _ | refine Same.room ?_ _ | (refine Same.make ?_ (by (try simp only [Heap.next_push, Heap.next_set, Heap.next_room]); omega) (by (try simp only [Heap.next_push, Heap.next_set, Heap.next_room]); omega)) | (refine Same.put ?_ (by simp (disch := omega) only [Heap.get_pushH, Heap.get_setH, hite_same, hite_ne, hite_eq, Heap.get_room, Heap.next_push, Heap.next_set, Heap.next_room, Option.isSome_some, *]) (fun z => by first | (simp; done) | (exfalso; (try simp only [Heap.next_push, Heap.next_set, Heap.next_room] at z); omega))))
      · simp (maxSteps := 5000000) (disch := omega) only [g0, g1, g4, g5, g6, g7, g8, q7, V_P, SX, W_block, exitW, goInt, yieldB, setCells, oneOf, cellOk, reduceIte, Nat.reduceLT, Nat.reduceLeDiff, Nat.reduceEqDiff, Nat.reduceAdd, Nat.reduceSub, Nat.reduceMul, Int.reduceToNat, Int.reduceLT, Int.reduceLE, Int.reduceAdd, Int.reduceSub, implies_true, ne_eq, if_true, if_false, reduceCtorEq]
        refine ⟨3, ⟨rfl, by decide, ⟨⟨x.a, x.b, ⟨x.c.denom, (if 9 > x.c.loaded then 9 else x.c.loaded), x.c.given, x.c.rejected⟩, x.d⟩, rfl⟩, hn5, ?_⟩, by decide⟩
        repeat (first | exact hs4 | refine Same.push ?_ _ | refine Same.room ?_ _ | (refine Same.make ?_ (by (try simp only [Heap.next_push, Heap.next_set, Heap.next_room]); omega) (by (try simp only [Heap.next_push, Heap.next_set, Heap.next_room]); omega)) | (refine Same.put ?_ (by simp (disch := omega) only [Heap.get_pushH, Heap.get_setH, hite_same, hite_ne, hite_eq, Heap.get_room, Heap.next_push, Heap.next_set, Heap.next_room, Option.isSome_some, *]) (fun z => by first | (simp; done) | (exfalso; (try simp only [Heap.next_push, Heap.next_set, Heap.next_room] at z); omega))))
      · simp (maxSteps := 5000000) (disch := omega) only [g0, g1, g4, g5, g6, g7, g8, q7, V_P, SX, W_block, exitW, goInt, yieldB, setCells, oneOf, cellOk, reduceIte, Nat.reduceLT, Nat.reduceLeDiff, Nat.reduceEqDiff, Nat.reduceAdd, Nat.reduceSub, Nat.reduceMul, Int.reduceToNat, Int.reduceLT, Int.reduceLE, Int.reduceAdd, Int.reduceSub, implies_true, ne_eq, if_true, if_false, reduceCtorEq]
        refine ⟨4, ⟨rfl, by decide, ⟨⟨x.a, x.b, x.c, ⟨x.d.denom, (if 9 > x.d.loaded then 9 else x.d.loaded), x.d.given, x.d.rejected⟩⟩, rfl⟩, hn5, ?_⟩, by decide⟩
        repeat (first | exact hs4 | refine Same.push ?_ _ | refine Same.room ?_ _ | (refine Same.make ?_ (by (try simp only [Heap.next_push, Heap.next_set, Heap.next_room]); omega) (by (try simp only [Heap.next_push, Heap.next_set, Heap.next_room]); omega)) | (refine Same.put ?_ (by simp (disch := omega) only [Heap.get_pushH, Heap.get_setH, hite_same, hite_ne, hite_eq, Heap.get_room, Heap.next_push, Heap.next_set, Heap.next_room, Option.isSome_some, *]) (fun z => by first | (simp; done) | (exfalso; (try simp only [Heap.next_push, Heap.next_set, Heap.next_room] at z); omega))))
    · have sH4 : Same H H4 [] := sH3.trans hs4 (fun _ hq => by cases hq)
      have p1 := (hs4.get (H.next + 1) (by omega) (by simp)).trans q1
      rcases hm3.ways with ⟨rfl, rfl, rfl, hr⟩ | ⟨j, rfl, rfl, hi0, hj, hr⟩
      · simp (maxSteps := 5000000) (disch := omega) only [g0, g1, g4, g5, g6, g7, g8, q7, p1, V_P, SX, W_block, exitW, goInt, yieldB, setCells, oneOf, cellOk, reduceIte, Nat.reduceLT, Nat.reduceLeDiff, Nat.reduceEqDiff, Nat.reduceAdd, Nat.reduceSub, Nat.reduceMul, Int.reduceToNat, Int.reduceLT, Int.reduceLE, Int.reduceAdd, Int.reduceSub, implies_true, ne_eq, if_true, if_false, reduceCtorEq]
        refine ⟨1, ⟨rfl, by omega, (hs4.get H.next (by omega) (by simp)).trans q0, ⟨[x], _, _, rfl, rfl, .own ?_ (by omega) (by decide)⟩, ?_, ?_⟩, by decide⟩
        · simp (maxSteps := 5000000) (disch := omega) only [List.flatMap_cons, List.flatMap_nil, List.append_nil, T4.cells, V_P, SX, W_block, exitW, goInt, yieldB, setCells, oneOf, cellOk, reduceIte, Nat.reduceLT, Nat.reduceLeDiff, Nat.reduceEqDiff, Nat.reduceAdd, Nat.reduceSub, Nat.reduceMul, Int.reduceToNat, Int.reduceLT, Int.reduceLE, Int.reduceAdd, Int.reduceSub, implies_true, ne_eq, if_true, if_false, reduceCtorEq]
        · repeat (first | exact sH4 | refine Same.push ?_ _ | refine Same.room ?_ _ | (refine Same.make ?_ (by (try simp only [Heap.next_push, Heap.next_set, Heap.next_room]); omega) (by (try simp only [Heap.next_push, Heap.next_set, Heap.next_room]); omega)) | (refine Same.put ?_ (by simp (disch := omega) only [Heap.get_pushH, Heap.get_setH, hite_same, hite_ne, hite_eq, Heap.get_room, Heap.next_push, Heap.next_set, Heap.next_room, Option.isSome_some, *]) (fun z => by first | (simp; done) | (exfalso; (try simp only [Heap.next_push, Heap.next_set, Heap.next_room] at z); omega))))
        · (try simp only [Heap.next_push, Heap.next_set]); omega
      · have pj := (hs4.get j (Ok.lt hs3.ok hr) (by simp)).trans hr
        have hjl : j < H4.next := Nat.lt_of_lt_of_le (Ok.lt hs3.ok hr) hs4.le
        have hg : gcV 0 (i * 16) (some (.cells (l.flatMap T4.cells) 39 false)) = some (l.flatMap T4.cells) := by
          have h5 : (l.flatMap T4.cells).length = i * 16 := by rw [flat_length T4.cells 16 (fun _ => rfl), hl]
          rw [gcV_cells, if_pos (by omega), List.drop_zero, List.take_of_length_le (by omega)]
        have hcap : ¬ capU = i := by unfold capU; omega
        simp (maxSteps := 5000000) (disch := omega) only [g0, g1, g4, g5, g6, g7, g8, q7, p1, pj, if_neg hi0, if_neg hcap, hg, V_P, SX, W_block, exitW, goInt, yieldB, setCells, oneOf, cellOk, reduceIte, Nat.reduceLT, Nat.reduceLeDiff, Nat.reduceEqDiff, Nat.reduceAdd, Nat.reduceSub, Nat.reduceMul, Int.reduceToNat, Int.reduceLT, Int.reduceLE, Int.reduceAdd, Int.reduceSub, implies_true, ne_eq, if_true, if_false, reduceCtorEq]
        refine ⟨i + 1, ⟨rfl, by omega, (hs4.get H.next (by omega) (by simp)).trans q0, ⟨l ++ [x], _, _, by simp [hl], rfl, .own ?_ (by omega) (by omega)⟩, ?_, ?_⟩, by omega⟩
        · simp (maxSteps := 5000000) (disch := omega) only [List.flatMap_append, List.flatMap_cons, List.flatMap_nil, List.append_nil, T4.cells, V_P, SX, W_block, exitW, goInt, yieldB, setCells, oneOf, cellOk, reduceIte, Nat.reduceLT, Nat.reduceLeDiff, Nat.reduceEqDiff, Nat.reduceAdd, Nat.reduceSub, Nat.reduceMul, Int.reduceToNat, Int.reduceLT, Int.reduceLE, Int.reduceAdd, Int.reduceSub, implies_true, ne_eq, if_true, if_false, reduceCtorEq]
        · repeat (first | exact sH4 | refine Same.push ?_ _ | refine Same.room ?_ _ | (refine Same.make ?_ (by (try simp only [Heap.next_push, Heap.next_set, Heap.next_room]); omega) (by (try simp only [Heap.next_push, Heap.next_set, Heap.next_room]); omega)) | (refine Same.put ?_ (by simp (disch := omega) only [Heap.get_pushH, Heap.get_setH, hite_same, hite_ne, hite_eq, Heap.get_room, Heap.next_push, Heap.next_set, Heap.next_room, Option.isSome_some, *]) (fun z => by first | (simp; done) | (exfalso; (try simp only [Heap.next_push, Heap.next_set, Heap.next_room] at z); omega))))
        · (try simp only [Heap.next_push, Heap.next_set]); omega
  · simp (maxSteps := 5000000) (disch := omega) only [g0, g1, g4, g5, g6, V_P, SX, W_block, exitW, goInt, yieldB, setCells, oneOf, cellOk, reduceIte, Nat.reduceLT, Nat.reduceLeDiff, Nat.reduceEqDiff, Nat.reduceAdd, Nat.reduceSub, Nat.reduceMul, Int.reduceToNat, Int.reduceLT, Int.reduceLE, Int.reduceAdd, Int.reduceSub, implies_true, ne_eq, if_true, if_false, reduceCtorEq]
    rcases hm.ways with ⟨_, h, _⟩ | ⟨j1, rfl, rfl, hi0, hj1, hr1⟩
    · omega
    have hl1 : 1 ≤ l.length ∧ l.length ≤ 3 := by omega
    subst hl
    refine W_gen (fun t H4 => t.get 1 = some (.int .u8 k) ∧ t.get 4 = some (.pointer (some ⟨H.next, 0, none⟩)) ∧ t.get 5 = some (.pointer (some ⟨H.next + 1, 0, none⟩)) ∧ t.get 9 = some (.int .u8 0) ∧ H4 = H2) ?_ ?_
    · simp (maxSteps := 5000000) (disch := omega) only [g1, g4, g5, V_P, SX, W_block, exitW, goInt, yieldB, setCells, oneOf, cellOk, reduceIte, Nat.reduceLT, Nat.reduceLeDiff, Nat.reduceEqDiff, Nat.reduceAdd, Nat.reduceSub, Nat.reduceMul, Int.reduceToNat, Int.reduceLT, Int.reduceLE, Int.reduceAdd, Int.reduceSub, implies_true, ne_eq, if_true, if_false, reduceCtorEq]
    clear g0 g1 g4 g5 g6 t hm hlt hi hi0
    rintro t H2 ⟨g1, g4, g5, g9, rfl⟩
    refine W_for (fun (i : Nat) t H2 => t.get 1 = some (.int .u8 k) ∧ t.get 4 = some (.pointer (some ⟨H.next, 0, none⟩)) ∧ t.get 5 = some (.pointer (some ⟨H.next + 1, 0, none⟩)) ∧ t.get 9 = some (.int .u8 i) ∧ i ≤ 4
      ∧ H2.get H.next = some (.cells [.slice none 0 0, .slice none 0 0, .slice none 0 0, .int .i64 0, .int .i64 0] 35 false) ∧ H2.get j1 = some (.cells (l.flatMap T4.cells) 39 false)
      ∧ (∃ (ps : List ByteArray) (fs : List Int) (b2 b3 : Option Addr) (c2 c3 : Nat), ps.length = i ∧ fs.length = i ∧ (∀ p ∈ ps, p.size ≤ maxLen)
        ∧ H2.get (H.next + 1) = some (.cells [.slice (some ⟨j1, 0, none⟩) l.length capU, .slice b2 i c2, .slice b3 i c3, .int .i64 500, .int .i64 100000] 35 false)
        ∧ MRow H2 (H.next + 2) 9 b2 i c2 (ps.map Value.string) ∧ MRow H2 (H.next + 2) 2 b3 i c3 (fs.map (Value.int .i64)))
      ∧ Same H H2 [] ∧ H.next + 2 ≤ H2.next) (fun i => 4 - i) 0 ?_ ?_
    · simp (maxSteps := 5000000) (disch := omega) only [g1, g4, g5, g9, V_P, SX, W_block, exitW, goInt, yieldB, setCells, oneOf, cellOk, reduceIte, Nat.reduceLT, Nat.reduceLeDiff, Nat.reduceEqDiff, Nat.reduceAdd, Nat.reduceSub, Nat.reduceMul, Int.reduceToNat, Int.reduceLT, Int.reduceLE, Int.reduceAdd, Int.reduceSub, implies_true, ne_eq, if_true, if_false, reduceCtorEq]
      exact ⟨rfl, q0, hr1, ⟨[], [], none, none, 0, 0, rfl, rfl, by simp, q1, .nil, .nil⟩, hs, hn⟩
    clear g1 g4 g5 g9 t q1 hr1 hs hn ok2 q0 H2
    rintro i t H2 ⟨g1, g4, g5, g9, hi, q0, hr1, ⟨ps, fs, b2, b3, c2, c3, hps, hfs, hpm, q1, hm2, hm3⟩, hs, hn⟩
    have ok2 := hs.ok
    have okn2 : ∀ a, H2.next ≤ a → H2.get a = none := ok2
    simp (maxSteps := 5000000) (disch := omega) only [g1, g4, g5, g9, V_P, SX, W_block, exitW, goInt, yieldB, setCells, oneOf, cellOk, reduceIte, Nat.reduceLT, Nat.reduceLeDiff, Nat.reduceEqDiff, Nat.reduceAdd, Nat.reduceSub, Nat.reduceMul, Int.reduceToNat, Int.reduceLT, Int.reduceLE, Int.reduceAdd, Int.reduceSub, implies_true, ne_eq, if_true, if_false, reduceCtorEq]
    refine cW_dec (fun hlt => ?_) (fun hlt => ?_)
    · simp (maxSteps := 5000000) (disch := omega) only [g1, g4, g5, g9, V_P, SX, W_block, exitW, goInt, yieldB, setCells, oneOf, cellOk, reduceIte, Nat.reduceLT, Nat.reduceLeDiff, Nat.reduceEqDiff, Nat.reduceAdd, Nat.reduceSub, Nat.reduceMul, Int.reduceToNat, Int.reduceLT, Int.reduceLE, Int.reduceAdd, Int.reduceSub, implies_true, ne_eq, if_true, if_false, reduceCtorEq]
      refine W_drawR [[], [0], [], [2], [3, 2], [1, 0, 4, 3, 2], [0, 1, 2, 3, 4, 5], [6, 0, 1, 2, 3, 4, 5]] [2, 3, 0, 1, 4, 5, 6, 7] (by decide +kernel) ok2 ?_
      simp (maxSteps := 5000000) (disch := omega) only [g1, g4, g5, g9, q0, q1, okn2, V_P, SX, W_block, exitW, goInt, yieldB, setCells, oneOf, cellOk, reduceIte, Nat.reduceLT, Nat.reduceLeDiff, Nat.reduceEqDiff, Nat.reduceAdd, Nat.reduceSub, Nat.reduceMul, Int.reduceToNat, Int.reduceLT, Int.reduceLE, Int.reduceAdd, Int.reduceSub, implies_true, ne_eq, if_true, if_false, reduceCtorEq, DX, Nat.reduceBEq]
      refine DOpd_callR (by decide) rfl (by simp (maxSteps := 5000000) (disch := omega) only [g1, g4, g5, g9, V_P, SX, W_block, exitW, goInt, yieldB, setCells, oneOf, cellOk, reduceIte, Nat.reduceLT, Nat.reduceLeDiff, Nat.reduceEqDiff, Nat.reduceAdd, Nat.reduceSub, Nat.reduceMul, Int.reduceToNat, Int.reduceLT, Int.reduceLE, Int.reduceAdd, Int.reduceSub, implies_true, ne_eq, if_true, if_false, reduceCtorEq, DX, Nat.reduceBEq]) (seat_Pan i (by omega) (by omega) _ (ok2.room _)) ?_
      rintro v H3 ⟨⟨p, rfl, hp⟩, hs3⟩
      refine ⟨isV_string, hs3.keep (Nat.le_refl _), ?_⟩
      have p1 : H3.get (H.next + 1) = _ := (hs3.get (H.next + 1) (by simp only [Heap.next_room]; omega) (by simp)).trans q1
      have okn3 : ∀ a, H2.next ≤ a → a < H2.next + 8 → H3.get a = none := fun a ha ha2 => (hs3.get a (by simp only [Heap.next_room]; omega) (by simp)).trans (okn2 a ha)
      have hn3 : H2.next + 8 ≤ H3.next := hs3.le
      have pz := (hs3.get H.next (by simp only [Heap.next_room]; omega) (by simp)).trans q0
      have hj1l : j1 < H2.next := ok2.lt hr1
      have pj1 : H3.get j1 = _ := (hs3.get j1 (by simp only [Heap.next_room]; omega) (by simp)).trans hr1
      have sH3 : Same H H3 [] := (hs.room 8).trans hs3 (fun _ hq => by cases hq)
      rcases hm2.ways with ⟨rfl, rfl, rfl, hr2⟩ | ⟨j2, rfl, rfl, hi0, hj2, hr2⟩ <;> rcases hm3.ways with ⟨rfl, hi3, rfl, hr3⟩ | ⟨j3, rfl, rfl, hi3, hj3, hr3⟩
      · simp (maxSteps := 5000000) (disch := omega) only [g1, g4, g5, g9, q1, p1, okn3, V_P, SX, W_block, exitW, goInt, yieldB, setCells, oneOf, cellOk, reduceIte, Nat.reduceLT, Nat.reduceLeDiff, Nat.reduceEqDiff, Nat.reduceAdd, Nat.reduceSub, Nat.reduceMul, Int.reduceToNat, Int.reduceLT, Int.reduceLE, Int.reduceAdd, Int.reduceSub, implies_true, ne_eq, if_true, if_false, reduceCtorEq, DX, Nat.reduceBEq]
        refine ⟨KeepB_push (by simp only [Heap.next_set]; exact hn3), ?_⟩
        refine ⟨1, ⟨rfl, by omega, pz, pj1, ⟨[p], [((0 : Nat) : Int) * 20000 + k * 100], _, _, _, _, rfl, rfl, ?_, rfl, .own ?_ ?_ (by omega), .own ?_ ?_ (by omega)⟩, ?_, ?_⟩, by omega⟩
        · intro x hx
          simp at hx; rw [hx]; exact hp
        · simp (maxSteps := 5000000) (disch := omega) only [List.map_append, List.map_cons, List.map_nil, V_P, SX, W_block, exitW, goInt, yieldB, setCells, oneOf, cellOk, reduceIte, Nat.reduceLT, Nat.reduceLeDiff, Nat.reduceEqDiff, Nat.reduceAdd, Nat.reduceSub, Nat.reduceMul, Int.reduceToNat, Int.reduceLT, Int.reduceLE, Int.reduceAdd, Int.reduceSub, implies_true, ne_eq, if_true, if_false, reduceCtorEq]
        · omega
        · simp (maxSteps := 5000000) (disch := omega) only [List.map_append, List.map_cons, List.map_nil, V_P, SX, W_block, exitW, goInt, yieldB, setCells, oneOf, cellOk, reduceIte, Nat.reduceLT, Nat.reduceLeDiff, Nat.reduceEqDiff, Nat.reduceAdd, Nat.reduceSub, Nat.reduceMul, Int.reduceToNat, Int.reduceLT, Int.reduceLE, Int.reduceAdd, Int.reduceSub, implies_true, ne_eq, if_true, if_false, reduceCtorEq]
        · omega
        · repeat (first | exact sH3 | refine Same.push ?_ _ | refine Same.room ?_ _ | (refine Same.make ?_ (by (try simp only [Heap.next_push, Heap.next_set, Heap.next_room]); omega) (by (try simp only [Heap.next_push, Heap.next_set, Heap.next_room]); omega)) | (refine Same.put ?_ (by simp (disch := omega) only [Heap.get_pushH, Heap.get_setH, hite_same, hite_ne, hite_eq, Heap.get_room, Heap.next_push, Heap.next_set, Heap.next_room, Option.isSome_some, *]) (fun z => by first | (simp; done) | (exfalso; (try simp only [Heap.next_push, Heap.next_set, Heap.next_room] at z); omega))))
        · (try simp only [Heap.next_push, Heap.next_set]); omega
      · omega
      · omega
      · have p2 : H3.get j2 = _ := (hs3.get j2 (by simp only [Heap.next_room]; have := ok2.lt hr2; omega) (by simp)).trans hr2
        have p3 : H3.get j3 = _ := (hs3.get j3 (by simp only [Heap.next_room]; have := ok2.lt hr3; omega) (by simp)).trans hr3
        have hjl : j2 < H2.next := ok2.lt hr2
        have hjl3 : j3 < H2.next := ok2.lt hr3
        have h23 : j2 ≠ j3 := fun h => by rw [h, hr3] at hr2; injection hr2 with h; injection h with _ h; exact absurd h (by decide)
        have h12 : j1 ≠ j2 := fun h => by rw [h, hr2] at hr1; injection hr1 with h; injection h with _ h; exact absurd h (by decide)
        have h13 : j1 ≠ j3 := fun h => by rw [h, hr3] at hr1; injection hr1 with h; injection h with _ h; exact absurd h (by decide)
        have hg : gcV 0 i (some (.cells (ps.map Value.string) 9 false)) = some (ps.map Value.string) := by
          have h5 : (ps.map Value.string).length = i := by rw [List.length_map, hps]
          rw [gcV_cells, if_pos (by omega), List.drop_zero, List.take_of_length_le (by omega)]
        have hg3 : gcV 0 i (some (.cells (fs.map (Value.int .i64)) 2 false)) = some (fs.map (Value.int .i64)) := by
          have h5 : (fs.map (Value.int .i64)).length = i := by rw [List.length_map, hfs]
          rw [gcV_cells, if_pos (by omega), List.drop_zero, List.take_of_length_le (by omega)]
        have hcap : ¬ capU = i := by unfold capU; omega
        simp (maxSteps := 5000000) (disch := omega) only [g1, g4, g5, g9, q1, p1, okn3, p2, if_neg hi0, if_neg hcap, hg, V_P, SX, W_block, exitW, goInt, yieldB, setCells, oneOf, cellOk, reduceIte, Nat.reduceLT, Nat.reduceLeDiff, Nat.reduceEqDiff, Nat.reduceAdd, Nat.reduceSub, Nat.reduceMul, Int.reduceToNat, Int.reduceLT, Int.reduceLE, Int.reduceAdd, Int.reduceSub, implies_true, ne_eq, if_true, if_false, reduceCtorEq, DX, Nat.reduceBEq]
        refine ⟨KeepB.trans (KeepB_set (by simp (disch := omega) only [Heap.get_setH, hite_ne, p2, Option.isSome_some])) (KeepB_push (by simp only [Heap.next_set]; exact hn3)), ?_⟩
        simp (maxSteps := 5000000) (disch := omega) only [g1, g4, g5, g9, q1, p1, okn3, p2, p3, if_neg hi0, if_neg hcap, hg, hg3, pj1, V_P, SX, W_block, exitW, goInt, yieldB, setCells, oneOf, cellOk, reduceIte, Nat.reduceLT, Nat.reduceLeDiff, Nat.reduceEqDiff, Nat.reduceAdd, Nat.reduceSub, Nat.reduceMul, Int.reduceToNat, Int.reduceLT, Int.reduceLE, Int.reduceAdd, Int.reduceSub, implies_true, ne_eq, if_true, if_false, reduceCtorEq, DX, Nat.reduceBEq]
        refine ⟨i + 1, ⟨rfl, by omega, pz, ⟨ps ++ [p], fs ++ [i * 20000 + k * 100], _, _, _, _, by simp [hps], by simp [hfs], ?_, rfl, .own ?_ ?_ (by omega), .own ?_ ?_ (by omega)⟩, ?_, ?_⟩, by omega⟩
        · intro x hx
          rcases List.mem_append.mp hx with h | h
          · exact hpm x h
          · simp at h; rw [h]; exact hp
        · simp (maxSteps := 5000000) (disch := omega) only [List.map_append, List.map_cons, List.map_nil, V_P, SX, W_block, exitW, goInt, yieldB, setCells, oneOf, cellOk, reduceIte, Nat.reduceLT, Nat.reduceLeDiff, Nat.reduceEqDiff, Nat.reduceAdd, Nat.reduceSub, Nat.reduceMul, Int.reduceToNat, Int.reduceLT, Int.reduceLE, Int.reduceAdd, Int.reduceSub, implies_true, ne_eq, if_true, if_false, reduceCtorEq]
        · omega
        · simp (maxSteps := 5000000) (disch := omega) only [List.map_append, List.map_cons, List.map_nil, V_P, SX, W_block, exitW, goInt, yieldB, setCells, oneOf, cellOk, reduceIte, Nat.reduceLT, Nat.reduceLeDiff, Nat.reduceEqDiff, Nat.reduceAdd, Nat.reduceSub, Nat.reduceMul, Int.reduceToNat, Int.reduceLT, Int.reduceLE, Int.reduceAdd, Int.reduceSub, implies_true, ne_eq, if_true, if_false, reduceCtorEq]
        · omega
        · repeat (first | exact sH3 | refine Same.push ?_ _ | refine Same.room ?_ _ | (refine Same.make ?_ (by (try simp only [Heap.next_push, Heap.next_set, Heap.next_room]); omega) (by (try simp only [Heap.next_push, Heap.next_set, Heap.next_room]); omega)) | (refine Same.put ?_ (by simp (disch := omega) only [Heap.get_pushH, Heap.get_setH, hite_same, hite_ne, hite_eq, Heap.get_room, Heap.next_push, Heap.next_set, Heap.next_room, Option.isSome_some, *]) (fun z => by first | (simp; done) | (exfalso; (try simp only [Heap.next_push, Heap.next_set, Heap.next_room] at z); omega))))
        · (try simp only [Heap.next_push, Heap.next_set]); omega
    · simp (maxSteps := 5000000) (disch := omega) only [g1, g4, g5, g9, q0, q1, V_P, SX, W_block, exitW, goInt, yieldB, setCells, oneOf, cellOk, reduceIte, Nat.reduceLT, Nat.reduceLeDiff, Nat.reduceEqDiff, Nat.reduceAdd, Nat.reduceSub, Nat.reduceMul, Int.reduceToNat, Int.reduceLT, Int.reduceLE, Int.reduceAdd, Int.reduceSub, implies_true, ne_eq, if_true, if_false, reduceCtorEq]
      have hi4 : i = 4 := by omega
      subst hi4
      rcases hm2.ways with ⟨_, h, _⟩ | ⟨j2, rfl, rfl, _, hj2, hr2⟩
      · omega
      rcases hm3.ways with ⟨_, h, _⟩ | ⟨j3, rfl, rfl, _, hj3, hr3⟩
      · omega
      refine ⟨⟨⟨l, ps, fs, 500, 100000⟩, j1, j2, j3, ?_, hl1.1, hl1.2, hps, hfs, hpm, ?_, ?_, ?_, by omega, by omega, by omega⟩, ?_⟩
      · unfold cfgV; rw [hps, hfs]
      · simp (maxSteps := 5000000) (disch := omega) only [hr1, V_P, SX, W_block, exitW, goInt, yieldB, setCells, oneOf, cellOk, reduceIte, Nat.reduceLT, Nat.reduceLeDiff, Nat.reduceEqDiff, Nat.reduceAdd, Nat.reduceSub, Nat.reduceMul, Int.reduceToNat, Int.reduceLT, Int.reduceLE, Int.reduceAdd, Int.reduceSub, implies_true, ne_eq, if_true, if_false, reduceCtorEq]
      · simp (maxSteps := 5000000) (disch := omega) only [hr2, V_P, SX, W_block, exitW, goInt, yieldB, setCells, oneOf, cellOk, reduceIte, Nat.reduceLT, Nat.reduceLeDiff, Nat.reduceEqDiff, Nat.reduceAdd, Nat.reduceSub, Nat.reduceMul, Int.reduceToNat, Int.reduceLT, Int.reduceLE, Int.reduceAdd, Int.reduceSub, implies_true, ne_eq, if_true, if_false, reduceCtorEq]
      · simp (maxSteps := 5000000) (disch := omega) only [hr3, V_P, SX, W_block, exitW, goInt, yieldB, setCells, oneOf, cellOk, reduceIte, Nat.reduceLT, Nat.reduceLeDiff, Nat.reduceEqDiff, Nat.reduceAdd, Nat.reduceSub, Nat.reduceMul, Int.reduceToNat, Int.reduceLT, Int.reduceLE, Int.reduceAdd, Int.reduceSub, implies_true, ne_eq, if_true, if_false, reduceCtorEq]
      · repeat (first | exact hs | refine Same.push ?_ _ | refine Same.room ?_ _ | (refine Same.make ?_ (by (try simp only [Heap.next_push, Heap.next_set, Heap.next_room]); omega) (by (try simp only [Heap.next_push, Heap.next_set, Heap.next_room]); omega)) | (refine Same.put ?_ (by simp (disch := omega) only [Heap.get_pushH, Heap.get_setH, hite_same, hite_ne, hite_eq, Heap.get_room, Heap.next_push, Heap.next_set, Heap.next_room, Option.isSome_some, *]) (fun z => by first | (simp; done) | (exfalso; (try simp only [Heap.next_push, Heap.next_set, Heap.next_room] at z); omega))))
end Go.B.YtjbhgooakdpabaaDoor
