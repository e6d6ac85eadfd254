import Derived.Test.YtjbhgooakdpabaaDoorBM1
/- Configurations in the abstract heap; the program's test of one. -/
namespace Go.B.YtjbhgooakdpabaaDoor
open Go Go.B Go.Proofs
set_option maxRecDepth 100000
set_option maxHeartbeats 16000000
set_option linter.unusedSimpArgs false
set_option linter.unusedVariables false

/-- A row of n elements of sz cells, where a slice begins. -/
structure Row (H : Heap) (b : Option Addr) (n sz : Nat) (cells : List Value) : Prop where
  len : cells.length = n * sz
  at_ : n = 0 ∨ ∃ i o c e ro, b = some ⟨i, o, none⟩ ∧ H.get i = some (.cells c e ro) ∧ o + cells.length ≤ c.length ∧ (c.drop o).take cells.length = cells ∧ szOf Tryd.prog e = some sz
theorem Row.mono {H H' : Heap} (ok : Ok H) {ps : List Nat} (hs : Same H H' ps) {b : Option Addr} {n sz : Nat} {cells : List Value} (hp : ∀ i o, b = some ⟨i, o, none⟩ → i ∉ ps) (h : Row H b n sz cells) : Row H' b n sz cells := by
  refine ⟨h.len, ?_⟩
  rcases h.at_ with h0 | ⟨i, o, c, e, ro, h1, h2, h3⟩
  · exact .inl h0
  · exact .inr ⟨i, o, c, e, ro, h1, by rw [hs.get i (ok.lt h2) (hp i o h1)]; exact h2, h3⟩
theorem Row.get {H : Heap} {b : Option Addr} {n sz : Nat} {cells : List Value} (h : Row H b n sz cells) {j : Nat} (hj : j < n) : ∃ i o, b = some ⟨i, o, none⟩ ∧ gcV (o + j * sz) sz (H.get i) = some ((cells.drop (j * sz)).take sz) := by
  rcases h.at_ with h0 | ⟨i, o, c, e, ro, h1, h2, h3, h4, _⟩
  · omega
  · refine ⟨i, o, h1, ?_⟩
    · rw [h2, gcV_cells]
      have h5 : (j + 1) * sz ≤ n * sz := Nat.mul_le_mul_right _ hj
      rw [Nat.succ_mul] at h5
      have h6 := h.len
      rw [if_pos (by omega)]
      congr 1
      rw [← h4, List.drop_take, List.take_take, List.drop_drop]
      congr 1
      omega

structure T4 where
  a : Cass
  b : Cass
  c : Cass
  d : Cass
def T4.l (t : T4) : List Cass := [t.a, t.b, t.c, t.d]
def T4.cells (t : T4) : List Value := [.int .i64 t.a.denom, .int .i64 t.a.loaded, .int .i64 t.a.given, .int .i64 t.a.rejected, .int .i64 t.b.denom, .int .i64 t.b.loaded, .int .i64 t.b.given, .int .i64 t.b.rejected, .int .i64 t.c.denom, .int .i64 t.c.loaded, .int .i64 t.c.given, .int .i64 t.c.rejected, .int .i64 t.d.denom, .int .i64 t.d.loaded, .int .i64 t.d.given, .int .i64 t.d.rejected]
def T4.ok (t : T4) : Bool := t.l.all Cass.ok
theorem T4.cells_length (t : T4) : t.cells.length = 16 := rfl

structure Cfg where
  terms : List T4
  pans : List ByteArray
  funds : List Int
  least : Int
  most : Int
def Cfg.base (c : Cfg) : Bool := decide (c.terms.length ≤ 8 ∧ c.funds.length = c.pans.length ∧ c.pans.length ≤ 64 ∧ 1 ≤ c.least ∧ c.most ≤ 1000000 ∧ c.least ≤ c.most)
def hasP (ps : List ByteArray) (a : ByteArray) : Bool := ps.any fun p => decide (a = p)
def Cfg.pan (c : Cfg) (i : Nat) : Bool :=
  match c.pans[i]?, c.funds[i]? with
  | some p, some f => panOk p && (!hasP (c.pans.take i) p && decide (0 ≤ f ∧ f ≤ 1000000000000))
  | _, _ => true
def Cfg.ok (c : Cfg) : Bool := c.base && (c.terms.all T4.ok && (List.range c.pans.length).all c.pan)

theorem money_cassettes4 (t : T4) (H : Heap) (ok : Ok H) : ∃ v H', Ca V 26 #[.agg #[.int .i64 t.a.denom, .int .i64 t.a.loaded, .int .i64 t.a.given, .int .i64 t.a.rejected, .int .i64 t.b.denom, .int .i64 t.b.loaded, .int .i64 t.b.given, .int .i64 t.b.rejected, .int .i64 t.c.denom, .int .i64 t.c.loaded, .int .i64 t.c.given, .int .i64 t.c.rejected, .int .i64 t.d.denom, .int .i64 t.d.loaded, .int .i64 t.d.given, .int .i64 t.d.rejected]] H v H' ∧ v = .bool t.ok ∧ Same H H' [] := money_cassettes t.l rfl H ok
theorem terms_get {l : List T4} {i : Nat} {t : T4} (h : l[i]? = some t) : ((l.flatMap T4.cells).drop (i * 16)).take 16 = [.int .i64 t.a.denom, .int .i64 t.a.loaded, .int .i64 t.a.given, .int .i64 t.a.rejected, .int .i64 t.b.denom, .int .i64 t.b.loaded, .int .i64 t.b.given, .int .i64 t.b.rejected, .int .i64 t.c.denom, .int .i64 t.c.loaded, .int .i64 t.c.given, .int .i64 t.c.rejected, .int .i64 t.d.denom, .int .i64 t.d.loaded, .int .i64 t.d.given, .int .i64 t.d.rejected] := flat_get T4.cells 16 (fun _ => rfl) l i t h
/-- A configuration's value. -/
structure CfgAt (H : Heap) (c : Cfg) (b1 b2 b3 : Option Addr) : Prop where
  terms : Row H b1 c.terms.length 16 (c.terms.flatMap T4.cells)
  pans : Row H b2 c.pans.length 1 (c.pans.map Value.string)
  funds : Row H b3 c.funds.length 1 (c.funds.map (Value.int .i64))
  l1 : c.terms.length ≤ maxLen
  l2 : c.pans.length ≤ maxLen
  l3 : c.funds.length ≤ maxLen
  lp : ∀ p ∈ c.pans, p.size ≤ maxLen
def cfgV (c : Cfg) (b1 b2 b3 : Option Addr) (c1 c2 c3 : Nat) : List Value := [.slice b1 c.terms.length c1, .slice b2 c.pans.length c2, .slice b3 c.funds.length c3, .int .i64 c.least, .int .i64 c.most]
theorem CfgAt.mono {H H' : Heap} (ok : Ok H) (hs : Same H H' []) {c : Cfg} {b1 b2 b3 : Option Addr} (h : CfgAt H c b1 b2 b3) : CfgAt H' c b1 b2 b3 :=
  ⟨h.terms.mono ok hs (fun _ _ _ => by simp), h.pans.mono ok hs (fun _ _ _ => by simp), h.funds.mono ok hs (fun _ _ _ => by simp), h.l1, h.l2, h.l3, h.lp⟩

theorem Row.mono' {H H' : Heap} (ok : Ok H) {ps : List Nat} (hs : Same H H' ps) {b : Option Addr} {n sz : Nat} {cells : List Value} (hp : ∀ p ∈ ps, ∀ c e ro, H.get p ≠ some (.cells c e ro)) (h : Row H b n sz cells) : Row H' b n sz cells := by
  refine ⟨h.len, ?_⟩
  rcases h.at_ with h0 | ⟨i, o, c, e, ro, h1, h2, h3⟩
  · exact .inl h0
  · exact .inr ⟨i, o, c, e, ro, h1, by rw [hs.get i (ok.lt h2) (fun z => hp i z _ _ _ h2)]; exact h2, h3⟩
theorem CfgAt.mono' {H H' : Heap} (ok : Ok H) {ps : List Nat} (hs : Same H H' ps) (hp : ∀ p ∈ ps, ∀ c e ro, H.get p ≠ some (.cells c e ro)) {c : Cfg} {b1 b2 b3 : Option Addr} (h : CfgAt H c b1 b2 b3) : CfgAt H' c b1 b2 b3 :=
  ⟨h.terms.mono' ok hs hp, h.pans.mono' ok hs hp, h.funds.mono' ok hs hp, h.l1, h.l2, h.l3, h.lp⟩
theorem one_get {α : Type} (f : α → Value) {l : List α} {i : Nat} {x : α} (h : l[i]? = some x) : ((l.map f).drop (i * 1)).take 1 = [f x] := by
  rw [Nat.mul_one]
  have hi : i < l.length := (List.getElem?_eq_some_iff.mp h).1
  rw [List.drop_eq_getElem_cons (by simpa using hi)]
  simp only [List.getElem_map, List.take_succ_cons, List.take_zero]
  rw [(List.getElem?_eq_some_iff.mp h).2]
def seen (ps : List ByteArray) : List (ByteArray × Value) := ps.map fun p => (p, Value.bool true)
theorem seen_get (ps : List ByteArray) (a : ByteArray) : lkV false (.bool false) (aget (seen ps) a) = .bool (hasP ps a) := by
  unfold aget seen hasP
  induction ps with
  | nil => rfl
  | cons p ps ih =>
    rw [List.map_cons, List.find?_cons, List.any_cons]
    by_cases h : a = p
    · simp [h, lkV]
    · simp only [h, decide_false, Bool.false_or]
      exact ih
theorem seen_set (ps : List ByteArray) (a : ByteArray) (h : hasP ps a = false) : aset (seen ps) a (.bool true) = seen (ps ++ [a]) := by
  unfold seen
  induction ps with
  | nil => rfl
  | cons p ps ih =>
    unfold hasP at h
    rw [List.any_cons, Bool.or_eq_false_iff] at h
    have h1 : ¬ a = p := by simpa using h.1
    simp only [List.map_cons, aset, if_neg h1, List.cons_append]
    rw [ih h.2]
theorem keyStr : KeyEq Tryd.prog 9 Value.string := KeyEq.string un_9

theorem money_Right (c : Cfg) (b1 b2 b3 : Option Addr) (c1 c2 c3 : Nat) (H : Heap) (ok : Ok H) (hc : CfgAt H c b1 b2 b3) :
    ∃ v H', Ca V 14 #[.agg (cfgV c b1 b2 b3 c1 c2 c3).toArray] H v H' ∧ v = .bool c.ok ∧ Same H H' [] := by
  have l1 : c.terms.length ≤ 9223372036854775807 := hc.l1
  have l2 : c.pans.length ≤ 9223372036854775807 := hc.l2
  have l3 : c.funds.length ≤ 9223372036854775807 := hc.l3
  refine Ca_run rfl tab_14 rfl ?_
  simp (maxSteps := 5000000) (disch := omega) only [Tryd.f14, cfgV, V_P, SX, W_block, exitW, goInt, yieldB, setCells, oneOf, cellOk, reduceIte, Nat.reduceLT, Nat.reduceLeDiff, Nat.reduceEqDiff, Nat.reduceAdd, Nat.reduceSub, Nat.reduceMul, Int.reduceToNat, Int.reduceLT, Int.reduceLE, Int.reduceAdd, Int.reduceSub, implies_true, ne_eq, if_true, if_false, reduceCtorEq]
  have s1 : Same H (H.push (.cells (cfgV c b1 b2 b3 c1 c2 c3) 35 false)) [] := by repeat (first | exact Same.same ok | refine Same.push ?_ _ | refine Same.room ?_ _ | (refine Same.make ?_ (by (try simp only [Heap.next_push, Heap.next_set, Heap.next_room]); omega) (by (try simp only [Heap.next_push, Heap.next_set, Heap.next_room]); omega)) | (refine Same.put ?_ (by simp (disch := omega) only [Heap.get_pushH, Heap.get_setH, hite_same, hite_ne, hite_eq, Heap.get_room, Heap.next_push, Heap.next_set, Heap.next_room, Option.isSome_some, *]) (fun z => by first | (simp; done) | (exfalso; (try simp only [Heap.next_push, Heap.next_set, Heap.next_room] at z); omega))))
  have hq : (H.push (.cells (cfgV c b1 b2 b3 c1 c2 c3) 35 false)).get H.next = some (.cells (cfgV c b1 b2 b3 c1 c2 c3) 35 false) := by rw [Heap.get_push, if_pos rfl]
  have hql : H.next < (H.push (.cells (cfgV c b1 b2 b3 c1 c2 c3) 35 false)).next := Nat.lt_succ_self _
  simp only [cfgV] at s1 hq hql
  generalize (H.push (.cells [.slice b1 c.terms.length c1, .slice b2 c.pans.length c2, .slice b3 c.funds.length c3, .int .i64 c.least, .int .i64 c.most] 35 false)) = H1 at *
  have ok1 := s1.ok
  have h1 := hc.mono ok s1
  have bad : c.base = false → c.ok = false := fun h => by unfold Cfg.ok; rw [h]; rfl
  generalize hqn : H.next = q at *
  repeat' (first
    | (refine gW_dec (fun h => ?_) (fun h => ?_) <;> simp (maxSteps := 5000000) (disch := omega) only [h, hq, V_P, SX, W_block, exitW, goInt, yieldB, setCells, oneOf, cellOk, reduceIte, Nat.reduceLT, Nat.reduceLeDiff, Nat.reduceEqDiff, Nat.reduceAdd, Nat.reduceSub, Nat.reduceMul, Int.reduceToNat, Int.reduceLT, Int.reduceLE, Int.reduceAdd, Int.reduceSub, implies_true, ne_eq, if_true, if_false, reduceCtorEq])
    | (refine cW_dec (fun h => ?_) (fun h => ?_) <;> simp (maxSteps := 5000000) (disch := omega) only [h, hq, V_P, SX, W_block, exitW, goInt, yieldB, setCells, oneOf, cellOk, reduceIte, Nat.reduceLT, Nat.reduceLeDiff, Nat.reduceEqDiff, Nat.reduceAdd, Nat.reduceSub, Nat.reduceMul, Int.reduceToNat, Int.reduceLT, Int.reduceLE, Int.reduceAdd, Int.reduceSub, implies_true, ne_eq, if_true, if_false, reduceCtorEq])
    | (refine gW_bool (fun h => ?_) (fun h => ?_) <;> simp (maxSteps := 5000000) (disch := omega) only [h, hq, V_P, SX, W_block, exitW, goInt, yieldB, setCells, oneOf, cellOk, reduceIte, Nat.reduceLT, Nat.reduceLeDiff, Nat.reduceEqDiff, Nat.reduceAdd, Nat.reduceSub, Nat.reduceMul, Int.reduceToNat, Int.reduceLT, Int.reduceLE, Int.reduceAdd, Int.reduceSub, implies_true, ne_eq, if_true, if_false, reduceCtorEq])
    | (refine cW_bool (fun h => ?_) (fun h => ?_) <;> simp (maxSteps := 5000000) (disch := omega) only [h, hq, V_P, SX, W_block, exitW, goInt, yieldB, setCells, oneOf, cellOk, reduceIte, Nat.reduceLT, Nat.reduceLeDiff, Nat.reduceEqDiff, Nat.reduceAdd, Nat.reduceSub, Nat.reduceMul, Int.reduceToNat, Int.reduceLT, Int.reduceLE, Int.reduceAdd, Int.reduceSub, implies_true, ne_eq, if_true, if_false, reduceCtorEq]))
  all_goals try (refine ⟨by rw [bad (by unfold Cfg.base; simp; omega)], ?_⟩; repeat (first | exact s1 | refine Same.push ?_ _ | refine Same.room ?_ _ | (refine Same.make ?_ (by (try simp only [Heap.next_push, Heap.next_set, Heap.next_room]); omega) (by (try simp only [Heap.next_push, Heap.next_set, Heap.next_room]); omega)) | (refine Same.put ?_ (by simp (disch := omega) only [Heap.get_pushH, Heap.get_setH, hite_same, hite_ne, hite_eq, Heap.get_room, Heap.next_push, Heap.next_set, Heap.next_room, Option.isSome_some, *]) (fun z => by first | (simp; done) | (exfalso; (try simp only [Heap.next_push, Heap.next_set, Heap.next_room] at z); omega)))); done)
  have hbase : c.base = true := by unfold Cfg.base; simp; omega
  refine W_for (fun (i : Nat) t H2 => t.get 1 = some (.pointer (some ⟨q, 0, none⟩)) ∧ t.get 45 = some (.slice b1 c.terms.length c1) ∧ t.get 46 = some (.int .i64 c.terms.length) ∧ t.get 47 = some (.int .i64 i) ∧ i ≤ c.terms.length ∧ (∀ j x, j < i → c.terms[j]? = some x → T4.ok x = true) ∧ Same H1 H2 []) (fun i => c.terms.length - i) 0 ?_ ?_
  · simp (maxSteps := 5000000) (disch := omega) only [V_P, SX, W_block, exitW, goInt, yieldB, setCells, oneOf, cellOk, reduceIte, Nat.reduceLT, Nat.reduceLeDiff, Nat.reduceEqDiff, Nat.reduceAdd, Nat.reduceSub, Nat.reduceMul, Int.reduceToNat, Int.reduceLT, Int.reduceLE, Int.reduceAdd, Int.reduceSub, implies_true, ne_eq, if_true, if_false, reduceCtorEq]
    refine ⟨rfl, Nat.zero_le _, fun j x h => absurd h (by omega), Same.refl ok1⟩
  rintro i t H2 ⟨g1, g45, g46, g47, hi, hall, hs⟩
  have h2 := h1.mono ok1 hs
  have hq2 := (hs.get q hql (by simp)).trans hq
  have hle := hs.le
  simp (maxSteps := 5000000) (disch := omega) only [g1, g45, g46, g47, V_P, SX, W_block, exitW, goInt, yieldB, setCells, oneOf, cellOk, reduceIte, Nat.reduceLT, Nat.reduceLeDiff, Nat.reduceEqDiff, Nat.reduceAdd, Nat.reduceSub, Nat.reduceMul, Int.reduceToNat, Int.reduceLT, Int.reduceLE, Int.reduceAdd, Int.reduceSub, implies_true, ne_eq, if_true, if_false, reduceCtorEq]
  refine cW_dec (fun hlt => ?_) (fun hlt => ?_)
  · have hlt' : i < c.terms.length := by omega
    obtain ⟨x, hx⟩ : ∃ x, c.terms[i]? = some x := ⟨c.terms[i], List.getElem?_eq_getElem hlt'⟩
    obtain ⟨i0, o0, rfl, hgc⟩ := h2.terms.get hlt'
    rw [terms_get hx] at hgc
    simp (maxSteps := 5000000) (disch := omega) only [g1, g45, g46, g47, hgc, V_P, SX, W_block, exitW, goInt, yieldB, setCells, oneOf, cellOk, reduceIte, Nat.reduceLT, Nat.reduceLeDiff, Nat.reduceEqDiff, Nat.reduceAdd, Nat.reduceSub, Nat.reduceMul, Int.reduceToNat, Int.reduceLT, Int.reduceLE, Int.reduceAdd, Int.reduceSub, implies_true, ne_eq, if_true, if_false, reduceCtorEq]
    refine W_callR rfl (by simp (maxSteps := 5000000) (disch := omega) only [V_P, SX, W_block, exitW, goInt, yieldB, setCells, oneOf, cellOk, reduceIte, Nat.reduceLT, Nat.reduceLeDiff, Nat.reduceEqDiff, Nat.reduceAdd, Nat.reduceSub, Nat.reduceMul, Int.reduceToNat, Int.reduceLT, Int.reduceLE, Int.reduceAdd, Int.reduceSub, implies_true, ne_eq, if_true, if_false, reduceCtorEq]) (money_cassettes4 x _ (by repeat (first | exact hs.ok | refine Ok.push ?_ _ | refine Ok.room ?_ _ | (refine Ok.put ?_ _ (by simp (disch := omega) only [Heap.get_pushH, Heap.get_setH, hite_same, hite_ne, hite_eq, Heap.get_room, Heap.next_push, Heap.next_set, Heap.next_room, Option.isSome_some, *]))))) ?_
    rintro v H3 ⟨rfl, hs3⟩
    have hs4 : Same H1 H3 [] := Same.trans (by repeat (first | exact hs | refine Same.push ?_ _ | refine Same.room ?_ _ | (refine Same.make ?_ (by (try simp only [Heap.next_push, Heap.next_set, Heap.next_room]); omega) (by (try simp only [Heap.next_push, Heap.next_set, Heap.next_room]); omega)) | (refine Same.put ?_ (by simp (disch := omega) only [Heap.get_pushH, Heap.get_setH, hite_same, hite_ne, hite_eq, Heap.get_room, Heap.next_push, Heap.next_set, Heap.next_room, Option.isSome_some, *]) (fun z => by first | (simp; done) | (exfalso; (try simp only [Heap.next_push, Heap.next_set, Heap.next_room] at z); omega))))) hs3 (fun _ hq => by cases hq)
    simp (maxSteps := 5000000) (disch := omega) only [g1, g45, g46, g47, V_P, SX, W_block, exitW, goInt, yieldB, setCells, oneOf, cellOk, reduceIte, Nat.reduceLT, Nat.reduceLeDiff, Nat.reduceEqDiff, Nat.reduceAdd, Nat.reduceSub, Nat.reduceMul, Int.reduceToNat, Int.reduceLT, Int.reduceLE, Int.reduceAdd, Int.reduceSub, implies_true, ne_eq, if_true, if_false, reduceCtorEq]
    refine cW_bool (fun hx2 => ?_) (fun hx2 => ?_)
    · simp (maxSteps := 5000000) (disch := omega) only [g1, g45, g46, g47, V_P, SX, W_block, exitW, goInt, yieldB, setCells, oneOf, cellOk, reduceIte, Nat.reduceLT, Nat.reduceLeDiff, Nat.reduceEqDiff, Nat.reduceAdd, Nat.reduceSub, Nat.reduceMul, Int.reduceToNat, Int.reduceLT, Int.reduceLE, Int.reduceAdd, Int.reduceSub, implies_true, ne_eq, if_true, if_false, reduceCtorEq]
      have hx3 : x.ok = false := by simpa using hx2
      refine ⟨?_, s1.trans hs4 (fun _ hq => by cases hq)⟩
      have : c.terms.all T4.ok = false := by rw [List.all_eq_false]; exact ⟨x, List.mem_of_getElem? hx, by simp [hx3]⟩
      unfold Cfg.ok; rw [this]; simp
    · simp (maxSteps := 5000000) (disch := omega) only [g1, g45, g46, g47, V_P, SX, W_block, exitW, goInt, yieldB, setCells, oneOf, cellOk, reduceIte, Nat.reduceLT, Nat.reduceLeDiff, Nat.reduceEqDiff, Nat.reduceAdd, Nat.reduceSub, Nat.reduceMul, Int.reduceToNat, Int.reduceLT, Int.reduceLE, Int.reduceAdd, Int.reduceSub, implies_true, ne_eq, if_true, if_false, reduceCtorEq]
      have hx3 : x.ok = true := by simpa using hx2
      refine ⟨i + 1, ⟨by simp, by omega, fun j y hj hy => ?_, hs4⟩, by omega⟩
      by_cases hji : j = i
      · subst hji; rw [hx] at hy; cases hy; exact hx3
      · exact hall j y (by omega) hy
  · have hterms : c.terms.all T4.ok = true := by
      rw [List.all_eq_true]
      intro x hx
      obtain ⟨j, hj, rfl⟩ := List.mem_iff_getElem.mp hx
      exact hall j _ (by omega) (List.getElem?_eq_getElem hj)
    simp (maxSteps := 5000000) (disch := omega) only [g1, g45, g46, g47, hq2, V_P, SX, W_block, exitW, goInt, yieldB, setCells, oneOf, cellOk, reduceIte, Nat.reduceLT, Nat.reduceLeDiff, Nat.reduceEqDiff, Nat.reduceAdd, Nat.reduceSub, Nat.reduceMul, Int.reduceToNat, Int.reduceLT, Int.reduceLE, Int.reduceAdd, Int.reduceSub, implies_true, ne_eq, if_true, if_false, reduceCtorEq]
    have ok2 := hs.ok
    have hm : (H2.push (.map [] 0)).get H2.next = some (.map [] 0) := by rw [Heap.get_push, if_pos rfl]
    have sm : Same H1 (H2.push (.map [] 0)) [] := by repeat (first | exact hs | refine Same.push ?_ _ | refine Same.room ?_ _ | (refine Same.make ?_ (by (try simp only [Heap.next_push, Heap.next_set, Heap.next_room]); omega) (by (try simp only [Heap.next_push, Heap.next_set, Heap.next_room]); omega)) | (refine Same.put ?_ (by simp (disch := omega) only [Heap.get_pushH, Heap.get_setH, hite_same, hite_ne, hite_eq, Heap.get_room, Heap.next_push, Heap.next_set, Heap.next_room, Option.isSome_some, *]) (fun z => by first | (simp; done) | (exfalso; (try simp only [Heap.next_push, Heap.next_set, Heap.next_room] at z); omega))))
    have hml : H2.next < (H2.push (.map [] 0)).next := Nat.lt_succ_self _
    have hqm : (H2.push (.map [] 0)).get q = H2.get q := by rw [Heap.get_push, if_neg (by omega)]
    generalize H2.push (.map [] 0) = H4 at *
    generalize hmn : H2.next = m at *
    have ok4 := sm.ok
    have h4 := h1.mono ok1 sm
    have hq4 := hqm.trans hq2
    have badp : ∀ j, j < c.pans.length → c.pan j = false → c.ok = false := fun j hj h => by
      unfold Cfg.ok
      have : (List.range c.pans.length).all c.pan = false := by rw [List.all_eq_false]; exact ⟨j, by simpa using hj, by simp [h]⟩
      rw [this]; simp
    refine W_for (fun (i : Nat) t H5 => t.get 1 = some (.pointer (some ⟨q, 0, none⟩)) ∧ t.get 5 = some (.map (some m)) ∧ t.get 57 = some (.slice b2 c.pans.length c2) ∧ t.get 58 = some (.int .i64 c.pans.length) ∧ t.get 59 = some (.int .i64 i) ∧ i ≤ c.pans.length ∧ (∀ j, j < i → c.pan j = true) ∧ (∃ es clk, H5.get m = some (.map es clk) ∧ MapIs Value.string es (seen (c.pans.take i))) ∧ Same H4 H5 [m]) (fun i => c.pans.length - i) 0 ?_ ?_
    · simp (maxSteps := 5000000) (disch := omega) only [g1, V_P, SX, W_block, exitW, goInt, yieldB, setCells, oneOf, cellOk, reduceIte, Nat.reduceLT, Nat.reduceLeDiff, Nat.reduceEqDiff, Nat.reduceAdd, Nat.reduceSub, Nat.reduceMul, Int.reduceToNat, Int.reduceLT, Int.reduceLE, Int.reduceAdd, Int.reduceSub, implies_true, ne_eq, if_true, if_false, reduceCtorEq]
      refine ⟨rfl, Nat.zero_le _, fun j h => absurd h (by omega), ⟨[], 0, hm, rfl⟩, Same.same ok4⟩
    clear hall g45 g46 g47 hlt hi i g1 t
    rintro i t H5 ⟨g1, g5, g57, g58, g59, hi, hall, ⟨es, clk, hm5, hmi⟩, hs5⟩
    have h5 := h4.mono' ok4 hs5 (fun p hp => by simp at hp; subst hp; rw [hm]; intro _ _ _ e; cases e)
    have hq5 := (hs5.get q (by omega) (by simp; omega)).trans hq4
    have hle5 := hs5.le
    have hle4 := sm.le
    have hle1 := s1.le
    have sH : Same H H5 [] := Same.trans (s1.trans sm (fun _ hq => by cases hq)) hs5 (fun z hz hz2 => by simp at hz; omega)
    simp (maxSteps := 5000000) (disch := omega) only [g1, g5, g57, g58, g59, V_P, SX, W_block, exitW, goInt, yieldB, setCells, oneOf, cellOk, reduceIte, Nat.reduceLT, Nat.reduceLeDiff, Nat.reduceEqDiff, Nat.reduceAdd, Nat.reduceSub, Nat.reduceMul, Int.reduceToNat, Int.reduceLT, Int.reduceLE, Int.reduceAdd, Int.reduceSub, implies_true, ne_eq, if_true, if_false, reduceCtorEq]
    refine cW_dec (fun hlt => ?_) (fun hlt => ?_)
    · have hlt' : i < c.pans.length := by omega
      have hlt3 : i < c.funds.length := by omega
      obtain ⟨p, hp⟩ : ∃ p, c.pans[i]? = some p := ⟨c.pans[i], List.getElem?_eq_getElem hlt'⟩
      obtain ⟨f, hf⟩ : ∃ f, c.funds[i]? = some f := ⟨c.funds[i], List.getElem?_eq_getElem hlt3⟩
      have hps : p.size ≤ maxLen := hc.lp p (List.mem_of_getElem? hp)
      have hpan : c.pan i = (panOk p && (!hasP (c.pans.take i) p && decide (0 ≤ f ∧ f ≤ 1000000000000))) := by unfold Cfg.pan; rw [hp, hf]
      obtain ⟨i0, o0, rfl, hgc⟩ := h5.pans.get hlt'
      rw [one_get Value.string hp, Nat.mul_one] at hgc
      obtain ⟨i3, o3, rfl, hgf⟩ := h5.funds.get hlt3
      rw [one_get (Value.int .i64) hf, Nat.mul_one] at hgf
      have hlk : lookupB Tryd.prog H5 58 (.map (some m)) (.string p) false = some (.bool (hasP (c.pans.take i) p)) := by
        rw [lookup_is keyStr un_58 ze_4 rfl hm5 hmi, seen_get]
      obtain ⟨es', clk', hup, hmi'⟩ := update_is (v := .bool true) (a := p) keyStr un_58 hm5 hmi
      simp (maxSteps := 5000000) (disch := omega) only [g1, g5, g57, g58, g59, hgc, hgf, hlk, hq5, V_P, SX, W_block, exitW, goInt, yieldB, setCells, oneOf, cellOk, reduceIte, Nat.reduceLT, Nat.reduceLeDiff, Nat.reduceEqDiff, Nat.reduceAdd, Nat.reduceSub, Nat.reduceMul, Int.reduceToNat, Int.reduceLT, Int.reduceLE, Int.reduceAdd, Int.reduceSub, implies_true, ne_eq, if_true, if_false, reduceCtorEq]
      repeat' (first
    | (refine gW_dec (fun h => ?_) (fun h => ?_) <;> simp (maxSteps := 5000000) (disch := omega) only [h, g1, g5, g57, g58, g59, hgc, hgf, hlk, hq5, V_P, SX, W_block, exitW, goInt, yieldB, setCells, oneOf, cellOk, reduceIte, Nat.reduceLT, Nat.reduceLeDiff, Nat.reduceEqDiff, Nat.reduceAdd, Nat.reduceSub, Nat.reduceMul, Int.reduceToNat, Int.reduceLT, Int.reduceLE, Int.reduceAdd, Int.reduceSub, implies_true, ne_eq, if_true, if_false, reduceCtorEq])
    | (refine cW_dec (fun h => ?_) (fun h => ?_) <;> simp (maxSteps := 5000000) (disch := omega) only [h, g1, g5, g57, g58, g59, hgc, hgf, hlk, hq5, V_P, SX, W_block, exitW, goInt, yieldB, setCells, oneOf, cellOk, reduceIte, Nat.reduceLT, Nat.reduceLeDiff, Nat.reduceEqDiff, Nat.reduceAdd, Nat.reduceSub, Nat.reduceMul, Int.reduceToNat, Int.reduceLT, Int.reduceLE, Int.reduceAdd, Int.reduceSub, implies_true, ne_eq, if_true, if_false, reduceCtorEq])
    | (refine gW_bool (fun h => ?_) (fun h => ?_) <;> simp (maxSteps := 5000000) (disch := omega) only [h, g1, g5, g57, g58, g59, hgc, hgf, hlk, hq5, V_P, SX, W_block, exitW, goInt, yieldB, setCells, oneOf, cellOk, reduceIte, Nat.reduceLT, Nat.reduceLeDiff, Nat.reduceEqDiff, Nat.reduceAdd, Nat.reduceSub, Nat.reduceMul, Int.reduceToNat, Int.reduceLT, Int.reduceLE, Int.reduceAdd, Int.reduceSub, implies_true, ne_eq, if_true, if_false, reduceCtorEq])
    | (refine cW_bool (fun h => ?_) (fun h => ?_) <;> simp (maxSteps := 5000000) (disch := omega) only [h, g1, g5, g57, g58, g59, hgc, hgf, hlk, hq5, V_P, SX, W_block, exitW, goInt, yieldB, setCells, oneOf, cellOk, reduceIte, Nat.reduceLT, Nat.reduceLeDiff, Nat.reduceEqDiff, Nat.reduceAdd, Nat.reduceSub, Nat.reduceMul, Int.reduceToNat, Int.reduceLT, Int.reduceLE, Int.reduceAdd, Int.reduceSub, implies_true, ne_eq, if_true, if_false, reduceCtorEq]))
      all_goals try (refine ⟨by rw [badp i hlt' (by rw [hpan]; unfold panOk; simp; omega)], sH⟩; done)
      refine W_callR rfl (by simp (maxSteps := 5000000) (disch := omega) only [V_P, SX, W_block, exitW, goInt, yieldB, setCells, oneOf, cellOk, reduceIte, Nat.reduceLT, Nat.reduceLeDiff, Nat.reduceEqDiff, Nat.reduceAdd, Nat.reduceSub, Nat.reduceMul, Int.reduceToNat, Int.reduceLT, Int.reduceLE, Int.reduceAdd, Int.reduceSub, implies_true, ne_eq, if_true, if_false, reduceCtorEq]) (frame_Digits p H5 hps) ?_
      rintro v H6 ⟨rfl, rfl⟩
      simp (maxSteps := 5000000) (disch := omega) only [g1, g5, g57, g58, g59, hgc, hgf, hlk, hq5, V_P, SX, W_block, exitW, goInt, yieldB, setCells, oneOf, cellOk, reduceIte, Nat.reduceLT, Nat.reduceLeDiff, Nat.reduceEqDiff, Nat.reduceAdd, Nat.reduceSub, Nat.reduceMul, Int.reduceToNat, Int.reduceLT, Int.reduceLE, Int.reduceAdd, Int.reduceSub, implies_true, ne_eq, if_true, if_false, reduceCtorEq]
      repeat' (first
    | (refine gW_dec (fun h => ?_) (fun h => ?_) <;> simp (maxSteps := 5000000) (disch := omega) only [h, g1, g5, g57, g58, g59, hgc, hgf, hlk, hq5, hup, V_P, SX, W_block, exitW, goInt, yieldB, setCells, oneOf, cellOk, reduceIte, Nat.reduceLT, Nat.reduceLeDiff, Nat.reduceEqDiff, Nat.reduceAdd, Nat.reduceSub, Nat.reduceMul, Int.reduceToNat, Int.reduceLT, Int.reduceLE, Int.reduceAdd, Int.reduceSub, implies_true, ne_eq, if_true, if_false, reduceCtorEq])
    | (refine cW_dec (fun h => ?_) (fun h => ?_) <;> simp (maxSteps := 5000000) (disch := omega) only [h, g1, g5, g57, g58, g59, hgc, hgf, hlk, hq5, hup, V_P, SX, W_block, exitW, goInt, yieldB, setCells, oneOf, cellOk, reduceIte, Nat.reduceLT, Nat.reduceLeDiff, Nat.reduceEqDiff, Nat.reduceAdd, Nat.reduceSub, Nat.reduceMul, Int.reduceToNat, Int.reduceLT, Int.reduceLE, Int.reduceAdd, Int.reduceSub, implies_true, ne_eq, if_true, if_false, reduceCtorEq])
    | (refine gW_bool (fun h => ?_) (fun h => ?_) <;> simp (maxSteps := 5000000) (disch := omega) only [h, g1, g5, g57, g58, g59, hgc, hgf, hlk, hq5, hup, V_P, SX, W_block, exitW, goInt, yieldB, setCells, oneOf, cellOk, reduceIte, Nat.reduceLT, Nat.reduceLeDiff, Nat.reduceEqDiff, Nat.reduceAdd, Nat.reduceSub, Nat.reduceMul, Int.reduceToNat, Int.reduceLT, Int.reduceLE, Int.reduceAdd, Int.reduceSub, implies_true, ne_eq, if_true, if_false, reduceCtorEq])
    | (refine cW_bool (fun h => ?_) (fun h => ?_) <;> simp (maxSteps := 5000000) (disch := omega) only [h, g1, g5, g57, g58, g59, hgc, hgf, hlk, hq5, hup, V_P, SX, W_block, exitW, goInt, yieldB, setCells, oneOf, cellOk, reduceIte, Nat.reduceLT, Nat.reduceLeDiff, Nat.reduceEqDiff, Nat.reduceAdd, Nat.reduceSub, Nat.reduceMul, Int.reduceToNat, Int.reduceLT, Int.reduceLE, Int.reduceAdd, Int.reduceSub, implies_true, ne_eq, if_true, if_false, reduceCtorEq]))
      · refine ⟨by rw [badp i hlt' (by rw [hpan]; simp [panOk, show digs p = false by simpa using ‹(!digs p) = true›])], sH⟩
      · refine ⟨by rw [badp i hlt' (by rw [hpan]; simp [‹hasP (List.take i c.pans) p = true›])], sH⟩
      · refine ⟨by rw [badp i hlt' (by rw [hpan]; simp; omega)], sH⟩
      · refine ⟨by rw [badp i hlt' (by rw [hpan]; simp; omega)], sH⟩
      · have hnot : hasP (List.take i c.pans) p = false := ‹_›
        have hdig : digs p = true := by simpa using ‹(!digs p) = false›
        have hgood : c.pan i = true := by
          rw [hpan]; unfold panOk; rw [hnot, hdig]; simp; omega
        refine ⟨i + 1, ⟨by simp, by omega, fun j hj => ?_, ⟨es', clk', rfl, ?_⟩, hs5.set hm5 (fun _ => by simp)⟩, by omega⟩
        · by_cases hji : j = i
          · rw [hji]; exact hgood
          · exact hall j (by omega)
        · rw [seen_set _ _ hnot] at hmi'
          rw [List.take_add_one, hp]
          exact hmi'
    · simp (maxSteps := 5000000) (disch := omega) only [g1, g5, g57, g58, g59, V_P, SX, W_block, exitW, goInt, yieldB, setCells, oneOf, cellOk, reduceIte, Nat.reduceLT, Nat.reduceLeDiff, Nat.reduceEqDiff, Nat.reduceAdd, Nat.reduceSub, Nat.reduceMul, Int.reduceToNat, Int.reduceLT, Int.reduceLE, Int.reduceAdd, Int.reduceSub, implies_true, ne_eq, if_true, if_false, reduceCtorEq]
      refine ⟨?_, sH⟩
      have hp : (List.range c.pans.length).all c.pan = true := by
        rw [List.all_eq_true]
        intro j hj
        exact hall j (by have : j < c.pans.length := by simpa using hj
                         omega)
      unfold Cfg.ok
      rw [hbase, hterms, hp]
      rfl
end Go.B.YtjbhgooakdpabaaDoor
