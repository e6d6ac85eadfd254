import Derived.Test.YtnnoanfiehjleaaDoorQKnown15
import Derived.Test.YtnnoanfiehjleaaDoorQDec
import Derived.Test.YtnnoanfiehjleaaDoorPAllx10
/- What is asked is the last account and the last amount ahead of the asking, once. -/
namespace Go.Proofs.YtnnoanfiehjleaaDoor.Q
open Go.RowKit Go.Proofs.YtnnoanfiehjleaaDoorW.PrintWords Go.Proofs.YtnnoanfiehjleaaDoorW.PrintMore Go.Proofs.YtnnoanfiehjleaaDoor.PAll
set_option linter.unusedVariables false

abbrev w1 : ByteArray := ⟨#[49]⟩
abbrev w2 : ByteArray := ⟨#[50]⟩
def panL : List ByteArray := [(⟨#[52, 48, 48, 48, 49, 50, 51, 52, 49, 50, 51, 52, 49, 50, 51, 52]⟩ : ByteArray), (⟨#[53, 49]⟩ : ByteArray), (⟨#[57]⟩ : ByteArray), (⟨#[54, 48, 49, 49, 48, 48, 48, 57, 57, 48, 49, 51, 57, 52, 50, 52]⟩ : ByteArray)]
def panV (v : Int) : ByteArray := rdOf ByteArray.empty panL (Int.tmod v 4)
theorem tmod4 {v : Int} (h : U8 v) : 0 ≤ Int.tmod v 4 ∧ Int.tmod v 4 < 4 := by
  unfold U8 at h
  rw [Int.tmod_eq_emod_of_nonneg h.1]
  omega
theorem panV_cases {v : Int} (h : U8 v) : ∃ j : Fin 4, panV v = rdOf ByteArray.empty panL (j.val : Int) := by
  obtain ⟨h0, h1⟩ := tmod4 h
  obtain ⟨j, hj⟩ := Int.eq_ofNat_of_zero_le h0
  exact ⟨⟨j, by omega⟩, by unfold panV; rw [hj]⟩
theorem panV_card {v : Int} (h : U8 v) : cardB (panV v).data.toList = true ∧ (panV v).size ≤ 1000 := by
  obtain ⟨j, hj⟩ := panV_cases h
  rw [hj]
  have : ∀ j : Fin 4, cardB (rdOf ByteArray.empty panL (j.val : Int)).data.toList = true ∧ (rdOf ByteArray.empty panL (j.val : Int)).size ≤ 1000 := by decide +kernel
  exact this j
theorem pan_f {v : Int} (h : U8 v) : guichetseat_Pan.f v = some (panV v) := by
  obtain ⟨h0, h1⟩ := tmod4 h
  unfold guichetseat_Pan.f
  simp only [Option.bind_some]
  rw [if_pos h0, if_pos (by simpa using h1)]
  rfl
def decV (v : Int) : ByteArray := S (Go.Lib.decDigits v.toNat)
theorem decV_num {v : Int} (h : U8 v) : numR (decV v).data.toList = (v, true) ∧ numB (decV v).data.toList 1 7 = true ∧ (decV v).size ≤ 1000 := by
  unfold U8 at h
  have hl := (dec_len v.toNat).2
  have hs := dec_short (k := 3) (n := v.toNat) (by decide) (by omega)
  have hn : numR (decV v).data.toList = (v, true) := by
    unfold decV
    rw [S_list, numR_dec (by omega), show (v.toNat : Int) = v by omega]
  refine ⟨hn, ?_, ?_⟩
  · unfold numB
    rw [hn]
    unfold decV
    rw [S_list, decide_eq_true hl, decide_eq_true (show (Go.Lib.decDigits v.toNat).length ≤ 7 by omega)]
    rfl
  · unfold decV
    rw [S_size]
    omega
theorem decV_ev {v : Int} (h : U8 v) : Ev (fun k => guichetseat_Decimals.f k (wrap64 v)) (decV v) := by
  unfold U8 at h
  rw [show wrap64 v = ((v.toNat : Nat) : Int) from by unfold wrap64; omega]
  exact decimals_ev _ (by omega)
def pairs (f : Int → ByteArray) (l : List Int) : List ByteArray := l.flatMap fun v => [w1, f v]
theorem pairs_len (f : Int → ByteArray) (l : List Int) : (pairs f l).length = 2 * l.length := by
  unfold pairs
  induction l with
  | nil => rfl
  | cons v l ih => rw [List.flatMap_cons, List.length_append, ih, List.length_cons]; simp; omega
theorem pairs_snoc (f : Int → ByteArray) (l : List Int) (v : Int) : pairs f (l ++ [v]) = pairs f l ++ [w1, f v] := by simp [pairs]
theorem pairs_cons (f : Int → ByteArray) (l : List Int) (v : Int) (r : List ByteArray) : pairs f (v :: l) ++ r = w1 :: f v :: (pairs f l ++ r) := by simp [pairs]
theorem pairs_mem (f : Int → ByteArray) (l : List Int) (hf : ∀ v ∈ l, (f v).size ≤ 1000) : ∀ x ∈ pairs f l, x.size ≤ 1000 := by
  intro x hx
  unfold pairs at hx
  rw [List.mem_flatMap] at hx
  obtain ⟨v, hv, hx⟩ := hx
  simp only [List.mem_cons, List.not_mem_nil, or_false] at hx
  rcases hx with rfl | rfl
  · decide
  · exact hf v hv
theorem go_in {T : List S34} {a : Int} {s : S34} (h : finG T a = some s) (hk : s.f1 = 65 ∨ s.f1 = 66 ∨ s.f1 = 68 ∨ s.f1 = 69) (d : Nat) (x : ByteArray) (r : List ByteArray) (pan : ByteArray) (amt n : Int) (b : Bool) (p : ByteArray) (q : Int) :
    goG T (d + 1) (x :: r) pan amt a n b p q = goG T d r (takG s pan amt x.data.toList).2.1 (takG s pan amt x.data.toList).2.2 (takG s pan amt x.data.toList).1 (n + 1) b p q := by
  have hs : stepG s (x :: r) pan amt a n b p q = (true, r, (takG s pan amt x.data.toList).2.1, (takG s pan amt x.data.toList).2.2, (takG s pan amt x.data.toList).1, n, b, p, q) := by unfold stepG; rw [if_neg (by omega), if_pos hk]
  rw [goG, h]
  dsimp only
  rw [hs]
  rfl
/-- The table of the statement, but for its end. -/
structure TT (T : List S34) : Prop where
  t0 : finG T 0 = some ⟨0, 69, 1, 2⟩
  t1 : finG T 1 = some ⟨1, 65, 0, 0⟩
  t2 : finG T 2 = some ⟨2, 69, 3, 4⟩
  t3 : finG T 3 = some ⟨3, 68, 2, 2⟩
  t4 : finG T 4 = some ⟨4, 73, 5, 0⟩
variable {T : List S34}
theorem go_pans (h : TT T) (amt : Int) (b : Bool) (p : ByteArray) (q : Int) (r : List ByteArray) : ∀ (l : List Int) (d : Nat) (pan : ByteArray) (n : Int), (∀ v ∈ l, U8 v) → goG T (d + 2 * l.length) (pairs panV l ++ r) pan amt 0 n b p q = goG T d r (l.foldl (fun _ v => panV v) pan) amt 0 (n + 2 * (l.length : Int)) b p q
  | [], d, pan, n, hl => by
    show goG T (d + 0) _ _ _ _ _ _ _ _ = _
    simp [pairs]
  | v :: l, d, pan, n, hl => by
    have hc := (panV_card (hl v (by simp))).1
    have e1 : takG (⟨0, 69, 1, 2⟩ : S34) pan amt w1.data.toList = (1, pan, amt) := by
      unfold takG
      rw [if_neg (by decide), if_neg (by decide), if_neg (by decide), if_pos (by decide)]
    have e2 : takG (⟨1, 65, 0, 0⟩ : S34) pan amt (panV v).data.toList = (0, panV v, amt) := by
      unfold takG
      rw [if_pos rfl, if_pos hc]
    rw [pairs_cons, List.length_cons, show d + 2 * (l.length + 1) = (d + 2 * l.length) + 1 + 1 by omega, go_in h.t0 (.inr (.inr (.inr rfl))), e1]
    dsimp only
    rw [go_in h.t1 (.inl rfl), e2]
    dsimp only
    rw [go_pans h amt b p q r l d (panV v) (n + 1 + 1) (fun u hu => hl u (List.mem_cons_of_mem _ hu)), List.foldl_cons, show n + 1 + 1 + 2 * (l.length : Int) = n + 2 * ((l.length + 1 : Nat) : Int) by omega]
theorem go_amts (h : TT T) (pan : ByteArray) (b : Bool) (p : ByteArray) (q : Int) (r : List ByteArray) : ∀ (l : List Int) (d : Nat) (amt n : Int), (∀ v ∈ l, U8 v) → goG T (d + 2 * l.length) (pairs decV l ++ r) pan amt 2 n b p q = goG T d r pan (l.foldl (fun _ v => v) amt) 2 (n + 2 * (l.length : Int)) b p q
  | [], d, amt, n, hl => by
    show goG T (d + 0) _ _ _ _ _ _ _ _ = _
    simp [pairs]
  | v :: l, d, amt, n, hl => by
    obtain ⟨h1, h2, _⟩ := decV_num (hl v (by simp))
    have e1 : takG (⟨2, 69, 3, 4⟩ : S34) pan amt w1.data.toList = (3, pan, amt) := by
      unfold takG
      rw [if_neg (by decide), if_neg (by decide), if_neg (by decide), if_pos (by decide)]
    have e2 : takG (⟨3, 68, 2, 2⟩ : S34) pan amt (decV v).data.toList = (2, pan, v) := by
      unfold takG
      rw [if_neg (by decide), if_neg (by decide), if_pos rfl, if_pos h2, h1]
    rw [pairs_cons, List.length_cons, show d + 2 * (l.length + 1) = (d + 2 * l.length) + 1 + 1 by omega, go_in h.t2 (.inr (.inr (.inr rfl))), e1]
    dsimp only
    rw [go_in h.t3 (.inr (.inr (.inl rfl))), e2]
    dsimp only
    rw [go_amts h pan b p q r l d v (n + 1 + 1) (fun u hu => hl u (List.mem_cons_of_mem _ hu)), List.foldl_cons, show n + 1 + 1 + 2 * (l.length : Int) = n + 2 * ((l.length + 1 : Nat) : Int) by omega]
def asksB (pan : ByteArray) (amt : Int) : Bool := !(pan.toList == []) && (amt != 0)
def endA (two : Bool) : Int := if two then 6 else 5
/-- How a table of the statement ends. -/
def TE (two : Bool) (T : List S34) : Prop := if two then finG T 5 = some ⟨5, 73, 6, 0⟩ ∧ finG T 6 = some ⟨6, 90, 0, 0⟩ else finG T 5 = some ⟨5, 90, 0, 0⟩
theorem stop_z {s : S34} (hk : s.f1 = 90) (T : List S34) {a : Int} (h : finG T a = some s) (d : Nat) (inp : List ByteArray) (pan : ByteArray) (amt n : Int) (b : Bool) (p : ByteArray) (q : Int) : goG T (d + 1) inp pan amt a n b p q = (a, n, b, p, q) := by
  have hs : stepG s inp pan amt a n b p q = (false, inp, pan, amt, a, n, b, p, q) := by unfold stepG; rw [if_neg (by omega), if_neg (by omega)]
  rw [goG, h]
  dsimp only
  rw [hs]
  rfl
theorem ask_step {s : S34} (hk : s.f1 = 73) (inp : List ByteArray) (pan : ByteArray) (amt a n : Int) (b : Bool) (p : ByteArray) (q : Int) : stepG s inp pan amt a n b p q = (true, inp, pan, amt, s.f2, n, b || asksB pan amt, if b || !asksB pan amt then p else pan, if b || !asksB pan amt then q else amt) := by
  unfold stepG asksB
  rw [if_pos hk]
  by_cases h1 : pan.toList = []
  · rw [if_pos h1, h1]
    cases b <;> simp
  rw [if_neg h1, show (pan.toList == []) = false from beq_eq_false_iff_ne.2 h1]
  by_cases h2 : amt = 0
  · rw [if_pos h2, h2]
    cases b <;> simp
  rw [if_neg h2, show (amt != 0) = true from bne_iff_ne.2 h2]
  cases b <;> simp
theorem go_ask {s : S34} (hk : s.f1 = 73) (T : List S34) {a : Int} (h : finG T a = some s) (d : Nat) (inp : List ByteArray) (pan : ByteArray) (amt n : Int) (b : Bool) (p : ByteArray) (q : Int) : goG T (d + 1) inp pan amt a n b p q = goG T d inp pan amt s.f2 (n + 1) (b || asksB pan amt) (if b || !asksB pan amt then p else pan) (if b || !asksB pan amt then q else amt) := by
  rw [goG, h]
  dsimp only
  rw [ask_step hk]
  rfl
theorem go_end (h : TT T) (two : Bool) (he : TE two T) (d : Nat) (pan : ByteArray) (amt n : Int) : ∃ n', goG T (d + 3) [] pan amt 4 n false (S []) 0 = (endA two, n', asksB pan amt, if asksB pan amt then pan else S [], if asksB pan amt then amt else 0) := by
  rw [show d + 3 = d + 1 + 1 + 1 from rfl, go_ask (by rfl) T h.t4]
  dsimp only
  unfold TE at he
  unfold endA
  cases two with
  | false =>
    simp only [Bool.false_eq_true, if_false] at he ⊢
    rw [stop_z (by rfl) T he]
    exact ⟨n + 1, by cases asksB pan amt <;> rfl⟩
  | true =>
    simp only [if_true] at he ⊢
    rw [go_ask (by rfl) T he.1]
    dsimp only
    rw [stop_z (by rfl) T he.2]
    exact ⟨n + 1 + 1, by cases asksB pan amt <;> rfl⟩
theorem ask_run (h : TT T) (two : Bool) (he : TE two T) (P A : List Int) (hP : ∀ v ∈ P, U8 v) (hA : ∀ v ∈ A, U8 v) (lP : P.length ≤ 8) (lA : A.length ≤ 8) :
    ∃ n', runG T 0 (((pairs panV P ++ [w2]) ++ pairs decV A) ++ [w2]) = (endA two, n', asksB (P.foldl (fun _ v => panV v) (S [])) (A.foldl (fun _ v => v) 0), if asksB (P.foldl (fun _ v => panV v) (S [])) (A.foldl (fun _ v => v) 0) then P.foldl (fun _ v => panV v) (S []) else S [], if asksB (P.foldl (fun _ v => panV v) (S [])) (A.foldl (fun _ v => v) 0) then A.foldl (fun _ v => v) 0 else 0) := by
  have e : ((pairs panV P ++ [w2]) ++ pairs decV A) ++ [w2] = pairs panV P ++ (w2 :: (pairs decV A ++ [w2])) := by simp
  have ht : (((pairs panV P ++ [w2]) ++ pairs decV A) ++ [w2]).take 100 = pairs panV P ++ (w2 :: (pairs decV A ++ [w2])) := by
    rw [List.take_of_length_le (by simp only [List.length_append, pairs_len, List.length_singleton]; omega), e]
  have t0 : ∀ pan amt, takG (⟨0, 69, 1, 2⟩ : S34) pan amt w2.data.toList = (2, pan, amt) := fun pan amt => by
    unfold takG
    rw [if_neg (by decide), if_neg (by decide), if_neg (by decide), if_neg (by decide), if_pos (by decide)]
  have t2 : ∀ pan amt, takG (⟨2, 69, 3, 4⟩ : S34) pan amt w2.data.toList = (4, pan, amt) := fun pan amt => by
    unfold takG
    rw [if_neg (by decide), if_neg (by decide), if_neg (by decide), if_neg (by decide), if_pos (by decide)]
  unfold runG
  rw [ht]
  obtain ⟨d, hd⟩ : ∃ d, 200 = (d + 3 + 1 + 2 * A.length + 1) + 2 * P.length := ⟨200 - (5 + 2 * A.length + 2 * P.length), by omega⟩
  rw [hd, go_pans h 0 false (S []) 0 _ P _ (S []) 0 hP, go_in h.t0 (.inr (.inr (.inr rfl))), t0]
  dsimp only
  rw [go_amts h _ false (S []) 0 [w2] A _ 0 _ hA, go_in h.t2 (.inr (.inr (.inr rfl))), t2]
  dsimp only
  exact go_end h two he d _ _ _

theorem asks_fin (x9 : ByteArray) (x10 : Int) (x2 : Bool) (r : Rs) (n' : Int) (hr : r = (endA x2, n', asksB x9 x10, if asksB x9 x10 then x9 else S [], if asksB x9 x10 then x10 else 0)) :
    (if x9.toList = ([] : List UInt8) then (if (r.2.2.1 == false) = true then (if r.2.2.2.1.toList = ([] : List UInt8) then (if r.2.2.2.2 = 0 then (if r.1 = 5 then (if x2 = true then (if r.1 = 6 then (some x2) else (some false)) else (some true)) else (if r.1 = 6 then (some x2) else (some false))) else (some false)) else (some false)) else (some false)) else (if x10 = 0 then (if (r.2.2.1 == (x10 != 0)) = true then (if r.2.2.2.1.toList = ([] : List UInt8) then (if r.2.2.2.2 = 0 then (if r.1 = 5 then (if x2 = true then (if r.1 = 6 then (some x2) else (some false)) else (some true)) else (if r.1 = 6 then (some x2) else (some false))) else (some false)) else (some false)) else (some false)) else (if (r.2.2.1 == (x10 != 0)) = true then (if r.2.2.2.1.toList = x9.toList then (if r.2.2.2.2 = x10 then (if r.1 = 5 then (if x2 = true then (if r.1 = 6 then (some x2) else (some false)) else (some true)) else (if r.1 = 6 then (some x2) else (some false))) else (some false)) else (some false)) else (some false)))) = some true := by
  subst hr
  have hE : (if endA x2 = 5 then (if x2 = true then (if endA x2 = 6 then (some x2) else (some false)) else (some true)) else (if endA x2 = 6 then (some x2) else (some false))) = some true := by cases x2 <;> decide
  have hS : (S []).toList = [] := toList_S []
  dsimp only
  rw [hE]
  by_cases h1 : x9.toList = []
  · have ha : asksB x9 x10 = false := by unfold asksB; rw [h1]; rfl
    rw [if_pos h1, ha]
    simp [hS]
  · rw [if_neg h1]
    by_cases h2 : x10 = 0
    · have ha : asksB x9 x10 = false := by unfold asksB; rw [h2]; simp
      rw [if_pos h2, ha, h2]
      simp [hS]
    · have ha : asksB x9 x10 = true := by unfold asksB; rw [show (x9.toList == []) = false from beq_eq_false_iff_ne.2 h1, show (x10 != 0) = true from bne_iff_ne.2 h2]; rfl
      rw [if_neg h2, ha, show (x10 != 0) = true from bne_iff_ne.2 h2]
      simp

theorem asks_l1 (h : TT T) (lT : T.length ≤ 10) (x2 : Bool) (he : TE x2 T) (P A : List Int) (hP : ∀ v ∈ P, U8 v) (hA : ∀ v ∈ A, U8 v) (lP : P.length ≤ 8) (lA : A.length ≤ 8) (d : Nat) : ∀ i : Nat, A.length - i = d → i ≤ A.length →
    Ev (fun k => guichetlaw15_WalkAsks.l1 k A x2 T ((pairs panV P ++ [w2]) ++ pairs decV (A.take i)) (P.foldl (fun _ v => panV v) (S [])) ((A.take i).foldl (fun _ v => v) 0) (i : Int)) true := by
  induction d with
  | zero =>
    intro i hd hi
    rw [List.take_of_length_le (by omega)]
    refine Ev.succ ?_
    simp only [guichetlaw15_WalkAsks.l1]
    refine Ev.ite_neg (by omega) (Ev.ite_pos (by simp only [List.length_append, pairs_len, List.length_singleton]; omega) ?_)
    refine Ev.bind (run_ev T (by omega) 0 _ (fun x hx => ?_)) ?_
    · simp only [List.mem_append, List.mem_singleton] at hx
      rcases hx with ((hx | rfl) | hx) | rfl
      · exact pairs_mem _ _ (fun v hv => (panV_card (hP v hv)).2) x hx
      · decide
      · exact pairs_mem _ _ (fun v hv => (decV_num (hA v hv)).2.2) x hx
      · decide
    obtain ⟨n', hr⟩ := ask_run h x2 he P A hP hA lP lA
    exact ⟨0, fun _ _ => asks_fin _ _ x2 _ n' hr⟩
  | succ d ih =>
    intro i hd hi
    have hlt : i < A.length := by omega
    have hu := hA A[i] (List.getElem_mem hlt)
    have h' := ih (i + 1) (by omega) (by omega)
    rw [List.take_succ_eq_append_getElem hlt, pairs_snoc, List.foldl_append, List.foldl_cons, List.foldl_nil, ← List.append_assoc] at h'
    refine Ev.succ ?_
    simp only [guichetlaw15_WalkAsks.l1]
    rw [rd_lt hlt, wrap_succ hlt (by omega)]
    refine Ev.ite_pos (by omega) (Ev.ite_pos (by omega) (Ev.bind (decV_ev hu) (Ev.some_bind (Ev.ite_pos (by simp only [List.length_append, pairs_len, List.length_cons, List.length_nil, List.length_take]; omega) ?_))))
    rw [show wrap64 A[i] = A[i] from by unfold U8 at hu; unfold wrap64; omega]
    exact h'
theorem asks_l0 (h : TT T) (lT : T.length ≤ 10) (x2 : Bool) (he : TE x2 T) (P A : List Int) (hP : ∀ v ∈ P, U8 v) (hA : ∀ v ∈ A, U8 v) (lP : P.length ≤ 8) (lA : A.length ≤ 8) (d : Nat) : ∀ i : Nat, P.length - i = d → i ≤ P.length →
    Ev (fun k => guichetlaw15_WalkAsks.l0 k P A x2 T (pairs panV (P.take i)) ((P.take i).foldl (fun _ v => panV v) (S [])) 0 (i : Int)) true := by
  induction d with
  | zero =>
    intro i hd hi
    rw [List.take_of_length_le (by omega)]
    have h' := asks_l1 h lT x2 he P A hP hA lP lA _ 0 rfl (by omega)
    rw [List.take_zero, show pairs decV [] = [] from rfl, List.append_nil] at h'
    refine Ev.succ ?_
    simp only [guichetlaw15_WalkAsks.l0]
    exact Ev.ite_neg (by omega) (Ev.ite_pos (by simp only [pairs_len]; omega) h')
  | succ d ih =>
    intro i hd hi
    have hlt : i < P.length := by omega
    have hu := hP P[i] (List.getElem_mem hlt)
    have h' := ih (i + 1) (by omega) (by omega)
    rw [List.take_succ_eq_append_getElem hlt, pairs_snoc, List.foldl_append, List.foldl_cons, List.foldl_nil] at h'
    refine Ev.succ ?_
    simp only [guichetlaw15_WalkAsks.l0]
    rw [rd_lt hlt, wrap_succ hlt (by omega)]
    exact Ev.ite_pos (by omega) (Ev.ite_pos (by omega) (Ev.const_bind (pan_f hu) (Ev.some_bind (Ev.ite_pos (by simp only [pairs_len, List.length_cons, List.length_nil, List.length_take]; omega) h'))))
end Go.Proofs.YtnnoanfiehjleaaDoor.Q
namespace Go.Proofs.YtnnoanfiehjleaaDoor.Pure
open Go.RowKit Go.Proofs.YtnnoanfiehjleaaDoorW.PrintWords Go.Proofs.YtnnoanfiehjleaaDoorW.PrintMore Go.Proofs.YtnnoanfiehjleaaDoor.PAll Go.Proofs.YtnnoanfiehjleaaDoor.Q
theorem WalkAsks : guichetlaw15_WalkAsks.Pure := by
  intro P A x2 h0 _ hP h1 _ hA
  have hP' : ∀ v ∈ P, U8 v := fun v hv => U8.of (hP v hv)
  have hA' : ∀ v ∈ A, U8 v := fun v hv => U8.of (hA v hv)
  have ht : ∀ P A x2, Ev (fun k => guichetlaw15_WalkAsks.j0 k P A x2 true) true := fun P A x2 => by
    refine Ev.succ ?_
    simp only [guichetlaw15_WalkAsks.j0]
    first | exact Ev.now _ | exact Ev.ite_pos trivial (Ev.now _)
  refine Ev.rounds ?_
  unfold guichetlaw15_WalkAsks.f
  refine Ev.bind known15 (Ev.ite_pos rfl ?_)
  by_cases c0 : (P.length : Int) > 8
  · exact Ev.ite_pos c0 (ht _ _ _)
  refine Ev.ite_neg c0 ?_
  by_cases c1 : (A.length : Int) > 8
  · rw [decide_eq_true c1]
    exact ht _ _ _
  rw [decide_eq_false c1]
  have h := fun (T : List S34) (hT : TT T) (lT : T.length ≤ 10) (he : TE x2 T) => asks_l0 hT lT x2 he P A hP' hA' (by omega) (by omega) _ 0 rfl (by omega)
  refine Ev.succ ?_
  simp only [guichetlaw15_WalkAsks.j0]
  refine Ev.ite_neg (by decide) (Ev.some_bind ?_)
  cases x2 with
  | false =>
    refine Ev.ite_neg (by decide) ?_
    refine Ev.succ ?_
    simp only [guichetlaw15_WalkAsks.j1]
    exact h _ ⟨rfl, rfl, rfl, rfl, rfl⟩ (by decide) rfl
  | true =>
    refine Ev.ite_pos rfl (Ev.ite_pos (by decide) (Ev.some_bind (Ev.ite_pos (by decide) ?_)))
    refine Ev.succ ?_
    simp only [guichetlaw15_WalkAsks.j1]
    exact h _ ⟨rfl, rfl, rfl, rfl, rfl⟩ (by decide) ⟨rfl, rfl⟩
end Go.Proofs.YtnnoanfiehjleaaDoor.Pure
