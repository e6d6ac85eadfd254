import Derived.Test.YtjbhgooakdpabaaDoorQMoney2
/- Which amount a text is, by the reference. -/
namespace Go.Proofs.YtjbhgooakdpabaaDoor.Q
open Go.RowKit Go.Proofs.YtjbhgooakdpabaaDoorW.PrintWords Go.Proofs.YtjbhgooakdpabaaDoorW.PrintMore Go.Proofs.YtjbhgooakdpabaaDoor.PAll
set_option linter.unusedVariables false
open Go.Lib (decDigits)

theorem val_mono (l m : List UInt8) : val l ≤ val (l ++ m) := by
  unfold val
  rw [List.foldl_append]
  generalize List.foldl (fun a c => a * 10 + (c.toNat - 48)) 0 l = x
  induction m generalizing x with
  | nil => exact Nat.le_refl _
  | cons d r ih => exact Nat.le_trans (by omega) (ih (x * 10 + (d.toNat - 48)))
theorem val_take_le {l : List UInt8} {i : Nat} (h : i < l.length) : val (l.take i) * 10 ≤ val l := by
  have h1 := val_take h
  have h2 := val_mono (l.take (i + 1)) (l.drop (i + 1))
  rw [List.take_append_drop] at h2
  omega
theorem i64_wrap (n : Int) : I64 (wrap64 n) := by unfold I64 wrap64; omega
theorem full_len {m : Nat} (h : m ≤ 9223372036854775808) : (fullT m).length ≤ 19 := by
  have := len17 h
  unfold fullT
  rw [List.length_append, digN_length]
  omega
/-- The digits' round, for a text that is an amount. -/
theorem mp_yes {v : Int} (h : I64 v) (d : Nat) : ∀ i : Nat, (fullT v.natAbs).length - i = d → i ≤ (fullT v.natAbs).length → Ev (fun k => guichetref12_MoneyParse.l0 k (S (moneyT v)) (decide (v < 0)) (S (fullT v.natAbs)) (val ((fullT v.natAbs).take i) : Int) (i : Int)) (v, true) := by
  have hI := h
  unfold I64 at h
  have hm : v.natAbs ≤ 9223372036854775808 := by omega
  have hl := full_len hm
  have hv := full_val v.natAbs
  have hdg := full_dig v.natAbs
  generalize hu : v.natAbs = u at hm hl hv hdg
  induction d with
  | zero =>
    intro i h1 hi
    have e : (fullT u).take i = fullT u := List.take_of_length_le (by omega)
    rw [e, hv]
    by_cases h0 : v < 0
    · rw [show decide (v < 0) = true from decide_eq_true h0]
      refine Ev.step (f := fun k => (guichetref12_MoneyText.f k v).bind fun t => if t.toList = (S (moneyT v)).toList then some (v, true) else some (0, false)) (fun k => ?_) ?_
      · simp only [guichetref12_MoneyParse.l0]
        rw [if_neg (by rw [S_size]; omega), if_pos trivial, if_neg (by omega), show wrap64 (-(wrap64 ((u : Nat) : Int))) = v from by unfold wrap64; omega]
      · exact Ev.bind (ref_text hI) (Ev.ite_pos rfl (Ev.now _))
    · rw [show decide (v < 0) = false from decide_eq_false h0]
      refine Ev.step (f := fun k => (guichetref12_MoneyText.f k v).bind fun t => if t.toList = (S (moneyT v)).toList then some (v, true) else some (0, false)) (fun k => ?_) ?_
      · simp only [guichetref12_MoneyParse.l0]
        rw [if_neg (by rw [S_size]; omega), if_neg (by simp), if_neg (by omega), if_neg (by omega), show wrap64 ((u : Nat) : Int) = v from by unfold wrap64; omega]
      · exact Ev.bind (ref_text hI) (Ev.ite_pos rfl (Ev.now _))
  | succ d ih =>
    intro i h1 hi
    have hlt : i < (fullT u).length := by omega
    have hle := val_take_le hlt
    rw [hv] at hle
    have hc := hdg (fullT u)[i] (List.getElem_mem hlt)
    unfold IsDig at hc
    refine Ev.step (f := fun k => guichetref12_MoneyParse.l0 k (S (moneyT v)) (decide (v < 0)) (S (fullT u)) (val ((fullT u).take (i + 1)) : Int) ((i + 1 : Nat) : Int)) (fun k => ?_) (ih (i + 1) (by omega) (by omega))
    simp only [guichetref12_MoneyParse.l0]
    rw [if_pos (by rw [S_size]; omega), if_neg (by omega), if_pos (by omega), bt_lt hlt, wrap_succ hlt (by omega), val_take hlt]
    have hx : ∀ x y : Nat, 48 ≤ x → x ≤ 57 → y * 10 ≤ 9223372036854775808 → IntKind.u64.wrap (IntKind.u64.wrap (10 * (y : Int)) + ((x : Int) - 48) % 256) = ((y * 10 + (x - 48) : Nat) : Int) := fun x y h1 h2 h3 => by
      rw [IntKind.wrap_u64, IntKind.wrap_u64]
      omega
    rw [hx _ _ hc.1 hc.2 (by omega)]
/-- The digits' round, for a text that is none. -/
theorem mp_no {s : List UInt8} (hno : ¬ ∃ v, I64 v ∧ moneyT v = s) (b : Bool) (l : List UInt8) (hl : l.length ≤ 1000) (d : Nat) : ∀ (i : Nat) (u : Int), l.length - i = d → i ≤ l.length → Ev (fun k => guichetref12_MoneyParse.l0 k (S s) b (S l) u (i : Int)) (0, false) := by
  have fin : ∀ v, I64 v → Ev (fun k => (guichetref12_MoneyText.f k v).bind fun t => if t.toList = (S s).toList then some (v, true) else some (0, false)) (0, false) := fun v hv => by
    refine Ev.bind (ref_text hv) (Ev.ite_neg (fun e => hno ⟨v, hv, ?_⟩) (Ev.now _))
    rw [toList_S, toList_S] at e
    exact e
  induction d with
  | zero =>
    intro i u h1 hi
    cases b with
    | true =>
      refine Ev.step (f := fun k => if u > 9223372036854775808 then some (0, false) else (guichetref12_MoneyText.f k (wrap64 (-(wrap64 u)))).bind fun t => if t.toList = (S s).toList then some (wrap64 (-(wrap64 u)), true) else some (0, false)) (fun k => ?_) ?_
      · simp only [guichetref12_MoneyParse.l0]
        rw [if_neg (by rw [S_size]; omega), if_pos trivial]
      · by_cases hu : u > 9223372036854775808
        · exact Ev.ite_pos hu (Ev.now _)
        · exact Ev.ite_neg hu (fin _ (i64_wrap _))
    | false =>
      refine Ev.step (f := fun k => if u > 9223372036854775808 then some (0, false) else if u = 9223372036854775808 then some (0, false) else (guichetref12_MoneyText.f k (wrap64 u)).bind fun t => if t.toList = (S s).toList then some (wrap64 u, true) else some (0, false)) (fun k => ?_) ?_
      · simp only [guichetref12_MoneyParse.l0]
        rw [if_neg (by rw [S_size]; omega), if_neg (by simp)]
      · by_cases hu : u > 9223372036854775808
        · exact Ev.ite_pos hu (Ev.now _)
        · refine Ev.ite_neg hu ?_
          by_cases hu2 : u = 9223372036854775808
          · exact Ev.ite_pos hu2 (Ev.now _)
          · exact Ev.ite_neg hu2 (fin _ (i64_wrap _))
  | succ d ih =>
    intro i u h1 hi
    have hlt : i < l.length := by omega
    refine Ev.step (f := fun k => if u > 922337203685477580 then some (0, false) else guichetref12_MoneyParse.l0 k (S s) b (S l) (IntKind.u64.wrap (IntKind.u64.wrap (10 * u) + (((bt (S l) (i : Int)) - 48) % 256))) ((i + 1 : Nat) : Int)) (fun k => ?_) ?_
    · simp only [guichetref12_MoneyParse.l0]
      rw [if_pos (by rw [S_size]; omega), if_pos (show 0 ≤ (i : Int) by omega), wrap_succ hlt (by omega)]
    · by_cases hu : u > 922337203685477580
      · exact Ev.ite_pos hu (Ev.now _)
      · exact Ev.ite_neg hu (ih (i + 1) _ (by omega) (by omega))
theorem body_len {m : Nat} (h : m ≤ 9223372036854775808) : 4 ≤ (bodyT m).length ∧ (bodyT m).length ≤ 20 := by
  have h1 := len17 h
  have h2 := (dec_len (m / 100)).2
  unfold bodyT
  rw [List.length_append, List.length_cons, digN_length]
  omega
theorem body_at (m : Nat) : (bodyT m)[(bodyT m).length - 3]? = some 46 ∧ (bodyT m).take ((bodyT m).length - 3) = decDigits (m / 100) ∧ (bodyT m).drop ((bodyT m).length - 2) = digN 2 m := by
  have e : (bodyT m).length = (decDigits (m / 100)).length + 3 := by
    unfold bodyT
    rw [List.length_append, List.length_cons, digN_length]
  rw [e, show (decDigits (m / 100)).length + 3 - 3 = (decDigits (m / 100)).length by omega, show (decDigits (m / 100)).length + 3 - 2 = (decDigits (m / 100)).length + 1 by omega]
  unfold bodyT
  refine ⟨?_, ?_, ?_⟩
  · rw [List.getElem?_append_right (Nat.le_refl _)]
    simp
  · simp
  · rw [← List.drop_drop]
    simp
/-- A text that is an amount, parted. -/
theorem money_shape {v : Int} {s r : List UInt8} {b : Bool} (he : moneyT v = s) (hb : (b = true ∧ s = 45 :: r) ∨ (b = false ∧ s = r ∧ s.head? ≠ some 45)) : r = bodyT v.natAbs ∧ b = decide (v < 0) := by
  obtain ⟨x, y, hx⟩ : ∃ x y, bodyT v.natAbs = x :: y ∧ x ≠ 45 := by
    have h2 := (dec_len (v.natAbs / 100)).2
    have h3 := dec_digs (v.natAbs / 100)
    unfold bodyT
    cases hd : decDigits (v.natAbs / 100) with
    | nil => rw [hd] at h2; simp at h2
    | cons x y =>
      refine ⟨x, y ++ 46 :: digN 2 v.natAbs, rfl, ?_⟩
      have := h3 x (by rw [hd]; simp)
      rintro rfl
      unfold IsDig at this
      revert this
      decide
  unfold moneyT signT at he
  by_cases h0 : v < 0
  · rw [if_pos h0] at he
    rcases hb with ⟨rfl, h⟩ | ⟨rfl, h, h'⟩
    · rw [h] at he
      simp only [List.cons_append, List.nil_append, List.cons.injEq, true_and] at he
      exact ⟨he.symm, by rw [decide_eq_true h0]⟩
    · rw [← he] at h'
      simp at h'
  · rw [if_neg h0, List.nil_append] at he
    rcases hb with ⟨rfl, h⟩ | ⟨rfl, h, h'⟩
    · rw [hx.1, h] at he
      simp only [List.cons.injEq] at he
      exact absurd he.1 hx.2
    · exact ⟨by rw [← h, he], by rw [decide_eq_false h0]⟩
theorem mp_j2_no (s r : List UInt8) (b : Bool) (n : Int) : Ev (fun k => guichetref12_MoneyParse.j2 k (S s) (S r) b n true) (0, false) := Ev.step (f := fun _ => some (0, false)) (fun k => by simp only [guichetref12_MoneyParse.j2, if_true]) (Ev.now _)
theorem mp_j1 (s r : List UInt8) (b : Bool) (hl : s.length ≤ 1000) (hb : (b = true ∧ s = 45 :: r) ∨ (b = false ∧ s = r ∧ s.head? ≠ some 45)) : Ev (fun k => guichetref12_MoneyParse.j1 k (S s) (S r) b) (amountOf s) := by
  have hr : r.length ≤ 1000 := by
    rcases hb with ⟨_, h⟩ | ⟨_, h, _⟩
    · rw [h, List.length_cons] at hl
      omega
    · rw [← h]
      exact hl
  have shape : ∀ v, I64 v → moneyT v = s → r = bodyT v.natAbs ∧ b = decide (v < 0) := fun v _ he => money_shape he hb
  have nat : ∀ {v : Int}, I64 v → v.natAbs ≤ 9223372036854775808 := fun h => by unfold I64 at h; omega
  by_cases h1 : r.length < 4
  · rw [amount_no (fun ⟨v, hv, he⟩ => by have := (body_len (nat hv)).1; rw [← (shape v hv he).1] at this; omega)]
    refine Ev.step (f := fun k => guichetref12_MoneyParse.j2 k (S s) (S r) b (r.length : Int) true) (fun k => ?_) (mp_j2_no _ _ _ _)
    simp only [guichetref12_MoneyParse.j1]
    rw [S_size, if_pos (by omega)]
  by_cases h2 : r.length > 21
  · rw [amount_no (fun ⟨v, hv, he⟩ => by have := (body_len (nat hv)).2; rw [← (shape v hv he).1] at this; omega)]
    refine Ev.step (f := fun k => guichetref12_MoneyParse.j2 k (S s) (S r) b (r.length : Int) true) (fun k => ?_) (mp_j2_no _ _ _ _)
    simp only [guichetref12_MoneyParse.j1]
    rw [S_size, if_neg (by omega), if_pos (by omega)]
  have hlt : r.length - 3 < r.length := by omega
  refine Ev.step (f := fun k => guichetref12_MoneyParse.j2 k (S s) (S r) b (r.length : Int) (((r[r.length - 3].toNat : Nat) : Int) != 46)) (fun k => ?_) ?_
  · simp only [guichetref12_MoneyParse.j1]
    rw [S_size, if_neg (by omega), if_neg (by omega), show wrap64 ((r.length : Int) - 3) = ((r.length - 3 : Nat) : Int) from by unfold wrap64; omega, if_pos (by omega), if_pos (by omega), bt_lt hlt]
  by_cases h3 : r[r.length - 3] = 46
  · rw [show (((r[r.length - 3].toNat : Nat) : Int) != 46) = false from by rw [h3]; rfl]
    let l := r.take (r.length - 3) ++ r.drop (r.length - 2)
    have hll : l.length ≤ 30 := by simp only [l, List.length_append, List.length_take, List.length_drop]; omega
    refine Ev.step (f := fun k => (guichetref1_AllDigits.f k (S l)).bind fun t => if t = true then guichetref12_MoneyParse.l0 k (S s) b (S l) 0 0 else some (0, false)) (fun k => ?_) ?_
    · simp only [guichetref12_MoneyParse.j2]
      rw [if_neg (by simp), show wrap64 ((r.length : Int) - 3) = ((r.length - 3 : Nat) : Int) from by unfold wrap64; omega, show wrap64 ((r.length : Int) - 2) = ((r.length - 2 : Nat) : Int) from by unfold wrap64; omega]
      simp only [Int.toNat_natCast, S_extract, S_size, S_append, List.drop_zero, List.take_length]
      rw [if_pos (by omega), if_pos (by omega), if_pos (by omega), if_pos (by omega), if_pos (by simp only [List.length_take, List.length_drop]; omega)]
    · refine Ev.bind (ref_alldigits l (by omega)) ?_
      by_cases hx : ∃ v, I64 v ∧ moneyT v = s
      · obtain ⟨v, hv, he⟩ := hx
        obtain ⟨e1, e2⟩ := shape v hv he
        have e3 : l = fullT v.natAbs := by
          simp only [l]
          rw [e1, (body_at _).2.1, (body_at _).2.2]
          rfl
        rw [e3, ← he, amount_yes hv, e2]
        refine Ev.ite_pos (decide_eq_true (full_dig _)) ?_
        exact mp_yes hv _ 0 rfl (Nat.zero_le _)
      · rw [amount_no hx]
        by_cases hd : AllDig l
        · exact Ev.ite_pos (decide_eq_true hd) (mp_no hx b l (by omega) _ 0 0 rfl (Nat.zero_le _))
        · exact Ev.ite_neg (by simpa using hd) (Ev.now _)
  · rw [show (((r[r.length - 3].toNat : Nat) : Int) != 46) = true from by
      rw [bne_iff_ne]
      intro e
      exact h3 (UInt8.toNat_inj.mp (by rw [show (46 : UInt8).toNat = 46 from rfl]; omega))]
    rw [amount_no (fun ⟨v, hv, he⟩ => by
      have := (body_at v.natAbs).1
      rw [← (shape v hv he).1, List.getElem?_eq_getElem hlt] at this
      exact h3 (Option.some.inj this))]
    exact mp_j2_no _ _ _ _
theorem ref_parse (s : List UInt8) (hl : s.length ≤ 1000) : Ev (fun k => guichetref12_MoneyParse.f k (S s)) (amountOf s) := by
  have j0 : ∀ b : Bool, (b = true → s.head? = some 45) → (b = false → s.head? ≠ some 45) → Ev (fun k => guichetref12_MoneyParse.j0 k (S s) (S s) b) (amountOf s) := fun b ht hf => by
    cases b with
    | true =>
      cases s with
      | nil => simp at ht
      | cons c r =>
        obtain rfl : c = 45 := by simpa using ht rfl
        refine Ev.step (f := fun k => guichetref12_MoneyParse.j1 k (S (45 :: r)) (S r) true) (fun k => ?_) (mp_j1 _ _ _ hl (.inl ⟨rfl, rfl⟩))
        simp only [guichetref12_MoneyParse.j0]
        rw [if_pos trivial, if_pos (by rw [S_size, List.length_cons]; omega), S_extract, S_size, List.take_length]
        rfl
    | false =>
      refine Ev.step (f := fun k => guichetref12_MoneyParse.j1 k (S s) (S s) false) (fun k => ?_) (mp_j1 _ _ _ hl (.inr ⟨rfl, rfl, hf rfl⟩))
      simp only [guichetref12_MoneyParse.j0]
      rw [if_neg (by simp)]
  have hf : ∀ k, guichetref12_MoneyParse.f k (S s) = if (S s).toList = ([] : List UInt8) then (guichetref12_MoneyParse.j0 k (S s) (S s) false) else (if 0 < ((S s).size : Int) then (guichetref12_MoneyParse.j0 k (S s) (S s) ((bt (S s) 0) == 45)) else (none)) := fun k => rfl
  refine Ev.congr hf ?_
  cases s with
  | nil => exact Ev.ite_pos (toList_S _) (j0 false (fun h => by cases h) (fun _ => by simp))
  | cons c r =>
    refine Ev.ite_neg (by rw [toList_S]; simp) (Ev.ite_pos (by rw [S_size, List.length_cons]; omega) ?_)
    have hbt : bt (S (c :: r)) 0 = (c.toNat : Int) := bt_lt (l := c :: r) (i := 0) (by simp)
    rw [hbt]
    refine j0 _ (fun h => ?_) (fun h => ?_)
    · rw [beq_iff_eq] at h
      have : c = 45 := UInt8.toNat_inj.mp (by rw [show (45 : UInt8).toNat = 45 from rfl]; omega)
      rw [this]
      rfl
    · intro e
      obtain rfl : c = 45 := by simpa using e
      revert h
      decide
end Go.Proofs.YtjbhgooakdpabaaDoor.Q
