import Derived.Test.YtjbhgooakdpabaaDoorQMoney
import Derived.Lib.ParseIntBCases
import Derived.Lib.ParseIntBTie
import Derived.Test.YtjbhgooakdpabaaDoorPAllx1
import Derived.Test.YtjbhgooakdpabaaDoorPAllx4
/- Which amount a text is: the program's and the reference's answers are one. -/
namespace Go.Proofs.YtjbhgooakdpabaaDoor.Q
open Go.RowKit Go.Proofs.YtjbhgooakdpabaaDoorW.PrintWords Go.Proofs.YtjbhgooakdpabaaDoorW.PrintMore Go.Proofs.YtjbhgooakdpabaaDoor.PAll
set_option linter.unusedVariables false
open Go.Lib (decDigits)

/-! ### a cut at the point -/
theorem index46 : ∀ s : List UInt8, (Go.Lib.index s [46] = -1 ∧ 46 ∉ s) ∨ ∃ a b : List UInt8, s = a ++ 46 :: b ∧ 46 ∉ a ∧ Go.Lib.index s [46] = (a.length : Int)
  | [] => .inl ⟨rfl, by simp⟩
  | c :: l => by
    by_cases h : c = 46
    · subst h
      exact .inr ⟨[], l, rfl, by simp, by simp [Go.Lib.index, List.isPrefixOf]⟩
    · have hp : ([46] : List UInt8).isPrefixOf (c :: l) = false := by simp [List.isPrefixOf]; exact fun e => h e.symm
      rcases index46 l with ⟨h1, h2⟩ | ⟨a, b, h1, h2, h3⟩
      · refine .inl ⟨?_, fun hm => ?_⟩
        · simp [Go.Lib.index, hp, h1]
        · rcases List.mem_cons.mp hm with e | e
          · exact h e.symm
          · exact h2 e
      · refine .inr ⟨c :: a, b, by rw [h1]; rfl, fun hm => ?_, ?_⟩
        · rcases List.mem_cons.mp hm with e | e
          · exact h e.symm
          · exact h2 e
        · rw [Go.Lib.index, hp, h3]
          simp
theorem cut46 (s : List UInt8) : (Go.Lib.cut s [46] = (s, [], false) ∧ 46 ∉ s) ∨ ∃ a b : List UInt8, s = a ++ 46 :: b ∧ 46 ∉ a ∧ Go.Lib.cut s [46] = (a, b, true) := by
  rcases index46 s with ⟨h1, h2⟩ | ⟨a, b, h1, h2, h3⟩
  · refine .inl ⟨?_, h2⟩
    unfold Go.Lib.cut
    rw [h1]
    rfl
  · refine .inr ⟨a, b, h1, h2, ?_⟩
    unfold Go.Lib.cut
    rw [h3, if_pos (by omega), Int.toNat_natCast, h1]
    simp
theorem split46 : ∀ (a a' b b' : List UInt8), 46 ∉ a → 46 ∉ a' → a ++ 46 :: b = a' ++ 46 :: b' → a = a' ∧ b = b'
  | [], [], b, b', _, _, h => by simpa using h
  | [], c :: a', b, b', _, h2, h => by
    simp only [List.nil_append, List.cons_append, List.cons.injEq] at h
    exact absurd (by rw [← h.1]; simp) h2
  | c :: a, [], b, b', h1, _, h => by
    simp only [List.nil_append, List.cons_append, List.cons.injEq] at h
    exact absurd (by rw [h.1]; simp) h1
  | c :: a, c' :: a', b, b', h1, h2, h => by
    simp only [List.cons_append, List.cons.injEq] at h
    obtain ⟨e1, e2⟩ := split46 a a' b b' (fun x => h1 (by simp [x])) (fun x => h2 (by simp [x])) h.2
    exact ⟨by rw [h.1, e1], e2⟩
theorem cut_of {a b : List UInt8} (ha : 46 ∉ a) : Go.Lib.cut (a ++ 46 :: b) [46] = (a, b, true) := by
  rcases cut46 (a ++ 46 :: b) with ⟨_, h⟩ | ⟨a', b', h1, h2, h3⟩
  · exact absurd (by simp) h
  · obtain ⟨rfl, rfl⟩ := split46 a a' b b' ha h2 h1
    exact h3

/-! ### the number of a text -/
theorem dec_digs (n : Nat) : AllDig (decDigits n) := by
  have hb : n < 10 ^ (n + 1) := Nat.lt_of_lt_of_le Nat.lt_two_pow_self (Nat.le_trans (Nat.pow_le_pow_left (by decide : 2 ≤ 10) n) (Nat.pow_le_pow_right (by decide) (Nat.le_succ n)))
  have h := (pad_dec (n + 1) n (by omega) hb).2
  intro c hc
  exact digN_dig (n + 1) n c (by rw [← h]; exact List.mem_append_right _ hc)
theorem val_zeros (l : List UInt8) : ∀ m, val (List.replicate m 48 ++ l) = val l
  | 0 => rfl
  | m + 1 => by
    rw [List.replicate_succ, List.cons_append]
    exact val_zeros l m
theorem dec_val (n : Nat) : val (decDigits n) = n := by
  have hb : n < 10 ^ (n + 1) := Nat.lt_of_lt_of_le Nat.lt_two_pow_self (Nat.le_trans (Nat.pow_le_pow_left (by decide : 2 ≤ 10) n) (Nat.pow_le_pow_right (by decide) (Nat.le_succ n)))
  have h := (pad_dec (n + 1) n (by omega) hb).2
  rw [← val_zeros _ (n + 1 - (decDigits n).length), h, val_digN_lt hb]
/-- All the digits of an amount. -/
def fullT (m : Nat) : List UInt8 := decDigits (m / 100) ++ digN 2 m
theorem full_dig (m : Nat) : AllDig (fullT m) := by
  intro c hc
  rcases List.mem_append.mp hc with h | h
  · exact dec_digs _ c h
  · exact digN_dig 2 m c h
theorem full_val (m : Nat) : val (fullT m) = m := by
  unfold fullT
  rw [show digN 2 m = [dg (m / 10)] ++ [dg m] from rfl, ← List.append_assoc, val_snoc, val_snoc, dec_val, dg_toNat, dg_toNat]
  omega
theorem full_ne (m : Nat) : fullT m ≠ [] := by
  intro h
  have := congrArg List.length h
  unfold fullT at this
  rw [List.length_append, digN_length] at this
  simp at this
theorem parse_full {m : Nat} (h : m < 9223372036854775808) : Go.Lib.parseIntB 64 (fullT m) = .ok (m : Int) := by
  rw [parse_digits (full_ne m) (full_dig m) (by rw [full_val]; exact h), full_val]
theorem parse_minus {m : Nat} (h : m ≤ 9223372036854775808) : Go.Lib.parseIntB 64 (45 :: fullT m) = .ok (-(m : Int)) := by
  rw [Go.Lib.parseIntB_minus]
  have hp : Go.Lib.parseUintB 64 (fullT m) = .ok m := by
    unfold Go.Lib.parseUintB
    rw [if_neg (full_ne m)]
    have h1 := parseM (2 ^ 64 - 1) (fullT m) 0 (full_dig m) (by decide) (by have := full_val m; unfold val at this; rw [this]; omega)
    have h2 := full_val m
    unfold val at h2
    rw [h2] at h1
    exact h1
  rw [hp]
  simp only [Go.Lib.signedC]
  rw [if_neg (by omega)]
theorem dig_no46 {l : List UInt8} (h : AllDig l) : (46 : UInt8) ∉ l := by
  intro hm
  have := h _ hm
  unfold IsDig at this
  revert this
  decide
theorem size_S2 (l m : List UInt8) : (S l ++ S m).data.toList = l ++ m := by rw [S_append]
theorem parse_money {v : Int} (h : I64 v) : money_Parse.f (S (moneyT v)) = some (v, true) := by
  have hm : v.natAbs ≤ 9223372036854775808 := by unfold I64 at h; omega
  have hl := len17 hm
  have hd : (digN 2 v.natAbs).length = 2 := digN_length _ _
  have hs : (signT v).length ≤ 1 := by unfold signT; split <;> simp
  have hc : Go.Lib.cut (moneyT v) [46] = (signT v ++ decDigits (v.natAbs / 100), digN 2 v.natAbs, true) := by
    unfold moneyT bodyT
    rw [← List.append_assoc]
    refine cut_of (fun hm => ?_)
    rcases List.mem_append.mp hm with h1 | h1
    · unfold signT at h1
      split at h1
      · simp at h1
      · simp at h1
    · exact dig_no46 (dec_digs _) h1
  have hlen : (moneyT v).length ≤ 21 := by
    unfold moneyT bodyT
    simp only [List.length_append, List.length_cons]
    omega
  unfold money_Parse.f
  rw [show strings_Cut.f (S (moneyT v)) (⟨#[46]⟩ : ByteArray) = some (S (signT v ++ decDigits (v.natAbs / 100)), S (digN 2 v.natAbs), true) from by
    unfold strings_Cut.f
    rw [if_pos (by rw [S_size]; omega), S_list, show (⟨#[46]⟩ : ByteArray).data.toList = [46] from rfl, hc]]
  simp only [Option.bind_some]
  rw [if_pos (by simp only [S_size, List.length_append]; omega), size_S2, List.append_assoc]
  have hp : Go.Lib.parseIntB 64 (signT v ++ fullT v.natAbs) = .ok v := by
    unfold signT
    split
    · rename_i h0
      have := parse_minus hm
      rw [show -((v.natAbs : Nat) : Int) = v by omega] at this
      exact this
    · have := parse_full (m := v.natAbs) (by unfold I64 at h; omega)
      rw [show ((v.natAbs : Nat) : Int) = v by omega] at this
      exact this
  rw [show signT v ++ (decDigits (v.natAbs / 100) ++ digN 2 v.natAbs) = signT v ++ fullT v.natAbs from rfl, hp]
  simp only []
  rw [text_eq h]
  simp only [Option.bind_some]
  rw [if_pos trivial]
theorem money_inj {v w : Int} (hv : I64 v) (hw : I64 w) (h : moneyT v = moneyT w) : v = w := by
  have := parse_money hv
  rw [h, parse_money hw] at this
  simpa using this.symm
open Classical in
/-- Which amount a text is. -/
noncomputable def amountOf (s : List UInt8) : Int × Bool := if h : ∃ v, I64 v ∧ moneyT v = s then (Classical.choose h, true) else (0, false)
theorem amount_yes {v : Int} (h : I64 v) : amountOf (moneyT v) = (v, true) := by
  unfold amountOf
  have he : ∃ w, I64 w ∧ moneyT w = moneyT v := ⟨v, h, rfl⟩
  rw [dif_pos he]
  have hc := Classical.choose_spec he
  rw [money_inj hc.1 h hc.2]
theorem amount_no {s : List UInt8} (h : ¬ ∃ v, I64 v ∧ moneyT v = s) : amountOf s = (0, false) := by
  unfold amountOf
  rw [dif_neg h]
theorem parse_amount (s : List UInt8) (hl : s.length ≤ 1000) : money_Parse.f (S s) = some (amountOf s) := by
  by_cases h : ∃ v, I64 v ∧ moneyT v = s
  · obtain ⟨v, hv, rfl⟩ := h
    rw [amount_yes hv, parse_money hv]
  · rw [amount_no h]
    unfold money_Parse.f
    obtain ⟨a, b, t, hc, hlen⟩ : ∃ a b t, Go.Lib.cut s [46] = (a, b, t) ∧ a.length + b.length ≤ s.length := by
      rcases cut46 s with ⟨h1, _⟩ | ⟨a, b, h1, _, h3⟩
      · exact ⟨s, [], false, h1, by simp⟩
      · exact ⟨a, b, true, h3, by rw [h1, List.length_append, List.length_cons]; omega⟩
    rw [show strings_Cut.f (S s) (⟨#[46]⟩ : ByteArray) = some (S a, S b, t) from by
      unfold strings_Cut.f
      rw [if_pos (by rw [S_size]; omega), S_list, show (⟨#[46]⟩ : ByteArray).data.toList = [46] from rfl, hc]]
    simp only [Option.bind_some]
    rw [if_pos (by simp only [S_size]; omega), size_S2]
    split
    · rename_i v hv
      have hb := Go.Lib.parseIntB_bounds hv
      have hI : I64 v := by unfold I64; omega
      rw [text_eq hI]
      simp only [Option.bind_some]
      rw [if_neg (fun e => h ⟨v, hI, by rw [toList_S, toList_S] at e; exact e⟩)]
    · rfl
end Go.Proofs.YtjbhgooakdpabaaDoor.Q
