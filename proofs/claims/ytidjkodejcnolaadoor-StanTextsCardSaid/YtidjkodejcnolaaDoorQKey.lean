import Derived.Test.YtidjkodejcnolaaDoorQStan
import Derived.Test.YtidjkodejcnolaaDoorQRefDig
import Derived.Test.YtidjkodejcnolaaDoorPAllx2
import Derived.Test.YtidjkodejcnolaaDoorPAllx3
import Derived.Test.YtidjkodejcnolaaDoorPAllx4
import Derived.Test.YtidjkodejcnolaaDoorPAllx4
import Derived.Test.YtidjkodejcnolaaDoorPAllx4
/- Keys' texts, and which key a text is: the program's and the reference's, in plain lists. -/
namespace Go.Proofs.YtidjkodejcnolaaDoor.Q
open Go.RowKit Go.Proofs.YtidjkodejcnolaaDoorW.PrintWords Go.Proofs.YtidjkodejcnolaaDoorW.PrintMore Go.Proofs.YtidjkodejcnolaaDoor.PAll
set_option linter.unusedVariables false
set_option linter.unusedSimpArgs false

theorem nat_of {n : Int} (h : 0 ≤ n) : ∃ m : Nat, n = (m : Int) := Int.eq_ofNat_of_zero_le h
theorem wr32 {n : Nat} (h : n ≤ 4294967295) : wrap64 (n : Int) = (n : Int) ∧ (Lit.int .i64 (n : Int)).wf = true := ⟨by unfold wrap64; omega, by simp [Lit.wf, IntKind.min, IntKind.max, IntKind.bits, IntKind.signed]; omega⟩
def textK (t s : Nat) : List UInt8 := if s ≤ 999999 then keyT t s else []
theorem keyT_len (t s : Nat) : (keyT t s).length = 13 := by simp [keyT, digN_length]
theorem stan_text {t s : Nat} (ht : t ≤ 65535) (hs : s ≤ 4294967295) : stan_Text.f (t : Int) (s : Int) = some (S (textK t s)) := by
  unfold textK
  by_cases h : s ≤ 999999
  · rw [if_pos h]
    exact text_f ht h
  · rw [if_neg h]
    unfold stan_Text.f
    rw [(wr32 (show t ≤ 4294967295 by omega)).1, (wr32 hs).1, bcd_Digits_eq _ _ (wr32 (show t ≤ 4294967295 by omega)).2, bcd_Digits_eq _ _ (wr32 hs).2]
    rw [show digR (s : Int) 6 = (S [], false) from by
      rw [show (6 : Int) = ((6 : Nat) : Int) from rfl, digR_nat s 6 (by decide) (by decide), if_neg (by
        have : (10 : Nat) ^ 6 = 1000000 := by decide
        omega)]]
    simp only [Option.bind_some, Bool.false_eq_true, if_false]
theorem ref_text {t s : Nat} (ht : t ≤ 65535) (hs : s ≤ 4294967295) : Ev (fun k => guichetref1_KeyText.f k (t : Int) (s : Int)) (S (textK t s)) := by
  have h6 : (10 : Nat) ^ 6 = 1000000 := by decide
  unfold guichetref1_KeyText.f
  rw [(wr32 (show t ≤ 4294967295 by omega)).1, (wr32 hs).1]
  refine Ev.bind (ref_digits _ _ (wr32 (show t ≤ 4294967295 by omega)).2) (Ev.bind (ref_digits _ _ (wr32 hs).2) ?_)
  rw [show digR (t : Int) 5 = (S (digN 5 t), true) from by
    rw [show (5 : Int) = ((5 : Nat) : Int) from rfl, digR_nat t 5 (by decide) (by decide), if_pos (Nat.lt_of_le_of_lt ht (by decide))]]
  unfold textK
  by_cases h : s ≤ 999999
  · rw [if_pos h, show digR (s : Int) 6 = (S (digN 6 s), true) from by
      rw [show (6 : Int) = ((6 : Nat) : Int) from rfl, digR_nat s 6 (by decide) (by decide), if_pos (Nat.lt_of_le_of_lt h (by decide))]]
    have e : (⟨#[45]⟩ : ByteArray) = S [45] := rfl
    dsimp only
    rw [e, S_append, S_append, S_append]
    refine Ev.ite_pos rfl (Ev.ite_pos (by simp only [S_size, digN_length]; omega) (Ev.ite_pos (by simp only [S_size, List.length_append, digN_length, List.length_singleton]; omega) (Ev.ite_pos (by simp only [S_size, List.length_append, digN_length, List.length_singleton]; omega) ?_)))
    rw [show [45] ++ digN 5 t ++ [45] ++ digN 6 s = keyT t s from by simp [keyT]]
    exact Ev.now _
  · rw [if_neg h, show digR (s : Int) 6 = (S [], false) from by
      rw [show (6 : Int) = ((6 : Nat) : Int) from rfl, digR_nat s 6 (by decide) (by decide), if_neg (by omega)]]
    exact Ev.ite_neg (by simp) (Ev.now _)
abbrev kT (X : List UInt8) := (X.take 6).drop 1
abbrev kS (X : List UInt8) := X.drop 7
def GoodK (X : List UInt8) : Prop := X.head? = some 45 ∧ X[6]? = some 45 ∧ AllDig (kT X) ∧ AllDig (kS X) ∧ val (kT X) ≤ 65535
instance (X : List UInt8) : Decidable (GoodK X) := by unfold GoodK; infer_instance
def keyR (X : List UInt8) : Int × Int × Bool := if X.length = 13 ∧ GoodK X then ((val (kT X) : Int), (val (kS X) : Int), true) else (0, 0, false)
theorem klens {X : List UInt8} (h : X.length = 13) : (kT X).length = 5 ∧ (kS X).length = 6 := by
  refine ⟨?_, ?_⟩ <;> simp <;> omega
theorem cut_K {X : List UInt8} (h : X.length = 13) : X = X.take 1 ++ kT X ++ (X.take 7).drop 6 ++ kS X := by
  have h1 : X.take 1 ++ kT X = X.take 6 := by rw [show X.take 1 = (X.take 6).take 1 from by rw [List.take_take]; rfl]; exact List.take_append_drop _ _
  have h2 : X.take 6 ++ (X.take 7).drop 6 = X.take 7 := by rw [show X.take 6 = (X.take 7).take 6 from by rw [List.take_take]; rfl]; exact List.take_append_drop _ _
  rw [h1, h2]
  exact (List.take_append_drop _ _).symm
theorem key_parts (t s : Nat) : (keyT t s).head? = some 45 ∧ (keyT t s)[6]? = some 45 ∧ kT (keyT t s) = digN 5 t ∧ kS (keyT t s) = digN 6 s := by
  have h5 := digN_length 5 t
  have h6 := digN_length 6 s
  refine ⟨rfl, ?_, ?_, ?_⟩
  · unfold keyT
    simp [List.getElem?_append, h5]
  · show (List.take 6 (keyT t s)).drop 1 = _
    unfold keyT
    simp [List.take_append, h5]
  · show (keyT t s).drop 7 = _
    unfold keyT
    simp [List.drop_append, h5]
theorem good_key {X : List UInt8} (h : X.length = 13) (hg : GoodK X) : keyT (val (kT X)) (val (kS X)) = X := by
  obtain ⟨h5, h6⟩ := klens h
  obtain ⟨g1, g2, g3, g4, _⟩ := hg
  have hc := cut_K h
  rw [show X.take 1 = [45] from by cases X with | nil => simp at h | cons c r => simp at g1; simp [g1]] at hc
  have h67 : (X.take 7).drop 6 = [45] := by
    rw [List.take_succ_eq_append_getElem (show 6 < X.length by omega), List.drop_append_of_le_length (by rw [List.length_take]; omega), List.drop_eq_nil_of_le (by rw [List.length_take]; omega)]
    have : X[6]'(by omega) = 45 := by
      have := List.getElem?_eq_getElem (show 6 < X.length by omega)
      rw [g2] at this
      exact (Option.some.inj this).symm
    rw [this]
    rfl
  rw [h67] at hc
  unfold keyT
  rw [digN_val 5 _ h5 g3, digN_val 6 _ h6 g4]
  refine Eq.trans ?_ hc.symm
  simp
theorem key_good {t s : Nat} (ht : t ≤ 65535) (hs : s ≤ 999999) : GoodK (keyT t s) ∧ val (kT (keyT t s)) = t ∧ val (kS (keyT t s)) = s := by
  obtain ⟨e0, e1, e2, e3⟩ := key_parts t s
  have v1 : val (digN 5 t) = t := val_digN_lt (Nat.lt_of_le_of_lt ht (by decide))
  have v2 : val (digN 6 s) = s := val_digN_lt (Nat.lt_of_le_of_lt hs (by decide))
  exact ⟨⟨e0, e1, by rw [e2]; exact digN_dig _ _, by rw [e3]; exact digN_dig _ _, by rw [e2, v1]; exact ht⟩, by rw [e2, v1], by rw [e3, v2]⟩
theorem u16_id {n : Int} (h0 : 0 ≤ n) (h1 : n ≤ 65535) : IntKind.u16.wrap n = n := by rw [IntKind.wrap_u16]; omega
theorem u16_rng (n : Int) : 0 ≤ IntKind.u16.wrap n ∧ IntKind.u16.wrap n ≤ 65535 := by rw [IntKind.wrap_u16]; omega
theorem val_6 {l : List UInt8} (h : l.length = 6) (hd : AllDig l) : val l ≤ 999999 := by
  have := val_lt 6 l h hd
  omega
theorem numR_dig {l : List UInt8} (h0 : 1 ≤ l.length) (h1 : l.length ≤ 18) : numR l = if AllDig l then ((val l : Int), true) else (0, false) := by
  unfold numR
  simp only [h0, h1, true_and]
theorem stan_parse (X : List UInt8) (hl : X.length ≤ 140737488355328) : Ev (fun k => stan_Parse.f k (S X)) (keyR X) := by
  unfold stan_Parse.f
  rw [S_size]
  by_cases h : X.length = 13
  case neg =>
    rw [keyR, if_neg (fun h' => h h'.1)]
    exact Ev.ite_neg (by omega) (Ev.now _)
  obtain ⟨l5, l6⟩ := klens h
  have m5 : ((X.take 6).drop 1).length = 5 := l5
  have m6 : (X.drop 7).length = 6 := l6
  refine Ev.ite_pos (by omega) (Ev.ite_pos (by decide) (Ev.ite_pos (by omega) ?_))
  rw [S_extract, S_extract, List.take_length]
  refine Ev.bind (bcd_number _ (by omega)) (Ev.ite_pos (by omega) (Ev.bind (bcd_number _ (by omega)) ?_))
  have hnb : 0 ≤ (numR (kS X)).1 ∧ (numR (kS X)).1 ≤ 999999 := by
    rw [numR_dig (by omega) (by omega)]
    split
    · have := val_6 l6 (by assumption)
      dsimp only
      omega
    · dsimp only
      omega
  have hyes : GoodK X → (numR (kT X)).1 = (val (kT X) : Int) ∧ (numR (kS X)).1 = (val (kS X) : Int) := fun hg => by
    rw [numR_dig (by omega) (by omega), numR_dig (by omega) (by omega), if_pos hg.2.2.1, if_pos hg.2.2.2.1]
    exact ⟨rfl, rfl⟩
  rw [show (numR (X.drop 7)).1 % 4294967296 = (numR (kS X)).1 from by
    show (numR (kS X)).1 % 4294967296 = _
    omega]
  obtain ⟨t0, t1⟩ := u16_rng (numR (kT X)).1
  change Ev (fun k => (stan_Text.f (IntKind.u16.wrap (numR (kT X)).1) (numR (kS X)).1).bind fun u => if u.toList = (S X).toList then some (IntKind.u16.wrap (numR (kT X)).1, (numR (kS X)).1, true) else some (0, 0, false)) (keyR X)
  generalize hT : IntKind.u16.wrap (numR (kT X)).1 = t at t0 t1
  generalize hS : (numR (kS X)).1 = s at hnb hyes
  obtain ⟨t, rfl⟩ := nat_of t0
  obtain ⟨s, rfl⟩ := nat_of hnb.1
  refine Ev.const_bind (text_f (show t ≤ 65535 by omega) (show s ≤ 999999 by omega)) ?_
  rw [toList_S, toList_S]
  by_cases hg : GoodK X
  · obtain ⟨e1, e2⟩ := hyes hg
    have g5 := hg.2.2.2.2
    rw [e1, u16_id (by omega) (by omega)] at hT
    have e3 : val (kT X) = t := by omega
    have e4 : val (kS X) = s := by omega
    have := good_key h hg
    rw [e3, e4] at this
    rw [if_pos this, keyR, if_pos ⟨h, hg⟩, e3, e4]
    exact Ev.now _
  · have : ¬ keyT t s = X := fun e => hg (e ▸ (key_good (by omega) (by omega)).1)
    rw [if_neg this, keyR, if_neg (fun h' => hg h'.2)]
    exact Ev.now _
theorem ref_parse (X : List UInt8) (hl : X.length ≤ 140737488355328) : Ev (fun k => guichetref1_KeyParse.f k (S X)) (keyR X) := by
  have ht : ∀ Y : ByteArray, Ev (fun k => guichetref1_KeyParse.j0 k Y true) (0, 0, false) := fun Y => Ev.step (f := fun _ => some (0, 0, false)) (fun k => by simp only [guichetref1_KeyParse.j0, if_true]) (Ev.now _)
  unfold guichetref1_KeyParse.f
  rw [S_size]
  by_cases h : X.length = 13
  case neg =>
    rw [keyR, if_neg (fun h' => h h'.1)]
    exact Ev.ite_neg (by omega) (ht _)
  obtain ⟨l5, l6⟩ := klens h
  have m5 : ((X.take 6).drop 1).length = 5 := l5
  have m6 : (X.drop 7).length = 6 := l6
  refine Ev.ite_pos (by omega) (Ev.ite_pos (by omega) ?_)
  have b0 : bt (S X) 0 = ((X[0]'(by omega)).toNat : Int) := bt_lt (i := 0) (by omega)
  have b6 : bt (S X) 6 = ((X[6]'(by omega)).toNat : Int) := bt_lt (i := 6) (by omega)
  rw [b0, b6]
  have c45 : ∀ c : UInt8, (c.toNat : Int) = 45 ↔ c = 45 := fun c => ⟨fun e => UInt8.toNat_inj.1 (by have : (45 : UInt8).toNat = 45 := rfl; omega), fun e => by rw [e]; rfl⟩
  by_cases h0 : X[0]'(by omega) = 45
  case neg =>
    rw [keyR, if_neg (fun h' => h0 (by
      have := h'.2.1
      rw [List.head?_eq_getElem?, List.getElem?_eq_getElem (by omega)] at this
      exact Option.some.inj this))]
    exact Ev.ite_neg (fun e => h0 ((c45 _).1 e)) (ht _)
  refine Ev.ite_pos ((c45 _).2 h0) (Ev.ite_pos (by omega) ?_)
  by_cases h6 : X[6]'(by omega) = 45
  case neg =>
    rw [keyR, if_neg (fun h' => h6 (by
      have := h'.2.2.1
      rw [List.getElem?_eq_getElem (by omega)] at this
      exact Option.some.inj this)), show (((X[6]'(by omega)).toNat : Int) != 45) = true from by rw [bne_iff_ne]; exact fun e => h6 ((c45 _).1 e)]
    exact ht _
  rw [show (((X[6]'(by omega)).toNat : Int) != 45) = false from by rw [h6]; rfl]
  refine Ev.step (f := fun k => (guichetref1_Num.f k (S (kT X))).bind fun x => (guichetref1_Num.f k (S (kS X))).bind fun y => if x.2 = true then (if y.2 = true then (if x.1 > 65535 then some (0, 0, false) else some (IntKind.u16.wrap x.1, y.1 % 4294967296, true)) else some (0, 0, false)) else some (0, 0, false)) (fun k => ?_) ?_
  · simp only [guichetref1_KeyParse.j0, Bool.false_eq_true, if_false, S_extract, S_size, List.take_length]
    rw [if_pos (by decide), if_pos (by omega)]
    refine congrArg (Option.bind _) (funext fun x => ?_)
    rw [if_pos (by omega)]
  refine Ev.bind (ref_num _ (by omega)) (Ev.bind (ref_num _ (by omega)) ?_)
  rw [numR_dig (by omega) (by omega), numR_dig (by omega) (by omega)]
  by_cases g1 : AllDig (kT X)
  case neg => rw [if_neg g1, keyR, if_neg (show ¬ (X.length = 13 ∧ GoodK X) from fun hg => g1 hg.2.2.2.1)]; exact Ev.ite_neg (by simp) (Ev.now _)
  rw [if_pos g1]
  refine Ev.ite_pos rfl ?_
  by_cases g2 : AllDig (kS X)
  case neg => rw [if_neg g2, keyR, if_neg (show ¬ (X.length = 13 ∧ GoodK X) from fun hg => g2 hg.2.2.2.2.1)]; exact Ev.ite_neg (by simp) (Ev.now _)
  rw [if_pos g2]
  refine Ev.ite_pos rfl ?_
  have v6 := val_6 l6 g2
  by_cases g4 : val (kT X) ≤ 65535
  case neg => rw [keyR, if_neg (show ¬ (X.length = 13 ∧ GoodK X) from fun hg => g4 hg.2.2.2.2.2)]; exact Ev.ite_pos (by dsimp only; omega) (Ev.now _)
  refine Ev.ite_neg (by dsimp only; omega) ?_
  have hg : GoodK X := ⟨by rw [List.head?_eq_getElem?, List.getElem?_eq_getElem (by omega), h0], by rw [List.getElem?_eq_getElem (by omega), h6], g1, g2, g4⟩
  rw [keyR, if_pos ⟨h, hg⟩]
  dsimp only
  rw [u16_id (by omega) (by omega), show (val (kS X) : Int) % 4294967296 = (val (kS X) : Int) by omega]
  exact Ev.now _
theorem ref_less (a0 a1 b0 b1 : Int) : guichetref1_Less.f a0 a1 b0 b1 = some (decide (a0 < b0 ∨ a0 = b0 ∧ a1 < b1)) := by
  unfold guichetref1_Less.f
  by_cases h : a0 < b0
  · rw [if_pos h, decide_eq_true (Or.inl h)]
  · rw [if_neg h]
    by_cases h2 : a0 = b0
    · rw [if_pos h2]
      congr 1
      rw [decide_eq_decide]
      constructor
      · intro h3; exact .inr ⟨h2, h3⟩
      · rintro (h3 | h3)
        · exact absurd h3 h
        · exact h3.2
    · rw [if_neg h2, decide_eq_false (fun h3 => h3.elim h (fun h4 => h2 h4.1))]
theorem keyR_text {t s : Nat} (ht : t ≤ 65535) : keyR (textK t s) = if s ≤ 999999 then ((t : Int), (s : Int), true) else (0, 0, false) := by
  unfold textK
  by_cases h : s ≤ 999999
  · obtain ⟨g, e1, e2⟩ := key_good ht h
    rw [if_pos h, if_pos h, keyR, if_pos ⟨keyT_len _ _, g⟩, e1, e2]
  · rw [if_neg h, if_neg h]
    rfl
end Go.Proofs.YtidjkodejcnolaaDoor.Q
