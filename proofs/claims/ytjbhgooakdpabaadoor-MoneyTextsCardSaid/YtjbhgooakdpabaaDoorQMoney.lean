import Derived.Test.YtjbhgooakdpabaaDoorQRefDig
import Derived.Test.YtjbhgooakdpabaaDoorPAllx2
import Derived.Test.YtjbhgooakdpabaaDoorPAllx1
import Derived.Test.YtjbhgooakdpabaaDoorPAllx3
/- Amounts as texts: the program's and the reference's are one. -/
namespace Go.Proofs.YtjbhgooakdpabaaDoor.Q
open Go.RowKit Go.Proofs.YtjbhgooakdpabaaDoorW.PrintWords Go.Proofs.YtjbhgooakdpabaaDoorW.PrintMore Go.Proofs.YtjbhgooakdpabaaDoor.PAll
set_option linter.unusedVariables false
open Go.Lib (decDigits)

def I64 (v : Int) : Prop := -9223372036854775808 ≤ v ∧ v ≤ 9223372036854775807
def bodyT (m : Nat) : List UInt8 := decDigits (m / 100) ++ 46 :: digN 2 m
def signT (v : Int) : List UInt8 := if v < 0 then [45] else []
def moneyT (v : Int) : List UInt8 := signT v ++ bodyT v.natAbs
theorem dg_of {a b : Nat} (h : a % 10 = b % 10) : dg a = dg b := by unfold dg; rw [h]
theorem cents (m : Nat) : decDigits (m % 100 + 100) = 49 :: digN 2 m := by
  rw [dec_step (by omega), dec_step (by omega), dec_small (by omega), dg_of (show (m % 100 + 100) / 10 / 10 % 10 = 1 % 10 by omega), dg_of (show (m % 100 + 100) / 10 % 10 = (m / 10) % 10 by omega), dg_of (show (m % 100 + 100) % 10 = m % 10 by omega)]
  rfl
theorem fmtU {n : Nat} (h : n < 18446744073709551616) : strconv_FormatUint.f (n : Int) 10 = some (S (decDigits n)) := by
  unfold strconv_FormatUint.f
  rw [if_pos ⟨rfl, by simp [Lit.wf, IntKind.min, IntKind.max, IntKind.bits, IntKind.signed]; omega⟩, Go.Lib.itoa_nonneg]
theorem u64_nat {n : Nat} (h : n < 18446744073709551616) : IntKind.u64.wrap (n : Int) = (n : Int) := by rw [IntKind.wrap_u64]; omega
theorem mt_pieces (u : Nat) (hu : u ≤ 9223372036854775808) : strconv_FormatUint.f (IntKind.u64.wrap (Int.tmod (u : Int) 100 + 100)) 10 = some (S (49 :: digN 2 u)) ∧ strconv_FormatUint.f (IntKind.u64.wrap (Int.tdiv (u : Int) 100)) 10 = some (S (decDigits (u / 100))) := by
  rw [Int.tmod_eq_emod_of_nonneg (by omega), Int.tdiv_eq_ediv_of_nonneg (by omega), show (u : Int) % 100 + 100 = ((u % 100 + 100 : Nat) : Int) from by omega, show (u : Int) / 100 = ((u / 100 : Nat) : Int) from by omega, u64_nat (by omega), u64_nat (by omega), fmtU (by omega), fmtU (by omega), cents]
  exact ⟨rfl, rfl⟩
theorem dec_short' {k n : Nat} (hk : 1 ≤ k) (h : n < 10 ^ k) : (decDigits n).length ≤ k := (pad_dec k n hk h).1
theorem len19 {m : Nat} (h : m ≤ 9223372036854775808) : (decDigits m).length ≤ 19 := dec_short' (by decide) (by omega)
theorem len17 {m : Nat} (h : m ≤ 9223372036854775808) : (decDigits (m / 100)).length ≤ 17 := dec_short' (by decide) (by omega)
theorem rest1 (l : List UInt8) : (S (49 :: l)).extract 1 (S (49 :: l)).size = S l := by
  rw [S_extract, S_size, List.take_length]
  rfl
theorem text_eq {v : Int} (h : I64 v) : money_Text.f v = some (S (moneyT v)) := by
  unfold I64 at h
  have hm : v.natAbs ≤ 9223372036854775808 := by omega
  have hl := len17 hm
  obtain ⟨p1, p2⟩ := mt_pieces v.natAbs hm
  have e45 : (⟨#[45]⟩ : ByteArray) = S [45] := rfl
  have e46 : (⟨#[46]⟩ : ByteArray) = S [46] := rfl
  have e0 : (⟨#[]⟩ : ByteArray) = S [] := rfl
  have hd : (digN 2 v.natAbs).length = 2 := digN_length _ _
  unfold money_Text.f
  by_cases h0 : v < 0
  · rw [if_pos h0, show IntKind.u64.wrap (-(IntKind.u64.wrap v)) = ((v.natAbs : Nat) : Int) from by rw [IntKind.wrap_u64, IntKind.wrap_u64]; omega, p1, p2]
    simp only [Option.bind_some]
    rw [rest1, e45, e46, S_append, S_append, S_append]
    simp only [S_size, List.length_append, List.length_cons, List.length_nil]
    rw [if_pos (by omega), if_pos (by omega), if_pos (by omega), if_pos (by omega)]
    unfold moneyT signT bodyT
    rw [if_pos h0]
    simp
  · rw [if_neg h0, show IntKind.u64.wrap v = ((v.natAbs : Nat) : Int) from by rw [IntKind.wrap_u64]; omega, p1, p2]
    simp only [Option.bind_some]
    rw [rest1, e0, e46, S_append, S_append, S_append]
    simp only [S_size, List.length_append, List.length_cons, List.length_nil]
    rw [if_pos (by omega), if_pos (by omega), if_pos (by omega), if_pos (by omega)]
    unfold moneyT signT bodyT
    rw [if_neg h0]
    simp

/-! ### the reference's decimals -/
theorem tens_get {d : Nat} (h : d < 10) : (⟨#[48, 49, 50, 51, 52, 53, 54, 55, 56, 57]⟩ : ByteArray).extract ((d : Int).toNat) (((d + 1 : Nat) : Int).toNat) = S [dg d] := tens_at h
theorem ref_dec_nat (u : Nat) : u ≤ 9223372036854775807 → Ev (fun k => guichetref1_Dec.f k (u : Int)) (S (Go.Lib.decDigits u)) := by
  induction u using Nat.strongRecOn with
  | _ u ih =>
    intro hu
    by_cases h : u < 10
    · rw [dec_small h]
      refine Ev.step (f := fun _ => some (S [dg u])) (fun k => ?_) (Ev.now _)
      simp only [guichetref1_Dec.f]
      rw [show wrap64 ((u : Int) + 1) = ((u + 1 : Nat) : Int) from by unfold wrap64; omega, if_neg (by omega), if_pos (by omega), if_pos (by omega), if_pos (by omega), if_pos (by omega), tens_get h]
    · rw [dec_step h]
      have hl := (pad_dec 19 (u / 10) (by decide) (by omega)).1
      refine Ev.step (f := fun k => (guichetref1_Dec.f k ((u / 10 : Nat) : Int)).bind fun t => if t.size + (S [dg u]).size ≤ 9223372036854775807 then some (t ++ S [dg u]) else none) (fun k => ?_) ?_
      · simp only [guichetref1_Dec.f, tmod10, wrap10, tdiv10 hu]
        rw [if_neg (by omega), if_neg (by omega)]
        simp only [show ((⟨#[48, 49, 50, 51, 52, 53, 54, 55, 56, 57]⟩ : ByteArray).extract (((u % 10 : Nat) : Int).toNat) (((u % 10 + 1 : Nat) : Int).toNat)) = S [dg u] from tens_mod u]
        congr 1
        funext t
        rw [if_pos (by omega), if_pos (by omega), if_pos (by omega)]
      · refine Ev.bind (ih (u / 10) (by omega) (by omega)) ?_
        refine Ev.ite_pos (by simp only [S_size, List.length_singleton]; omega) ?_
        rw [S_append]
        exact Ev.now _
theorem abs_eq {v : Int} (h : I64 v) (h0 : v < 0) : guichetref1_abs.f v = some ((v.natAbs : Nat) : Int) := by
  unfold I64 at h
  unfold guichetref1_abs.f
  rw [if_pos h0, IntKind.wrap_u64, IntKind.wrap_u64]
  congr 1
  unfold wrap64
  omega
theorem ref_dec {v : Int} (h : I64 v) : Ev (fun k => guichetref1_Dec.f k v) (S (signT v ++ decDigits v.natAbs)) := by
  by_cases h0 : v < 0
  · have hm : v.natAbs ≤ 9223372036854775808 := by unfold I64 at h; omega
    rw [show signT v = [45] from if_pos h0]
    generalize hu : v.natAbs = u at hm
    have ha := abs_eq h h0
    rw [hu] at ha
    have e45 : (⟨#[45]⟩ : ByteArray) = S [45] := rfl
    by_cases h1 : u < 10
    · rw [dec_small h1]
      refine Ev.step (f := fun _ => some (S ([45] ++ [dg u]))) (fun k => ?_) (Ev.now _)
      simp only [guichetref1_Dec.f]
      rw [if_pos h0, ha]
      simp only [Option.bind_some]
      rw [show IntKind.u64.wrap ((u : Int) + 1) = ((u + 1 : Nat) : Int) from by rw [IntKind.wrap_u64]; omega, if_pos (by omega), if_pos (by omega), if_pos (by omega), if_pos (by omega), tens_get h1, if_pos (by simp only [S_size, List.length_singleton]; omega), e45, S_append]
    · rw [dec_step h1]
      have hl := (pad_dec 19 (u / 10) (by decide) (by omega)).1
      refine Ev.step (f := fun k => (guichetref1_Dec.f k ((u / 10 : Nat) : Int)).bind fun t => if 1 + t.size ≤ 9223372036854775807 then (if (S [45] ++ t).size + (S [dg u]).size ≤ 9223372036854775807 then some (S [45] ++ t ++ S [dg u]) else none) else none) (fun k => ?_) ?_
      · simp only [guichetref1_Dec.f]
        rw [if_pos h0, ha]
        simp only [Option.bind_some, tmod10]
        rw [if_neg (by omega), show wrap64 (IntKind.u64.wrap (Int.tdiv (u : Int) 10)) = ((u / 10 : Nat) : Int) from by rw [Int.tdiv_eq_ediv_of_nonneg (by omega), IntKind.wrap_u64]; unfold wrap64; omega]
        rw [show IntKind.u64.wrap (((u % 10 : Nat) : Int) + 1) = ((u % 10 + 1 : Nat) : Int) from by rw [IntKind.wrap_u64]; omega]
        simp only [show ((⟨#[48, 49, 50, 51, 52, 53, 54, 55, 56, 57]⟩ : ByteArray).extract (((u % 10 : Nat) : Int).toNat) (((u % 10 + 1 : Nat) : Int).toNat)) = S [dg u] from tens_mod u]
        congr 1
        funext t
        by_cases hs : 1 + t.size ≤ 9223372036854775807
        · rw [if_pos hs, if_pos hs, if_pos (by omega), if_pos (by omega), if_pos (by omega)]
        · rw [if_neg hs, if_neg hs]
      · refine Ev.bind (ref_dec_nat (u / 10) (by omega)) ?_
        refine Ev.ite_pos (by simp only [S_size]; omega) ?_
        rw [S_append]
        refine Ev.ite_pos (by simp only [S_size, List.length_append, List.length_singleton]; omega) ?_
        rw [S_append, List.append_assoc]
        exact Ev.now _
  · unfold I64 at h
    rw [show signT v = [] from if_neg h0]
    have := ref_dec_nat v.natAbs (by omega)
    rw [show ((v.natAbs : Nat) : Int) = v by omega] at this
    exact this

/-! ### the reference's texts -/
def ptT (l : List UInt8) : List UInt8 := l.take (l.length - 2) ++ 46 :: l.drop (l.length - 2)
theorem mt_l0 (sg : List UInt8) (hsg : sg.length ≤ 1) : ∀ d l, 3 - l.length = d → l.length ≤ 30 → Ev (fun k => guichetref12_MoneyText.l0 k (S l) (S sg)) (S (sg ++ ptT (List.replicate d 48 ++ l))) := by
  intro d
  induction d with
  | zero =>
    intro l hd hl
    have e46 : (⟨#[46]⟩ : ByteArray) = S [46] := rfl
    refine Ev.step (f := fun _ => some (S (sg ++ ptT l))) (fun k => ?_) (Ev.now _)
    simp only [guichetref12_MoneyText.l0]
    rw [if_neg (by rw [S_size]; omega), show wrap64 (((S l).size : Int) - 2) = ((l.length - 2 : Nat) : Int) from by rw [S_size]; unfold wrap64; omega, Int.toNat_natCast, S_extract, S_extract, e46, S_append, S_append, S_append]
    simp only [S_size, List.length_append, List.length_take, List.length_drop, List.length_cons, List.length_nil]
    rw [if_pos (by omega), if_pos (by omega), if_pos (by omega), if_pos (by omega), if_pos (by omega)]
    unfold ptT
    simp
  | succ d ih =>
    intro l hd hl
    have e48 : (⟨#[48]⟩ : ByteArray) = S [48] := rfl
    refine Ev.step (f := fun k => guichetref12_MoneyText.l0 k (S (48 :: l)) (S sg)) (fun k => ?_) ?_
    · simp only [guichetref12_MoneyText.l0]
      rw [if_pos (by rw [S_size]; omega), if_pos (by rw [S_size]; omega), e48, S_append]
      rfl
    · have := ih (48 :: l) (by rw [List.length_cons]; omega) (by rw [List.length_cons]; omega)
      rw [show List.replicate d (48 : UInt8) ++ 48 :: l = List.replicate (d + 1) 48 ++ l from by rw [List.replicate_succ']; simp] at this
      exact this
theorem pt_dec {m : Nat} (h : m ≤ 9223372036854775808) : ptT (List.replicate (3 - (decDigits m).length) 48 ++ decDigits m) = bodyT m := by
  by_cases h1 : m < 100
  · rw [(pad_dec 3 m (by decide) (by omega)).2, digN_front 2 m]
    unfold bodyT
    rw [dec_small (by omega)]
    rfl
  · have hl := dec_long (k := 2) (n := m) (by omega)
    rw [show 3 - (decDigits m).length = 0 by omega, dec_step (by omega : ¬ m < 10), dec_step (by omega : ¬ m / 10 < 10), show m / 10 / 10 = m / 100 by omega]
    unfold bodyT ptT
    simp [digN]
theorem ref_text {v : Int} (h : I64 v) : Ev (fun k => guichetref12_MoneyText.f k v) (S (moneyT v)) := by
  have hm : v.natAbs ≤ 9223372036854775808 := by unfold I64 at h; omega
  have hl := len19 hm
  refine Ev.congr (fun k => (show guichetref12_MoneyText.f k v = (guichetref1_Dec.f k v).bind fun t => if v < 0 then (if 1 ≤ (t.size : Int) then guichetref12_MoneyText.j0 k (t.extract 1 t.size) (⟨#[45]⟩ : ByteArray) else none) else guichetref12_MoneyText.j0 k t (⟨#[]⟩ : ByteArray) from rfl)) ?_
  refine Ev.bind (ref_dec h) ?_
  have go : ∀ (sg : List UInt8), sg.length ≤ 1 → Ev (fun k => guichetref12_MoneyText.j0 k (S (decDigits v.natAbs)) (S sg)) (S (sg ++ bodyT v.natAbs)) := fun sg hsg => by
    refine Ev.step (f := fun k => guichetref12_MoneyText.l0 k (S (decDigits v.natAbs)) (S sg)) (fun k => by simp only [guichetref12_MoneyText.j0]) ?_
    rw [← pt_dec hm]
    exact mt_l0 sg hsg _ _ rfl (by omega)
  unfold moneyT
  by_cases h0 : v < 0
  · have e : (S (signT v ++ decDigits v.natAbs)).extract 1 (S (signT v ++ decDigits v.natAbs)).size = S (decDigits v.natAbs) := by
      rw [show signT v = [45] from if_pos h0, S_extract, S_size, List.take_length]
      rfl
    refine Ev.ite_pos h0 (Ev.ite_pos ?_ ?_)
    · rw [show signT v = [45] from if_pos h0, S_size, List.length_append, List.length_singleton]
      omega
    rw [e, show signT v = [45] from if_pos h0]
    exact go [45] (by decide)
  · refine Ev.ite_neg h0 ?_
    rw [show signT v = [] from if_neg h0]
    exact go [] (by decide)
end Go.Proofs.YtjbhgooakdpabaaDoor.Q
