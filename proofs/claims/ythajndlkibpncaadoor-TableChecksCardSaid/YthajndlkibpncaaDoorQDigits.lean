import Derived.Lib.ItoaNum
import Derived.Lib.ParseIntB
import Derived.Lib.AtoiAll
import Derived.Lib.Repeat
/- Decimal digits: the number of a text, a number in so many digits. -/
namespace Go.Proofs.YthajndlkibpncaaDoor.Q
open Go.Lib
set_option linter.unusedVariables false

def IsDig (c : UInt8) : Prop := 48 ≤ c.toNat ∧ c.toNat ≤ 57
instance (c : UInt8) : Decidable (IsDig c) := by unfold IsDig; infer_instance
def val (l : List UInt8) : Nat := l.foldl (fun a c => a * 10 + (c.toNat - 48)) 0
def dg (n : Nat) : UInt8 := UInt8.ofNat (48 + n % 10)
def digN : Nat → Nat → List UInt8
  | 0, _ => []
  | k + 1, n => digN k (n / 10) ++ [dg n]

theorem dg_toNat (n : Nat) : (dg n).toNat = 48 + n % 10 := by
  unfold dg
  rw [UInt8.toNat_ofNat']
  omega
theorem dg_dig (n : Nat) : IsDig (dg n) := by unfold IsDig; rw [dg_toNat]; omega
theorem digN_length : ∀ k n, (digN k n).length = k
  | 0, _ => rfl
  | k + 1, n => by rw [digN, List.length_append, digN_length k]; rfl
theorem digN_dig : ∀ k n, ∀ c ∈ digN k n, IsDig c
  | 0, _, c, h => by cases h
  | k + 1, n, c, h => by
    rw [digN, List.mem_append, List.mem_singleton] at h
    rcases h with h | rfl
    · exact digN_dig k _ c h
    · exact dg_dig n
theorem val_snoc (l : List UInt8) (c : UInt8) : val (l ++ [c]) = val l * 10 + (c.toNat - 48) := by unfold val; rw [List.foldl_append]; rfl
theorem val_digN : ∀ k n, val (digN k n) = n % 10 ^ k
  | 0, n => by rw [digN, Nat.pow_zero, Nat.mod_one]; rfl
  | k + 1, n => by
    rw [digN, val_snoc, val_digN k, dg_toNat, Nat.pow_succ, Nat.mul_comm (10 ^ k) 10, Nat.mod_mul]
    omega
theorem val_digN_lt {k n : Nat} (h : n < 10 ^ k) : val (digN k n) = n := by rw [val_digN, Nat.mod_eq_of_lt h]
theorem val_lt : ∀ (k : Nat) (l : List UInt8), l.length = k → (∀ c ∈ l, IsDig c) → val l < 10 ^ k
  | 0, l, h, _ => by rw [List.length_eq_zero_iff.1 h]; decide
  | k + 1, l, h, hd => by
    rcases List.eq_nil_or_concat l with rfl | ⟨l', c, rfl⟩
    · cases h
    · rw [List.concat_eq_append] at h hd ⊢
      have hl : l'.length = k := by simpa using h
      have h1 := val_lt k l' hl (fun c hc => hd c (by simp [hc]))
      have h2 := hd c (by simp)
      unfold IsDig at h2
      rw [val_snoc, Nat.pow_succ]
      omega
theorem digN_val : ∀ (k : Nat) (l : List UInt8), l.length = k → (∀ c ∈ l, IsDig c) → digN k (val l) = l
  | 0, l, h, _ => by rw [List.length_eq_zero_iff.1 h]; rfl
  | k + 1, l, h, hd => by
    rcases List.eq_nil_or_concat l with rfl | ⟨l', c, rfl⟩
    · cases h
    · rw [List.concat_eq_append] at h hd ⊢
      have hl : l'.length = k := by simpa using h
      have h2 := hd c (by simp)
      unfold IsDig at h2
      rw [val_snoc, digN, show (val l' * 10 + (c.toNat - 48)) / 10 = val l' by omega, digN_val k l' hl (fun c hc => hd c (by simp [hc]))]
      congr 2
      apply UInt8.toNat_inj.1
      rw [dg_toNat]
      omega
theorem digN_zero : ∀ k, digN k 0 = List.replicate k 48
  | 0 => rfl
  | k + 1 => by rw [digN, Nat.zero_div, digN_zero k, List.replicate_succ']; rfl
theorem dec_small {n : Nat} (h : n < 10) : decDigits n = [dg n] := by rw [decDigits, dif_pos h, dg, Nat.mod_eq_of_lt h]
theorem dec_step {n : Nat} (h : ¬ n < 10) : decDigits n = decDigits (n / 10) ++ [dg n] := by rw [decDigits, dif_neg h]; rfl
/-- Filled up with noughts. -/
theorem pad_dec : ∀ (k n : Nat), 1 ≤ k → n < 10 ^ k → (decDigits n).length ≤ k ∧ List.replicate (k - (decDigits n).length) 48 ++ decDigits n = digN k n
  | 0, n, h, _ => by omega
  | k + 1, n, _, hn => by
    by_cases h : n < 10
    · rw [dec_small h]
      refine ⟨by simp, ?_⟩
      rw [digN, Nat.div_eq_of_lt h, digN_zero]
      rfl
    · have hk : 1 ≤ k := by
        rcases k with _ | k
        · simp at hn; omega
        · omega
      have h10 : n / 10 < 10 ^ k := by rw [Nat.pow_succ] at hn; omega
      obtain ⟨h1, h2⟩ := pad_dec k (n / 10) hk h10
      rw [dec_step h, List.length_append, List.length_singleton]
      refine ⟨by omega, ?_⟩
      rw [show k + 1 - ((decDigits (n / 10)).length + 1) = k - (decDigits (n / 10)).length by omega, ← List.append_assoc, h2]
      rfl
theorem dec_len (n : Nat) : n < 10 ^ (decDigits n).length ∧ 1 ≤ (decDigits n).length := by
  induction n using Nat.strongRecOn with
  | _ n ih =>
    by_cases h : n < 10
    · rw [dec_small h]; simpa using h
    · rw [dec_step h, List.length_append, List.length_singleton, Nat.pow_succ]
      have := (ih (n / 10) (by omega)).1
      omega
theorem dec_long {k n : Nat} (h : 10 ^ k ≤ n) : k < (decDigits n).length := by
  have h1 := (dec_len n).1
  exact (Nat.pow_lt_pow_iff_right (by decide : 1 < 10)).1 (Nat.lt_of_le_of_lt h h1)
theorem repeat_zero (c : Nat) : repeatL [48] c = List.replicate c 48 := by
  induction c with
  | zero => rfl
  | succ c ih => rw [repeatL, ih, List.replicate_succ]; rfl

/-! ### reading -/
theorem parseM (M : Nat) : ∀ (l : List UInt8) (a : Nat), (∀ c ∈ l, IsDig c) → M < 18446744073709551616 → l.foldl (fun a c => a * 10 + (c.toNat - 48)) a ≤ M → parseUintM M a l = .ok (l.foldl (fun a c => a * 10 + (c.toNat - 48)) a)
  | [], a, _, _, _ => rfl
  | c :: r, a, hd, hM, hle => by
    have h2 := hd c (by simp)
    unfold IsDig at h2
    have mono : ∀ (r : List UInt8) (x : Nat), x ≤ r.foldl (fun a c => a * 10 + (c.toNat - 48)) x := by
      intro r
      induction r with
      | nil => intro x; exact Nat.le_refl _
      | cons d r ih => intro x; exact Nat.le_trans (by omega) (ih (x * 10 + (d.toNat - 48)))
    have h3 := mono r (a * 10 + (c.toNat - 48))
    rw [List.foldl_cons] at hle ⊢
    rw [parseUintM, if_pos h2, if_neg (by omega), if_neg (by omega)]
    exact parseM M r _ (fun c hc => hd c (by simp [hc])) hM hle
theorem parse_digits {l : List UInt8} (h0 : l ≠ []) (hd : ∀ c ∈ l, IsDig c) (hv : val l < 9223372036854775808) : parseIntB 64 l = .ok (val l : Int) := by
  have hp : parseUintB 64 l = .ok (val l) := by
    unfold parseUintB
    rw [if_neg h0]
    exact parseM _ l 0 hd (by decide) (by unfold val at hv; omega)
  cases l with
  | nil => exact absurd rfl h0
  | cons c r =>
    have h2 := hd c (by simp)
    unfold IsDig at h2
    unfold parseIntB
    simp only []
    rw [if_neg (by omega : ¬ (c.toNat = 43 ∨ c.toNat = 45)), hp]
    simp only []
    rw [if_neg (by omega), if_neg (by omega), if_neg (by omega)]
end Go.Proofs.YthajndlkibpncaaDoor.Q
