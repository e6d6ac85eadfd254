import Derived.Lib.ItoaNum
import Derived.Lib.AtoiAll
import Derived.Lib.Join
import Derived.Lib.SplitLaws
import Derived.Lib.IndexAny
/- Decimals in one form; parts between marks: plain lists. -/
namespace Go.B.YteigefgobkdmgaaDoor
open Go
set_option linter.unusedVariables false
set_option linter.unusedSimpArgs false

/-- A text out of its bytes. -/
abbrev S (l : List UInt8) : ByteArray := ⟨l.toArray⟩
abbrev U (s : ByteArray) : List UInt8 := s.data.toList
theorem S_U (s : ByteArray) : S (U s) = s := rfl
theorem U_S (l : List UInt8) : U (S l) = l := rfl
theorem S_size (l : List UInt8) : (S l).size = l.length := rfl
theorem U_size (s : ByteArray) : s.size = (U s).length := (Array.length_toList (xs := s.data)).symm
theorem S_inj {l m : List UInt8} (h : S l = S m) : l = m := congrArg (fun s : ByteArray => s.data.toList) h
theorem U_inj {s t : ByteArray} (h : U s = U t) : s = t := by rw [← S_U s, ← S_U t]; exact congrArg S h

def isDig (b : UInt8) : Bool := decide (48 ≤ b.toNat) && decide (b.toNat ≤ 57)
theorem isDig_iff {b : UInt8} : isDig b = true ↔ 48 ≤ b.toNat ∧ b.toNat ≤ 57 := by unfold isDig; simp
def val (l : List UInt8) : Nat := l.foldl (fun a c => a * 10 + (c.toNat - 48)) 0
def dg (n : Nat) : UInt8 := UInt8.ofNat (48 + n % 10)
theorem dg_toNat (n : Nat) : (dg n).toNat = 48 + n % 10 := by
  unfold dg
  rw [UInt8.toNat_ofNat']
  omega
theorem dg_dig (n : Nat) : isDig (dg n) = true := by rw [isDig_iff, dg_toNat]; omega
theorem val_snoc (l : List UInt8) (c : UInt8) : val (l ++ [c]) = val l * 10 + (c.toNat - 48) := by unfold val; rw [List.foldl_append]; rfl
theorem dec_small {n : Nat} (h : n < 10) : Lib.decDigits n = [dg n] := by rw [Lib.decDigits, dif_pos h, dg, Nat.mod_eq_of_lt h]
theorem dec_step {n : Nat} (h : ¬ n < 10) : Lib.decDigits n = Lib.decDigits (n / 10) ++ [dg n] := by rw [Lib.decDigits, dif_neg h]; rfl
theorem val_dec (n : Nat) : val (Lib.decDigits n) = n := by
  induction n using Nat.strongRecOn with
  | _ n ih =>
    by_cases h : n < 10
    · rw [dec_small h]; show val ([] ++ [dg n]) = n; rw [val_snoc, dg_toNat]; show 0 * 10 + _ = n; omega
    · rw [dec_step h, val_snoc, ih (n / 10) (by omega), dg_toNat]; omega
theorem dec_inj {m n : Nat} (h : Lib.decDigits m = Lib.decDigits n) : m = n := by rw [← val_dec m, h, val_dec]
theorem dec_dig (n : Nat) : ∀ c ∈ Lib.decDigits n, isDig c = true := by
  induction n using Nat.strongRecOn with
  | _ n ih =>
    intro c hc
    by_cases h : n < 10
    · rw [dec_small h] at hc; simp at hc; subst hc; exact dg_dig n
    · rw [dec_step h, List.mem_append, List.mem_singleton] at hc
      rcases hc with hc | rfl
      · exact ih (n / 10) (by omega) c hc
      · exact dg_dig n
theorem dec_ne (n : Nat) : Lib.decDigits n ≠ [] := by
  by_cases h : n < 10
  · rw [dec_small h]; simp
  · rw [dec_step h]; simp
theorem dec_head (n : Nat) : n < 10 ∨ ∃ c r, Lib.decDigits n = c :: r ∧ c.toNat ≠ 48 := by
  induction n using Nat.strongRecOn with
  | _ n ih =>
    by_cases h : n < 10
    · exact .inl h
    · right
      rcases ih (n / 10) (by omega) with h1 | ⟨c, r, h1, h2⟩
      · refine ⟨dg (n / 10), [dg n], by rw [dec_step h, dec_small h1]; rfl, by rw [dg_toNat]; omega⟩
      · exact ⟨c, r ++ [dg n], by rw [dec_step h, h1]; rfl, h2⟩
theorem dec_len (n : Nat) : n < 10 ^ (Lib.decDigits n).length := by
  induction n using Nat.strongRecOn with
  | _ n ih =>
    by_cases h : n < 10
    · rw [dec_small h]; simpa using h
    · rw [dec_step h, List.length_append, List.length_singleton, Nat.pow_succ]
      have := ih (n / 10) (by omega)
      omega
theorem dec_len_le : ∀ (k n : Nat), 1 ≤ k → n < 10 ^ k → (Lib.decDigits n).length ≤ k
  | 0, n, h, _ => by omega
  | k + 1, n, _, hn => by
    by_cases h : n < 10
    · rw [dec_small h]; simp
    · rw [dec_step h, List.length_append, List.length_singleton]
      have hk : 1 ≤ k := by
        rcases k with _ | k
        · simp at hn; omega
        · omega
      have := dec_len_le k (n / 10) hk (by rw [Nat.pow_succ] at hn; omega)
      omega
theorem dec_ten (n : Nat) : (Lib.decDigits n).length ≤ 10 ↔ n ≤ 9999999999 := by
  constructor
  · intro h
    have h1 := dec_len n
    have h2 : (10 : Nat) ^ (Lib.decDigits n).length ≤ 10 ^ 10 := Nat.pow_le_pow_right (by decide) h
    omega
  · intro h; exact dec_len_le 10 n (by decide) (by omega)
theorem val_mono (r : List UInt8) : ∀ x : Nat, x ≤ r.foldl (fun a c => a * 10 + (c.toNat - 48)) x := by
  induction r with
  | nil => intro x; exact Nat.le_refl _
  | cons d r ih => intro x; exact Nat.le_trans (by omega) (ih (x * 10 + (d.toNat - 48)))
theorem val_pos {c : UInt8} {r : List UInt8} (h : isDig c = true) (h2 : c.toNat ≠ 48) : 1 ≤ val (c :: r) := by
  rw [isDig_iff] at h
  have := val_mono r (0 * 10 + (c.toNat - 48))
  unfold val
  rw [List.foldl_cons]
  omega
/-- Digits without noughts ahead are their number's. -/
theorem dec_val : ∀ (k : Nat) (l : List UInt8), l.length = k → l ≠ [] → (∀ c ∈ l, isDig c = true) → (l.length = 1 ∨ ∃ c r, l = c :: r ∧ c.toNat ≠ 48) → Lib.decDigits (val l) = l
  | 0, l, h, h0, _, _ => absurd (List.length_eq_zero_iff.1 h) h0
  | k + 1, l, h, h0, hd, hz => by
    rcases List.eq_nil_or_concat l with rfl | ⟨l', c, rfl⟩
    · exact absurd rfl h0
    rw [List.concat_eq_append] at *
    have hl : l'.length = k := by simpa using h
    have hc := hd c (by simp)
    rw [isDig_iff] at hc
    rw [val_snoc]
    have hg : ∀ m : Nat, dg (m * 10 + (c.toNat - 48)) = c := fun m => by
      apply UInt8.toNat_inj.1; rw [dg_toNat]; omega
    cases l' with
    | nil =>
      show Lib.decDigits (0 * 10 + (c.toNat - 48)) = [c]
      rw [dec_small (by omega), hg]
    | cons a r =>
      have ha : a.toNat ≠ 48 := by
        rcases hz with hz | ⟨a', r', he, hn⟩
        · simp at hz
        · simp only [List.cons_append] at he; cases he; exact hn
      have hp := val_pos (r := r) (hd a (by simp)) ha
      rw [dec_step (by omega), show (val (a :: r) * 10 + (c.toNat - 48)) / 10 = val (a :: r) by omega, dec_val k (a :: r) hl (by simp) (fun x hx => hd x (by simp at hx ⊢; rcases hx with hx | hx <;> simp [hx])) (.inr ⟨a, r, rfl, ha⟩), hg]

/-! ### numbers in one form -/
/-- The number of a text in the one form of decimals. -/
def cano (s : ByteArray) : Option Nat := if Lib.decDigits (val (U s)) = U s then some (val (U s)) else none
theorem cano_dec (n : Nat) : cano (S (Lib.decDigits n)) = some n := by unfold cano; rw [U_S, val_dec, if_pos rfl]
theorem cano_some {s : ByteArray} {n : Nat} (h : cano s = some n) : s = S (Lib.decDigits n) := by
  unfold cano at h
  split at h
  · rename_i e; cases h; exact U_inj (by rw [U_S, e])
  · cases h
/-- At most so much. -/
def numB (most : Nat) (s : ByteArray) : Option Nat := match cano s with | some n => if n ≤ most then some n else none | none => none
theorem numB_some {most : Nat} {s : ByteArray} {n : Nat} (h : numB most s = some n) : s = S (Lib.decDigits n) ∧ n ≤ most := by
  unfold numB at h
  split at h
  · rename_i m e
    split at h
    · cases h; exact ⟨cano_some e, by assumption⟩
    · cases h
  · cases h
theorem numB_dec {most n : Nat} (h : n ≤ most) : numB most (S (Lib.decDigits n)) = some n := by unfold numB; rw [cano_dec]; simp [h]
theorem numB_iff {most : Nat} {s : ByteArray} {n : Nat} : numB most s = some n ↔ s = S (Lib.decDigits n) ∧ n ≤ most :=
  ⟨numB_some, fun ⟨a, b⟩ => by rw [a]; exact numB_dec b⟩
theorem numB_none {most : Nat} {s : ByteArray} (h : ∀ n, s = S (Lib.decDigits n) → most < n) : numB most s = none := by
  cases hn : numB most s with
  | none => rfl
  | some n => obtain ⟨a, b⟩ := numB_some hn; have := h n a; omega
theorem numB_empty (most : Nat) : numB most (S []) = none := numB_none fun n h => absurd (S_inj h).symm (dec_ne n)
theorem parse10 : ∀ (l : List UInt8) (a : Nat), (∀ c ∈ l, isDig c = true) → l.foldl (fun a c => a * 10 + (c.toNat - 48)) a < 18446744073709551616 → Lib.parseUint10 a l = .ok (l.foldl (fun a c => a * 10 + (c.toNat - 48)) a)
  | [], a, _, _ => rfl
  | c :: r, a, hd, hle => by
    have h2 := hd c (by simp)
    rw [isDig_iff] at h2
    have h3 := val_mono r (a * 10 + (c.toNat - 48))
    rw [List.foldl_cons] at hle ⊢
    rw [Lib.parseUint10, if_pos h2, if_neg (by omega), if_neg (by omega)]
    exact parse10 r _ (fun c hc => hd c (by simp [hc])) hle
theorem atoi_dec {n : Nat} (h : n < 9223372036854775808) : Lib.atoiAll (Lib.decDigits n) = .ok (n : Int) := by
  have hd := dec_dig n
  have hv := val_dec n
  have h0 := dec_ne n
  generalize hq : Lib.decDigits n = l at *
  cases l with
  | nil => exact absurd rfl h0
  | cons c r =>
    have h2 := hd c (by simp)
    rw [isDig_iff] at h2
    have hp : Lib.parseMag (c :: r) = .ok n := by
      unfold Lib.parseMag
      rw [if_neg (by simp)]
      have := parse10 (c :: r) 0 hd (by unfold val at hv; omega)
      rw [this]; unfold val at hv; rw [hv]
    unfold Lib.atoiAll
    simp only []
    rw [if_neg (by omega : ¬ (c.toNat = 43 ∨ c.toNat = 45)), hp]
    simp only []
    rw [if_neg (by omega), if_neg (by omega), if_neg (by omega)]
theorem itoa_nat (n : Nat) : Lib.itoa (n : Int) = Lib.decDigits n := by unfold Lib.itoa; rw [if_neg (by omega)]; simp
/-- What the code asks of a part that is a number. -/
theorem number_good {most : Nat} (hm : most < 9223372036854775808) {s : ByteArray} {v : Int} (h : Lib.atoiAll (U s) = .ok v) (h0 : 0 ≤ v) (h1 : v ≤ most) (h2 : S (Lib.itoa v) = s) : numB most s = some v.toNat := by
  obtain ⟨n, rfl⟩ := Int.eq_ofNat_of_zero_le h0
  rw [numB_iff, ← h2, itoa_nat]
  exact ⟨rfl, by omega⟩
theorem number_bad {most : Nat} (hm : most < 9223372036854775808) {s : ByteArray} (h : ∀ v, Lib.atoiAll (U s) = .ok v → 0 ≤ v → v ≤ most → S (Lib.itoa v) ≠ s) : numB most s = none := by
  cases hn : numB most s with
  | none => rfl
  | some n =>
    obtain ⟨a, b⟩ := numB_some hn
    subst a
    exact absurd (by rw [itoa_nat]) (h n (atoi_dec (by omega)) (by omega) (by omega))

/-! ### parts -/
def ch (x : UInt8) : List (List UInt8) → List (List UInt8)
  | [] => [[x]]
  | h :: r => (x :: h) :: r
def sp : List UInt8 → List (List UInt8)
  | [] => [[]]
  | x :: t => if x = 28 then [] :: sp t else ch x (sp t)
def ah (a : List UInt8) : List (List UInt8) → List (List UInt8)
  | [] => [a]
  | h :: r => (a ++ h) :: r
theorem ch_ne (x : UInt8) (L : List (List UInt8)) : ch x L ≠ [] := by cases L <;> simp [ch]
theorem sp_ne (l : List UInt8) : sp l ≠ [] := by
  cases l with
  | nil => simp [sp]
  | cons x t => unfold sp; split; simp; exact ch_ne _ _
theorem ah_nil {L : List (List UInt8)} (h : L ≠ []) : ah [] L = L := by cases L with | nil => exact absurd rfl h | cons a r => rfl
theorem ah_ch (a : List UInt8) (x : UInt8) (L : List (List UInt8)) : ah a (ch x L) = ah (a ++ [x]) L := by cases L <;> simp [ah, ch]
theorem sp_length (l : List UInt8) : (sp l).length ≤ l.length + 1 := by
  induction l with
  | nil => simp [sp]
  | cons x t ih =>
    unfold sp
    split
    · simp; omega
    · cases h : sp t with
      | nil => exact absurd h (sp_ne t)
      | cons a r => rw [h] at ih; simp [ch] at ih ⊢; omega
theorem sp_part (l : List UInt8) : ∀ p ∈ sp l, p.length ≤ l.length := by
  induction l with
  | nil => simp [sp]
  | cons x t ih =>
    unfold sp
    split
    · intro p hp
      simp at hp
      rcases hp with rfl | hp
      · simp
      · have := ih p hp; simp; omega
    · cases h : sp t with
      | nil => exact absurd h (sp_ne t)
      | cons a r =>
        rw [h] at ih
        intro p hp
        simp [ch] at hp
        rcases hp with rfl | hp
        · have := ih a (by simp); simp; omega
        · have := ih p (by simp [hp]); simp; omega
theorem index_ne {b : UInt8} {l : List UInt8} (h : b ≠ 28) : Lib.index (b :: l) [28] = if Lib.index l [28] == -1 then -1 else Lib.index l [28] + 1 := by
  have hp : ([28] : List UInt8).isPrefixOf (b :: l) = false := by simp [List.isPrefixOf, Ne.symm h]
  rw [Lib.index, hp]; simp
theorem index_eq (l : List UInt8) : Lib.index (28 :: l) [28] = 0 := by rw [Lib.index]; simp [List.isPrefixOf]
theorem splitK_sp : ∀ l : List UInt8, Lib.splitK [28] 0 (Lib.count l [28]) l = sp l
  | [] => by rw [Lib.count_miss (by simp [Lib.index])]; rfl
  | b :: t => by
    by_cases h : b = 28
    · subst h
      rw [Lib.count_cons_eq, Nat.add_comm, Lib.splitK, index_eq, if_neg (by decide), sp, if_pos rfl]
      show _ :: Lib.splitK [28] 0 (Lib.count t [28]) t = _
      rw [splitK_sp t]
      rfl
    · rw [Lib.count_cons_ne b 28 t h, sp, if_neg h, ← splitK_sp t]
      cases hk : Lib.count t [28] with
      | zero => rfl
      | succ k =>
        have hm : Lib.index t [28] ≠ -1 := fun e => by rw [Lib.count_miss e] at hk; omega
        have hge : -1 ≤ Lib.index t [28] := by rw [Lib.index_one]; exact Lib.indexByte_ge t 28
        obtain ⟨i, hi⟩ := Int.eq_ofNat_of_zero_le (show 0 ≤ Lib.index t [28] by omega)
        have n1 : ∀ j : Nat, ¬ (((j : Int) == -1) = true) := fun j e => by have := beq_iff_eq.1 e; omega
        rw [Lib.splitK, Lib.splitK, index_ne h, hi, if_neg (n1 i), if_neg (n1 i)]
        rw [show ((i : Int) + 1) = ((i + 1 : Nat) : Int) from rfl, if_neg (n1 (i + 1)), Int.toNat_natCast, Int.toNat_natCast]
        rw [show i + 1 + ([28] : List UInt8).length = (i + 1) + 1 from rfl, Nat.add_zero, Nat.add_zero, List.take_succ_cons, List.drop_succ_cons]
        rfl
theorem splitB_sp (s : ByteArray) : Lib.splitB (S [28]) 0 (Lib.countB s (S [28])) s = (sp (U s)).map S := by
  have h := Lib.splitB_data (S [28]) 0 (Lib.countB s (S [28])) s
  have e : (Lib.splitB (S [28]) 0 (Lib.countB s (S [28])) s).map U = sp (U s) := h.trans (splitK_sp (U s))
  rw [← e, List.map_map]
  exact (List.map_id _).symm
/-- Parts, a mark between. -/
def jn : List (List UInt8) → List UInt8
  | [] => []
  | [a] => a
  | a :: r => a ++ 28 :: jn r
theorem joinTail_jn (a : List UInt8) (r : List (List UInt8)) : Lib.join (a :: r) [28] = jn (a :: r) := by
  induction r generalizing a with
  | nil => exact Lib.join_one a [28]
  | cons b r ih =>
    rw [jn, ← ih b, Lib.join_cons, Lib.join_cons]
    · simp [Lib.joinTail]
    · simp
theorem join_jn (L : List (List UInt8)) : Lib.join L [28] = jn L := by
  cases L with
  | nil => rfl
  | cons a r => exact joinTail_jn a r
theorem sp_app (a b : List UInt8) (h : (28 : UInt8) ∉ a) : sp (a ++ 28 :: b) = a :: sp b := by
  induction a with
  | nil => simp [sp]
  | cons x t ih =>
    simp only [List.mem_cons, not_or] at h
    rw [List.cons_append, sp, if_neg (Ne.symm h.1), ih h.2]
    rfl
theorem sp_plain (a : List UInt8) (h : (28 : UInt8) ∉ a) : sp a = [a] := by
  induction a with
  | nil => rfl
  | cons x t ih =>
    simp only [List.mem_cons, not_or] at h
    rw [sp, if_neg (Ne.symm h.1), ih h.2]
    rfl
/-- What was joined is cut again. -/
theorem sp_jn : ∀ (L : List (List UInt8)), L ≠ [] → (∀ a ∈ L, (28 : UInt8) ∉ a) → sp (jn L) = L
  | [], h, _ => absurd rfl h
  | [a], _, h => sp_plain a (h a (by simp))
  | a :: b :: r, _, h => by
    rw [jn]
    · rw [sp_app a _ (h a (by simp)), sp_jn (b :: r) (by simp) (fun x hx => h x (by simp at hx ⊢; exact .inr hx))]
    · simp
theorem dec_plain (n : Nat) : (28 : UInt8) ∉ Lib.decDigits n := fun h => absurd (dec_dig n _ h) (by decide)
end Go.B.YteigefgobkdmgaaDoor
