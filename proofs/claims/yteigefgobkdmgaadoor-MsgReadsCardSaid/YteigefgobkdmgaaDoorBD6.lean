import Derived.Lib.ItoaNum
import Derived.Lib.AtoiAll
import Derived.Lib.Join
import Derived.Lib.SplitLaws
import Derived.Lib.IndexAny
import Derived.Test.YteigefgobkdmgaaDoorBS
import Derived.Lib.Bytealg
/- Decimals in one form; parts between marks: plain lists. -/
namespace Go.B.YteigefgobkdmgaaDoor
open Go
set_option linter.unusedVariables false
set_option linter.unusedSimpArgs false

/-- A text out of its bytes. -/
abbrev S (l : List UInt8) : ByteArray := ⟨l.toArray⟩
abbrev U (s : ByteArray) : List UInt8 := s.data.toList
theorem S_U (s : ByteArray) : S (U s) = s := rfl
theorem U_S (l : List UInt8) : U (S l) = l := rfl
theorem S_size (l : List UInt8) : (S l).size = l.length := rfl
theorem U_size (s : ByteArray) : s.size = (U s).length := (Array.length_toList (xs := s.data)).symm
theorem S_inj {l m : List UInt8} (h : S l = S m) : l = m := congrArg (fun s : ByteArray => s.data.toList) h
theorem U_inj {s t : ByteArray} (h : U s = U t) : s = t := by rw [← S_U s, ← S_U t]; exact congrArg S h

def isDig (b : UInt8) : Bool := decide (48 ≤ b.toNat) && decide (b.toNat ≤ 57)
theorem isDig_iff {b : UInt8} : isDig b = true ↔ 48 ≤ b.toNat ∧ b.toNat ≤ 57 := by unfold isDig; simp
def val (l : List UInt8) : Nat := l.foldl (fun a c => a * 10 + (c.toNat - 48)) 0
def dg (n : Nat) : UInt8 := UInt8.ofNat (48 + n % 10)
theorem dg_toNat (n : Nat) : (dg n).toNat = 48 + n % 10 := by
  unfold dg
  rw [UInt8.toNat_ofNat']
  omega
theorem dg_dig (n : Nat) : isDig (dg n) = true := by rw [isDig_iff, dg_toNat]; omega
theorem val_snoc (l : List UInt8) (c : UInt8) : val (l ++ [c]) = val l * 10 + (c.toNat - 48) := by unfold val; rw [List.foldl_append]; rfl
theorem dec_small {n : Nat} (h : n < 10) : Lib.decDigits n = [dg n] := by rw [Lib.decDigits, dif_pos h, dg, Nat.mod_eq_of_lt h]
theorem dec_step {n : Nat} (h : ¬ n < 10) : Lib.decDigits n = Lib.decDigits (n / 10) ++ [dg n] := by rw [Lib.decDigits, dif_neg h]; rfl
theorem val_dec (n : Nat) : val (Lib.decDigits n) = n := by
  induction n using Nat.strongRecOn with
  | _ n ih =>
    by_cases h : n < 10
    · rw [dec_small h]; show val ([] ++ [dg n]) = n; rw [val_snoc, dg_toNat]; show 0 * 10 + _ = n; omega
    · rw [dec_step h, val_snoc, ih (n / 10) (by omega), dg_toNat]; omega
theorem dec_inj {m n : Nat} (h : Lib.decDigits m = Lib.decDigits n) : m = n := by rw [← val_dec m, h, val_dec]
theorem dec_dig (n : Nat) : ∀ c ∈ Lib.decDigits n, isDig c = true := by
  induction n using Nat.strongRecOn with
  | _ n ih =>
    intro c hc
    by_cases h : n < 10
    · rw [dec_small h] at hc; simp at hc; subst hc; exact dg_dig n
    · rw [dec_step h, List.mem_append, List.mem_singleton] at hc
      rcases hc with hc | rfl
      · exact ih (n / 10) (by omega) c hc
      · exact dg_dig n
theorem dec_ne (n : Nat) : Lib.decDigits n ≠ [] := by
  by_cases h : n < 10
  · rw [dec_small h]; simp
  · rw [dec_step h]; simp
theorem dec_head (n : Nat) : n < 10 ∨ ∃ c r, Lib.decDigits n = c :: r ∧ c.toNat ≠ 48 := by
  induction n using Nat.strongRecOn with
  | _ n ih =>
    by_cases h : n < 10
    · exact .inl h
    · right
      rcases ih (n / 10) (by omega) with h1 | ⟨c, r, h1, h2⟩
      · refine ⟨dg (n / 10), [dg n], by rw [dec_step h, dec_small h1]; rfl, by rw [dg_toNat]; omega⟩
      · exact ⟨c, r ++ [dg n], by rw [dec_step h, h1]; rfl, h2⟩
theorem dec_len (n : Nat) : n < 10 ^ (Lib.decDigits n).length := by
  induction n using Nat.strongRecOn with
  | _ n ih =>
    by_cases h : n < 10
    · rw [dec_small h]; simpa using h
    · rw [dec_step h, List.length_append, List.length_singleton, Nat.pow_succ]
      have := ih (n / 10) (by omega)
      omega
theorem dec_len_le : ∀ (k n : Nat), 1 ≤ k → n < 10 ^ k → (Lib.decDigits n).length ≤ k
  | 0, n, h, _ => by omega
  | k + 1, n, _, hn => by
    by_cases h : n < 10
    · rw [dec_small h]; simp
    · rw [dec_step h, List.length_append, List.length_singleton]
      have hk : 1 ≤ k := by
        rcases k with _ | k
        · simp at hn; omega
        · omega
      have := dec_len_le k (n / 10) hk (by rw [Nat.pow_succ] at hn; omega)
      omega
theorem dec_ten (n : Nat) : (Lib.decDigits n).length ≤ 10 ↔ n ≤ 9999999999 := by
  constructor
  · intro h
    have h1 := dec_len n
    have h2 : (10 : Nat) ^ (Lib.decDigits n).length ≤ 10 ^ 10 := Nat.pow_le_pow_right (by decide) h
    omega
  · intro h; exact dec_len_le 10 n (by decide) (by omega)
theorem val_mono (r : List UInt8) : ∀ x : Nat, x ≤ r.foldl (fun a c => a * 10 + (c.toNat - 48)) x := by
  induction r with
  | nil => intro x; exact Nat.le_refl _
  | cons d r ih => intro x; exact Nat.le_trans (by omega) (ih (x * 10 + (d.toNat - 48)))
theorem val_pos {c : UInt8} {r : List UInt8} (h : isDig c = true) (h2 : c.toNat ≠ 48) : 1 ≤ val (c :: r) := by
  rw [isDig_iff] at h
  have := val_mono r (0 * 10 + (c.toNat - 48))
  unfold val
  rw [List.foldl_cons]
  omega
/-- Digits without noughts ahead are their number's. -/
theorem dec_val : ∀ (k : Nat) (l : List UInt8), l.length = k → l ≠ [] → (∀ c ∈ l, isDig c = true) → (l.length = 1 ∨ ∃ c r, l = c :: r ∧ c.toNat ≠ 48) → Lib.decDigits (val l) = l
  | 0, l, h, h0, _, _ => absurd (List.length_eq_zero_iff.1 h) h0
  | k + 1, l, h, h0, hd, hz => by
    rcases List.eq_nil_or_concat l with rfl | ⟨l', c, rfl⟩
    · exact absurd rfl h0
    rw [List.concat_eq_append] at *
    have hl : l'.length = k := by simpa using h
    have hc := hd c (by simp)
    rw [isDig_iff] at hc
    rw [val_snoc]
    have hg : ∀ m : Nat, dg (m * 10 + (c.toNat - 48)) = c := fun m => by
      apply UInt8.toNat_inj.1; rw [dg_toNat]; omega
    cases l' with
    | nil =>
      show Lib.decDigits (0 * 10 + (c.toNat - 48)) = [c]
      rw [dec_small (by omega), hg]
    | cons a r =>
      have ha : a.toNat ≠ 48 := by
        rcases hz with hz | ⟨a', r', he, hn⟩
        · simp at hz
        · simp only [List.cons_append] at he; cases he; exact hn
      have hp := val_pos (r := r) (hd a (by simp)) ha
      rw [dec_step (by omega), show (val (a :: r) * 10 + (c.toNat - 48)) / 10 = val (a :: r) by omega, dec_val k (a :: r) hl (by simp) (fun x hx => hd x (by simp at hx ⊢; rcases hx with hx | hx <;> simp [hx])) (.inr ⟨a, r, rfl, ha⟩), hg]

/-! ### numbers in one form -/
/-- The number of a text in the one form of decimals. -/
def cano (s : ByteArray) : Option Nat := if Lib.decDigits (val (U s)) = U s then some (val (U s)) else none
theorem cano_dec (n : Nat) : cano (S (Lib.decDigits n)) = some n := by unfold cano; rw [U_S, val_dec, if_pos rfl]
theorem cano_some {s : ByteArray} {n : Nat} (h : cano s = some n) : s = S (Lib.decDigits n) := by
  unfold cano at h
  split at h
  · rename_i e; cases h; exact U_inj (by rw [U_S, e])
  · cases h
/-- At most so much. -/
def numB (most : Nat) (s : ByteArray) : Option Nat := match cano s with | some n => if n ≤ most then some n else none | none => none
theorem numB_some {most : Nat} {s : ByteArray} {n : Nat} (h : numB most s = some n) : s = S (Lib.decDigits n) ∧ n ≤ most := by
  unfold numB at h
  split at h
  · rename_i m e
    split at h
    · cases h; exact ⟨cano_some e, by assumption⟩
    · cases h
  · cases h
theorem numB_dec {most n : Nat} (h : n ≤ most) : numB most (S (Lib.decDigits n)) = some n := by unfold numB; rw [cano_dec]; simp [h]
theorem numB_iff {most : Nat} {s : ByteArray} {n : Nat} : numB most s = some n ↔ s = S (Lib.decDigits n) ∧ n ≤ most :=
  ⟨numB_some, fun ⟨a, b⟩ => by rw [a]; exact numB_dec b⟩
theorem numB_none {most : Nat} {s : ByteArray} (h : ∀ n, s = S (Lib.decDigits n) → most < n) : numB most s = none := by
  cases hn : numB most s with
  | none => rfl
  | some n => obtain ⟨a, b⟩ := numB_some hn; have := h n a; omega
theorem numB_empty (most : Nat) : numB most (S []) = none := numB_none fun n h => absurd (S_inj h).symm (dec_ne n)
theorem parse10 : ∀ (l : List UInt8) (a : Nat), (∀ c ∈ l, isDig c = true) → l.foldl (fun a c => a * 10 + (c.toNat - 48)) a < 18446744073709551616 → Lib.parseUint10 a l = .ok (l.foldl (fun a c => a * 10 + (c.toNat - 48)) a)
  | [], a, _, _ => rfl
  | c :: r, a, hd, hle => by
    have h2 := hd c (by simp)
    rw [isDig_iff] at h2
    have h3 := val_mono r (a * 10 + (c.toNat - 48))
    rw [List.foldl_cons] at hle ⊢
    rw [Lib.parseUint10, if_pos h2, if_neg (by omega), if_neg (by omega)]
    exact parse10 r _ (fun c hc => hd c (by simp [hc])) hle
theorem atoi_dec {n : Nat} (h : n < 9223372036854775808) : Lib.atoiAll (Lib.decDigits n) = .ok (n : Int) := by
  have hd := dec_dig n
  have hv := val_dec n
  have h0 := dec_ne n
  generalize hq : Lib.decDigits n = l at *
  cases l with
  | nil => exact absurd rfl h0
  | cons c r =>
    have h2 := hd c (by simp)
    rw [isDig_iff] at h2
    have hp : Lib.parseMag (c :: r) = .ok n := by
      unfold Lib.parseMag
      rw [if_neg (by simp)]
      have := parse10 (c :: r) 0 hd (by unfold val at hv; omega)
      rw [this]; unfold val at hv; rw [hv]
    unfold Lib.atoiAll
    simp only []
    rw [if_neg (by omega : ¬ (c.toNat = 43 ∨ c.toNat = 45)), hp]
    simp only []
    rw [if_neg (by omega), if_neg (by omega), if_neg (by omega)]
theorem itoa_nat (n : Nat) : Lib.itoa (n : Int) = Lib.decDigits n := by unfold Lib.itoa; rw [if_neg (by omega)]; simp
/-- What the code asks of a part that is a number. -/
theorem number_good {most : Nat} (hm : most < 9223372036854775808) {s : ByteArray} {v : Int} (h : Lib.atoiAll (U s) = .ok v) (h0 : 0 ≤ v) (h1 : v ≤ most) (h2 : S (Lib.itoa v) = s) : numB most s = some v.toNat := by
  obtain ⟨n, rfl⟩ := Int.eq_ofNat_of_zero_le h0
  rw [numB_iff, ← h2, itoa_nat]
  exact ⟨rfl, by omega⟩
theorem number_bad {most : Nat} (hm : most < 9223372036854775808) {s : ByteArray} (h : ∀ v, Lib.atoiAll (U s) = .ok v → 0 ≤ v → v ≤ most → S (Lib.itoa v) ≠ s) : numB most s = none := by
  cases hn : numB most s with
  | none => rfl
  | some n =>
    obtain ⟨a, b⟩ := numB_some hn
    subst a
    exact absurd (by rw [itoa_nat]) (h n (atoi_dec (by omega)) (by omega) (by omega))

/-! ### parts -/
def ch (x : UInt8) : List (List UInt8) → List (List UInt8)
  | [] => [[x]]
  | h :: r => (x :: h) :: r
def sp : List UInt8 → List (List UInt8)
  | [] => [[]]
  | x :: t => if x = 28 then [] :: sp t else ch x (sp t)
def ah (a : List UInt8) : List (List UInt8) → List (List UInt8)
  | [] => [a]
  | h :: r => (a ++ h) :: r
theorem ch_ne (x : UInt8) (L : List (List UInt8)) : ch x L ≠ [] := by cases L <;> simp [ch]
theorem sp_ne (l : List UInt8) : sp l ≠ [] := by
  cases l with
  | nil => simp [sp]
  | cons x t => unfold sp; split; simp; exact ch_ne _ _
theorem ah_nil {L : List (List UInt8)} (h : L ≠ []) : ah [] L = L := by cases L with | nil => exact absurd rfl h | cons a r => rfl
theorem ah_ch (a : List UInt8) (x : UInt8) (L : List (List UInt8)) : ah a (ch x L) = ah (a ++ [x]) L := by cases L <;> simp [ah, ch]
theorem sp_length (l : List UInt8) : (sp l).length ≤ l.length + 1 := by
  induction l with
  | nil => simp [sp]
  | cons x t ih =>
    unfold sp
    split
    · simp; omega
    · cases h : sp t with
      | nil => exact absurd h (sp_ne t)
      | cons a r => rw [h] at ih; simp [ch] at ih ⊢; omega
theorem sp_part (l : List UInt8) : ∀ p ∈ sp l, p.length ≤ l.length := by
  induction l with
  | nil => simp [sp]
  | cons x t ih =>
    unfold sp
    split
    · intro p hp
      simp at hp
      rcases hp with rfl | hp
      · simp
      · have := ih p hp; simp; omega
    · cases h : sp t with
      | nil => exact absurd h (sp_ne t)
      | cons a r =>
        rw [h] at ih
        intro p hp
        simp [ch] at hp
        rcases hp with rfl | hp
        · have := ih a (by simp); simp; omega
        · have := ih p (by simp [hp]); simp; omega
theorem index_ne {b : UInt8} {l : List UInt8} (h : b ≠ 28) : Lib.index (b :: l) [28] = if Lib.index l [28] == -1 then -1 else Lib.index l [28] + 1 := by
  have hp : ([28] : List UInt8).isPrefixOf (b :: l) = false := by simp [List.isPrefixOf, Ne.symm h]
  rw [Lib.index, hp]; simp
theorem index_eq (l : List UInt8) : Lib.index (28 :: l) [28] = 0 := by rw [Lib.index]; simp [List.isPrefixOf]
theorem splitK_sp : ∀ l : List UInt8, Lib.splitK [28] 0 (Lib.count l [28]) l = sp l
  | [] => by rw [Lib.count_miss (by simp [Lib.index])]; rfl
  | b :: t => by
    by_cases h : b = 28
    · subst h
      rw [Lib.count_cons_eq, Nat.add_comm, Lib.splitK, index_eq, if_neg (by decide), sp, if_pos rfl]
      show _ :: Lib.splitK [28] 0 (Lib.count t [28]) t = _
      rw [splitK_sp t]
      rfl
    · rw [Lib.count_cons_ne b 28 t h, sp, if_neg h, ← splitK_sp t]
      cases hk : Lib.count t [28] with
      | zero => rfl
      | succ k =>
        have hm : Lib.index t [28] ≠ -1 := fun e => by rw [Lib.count_miss e] at hk; omega
        have hge : -1 ≤ Lib.index t [28] := by rw [Lib.index_one]; exact Lib.indexByte_ge t 28
        obtain ⟨i, hi⟩ := Int.eq_ofNat_of_zero_le (show 0 ≤ Lib.index t [28] by omega)
        have n1 : ∀ j : Nat, ¬ (((j : Int) == -1) = true) := fun j e => by have := beq_iff_eq.1 e; omega
        rw [Lib.splitK, Lib.splitK, index_ne h, hi, if_neg (n1 i), if_neg (n1 i)]
        rw [show ((i : Int) + 1) = ((i + 1 : Nat) : Int) from rfl, if_neg (n1 (i + 1)), Int.toNat_natCast, Int.toNat_natCast]
        rw [show i + 1 + ([28] : List UInt8).length = (i + 1) + 1 from rfl, Nat.add_zero, Nat.add_zero, List.take_succ_cons, List.drop_succ_cons]
        rfl
theorem splitB_sp (s : ByteArray) : Lib.splitB (S [28]) 0 (Lib.countB s (S [28])) s = (sp (U s)).map S := by
  have h := Lib.splitB_data (S [28]) 0 (Lib.countB s (S [28])) s
  have e : (Lib.splitB (S [28]) 0 (Lib.countB s (S [28])) s).map U = sp (U s) := h.trans (splitK_sp (U s))
  rw [← e, List.map_map]
  exact (List.map_id _).symm
/-- Parts, a mark between. -/
def jn : List (List UInt8) → List UInt8
  | [] => []
  | [a] => a
  | a :: r => a ++ 28 :: jn r
theorem joinTail_jn (a : List UInt8) (r : List (List UInt8)) : Lib.join (a :: r) [28] = jn (a :: r) := by
  induction r generalizing a with
  | nil => exact Lib.join_one a [28]
  | cons b r ih =>
    rw [jn, ← ih b, Lib.join_cons, Lib.join_cons]
    · simp [Lib.joinTail]
    · simp
theorem join_jn (L : List (List UInt8)) : Lib.join L [28] = jn L := by
  cases L with
  | nil => rfl
  | cons a r => exact joinTail_jn a r
theorem sp_app (a b : List UInt8) (h : (28 : UInt8) ∉ a) : sp (a ++ 28 :: b) = a :: sp b := by
  induction a with
  | nil => simp [sp]
  | cons x t ih =>
    simp only [List.mem_cons, not_or] at h
    rw [List.cons_append, sp, if_neg (Ne.symm h.1), ih h.2]
    rfl
theorem sp_plain (a : List UInt8) (h : (28 : UInt8) ∉ a) : sp a = [a] := by
  induction a with
  | nil => rfl
  | cons x t ih =>
    simp only [List.mem_cons, not_or] at h
    rw [sp, if_neg (Ne.symm h.1), ih h.2]
    rfl
/-- What was joined is cut again. -/
theorem sp_jn : ∀ (L : List (List UInt8)), L ≠ [] → (∀ a ∈ L, (28 : UInt8) ∉ a) → sp (jn L) = L
  | [], h, _ => absurd rfl h
  | [a], _, h => sp_plain a (h a (by simp))
  | a :: b :: r, _, h => by
    rw [jn]
    · rw [sp_app a _ (h a (by simp)), sp_jn (b :: r) (by simp) (fun x hx => h x (by simp at hx ⊢; exact .inr hx))]
    · simp
theorem dec_plain (n : Nat) : (28 : UInt8) ∉ Lib.decDigits n := fun h => absurd (dec_dig n _ h) (by decide)
end Go.B.YteigefgobkdmgaaDoor
/- What is told from outside; digits, accounts' numbers, decimals. -/
namespace Go.B.YteigefgobkdmgaaDoor
open Go Go.B Go.Proofs
set_option maxRecDepth 100000
set_option maxHeartbeats 8000000
set_option linter.unusedSimpArgs false
set_option linter.unusedVariables false
def trueX (a : Array Value) : Option Value := if a.size = 0 then some (.bool true) else none
def xItoa (a : Array Value) : Option Value := match a.toList with | [.int .i64 n] => if (Lit.int .i64 n).wf = true then some (.string (S (Lib.itoa n))) else none | _ => none
def xFormatUint (a : Array Value) : Option Value := match a.toList with | [.int .u64 n, .int .i64 b] => if b = 10 ∧ (Lit.int .u64 n).wf = true then some (.string (S (Lib.itoa n))) else none | _ => none
def xFormatInt (a : Array Value) : Option Value := match a.toList with | [.int .i64 n, .int .i64 b] => if b = 10 ∧ (Lit.int .i64 n).wf = true then some (.string (S (Lib.itoa n))) else none | _ => none
def xIndexByte (a : Array Value) : Option Value := match a.toList with | [.string s, .int .u8 c] => some (.int .i64 (Lib.indexByte (U s) c.toNat.toUInt8)) | _ => none
def atoiV (s : ByteArray) : Value := match Lib.atoiAll (U s) with | .ok v => .tuple #[.int .i64 v, .nilIface] | Lib.NumEnd.syntax => .tuple #[.int .i64 0, .iface 113 (.chan none)] | .range => .tuple #[.int .i64 (Lib.atoiSat (U s)), .iface 113 (.chan none)]
def xAtoi (a : Array Value) : Option Value := match a.toList with | [.string s] => if s.size ≤ 281474976710656 then some (atoiV s) else none | _ => none
def strs : List Value → Option (List ByteArray)
  | [] => some []
  | .string s :: r => (strs r).map (s :: ·)
  | _ :: _ => none
theorem strs_map : ∀ l : List ByteArray, strs (l.map Value.string) = some l
  | [] => rfl
  | s :: l => by rw [List.map_cons, strs, strs_map l]; rfl
theorem strs_inv : ∀ {c : List Value} {l : List ByteArray}, strs c = some l → c = l.map Value.string
  | [], l, h => by cases h; rfl
  | v :: c, l, h => by
    cases v <;> simp only [strs] at h <;> try (cases h; done)
    obtain ⟨l2, h1, rfl⟩ := Option.map_eq_some_iff.mp h
    rw [List.map_cons, ← strs_inv h1]
/-- The texts of a row. -/
def rowS (P : Program) (H : Heap) (b : Option Addr) (n : Nat) : Option (List ByteArray) :=
  if n = 0 then some [] else match b with
  | some ⟨i, o, none⟩ => (match H.get i with
    | some (.cells cs e ro) => if szOf P e = some 1 ∧ o + n ≤ cs.length then strs ((cs.drop o).take n) else none
    | _ => none)
  | _ => none
theorem rowS_of {P : Program} {H : Heap} {b : Option Addr} {l : List ByteArray} (h : Row P H b l.length 1 (l.map Value.string)) : rowS P H b l.length = some l := by
  unfold rowS
  by_cases h0 : l.length = 0
  · rw [if_pos h0, List.length_eq_zero_iff.1 h0]
  rw [if_neg h0]
  rcases h.at_ with h1 | ⟨i, o, c, e, ro, rfl, h2, h3, h4, h5⟩
  · exact absurd h1 h0
  · simp only [h2]
    rw [List.length_map] at h3 h4
    rw [if_pos ⟨h5, h3⟩, h4, strs_map]
def xJoin (P : Program) (a : Array Value) (H : Heap) : Option (Value × Heap) := match a.toList with
  | [.slice b n c, .string sep] => (rowS P H b n).bind fun l => if U sep = [28] ∧ l.length ≤ 140737488355328 ∧ (jn (l.map U)).length ≤ 140737488355328 then some (.string (S (jn (l.map U))), H) else none
  | _ => none
def xSplit (a : Array Value) (H : Heap) : Option (Value × Heap) := match a.toList with
  | [.string s, .string sep] => if U sep = [28] ∧ s.size < 4294967281 then some (.slice (some ⟨H.next, 0, none⟩) ((sp (U s)).map S).length capU, H.push (.cells (((sp (U s)).map S).map Value.string) 9 false)) else none
  | _ => none
noncomputable def X0 : Exts := fun f => if f = 19 then some (onlyVal xItoa) else if f = 20 then some (onlyVal xFormatUint) else if f = 21 then some (onlyVal xFormatInt)
  else if f = 43 then some (onlyVal xIndexByte) else if f = 48 then some (onlyVal xAtoi) else if f = 44 then some (xJoin Tryd.prog) else if f = 47 then some xSplit else none
noncomputable def X : Exts := fun f => if f = 7 then some (onlyVal trueX) else X0 f
noncomputable def V : Env := { P := Tryd.prog, T := tab.get, X := X }
theorem V_P : V.P = Tryd.prog := rfl

theorem c_Itoa (n : Int) (H : Heap) (h0 : -9223372036854775808 ≤ n) (h1 : n ≤ 9223372036854775807) : Ca V 19 #[.int .i64 n] H (.string (S (Lib.itoa n))) H := Ca_ext rfl (by simp only [onlyVal, xItoa]; rw [if_pos (by simp [Lit.wf, IntKind.min, IntKind.max, IntKind.bits, IntKind.signed]; omega)]; rfl)
theorem c_FormatUint (n : Int) (H : Heap) (h0 : 0 ≤ n) (h1 : n ≤ 18446744073709551615) : Ca V 20 #[.int .u64 n, .int .i64 10] H (.string (S (Lib.itoa n))) H := Ca_ext rfl (by simp only [onlyVal, xFormatUint]; rw [if_pos (by simp [Lit.wf, IntKind.min, IntKind.max, IntKind.bits, IntKind.signed]; omega)]; rfl)
theorem c_FormatInt (n : Int) (H : Heap) (h0 : -9223372036854775808 ≤ n) (h1 : n ≤ 9223372036854775807) : Ca V 21 #[.int .i64 n, .int .i64 10] H (.string (S (Lib.itoa n))) H := Ca_ext rfl (by simp only [onlyVal, xFormatInt]; rw [if_pos (by simp [Lit.wf, IntKind.min, IntKind.max, IntKind.bits, IntKind.signed]; omega)]; rfl)
theorem c_IndexByte (s : ByteArray) (c : Int) (H : Heap) : Ca V 43 #[.string s, .int .u8 c] H (.int .i64 (Lib.indexByte (U s) c.toNat.toUInt8)) H := Ca_ext rfl rfl
theorem c_Atoi (s : ByteArray) (H : Heap) (h : s.size ≤ 281474976710656) : Ca V 48 #[.string s] H (atoiV s) H := Ca_ext rfl (by simp only [onlyVal, xAtoi]; rw [if_pos h]; rfl)
theorem c_Join (l : List ByteArray) (b : Option Addr) (c : Nat) (H : Heap) (h : Row Tryd.prog H b l.length 1 (l.map Value.string)) (hn : l.length ≤ 140737488355328) (hl : (jn (l.map U)).length ≤ 140737488355328) : Ca V 44 #[.slice b l.length c, .string (S [28])] H (.string (S (jn (l.map U)))) H := Ca_ext rfl (by
  simp only [xJoin]
  rw [rowS_of h, Option.bind_some, if_pos ⟨trivial, hn, hl⟩])
theorem c_Split (s : ByteArray) (H : Heap) (h : s.size < 4294967281) : Ca V 47 #[.string s, .string (S [28])] H (.slice (some ⟨H.next, 0, none⟩) ((sp (U s)).map S).length capU) (H.push (.cells (((sp (U s)).map S).map Value.string) 9 false)) := Ca_ext rfl (by
  simp only [xSplit]
  rw [if_pos ⟨trivial, h⟩])
theorem c_known (H : Heap) : Ca V 7 #[] H (.bool true) H := Ca_ext rfl rfl

def digs (s : ByteArray) : Bool := s.data.toList.all isDig
theorem digs_of {s : ByteArray} (h : ∀ j b, j < s.size → s[j]? = some b → isDig b = true) : digs s = true := by
  unfold digs
  rw [List.all_eq_true]
  intro x hx
  obtain ⟨j, hj, rfl⟩ := List.mem_iff_getElem.mp hx
  have hj' : j < s.size := by simpa using hj
  exact h j _ hj' (by rw [getElem?_pos s j hj']; rfl)
theorem digs_not {s : ByteArray} {j : Nat} {b : UInt8} (h : s[j]? = some b) (hb : isDig b = false) : digs s = false := by
  unfold digs
  rw [List.all_eq_false]
  have hj : j < s.size := by
    rcases Nat.lt_or_ge j s.size with h1 | h1
    · exact h1
    · rw [getElem?_neg s j (by omega)] at h; cases h
  rw [getElem?_pos s j hj] at h
  refine ⟨b, ?_, by simp [hb]⟩
  cases h
  exact Array.getElem_mem_toList _

theorem frame_Digits (s : ByteArray) (H : Heap) (hl : s.size ≤ maxLen) : ∃ v H', Ca V 29 #[.string s] H v H' ∧ v = .bool (digs s) ∧ H' = H := by
  have hl : s.size ≤ 9223372036854775807 := hl
  refine Ca_run rfl tab_29 rfl ?_
  simp (maxSteps := 5000000) (disch := omega) only [Tryd.f29, V_P, SX, W_block, exitW, goInt, Int.reduceEq, setCells, oneOf, cellOk, reduceIte, Nat.reduceLT, Nat.reduceLeDiff, Nat.reduceEqDiff, Nat.reduceAdd, Nat.reduceSub, Nat.reduceMul, Int.reduceToNat, Int.reduceLT, Int.reduceLE, Int.reduceAdd, Int.reduceSub, implies_true, ne_eq, if_true, if_false, reduceCtorEq]
  refine W_for (fun (i : Nat) t H2 => H2 = H ∧ t.get 0 = some (.string s) ∧ t.get 5 = some (.int .i64 s.size) ∧ t.get 6 = some (.int .i64 i) ∧ i ≤ s.size ∧ (∀ j b, j < i → s[j]? = some b → isDig b = true)) (fun i => s.size - i) 0 ?_ ?_
  · simp (maxSteps := 5000000) (disch := omega) only [V_P, SX, W_block, exitW, goInt, Int.reduceEq, setCells, oneOf, cellOk, reduceIte, Nat.reduceLT, Nat.reduceLeDiff, Nat.reduceEqDiff, Nat.reduceAdd, Nat.reduceSub, Nat.reduceMul, Int.reduceToNat, Int.reduceLT, Int.reduceLE, Int.reduceAdd, Int.reduceSub, implies_true, ne_eq, if_true, if_false, reduceCtorEq]
    exact ⟨rfl, Nat.zero_le _, fun j x h => absurd h (by omega)⟩
  rintro i t H2 ⟨rfl, g0, g5, g6, hi, hall⟩
  simp (maxSteps := 5000000) (disch := omega) only [g0, g5, g6, V_P, SX, W_block, exitW, goInt, Int.reduceEq, setCells, oneOf, cellOk, reduceIte, Nat.reduceLT, Nat.reduceLeDiff, Nat.reduceEqDiff, Nat.reduceAdd, Nat.reduceSub, Nat.reduceMul, Int.reduceToNat, Int.reduceLT, Int.reduceLE, Int.reduceAdd, Int.reduceSub, implies_true, ne_eq, if_true, if_false, reduceCtorEq]
  refine cW_dec (fun hlt => ?_) (fun hlt => ?_)
  · have hlt' : i < s.size := by omega
    have hb : s[i]? = some s[i] := getElem?_pos s i hlt'
    generalize s[i] = b at hb
    simp (maxSteps := 5000000) (disch := omega) only [g0, g5, g6, hb, V_P, SX, W_block, exitW, goInt, Int.reduceEq, setCells, oneOf, cellOk, reduceIte, Nat.reduceLT, Nat.reduceLeDiff, Nat.reduceEqDiff, Nat.reduceAdd, Nat.reduceSub, Nat.reduceMul, Int.reduceToNat, Int.reduceLT, Int.reduceLE, Int.reduceAdd, Int.reduceSub, implies_true, ne_eq, if_true, if_false, reduceCtorEq]
    repeat' (first
    | (refine gW_dec (fun h => ?_) (fun h => ?_) <;> simp (maxSteps := 5000000) (disch := omega) only [h, g0, g5, g6, hb, V_P, SX, W_block, exitW, goInt, Int.reduceEq, setCells, oneOf, cellOk, reduceIte, Nat.reduceLT, Nat.reduceLeDiff, Nat.reduceEqDiff, Nat.reduceAdd, Nat.reduceSub, Nat.reduceMul, Int.reduceToNat, Int.reduceLT, Int.reduceLE, Int.reduceAdd, Int.reduceSub, implies_true, ne_eq, if_true, if_false, reduceCtorEq])
    | (refine cW_dec (fun h => ?_) (fun h => ?_) <;> simp (maxSteps := 5000000) (disch := omega) only [h, g0, g5, g6, hb, V_P, SX, W_block, exitW, goInt, Int.reduceEq, setCells, oneOf, cellOk, reduceIte, Nat.reduceLT, Nat.reduceLeDiff, Nat.reduceEqDiff, Nat.reduceAdd, Nat.reduceSub, Nat.reduceMul, Int.reduceToNat, Int.reduceLT, Int.reduceLE, Int.reduceAdd, Int.reduceSub, implies_true, ne_eq, if_true, if_false, reduceCtorEq])
    | (refine gW_bool (fun h => ?_) (fun h => ?_) <;> simp (maxSteps := 5000000) (disch := omega) only [h, g0, g5, g6, hb, V_P, SX, W_block, exitW, goInt, Int.reduceEq, setCells, oneOf, cellOk, reduceIte, Nat.reduceLT, Nat.reduceLeDiff, Nat.reduceEqDiff, Nat.reduceAdd, Nat.reduceSub, Nat.reduceMul, Int.reduceToNat, Int.reduceLT, Int.reduceLE, Int.reduceAdd, Int.reduceSub, implies_true, ne_eq, if_true, if_false, reduceCtorEq])
    | (refine cW_bool (fun h => ?_) (fun h => ?_) <;> simp (maxSteps := 5000000) (disch := omega) only [h, g0, g5, g6, hb, V_P, SX, W_block, exitW, goInt, Int.reduceEq, setCells, oneOf, cellOk, reduceIte, Nat.reduceLT, Nat.reduceLeDiff, Nat.reduceEqDiff, Nat.reduceAdd, Nat.reduceSub, Nat.reduceMul, Int.reduceToNat, Int.reduceLT, Int.reduceLE, Int.reduceAdd, Int.reduceSub, implies_true, ne_eq, if_true, if_false, reduceCtorEq]))
    · rw [digs_not hb (by unfold isDig; simp; omega)]
    · rw [digs_not hb (by unfold isDig; simp; omega)]
    · refine ⟨i + 1, ⟨by simp, by omega, fun j c hj hc => ?_⟩, by omega⟩
      by_cases hji : j = i
      · subst hji; rw [hb] at hc; cases hc; unfold isDig; simp; omega
      · exact hall j c (by omega) hc
  · simp (maxSteps := 5000000) (disch := omega) only [g0, g5, g6, V_P, SX, W_block, exitW, goInt, Int.reduceEq, setCells, oneOf, cellOk, reduceIte, Nat.reduceLT, Nat.reduceLeDiff, Nat.reduceEqDiff, Nat.reduceAdd, Nat.reduceSub, Nat.reduceMul, Int.reduceToNat, Int.reduceLT, Int.reduceLE, Int.reduceAdd, Int.reduceSub, implies_true, ne_eq, if_true, if_false, reduceCtorEq]
    rw [digs_of (fun j b hj hb => hall j b (by omega) hb)]

theorem ref_AllDigits (s : ByteArray) (H : Heap) (hl : s.size ≤ maxLen) : ∃ v H', Ca V 46 #[.string s] H v H' ∧ v = .bool (digs s) ∧ H' = H := by
  have hl : s.size ≤ 9223372036854775807 := hl
  refine Ca_run rfl tab_46 rfl ?_
  simp (maxSteps := 5000000) (disch := omega) only [Tryd.f46, V_P, SX, W_block, exitW, goInt, Int.reduceEq, setCells, oneOf, cellOk, reduceIte, Nat.reduceLT, Nat.reduceLeDiff, Nat.reduceEqDiff, Nat.reduceAdd, Nat.reduceSub, Nat.reduceMul, Int.reduceToNat, Int.reduceLT, Int.reduceLE, Int.reduceAdd, Int.reduceSub, implies_true, ne_eq, if_true, if_false, reduceCtorEq]
  refine W_for (fun (i : Nat) t H2 => H2 = H ∧ t.get 0 = some (.string s) ∧ t.get 3 = some (.int .i64 i) ∧ i ≤ s.size ∧ (∀ j b, j < i → s[j]? = some b → isDig b = true)) (fun i => s.size - i) 0 ?_ ?_
  · simp (maxSteps := 5000000) (disch := omega) only [V_P, SX, W_block, exitW, goInt, Int.reduceEq, setCells, oneOf, cellOk, reduceIte, Nat.reduceLT, Nat.reduceLeDiff, Nat.reduceEqDiff, Nat.reduceAdd, Nat.reduceSub, Nat.reduceMul, Int.reduceToNat, Int.reduceLT, Int.reduceLE, Int.reduceAdd, Int.reduceSub, implies_true, ne_eq, if_true, if_false, reduceCtorEq]
    exact ⟨rfl, Nat.zero_le _, fun j x h => absurd h (by omega)⟩
  rintro i t H2 ⟨rfl, g0, g3, hi, hall⟩
  simp (maxSteps := 5000000) (disch := omega) only [g0, g3, V_P, SX, W_block, exitW, goInt, Int.reduceEq, setCells, oneOf, cellOk, reduceIte, Nat.reduceLT, Nat.reduceLeDiff, Nat.reduceEqDiff, Nat.reduceAdd, Nat.reduceSub, Nat.reduceMul, Int.reduceToNat, Int.reduceLT, Int.reduceLE, Int.reduceAdd, Int.reduceSub, implies_true, ne_eq, if_true, if_false, reduceCtorEq]
  refine cW_dec (fun hlt => ?_) (fun hlt => ?_)
  · have hlt' : i < s.size := by omega
    have hb : s[i]? = some s[i] := getElem?_pos s i hlt'
    generalize s[i] = b at hb
    simp (maxSteps := 5000000) (disch := omega) only [g0, g3, hb, V_P, SX, W_block, exitW, goInt, Int.reduceEq, setCells, oneOf, cellOk, reduceIte, Nat.reduceLT, Nat.reduceLeDiff, Nat.reduceEqDiff, Nat.reduceAdd, Nat.reduceSub, Nat.reduceMul, Int.reduceToNat, Int.reduceLT, Int.reduceLE, Int.reduceAdd, Int.reduceSub, implies_true, ne_eq, if_true, if_false, reduceCtorEq]
    repeat' (first
    | (refine gW_dec (fun h => ?_) (fun h => ?_) <;> simp (maxSteps := 5000000) (disch := omega) only [h, g0, g3, hb, V_P, SX, W_block, exitW, goInt, Int.reduceEq, setCells, oneOf, cellOk, reduceIte, Nat.reduceLT, Nat.reduceLeDiff, Nat.reduceEqDiff, Nat.reduceAdd, Nat.reduceSub, Nat.reduceMul, Int.reduceToNat, Int.reduceLT, Int.reduceLE, Int.reduceAdd, Int.reduceSub, implies_true, ne_eq, if_true, if_false, reduceCtorEq])
    | (refine cW_dec (fun h => ?_) (fun h => ?_) <;> simp (maxSteps := 5000000) (disch := omega) only [h, g0, g3, hb, V_P, SX, W_block, exitW, goInt, Int.reduceEq, setCells, oneOf, cellOk, reduceIte, Nat.reduceLT, Nat.reduceLeDiff, Nat.reduceEqDiff, Nat.reduceAdd, Nat.reduceSub, Nat.reduceMul, Int.reduceToNat, Int.reduceLT, Int.reduceLE, Int.reduceAdd, Int.reduceSub, implies_true, ne_eq, if_true, if_false, reduceCtorEq])
    | (refine gW_bool (fun h => ?_) (fun h => ?_) <;> simp (maxSteps := 5000000) (disch := omega) only [h, g0, g3, hb, V_P, SX, W_block, exitW, goInt, Int.reduceEq, setCells, oneOf, cellOk, reduceIte, Nat.reduceLT, Nat.reduceLeDiff, Nat.reduceEqDiff, Nat.reduceAdd, Nat.reduceSub, Nat.reduceMul, Int.reduceToNat, Int.reduceLT, Int.reduceLE, Int.reduceAdd, Int.reduceSub, implies_true, ne_eq, if_true, if_false, reduceCtorEq])
    | (refine cW_bool (fun h => ?_) (fun h => ?_) <;> simp (maxSteps := 5000000) (disch := omega) only [h, g0, g3, hb, V_P, SX, W_block, exitW, goInt, Int.reduceEq, setCells, oneOf, cellOk, reduceIte, Nat.reduceLT, Nat.reduceLeDiff, Nat.reduceEqDiff, Nat.reduceAdd, Nat.reduceSub, Nat.reduceMul, Int.reduceToNat, Int.reduceLT, Int.reduceLE, Int.reduceAdd, Int.reduceSub, implies_true, ne_eq, if_true, if_false, reduceCtorEq]))
    · rw [digs_not hb (by unfold isDig; simp; omega)]
    · rw [digs_not hb (by unfold isDig; simp; omega)]
    · refine ⟨i + 1, ⟨by simp, by omega, fun j c hj hc => ?_⟩, by omega⟩
      by_cases hji : j = i
      · subst hji; rw [hb] at hc; cases hc; unfold isDig; simp; omega
      · exact hall j c (by omega) hc
  · simp (maxSteps := 5000000) (disch := omega) only [g0, g3, V_P, SX, W_block, exitW, goInt, Int.reduceEq, setCells, oneOf, cellOk, reduceIte, Nat.reduceLT, Nat.reduceLeDiff, Nat.reduceEqDiff, Nat.reduceAdd, Nat.reduceSub, Nat.reduceMul, Int.reduceToNat, Int.reduceLT, Int.reduceLE, Int.reduceAdd, Int.reduceSub, implies_true, ne_eq, if_true, if_false, reduceCtorEq]
    rw [digs_of (fun j b hj hb => hall j b (by omega) hb)]

def panOk (s : ByteArray) : Bool := decide (1 ≤ s.size) && (decide (s.size ≤ 19) && digs s)
theorem ref_Pan (s : ByteArray) (H : Heap) (hl : s.size ≤ maxLen) : ∃ v H', Ca V 32 #[.string s] H v H' ∧ v = .bool (panOk s) ∧ H' = H := by
  refine Ca_run rfl tab_32 rfl ?_
  simp (maxSteps := 5000000) (disch := omega) only [Tryd.f32, V_P, SX, W_block, exitW, goInt, Int.reduceEq, setCells, oneOf, cellOk, reduceIte, Nat.reduceLT, Nat.reduceLeDiff, Nat.reduceEqDiff, Nat.reduceAdd, Nat.reduceSub, Nat.reduceMul, Int.reduceToNat, Int.reduceLT, Int.reduceLE, Int.reduceAdd, Int.reduceSub, implies_true, ne_eq, if_true, if_false, reduceCtorEq]
  repeat' (first
    | (refine gW_dec (fun h => ?_) (fun h => ?_) <;> simp (maxSteps := 5000000) (disch := omega) only [h, V_P, SX, W_block, exitW, goInt, Int.reduceEq, setCells, oneOf, cellOk, reduceIte, Nat.reduceLT, Nat.reduceLeDiff, Nat.reduceEqDiff, Nat.reduceAdd, Nat.reduceSub, Nat.reduceMul, Int.reduceToNat, Int.reduceLT, Int.reduceLE, Int.reduceAdd, Int.reduceSub, implies_true, ne_eq, if_true, if_false, reduceCtorEq])
    | (refine cW_dec (fun h => ?_) (fun h => ?_) <;> simp (maxSteps := 5000000) (disch := omega) only [h, V_P, SX, W_block, exitW, goInt, Int.reduceEq, setCells, oneOf, cellOk, reduceIte, Nat.reduceLT, Nat.reduceLeDiff, Nat.reduceEqDiff, Nat.reduceAdd, Nat.reduceSub, Nat.reduceMul, Int.reduceToNat, Int.reduceLT, Int.reduceLE, Int.reduceAdd, Int.reduceSub, implies_true, ne_eq, if_true, if_false, reduceCtorEq])
    | (refine gW_bool (fun h => ?_) (fun h => ?_) <;> simp (maxSteps := 5000000) (disch := omega) only [h, V_P, SX, W_block, exitW, goInt, Int.reduceEq, setCells, oneOf, cellOk, reduceIte, Nat.reduceLT, Nat.reduceLeDiff, Nat.reduceEqDiff, Nat.reduceAdd, Nat.reduceSub, Nat.reduceMul, Int.reduceToNat, Int.reduceLT, Int.reduceLE, Int.reduceAdd, Int.reduceSub, implies_true, ne_eq, if_true, if_false, reduceCtorEq])
    | (refine cW_bool (fun h => ?_) (fun h => ?_) <;> simp (maxSteps := 5000000) (disch := omega) only [h, V_P, SX, W_block, exitW, goInt, Int.reduceEq, setCells, oneOf, cellOk, reduceIte, Nat.reduceLT, Nat.reduceLeDiff, Nat.reduceEqDiff, Nat.reduceAdd, Nat.reduceSub, Nat.reduceMul, Int.reduceToNat, Int.reduceLT, Int.reduceLE, Int.reduceAdd, Int.reduceSub, implies_true, ne_eq, if_true, if_false, reduceCtorEq]))
  · refine W_callR rfl (by simp (maxSteps := 5000000) (disch := omega) only [V_P, SX, W_block, exitW, goInt, Int.reduceEq, setCells, oneOf, cellOk, reduceIte, Nat.reduceLT, Nat.reduceLeDiff, Nat.reduceEqDiff, Nat.reduceAdd, Nat.reduceSub, Nat.reduceMul, Int.reduceToNat, Int.reduceLT, Int.reduceLE, Int.reduceAdd, Int.reduceSub, implies_true, ne_eq, if_true, if_false, reduceCtorEq]) (ref_AllDigits s H hl) ?_
    rintro v H' ⟨rfl, rfl⟩
    simp (maxSteps := 5000000) (disch := omega) only [V_P, SX, W_block, exitW, goInt, Int.reduceEq, setCells, oneOf, cellOk, reduceIte, Nat.reduceLT, Nat.reduceLeDiff, Nat.reduceEqDiff, Nat.reduceAdd, Nat.reduceSub, Nat.reduceMul, Int.reduceToNat, Int.reduceLT, Int.reduceLE, Int.reduceAdd, Int.reduceSub, implies_true, ne_eq, if_true, if_false, reduceCtorEq]
    have h1 : 1 ≤ s.size := by omega
    have h2 : s.size ≤ 19 := by omega
    simp [panOk, h1, h2]
  · simp [panOk]; omega
  · simp [panOk]; omega

end Go.B.YteigefgobkdmgaaDoor
/- Terminals' messages: the kinds' signs, the bounds of notes, the parts of a message, which are right. -/
namespace Go.B.YteigefgobkdmgaaDoor
open Go Go.B Go.Proofs
set_option maxRecDepth 100000
set_option maxHeartbeats 16000000
set_option linter.unusedSimpArgs false
set_option linter.unusedVariables false

def kindL (k : Int) : List UInt8 := if k = 1 then [49, 49] else if k = 2 then [50, 50] else if k = 3 then [49, 50] else if k = 4 then [50, 51] else if k = 5 then [51, 48] else if k = 6 then [51, 49] else if k = 7 then [51, 50] else []
def kindS (k : Int) : ByteArray := ⟨(kindL k).toArray⟩
theorem ndc_kind (k : Int) (H : Heap) : ∃ v H', Ca V 18 #[.int .i64 k] H v H' ∧ v = .string (kindS k) ∧ H' = H := by
  refine Ca_run rfl tab_18 rfl ?_
  simp (maxSteps := 5000000) (disch := omega) only [Tryd.f18, V_P, SX, W_block, exitW, goInt, Int.reduceEq, setCells, oneOf, cellOk, reduceIte, Nat.reduceLT, Nat.reduceLeDiff, Nat.reduceEqDiff, Nat.reduceAdd, Nat.reduceSub, Nat.reduceMul, Int.reduceToNat, Int.reduceLT, Int.reduceLE, Int.reduceAdd, Int.reduceSub, implies_true, ne_eq, if_true, if_false, reduceCtorEq]
  repeat' (first
    | (refine gW_dec (fun h => ?_) (fun h => ?_) <;> simp (maxSteps := 5000000) (disch := omega) only [h, V_P, SX, W_block, exitW, goInt, Int.reduceEq, setCells, oneOf, cellOk, reduceIte, Nat.reduceLT, Nat.reduceLeDiff, Nat.reduceEqDiff, Nat.reduceAdd, Nat.reduceSub, Nat.reduceMul, Int.reduceToNat, Int.reduceLT, Int.reduceLE, Int.reduceAdd, Int.reduceSub, implies_true, ne_eq, if_true, if_false, reduceCtorEq])
    | (refine cW_dec (fun h => ?_) (fun h => ?_) <;> simp (maxSteps := 5000000) (disch := omega) only [h, V_P, SX, W_block, exitW, goInt, Int.reduceEq, setCells, oneOf, cellOk, reduceIte, Nat.reduceLT, Nat.reduceLeDiff, Nat.reduceEqDiff, Nat.reduceAdd, Nat.reduceSub, Nat.reduceMul, Int.reduceToNat, Int.reduceLT, Int.reduceLE, Int.reduceAdd, Int.reduceSub, implies_true, ne_eq, if_true, if_false, reduceCtorEq])
    | (refine gW_bool (fun h => ?_) (fun h => ?_) <;> simp (maxSteps := 5000000) (disch := omega) only [h, V_P, SX, W_block, exitW, goInt, Int.reduceEq, setCells, oneOf, cellOk, reduceIte, Nat.reduceLT, Nat.reduceLeDiff, Nat.reduceEqDiff, Nat.reduceAdd, Nat.reduceSub, Nat.reduceMul, Int.reduceToNat, Int.reduceLT, Int.reduceLE, Int.reduceAdd, Int.reduceSub, implies_true, ne_eq, if_true, if_false, reduceCtorEq])
    | (refine cW_bool (fun h => ?_) (fun h => ?_) <;> simp (maxSteps := 5000000) (disch := omega) only [h, V_P, SX, W_block, exitW, goInt, Int.reduceEq, setCells, oneOf, cellOk, reduceIte, Nat.reduceLT, Nat.reduceLeDiff, Nat.reduceEqDiff, Nat.reduceAdd, Nat.reduceSub, Nat.reduceMul, Int.reduceToNat, Int.reduceLT, Int.reduceLE, Int.reduceAdd, Int.reduceSub, implies_true, ne_eq, if_true, if_false, reduceCtorEq]))
  · simp only [kindS, kindL, if_neg (show ¬ k = 1 by omega), if_neg (show ¬ k = 2 by omega), if_neg (show ¬ k = 3 by omega), if_neg (show ¬ k = 4 by omega), if_neg (show ¬ k = 5 by omega), if_neg (show ¬ k = 6 by omega), if_neg (show ¬ k = 7 by omega)]
  · simp only [kindS, kindL, if_neg (show ¬ k = 1 by omega), if_neg (show ¬ k = 2 by omega), if_neg (show ¬ k = 3 by omega), if_neg (show ¬ k = 4 by omega), if_neg (show ¬ k = 5 by omega), if_neg (show ¬ k = 6 by omega), if_neg (show ¬ k = 7 by omega)]
  · rcases (show k = 1 ∨ k = 2 ∨ k = 3 ∨ k = 4 ∨ k = 5 ∨ k = 6 ∨ k = 7 by omega) with rfl | rfl | rfl | rfl | rfl | rfl | rfl <;> simp (maxSteps := 5000000) (disch := omega) only [V_P, SX, W_block, exitW, goInt, Int.reduceEq, setCells, oneOf, cellOk, reduceIte, Nat.reduceLT, Nat.reduceLeDiff, Nat.reduceEqDiff, Nat.reduceAdd, Nat.reduceSub, Nat.reduceMul, Int.reduceToNat, Int.reduceLT, Int.reduceLE, Int.reduceAdd, Int.reduceSub, implies_true, ne_eq, if_true, if_false, reduceCtorEq] <;> rfl
/-- Four numbers of notes. -/
structure N4 where
  a : Int
  b : Int
  c : Int
  d : Int
  deriving DecidableEq
def N4.cells (n : N4) : List Value := [.int .i64 n.a, .int .i64 n.b, .int .i64 n.c, .int .i64 n.d]
def N4.val (n : N4) : Value := .agg n.cells.toArray
def rows4 (l : List N4) : List Value := l.flatMap N4.cells
theorem rows4_get {l : List N4} {i : Nat} {x : N4} (h : l[i]? = some x) {e : TypeId} {ro : Bool} : gcV (i * 4) 4 (some (.cells (rows4 l) e ro)) = some [.int .i64 x.a, .int .i64 x.b, .int .i64 x.c, .int .i64 x.d] := gcV_flat N4.cells 4 (fun _ => rfl) h
def N4.within (most : Int) (n : N4) : Bool := decide (0 ≤ n.a ∧ n.a ≤ most) && (decide (0 ≤ n.b ∧ n.b ≤ most) && (decide (0 ≤ n.c ∧ n.c ≤ most) && decide (0 ≤ n.d ∧ n.d ≤ most)))

theorem ndc_within (most : Int) (l : List N4) (H : Heap) (ok : Ok H) (p : Nat) (c : Nat) (ro : Bool) (hp : H.get p = some (.cells (rows4 l) 25 ro)) (hl : (l.length : Int) < 2 ^ 40) :
    ∃ v H', Ca V 30 #[.int .i64 most, .slice (some ⟨p, 0, none⟩) l.length c] H v H' ∧ v = .bool (l.all (N4.within most)) ∧ Same H H' [] := by
  refine Ca_run rfl tab_30 rfl ?_
  simp (maxSteps := 5000000) (disch := omega) only [Tryd.f30, V_P, SX, W_block, exitW, goInt, Int.reduceEq, setCells, oneOf, cellOk, reduceIte, Nat.reduceLT, Nat.reduceLeDiff, Nat.reduceEqDiff, Nat.reduceAdd, Nat.reduceSub, Nat.reduceMul, Int.reduceToNat, Int.reduceLT, Int.reduceLE, Int.reduceAdd, Int.reduceSub, implies_true, ne_eq, if_true, if_false, reduceCtorEq]
  refine W_for (fun (i : Nat) t H2 => t.get 0 = some (.int .i64 most) ∧ t.get 9 = some (.slice (some ⟨p, 0, none⟩) l.length c) ∧ t.get 10 = some (.int .i64 l.length) ∧ t.get 11 = some (.int .i64 i) ∧ i ≤ l.length ∧ (∀ j x, j < i → l[j]? = some x → N4.within most x = true) ∧ Same H H2 []) (fun i => l.length - i) 0 ?_ ?_
  · simp (maxSteps := 5000000) (disch := omega) only [V_P, SX, W_block, exitW, goInt, Int.reduceEq, setCells, oneOf, cellOk, reduceIte, Nat.reduceLT, Nat.reduceLeDiff, Nat.reduceEqDiff, Nat.reduceAdd, Nat.reduceSub, Nat.reduceMul, Int.reduceToNat, Int.reduceLT, Int.reduceLE, Int.reduceAdd, Int.reduceSub, implies_true, ne_eq, if_true, if_false, reduceCtorEq]
    exact ⟨rfl, Nat.zero_le _, fun j x h => absurd h (by omega), Same.refl ok⟩
  rintro i t H2 ⟨g0, g9, g10, g11, hi, hall, hs⟩
  simp (maxSteps := 5000000) (disch := omega) only [g0, g9, g10, g11, V_P, SX, W_block, exitW, goInt, Int.reduceEq, setCells, oneOf, cellOk, reduceIte, Nat.reduceLT, Nat.reduceLeDiff, Nat.reduceEqDiff, Nat.reduceAdd, Nat.reduceSub, Nat.reduceMul, Int.reduceToNat, Int.reduceLT, Int.reduceLE, Int.reduceAdd, Int.reduceSub, implies_true, ne_eq, if_true, if_false, reduceCtorEq]
  refine cW_dec (fun hlt => ?_) (fun hlt => ?_)
  · have hlt' : i < l.length := by omega
    obtain ⟨x, hx⟩ : ∃ x, l[i]? = some x := ⟨l[i], List.getElem?_eq_getElem hlt'⟩
    have hle := hs.le
    have hpl := ok.lt hp
    have hgc : gcV (i * 4) 4 (H2.get p) = some [.int .i64 x.a, .int .i64 x.b, .int .i64 x.c, .int .i64 x.d] := by
      rw [hs.get p hpl (by simp), hp]; exact rows4_get hx
    have hne : (p = H2.next) = False := by simp; omega
    have bad : N4.within most x = false → l.all (N4.within most) = false := fun h => by
      rw [List.all_eq_false]; exact ⟨x, List.mem_of_getElem? hx, by simp [h]⟩
    simp (maxSteps := 5000000) (disch := omega) only [g0, g9, g10, g11, hgc, V_P, SX, W_block, exitW, goInt, Int.reduceEq, setCells, oneOf, cellOk, reduceIte, Nat.reduceLT, Nat.reduceLeDiff, Nat.reduceEqDiff, Nat.reduceAdd, Nat.reduceSub, Nat.reduceMul, Int.reduceToNat, Int.reduceLT, Int.reduceLE, Int.reduceAdd, Int.reduceSub, implies_true, ne_eq, if_true, if_false, reduceCtorEq]
    iterate 6
      all_goals (try refine W_unroll ?_)
      all_goals (try (simp (maxSteps := 5000000) (disch := omega) only [g0, g9, g10, g11, V_P, SX, W_block, exitW, goInt, Int.reduceEq, setCells, oneOf, cellOk, reduceIte, Nat.reduceLT, Nat.reduceLeDiff, Nat.reduceEqDiff, Nat.reduceAdd, Nat.reduceSub, Nat.reduceMul, Int.reduceToNat, Int.reduceLT, Int.reduceLE, Int.reduceAdd, Int.reduceSub, implies_true, ne_eq, if_true, if_false, reduceCtorEq]))
      repeat' (first
    | (refine gW_dec (fun h => ?_) (fun h => ?_) <;> simp (maxSteps := 5000000) (disch := omega) only [h, g0, g9, g10, g11, V_P, SX, W_block, exitW, goInt, Int.reduceEq, setCells, oneOf, cellOk, reduceIte, Nat.reduceLT, Nat.reduceLeDiff, Nat.reduceEqDiff, Nat.reduceAdd, Nat.reduceSub, Nat.reduceMul, Int.reduceToNat, Int.reduceLT, Int.reduceLE, Int.reduceAdd, Int.reduceSub, implies_true, ne_eq, if_true, if_false, reduceCtorEq])
    | (refine cW_dec (fun h => ?_) (fun h => ?_) <;> simp (maxSteps := 5000000) (disch := omega) only [h, g0, g9, g10, g11, V_P, SX, W_block, exitW, goInt, Int.reduceEq, setCells, oneOf, cellOk, reduceIte, Nat.reduceLT, Nat.reduceLeDiff, Nat.reduceEqDiff, Nat.reduceAdd, Nat.reduceSub, Nat.reduceMul, Int.reduceToNat, Int.reduceLT, Int.reduceLE, Int.reduceAdd, Int.reduceSub, implies_true, ne_eq, if_true, if_false, reduceCtorEq])
    | (refine gW_bool (fun h => ?_) (fun h => ?_) <;> simp (maxSteps := 5000000) (disch := omega) only [h, g0, g9, g10, g11, V_P, SX, W_block, exitW, goInt, Int.reduceEq, setCells, oneOf, cellOk, reduceIte, Nat.reduceLT, Nat.reduceLeDiff, Nat.reduceEqDiff, Nat.reduceAdd, Nat.reduceSub, Nat.reduceMul, Int.reduceToNat, Int.reduceLT, Int.reduceLE, Int.reduceAdd, Int.reduceSub, implies_true, ne_eq, if_true, if_false, reduceCtorEq])
    | (refine cW_bool (fun h => ?_) (fun h => ?_) <;> simp (maxSteps := 5000000) (disch := omega) only [h, g0, g9, g10, g11, V_P, SX, W_block, exitW, goInt, Int.reduceEq, setCells, oneOf, cellOk, reduceIte, Nat.reduceLT, Nat.reduceLeDiff, Nat.reduceEqDiff, Nat.reduceAdd, Nat.reduceSub, Nat.reduceMul, Int.reduceToNat, Int.reduceLT, Int.reduceLE, Int.reduceAdd, Int.reduceSub, implies_true, ne_eq, if_true, if_false, reduceCtorEq]))
    all_goals first
      | (refine ⟨by rw [bad]; unfold N4.within; simp; omega, ?_⟩; repeat (first | exact hs | refine Same.push ?_ _ | refine Same.room ?_ _ | (refine Same.make ?_ (by (try simp only [Heap.next_push, Heap.next_set, Heap.next_room]); omega) (by (try simp only [Heap.next_push, Heap.next_set, Heap.next_room]); omega)) | (refine Same.put ?_ (by simp (disch := omega) only [Heap.get_pushH, Heap.get_setH, hite_same, hite_ne, hite_eq, Heap.get_room, Heap.next_push, Heap.next_set, Heap.next_room, Option.isSome_some, *]) (fun z => by first | (simp; done) | (exfalso; (try simp only [Heap.next_push, Heap.next_set, Heap.next_room] at z); omega)))))
      | (refine ⟨i + 1, ⟨by simp, by omega, fun j y hj hy => ?_, ?_⟩, by omega⟩
         · by_cases hji : j = i
           · subst hji; rw [hx] at hy; cases hy; unfold N4.within; simp; omega
           · exact hall j y (by omega) hy
         · repeat (first | exact hs | refine Same.push ?_ _ | refine Same.room ?_ _ | (refine Same.make ?_ (by (try simp only [Heap.next_push, Heap.next_set, Heap.next_room]); omega) (by (try simp only [Heap.next_push, Heap.next_set, Heap.next_room]); omega)) | (refine Same.put ?_ (by simp (disch := omega) only [Heap.get_pushH, Heap.get_setH, hite_same, hite_ne, hite_eq, Heap.get_room, Heap.next_push, Heap.next_set, Heap.next_room, Option.isSome_some, *]) (fun z => by first | (simp; done) | (exfalso; (try simp only [Heap.next_push, Heap.next_set, Heap.next_room] at z); omega)))))
  · simp (maxSteps := 5000000) (disch := omega) only [g0, g9, g10, g11, V_P, SX, W_block, exitW, goInt, Int.reduceEq, setCells, oneOf, cellOk, reduceIte, Nat.reduceLT, Nat.reduceLeDiff, Nat.reduceEqDiff, Nat.reduceAdd, Nat.reduceSub, Nat.reduceMul, Int.reduceToNat, Int.reduceLT, Int.reduceLE, Int.reduceAdd, Int.reduceSub, implies_true, ne_eq, if_true, if_false, reduceCtorEq]
    refine ⟨?_, hs⟩
    congr 1
    symm
    rw [List.all_eq_true]
    intro x hx
    obtain ⟨j, hj, rfl⟩ := List.mem_iff_getElem.mp hx
    exact hall j _ (by omega) (List.getElem?_eq_getElem hj)

/-- A message: its number, and what stands in its cells. -/
structure Msg where
  pan : ByteArray
  c : Nat → Int
def Msg.cells (m : Msg) : List Value := [.int .i64 (m.c 0), .int .u16 (m.c 1), .int .u32 (m.c 2), .string m.pan, .int .i64 (m.c 4), .int .i64 (m.c 5), .int .i64 (m.c 6), .int .i64 (m.c 7), .int .i64 (m.c 8), .int .i64 (m.c 9), .int .i64 (m.c 10), .int .i64 (m.c 11), .int .i64 (m.c 12), .int .i64 (m.c 13), .int .i64 (m.c 14), .int .i64 (m.c 15), .int .i64 (m.c 16), .int .i64 (m.c 17), .int .i64 (m.c 18), .int .i64 (m.c 19), .int .i64 (m.c 20), .int .i64 (m.c 21), .int .i64 (m.c 22), .int .i64 (m.c 23), .int .i64 (m.c 24), .int .i64 (m.c 25)]
/-- Which cells a kind has. -/
def keep (k : Int) (j : Nat) : Bool :=
  if j ≤ 1 then true else if j = 2 then decide (k ≠ 3) else if j = 4 then decide (k = 1 ∨ k = 5) else if 5 ≤ j ∧ j ≤ 8 then decide (k = 2 ∨ k = 4 ∨ k = 5) else if 9 ≤ j ∧ j ≤ 12 then decide (k = 2 ∨ k = 4) else decide (k = 4)
def Msg.parts (m : Msg) : Msg := ⟨if m.c 0 = 1 then m.pan else S [], fun j => if keep (m.c 0) j = true then m.c j else 0⟩
theorem ndc_parts (m : Msg) (H : Heap) (ok : Ok H) : ∃ v H', Ca V 28 #[.agg m.cells.toArray] H v H' ∧ v = .agg m.parts.cells.toArray ∧ Same H H' [] := by
  have okn : ∀ a, H.next ≤ a → H.get a = none := ok
  refine Ca_run rfl tab_28 rfl ?_
  simp (maxSteps := 5000000) (disch := omega) only [Tryd.f28, Msg.cells, V_P, SX, W_block, exitW, goInt, Int.reduceEq, setCells, oneOf, cellOk, reduceIte, Nat.reduceLT, Nat.reduceLeDiff, Nat.reduceEqDiff, Nat.reduceAdd, Nat.reduceSub, Nat.reduceMul, Int.reduceToNat, Int.reduceLT, Int.reduceLE, Int.reduceAdd, Int.reduceSub, implies_true, ne_eq, if_true, if_false, reduceCtorEq]
  repeat' (first
    | (refine gW_dec (fun h => ?_) (fun h => ?_) <;> simp (maxSteps := 5000000) (disch := omega) only [h, Msg.cells, V_P, SX, W_block, exitW, goInt, Int.reduceEq, setCells, oneOf, cellOk, reduceIte, Nat.reduceLT, Nat.reduceLeDiff, Nat.reduceEqDiff, Nat.reduceAdd, Nat.reduceSub, Nat.reduceMul, Int.reduceToNat, Int.reduceLT, Int.reduceLE, Int.reduceAdd, Int.reduceSub, implies_true, ne_eq, if_true, if_false, reduceCtorEq])
    | (refine cW_dec (fun h => ?_) (fun h => ?_) <;> simp (maxSteps := 5000000) (disch := omega) only [h, Msg.cells, V_P, SX, W_block, exitW, goInt, Int.reduceEq, setCells, oneOf, cellOk, reduceIte, Nat.reduceLT, Nat.reduceLeDiff, Nat.reduceEqDiff, Nat.reduceAdd, Nat.reduceSub, Nat.reduceMul, Int.reduceToNat, Int.reduceLT, Int.reduceLE, Int.reduceAdd, Int.reduceSub, implies_true, ne_eq, if_true, if_false, reduceCtorEq])
    | (refine gW_bool (fun h => ?_) (fun h => ?_) <;> simp (maxSteps := 5000000) (disch := omega) only [h, Msg.cells, V_P, SX, W_block, exitW, goInt, Int.reduceEq, setCells, oneOf, cellOk, reduceIte, Nat.reduceLT, Nat.reduceLeDiff, Nat.reduceEqDiff, Nat.reduceAdd, Nat.reduceSub, Nat.reduceMul, Int.reduceToNat, Int.reduceLT, Int.reduceLE, Int.reduceAdd, Int.reduceSub, implies_true, ne_eq, if_true, if_false, reduceCtorEq])
    | (refine cW_bool (fun h => ?_) (fun h => ?_) <;> simp (maxSteps := 5000000) (disch := omega) only [h, Msg.cells, V_P, SX, W_block, exitW, goInt, Int.reduceEq, setCells, oneOf, cellOk, reduceIte, Nat.reduceLT, Nat.reduceLeDiff, Nat.reduceEqDiff, Nat.reduceAdd, Nat.reduceSub, Nat.reduceMul, Int.reduceToNat, Int.reduceLT, Int.reduceLE, Int.reduceAdd, Int.reduceSub, implies_true, ne_eq, if_true, if_false, reduceCtorEq]))
  · refine W_drawR [[], [0], [], [2], [0, 1], [4, 0, 1], [0, 1, 2, 3, 4, 5], [6, 0, 1, 2, 3, 4, 5]] [0, 1, 4, 5, 2, 3, 6, 7] (by decide +kernel) (by repeat (first | exact ok | refine Ok.push ?_ _ | refine Ok.room ?_ _ | (refine Ok.put ?_ _ (by simp (disch := omega) only [Heap.get_pushH, Heap.get_setH, hite_same, hite_ne, hite_eq, Heap.get_room, Heap.next_push, Heap.next_set, Heap.next_room, Option.isSome_some, *])))) ?_
    simp (maxSteps := 5000000) (disch := omega) only [Msg.cells, okn, V_P, SX, W_block, exitW, goInt, Int.reduceEq, setCells, oneOf, cellOk, reduceIte, Nat.reduceLT, Nat.reduceLeDiff, Nat.reduceEqDiff, Nat.reduceAdd, Nat.reduceSub, Nat.reduceMul, Int.reduceToNat, Int.reduceLT, Int.reduceLE, Int.reduceAdd, Int.reduceSub, implies_true, ne_eq, if_true, if_false, reduceCtorEq, DX, Nat.reduceBEq]
    refine ⟨by first | (exfalso; omega) | (simp [Msg.parts, Msg.cells, keep, *]; done), ?_⟩
    repeat (first | exact Same.same ok | refine Same.push ?_ _ | refine Same.room ?_ _ | (refine Same.make ?_ (by (try simp only [Heap.next_push, Heap.next_set, Heap.next_room]); omega) (by (try simp only [Heap.next_push, Heap.next_set, Heap.next_room]); omega)) | (refine Same.put ?_ (by simp (disch := omega) only [Heap.get_pushH, Heap.get_setH, hite_same, hite_ne, hite_eq, Heap.get_room, Heap.next_push, Heap.next_set, Heap.next_room, Option.isSome_some, *]) (fun z => by first | (simp; done) | (exfalso; (try simp only [Heap.next_push, Heap.next_set, Heap.next_room] at z); omega))))
  · refine W_drawR [[], [0], [], [2], [0, 1], [4, 0, 1], [0, 1, 2, 3, 4, 5], [6, 0, 1, 2, 3, 4, 5]] [0, 1, 4, 5, 2, 3, 6, 7] (by decide +kernel) (by repeat (first | exact ok | refine Ok.push ?_ _ | refine Ok.room ?_ _ | (refine Ok.put ?_ _ (by simp (disch := omega) only [Heap.get_pushH, Heap.get_setH, hite_same, hite_ne, hite_eq, Heap.get_room, Heap.next_push, Heap.next_set, Heap.next_room, Option.isSome_some, *])))) ?_
    simp (maxSteps := 5000000) (disch := omega) only [Msg.cells, okn, V_P, SX, W_block, exitW, goInt, Int.reduceEq, setCells, oneOf, cellOk, reduceIte, Nat.reduceLT, Nat.reduceLeDiff, Nat.reduceEqDiff, Nat.reduceAdd, Nat.reduceSub, Nat.reduceMul, Int.reduceToNat, Int.reduceLT, Int.reduceLE, Int.reduceAdd, Int.reduceSub, implies_true, ne_eq, if_true, if_false, reduceCtorEq, DX, Nat.reduceBEq]
    refine ⟨by first | (exfalso; omega) | (simp [Msg.parts, Msg.cells, keep, *]; done), ?_⟩
    repeat (first | exact Same.same ok | refine Same.push ?_ _ | refine Same.room ?_ _ | (refine Same.make ?_ (by (try simp only [Heap.next_push, Heap.next_set, Heap.next_room]); omega) (by (try simp only [Heap.next_push, Heap.next_set, Heap.next_room]); omega)) | (refine Same.put ?_ (by simp (disch := omega) only [Heap.get_pushH, Heap.get_setH, hite_same, hite_ne, hite_eq, Heap.get_room, Heap.next_push, Heap.next_set, Heap.next_room, Option.isSome_some, *]) (fun z => by first | (simp; done) | (exfalso; (try simp only [Heap.next_push, Heap.next_set, Heap.next_room] at z); omega))))
  · refine ⟨by first | (exfalso; omega) | (simp [Msg.parts, Msg.cells, keep, *]; done), ?_⟩
    repeat (first | exact Same.same ok | refine Same.push ?_ _ | refine Same.room ?_ _ | (refine Same.make ?_ (by (try simp only [Heap.next_push, Heap.next_set, Heap.next_room]); omega) (by (try simp only [Heap.next_push, Heap.next_set, Heap.next_room]); omega)) | (refine Same.put ?_ (by simp (disch := omega) only [Heap.get_pushH, Heap.get_setH, hite_same, hite_ne, hite_eq, Heap.get_room, Heap.next_push, Heap.next_set, Heap.next_room, Option.isSome_some, *]) (fun z => by first | (simp; done) | (exfalso; (try simp only [Heap.next_push, Heap.next_set, Heap.next_room] at z); omega))))
  · refine W_drawR [[], [0], [], [2], [0, 1], [4, 0, 1], [0, 1, 2, 3, 4, 5], [6, 0, 1, 2, 3, 4, 5]] [0, 1, 4, 5, 2, 3, 6, 7] (by decide +kernel) (by repeat (first | exact ok | refine Ok.push ?_ _ | refine Ok.room ?_ _ | (refine Ok.put ?_ _ (by simp (disch := omega) only [Heap.get_pushH, Heap.get_setH, hite_same, hite_ne, hite_eq, Heap.get_room, Heap.next_push, Heap.next_set, Heap.next_room, Option.isSome_some, *])))) ?_
    simp (maxSteps := 5000000) (disch := omega) only [Msg.cells, okn, V_P, SX, W_block, exitW, goInt, Int.reduceEq, setCells, oneOf, cellOk, reduceIte, Nat.reduceLT, Nat.reduceLeDiff, Nat.reduceEqDiff, Nat.reduceAdd, Nat.reduceSub, Nat.reduceMul, Int.reduceToNat, Int.reduceLT, Int.reduceLE, Int.reduceAdd, Int.reduceSub, implies_true, ne_eq, if_true, if_false, reduceCtorEq, DX, Nat.reduceBEq]
    refine ⟨by first | (exfalso; omega) | (simp [Msg.parts, Msg.cells, keep, *]; done), ?_⟩
    repeat (first | exact Same.same ok | refine Same.push ?_ _ | refine Same.room ?_ _ | (refine Same.make ?_ (by (try simp only [Heap.next_push, Heap.next_set, Heap.next_room]); omega) (by (try simp only [Heap.next_push, Heap.next_set, Heap.next_room]); omega)) | (refine Same.put ?_ (by simp (disch := omega) only [Heap.get_pushH, Heap.get_setH, hite_same, hite_ne, hite_eq, Heap.get_room, Heap.next_push, Heap.next_set, Heap.next_room, Option.isSome_some, *]) (fun z => by first | (simp; done) | (exfalso; (try simp only [Heap.next_push, Heap.next_set, Heap.next_room] at z); omega))))
  · refine ⟨by first | (exfalso; omega) | (simp [Msg.parts, Msg.cells, keep, *]; done), ?_⟩
    repeat (first | exact Same.same ok | refine Same.push ?_ _ | refine Same.room ?_ _ | (refine Same.make ?_ (by (try simp only [Heap.next_push, Heap.next_set, Heap.next_room]); omega) (by (try simp only [Heap.next_push, Heap.next_set, Heap.next_room]); omega)) | (refine Same.put ?_ (by simp (disch := omega) only [Heap.get_pushH, Heap.get_setH, hite_same, hite_ne, hite_eq, Heap.get_room, Heap.next_push, Heap.next_set, Heap.next_room, Option.isSome_some, *]) (fun z => by first | (simp; done) | (exfalso; (try simp only [Heap.next_push, Heap.next_set, Heap.next_room] at z); omega))))
  · refine W_drawR [[], [0], [], [2], [0, 1], [4, 0, 1], [0, 1, 2, 3, 4, 5], [6, 0, 1, 2, 3, 4, 5]] [0, 1, 4, 5, 2, 3, 6, 7] (by decide +kernel) (by repeat (first | exact ok | refine Ok.push ?_ _ | refine Ok.room ?_ _ | (refine Ok.put ?_ _ (by simp (disch := omega) only [Heap.get_pushH, Heap.get_setH, hite_same, hite_ne, hite_eq, Heap.get_room, Heap.next_push, Heap.next_set, Heap.next_room, Option.isSome_some, *])))) ?_
    simp (maxSteps := 5000000) (disch := omega) only [Msg.cells, okn, V_P, SX, W_block, exitW, goInt, Int.reduceEq, setCells, oneOf, cellOk, reduceIte, Nat.reduceLT, Nat.reduceLeDiff, Nat.reduceEqDiff, Nat.reduceAdd, Nat.reduceSub, Nat.reduceMul, Int.reduceToNat, Int.reduceLT, Int.reduceLE, Int.reduceAdd, Int.reduceSub, implies_true, ne_eq, if_true, if_false, reduceCtorEq, DX, Nat.reduceBEq]
    refine ⟨by first | (exfalso; omega) | (simp [Msg.parts, Msg.cells, keep, *]; done), ?_⟩
    repeat (first | exact Same.same ok | refine Same.push ?_ _ | refine Same.room ?_ _ | (refine Same.make ?_ (by (try simp only [Heap.next_push, Heap.next_set, Heap.next_room]); omega) (by (try simp only [Heap.next_push, Heap.next_set, Heap.next_room]); omega)) | (refine Same.put ?_ (by simp (disch := omega) only [Heap.get_pushH, Heap.get_setH, hite_same, hite_ne, hite_eq, Heap.get_room, Heap.next_push, Heap.next_set, Heap.next_room, Option.isSome_some, *]) (fun z => by first | (simp; done) | (exfalso; (try simp only [Heap.next_push, Heap.next_set, Heap.next_room] at z); omega))))
  · refine W_drawR [[], [0], [], [2], [0, 1], [4, 0, 1], [0, 1, 2, 3, 4, 5], [6, 0, 1, 2, 3, 4, 5]] [0, 1, 4, 5, 2, 3, 6, 7] (by decide +kernel) (by repeat (first | exact ok | refine Ok.push ?_ _ | refine Ok.room ?_ _ | (refine Ok.put ?_ _ (by simp (disch := omega) only [Heap.get_pushH, Heap.get_setH, hite_same, hite_ne, hite_eq, Heap.get_room, Heap.next_push, Heap.next_set, Heap.next_room, Option.isSome_some, *])))) ?_
    simp (maxSteps := 5000000) (disch := omega) only [Msg.cells, okn, V_P, SX, W_block, exitW, goInt, Int.reduceEq, setCells, oneOf, cellOk, reduceIte, Nat.reduceLT, Nat.reduceLeDiff, Nat.reduceEqDiff, Nat.reduceAdd, Nat.reduceSub, Nat.reduceMul, Int.reduceToNat, Int.reduceLT, Int.reduceLE, Int.reduceAdd, Int.reduceSub, implies_true, ne_eq, if_true, if_false, reduceCtorEq, DX, Nat.reduceBEq]
    refine ⟨by first | (exfalso; omega) | (simp [Msg.parts, Msg.cells, keep, *]; done), ?_⟩
    repeat (first | exact Same.same ok | refine Same.push ?_ _ | refine Same.room ?_ _ | (refine Same.make ?_ (by (try simp only [Heap.next_push, Heap.next_set, Heap.next_room]); omega) (by (try simp only [Heap.next_push, Heap.next_set, Heap.next_room]); omega)) | (refine Same.put ?_ (by simp (disch := omega) only [Heap.get_pushH, Heap.get_setH, hite_same, hite_ne, hite_eq, Heap.get_room, Heap.next_push, Heap.next_set, Heap.next_room, Option.isSome_some, *]) (fun z => by first | (simp; done) | (exfalso; (try simp only [Heap.next_push, Heap.next_set, Heap.next_room] at z); omega))))
  · refine ⟨by first | (exfalso; omega) | (simp [Msg.parts, Msg.cells, keep, *]; done), ?_⟩
    repeat (first | exact Same.same ok | refine Same.push ?_ _ | refine Same.room ?_ _ | (refine Same.make ?_ (by (try simp only [Heap.next_push, Heap.next_set, Heap.next_room]); omega) (by (try simp only [Heap.next_push, Heap.next_set, Heap.next_room]); omega)) | (refine Same.put ?_ (by simp (disch := omega) only [Heap.get_pushH, Heap.get_setH, hite_same, hite_ne, hite_eq, Heap.get_room, Heap.next_push, Heap.next_set, Heap.next_room, Option.isSome_some, *]) (fun z => by first | (simp; done) | (exfalso; (try simp only [Heap.next_push, Heap.next_set, Heap.next_room] at z); omega))))
  · refine W_drawR [[], [0], [], [2], [0, 1], [4, 0, 1], [0, 1, 2, 3, 4, 5], [6, 0, 1, 2, 3, 4, 5]] [0, 1, 4, 5, 2, 3, 6, 7] (by decide +kernel) (by repeat (first | exact ok | refine Ok.push ?_ _ | refine Ok.room ?_ _ | (refine Ok.put ?_ _ (by simp (disch := omega) only [Heap.get_pushH, Heap.get_setH, hite_same, hite_ne, hite_eq, Heap.get_room, Heap.next_push, Heap.next_set, Heap.next_room, Option.isSome_some, *])))) ?_
    simp (maxSteps := 5000000) (disch := omega) only [Msg.cells, okn, V_P, SX, W_block, exitW, goInt, Int.reduceEq, setCells, oneOf, cellOk, reduceIte, Nat.reduceLT, Nat.reduceLeDiff, Nat.reduceEqDiff, Nat.reduceAdd, Nat.reduceSub, Nat.reduceMul, Int.reduceToNat, Int.reduceLT, Int.reduceLE, Int.reduceAdd, Int.reduceSub, implies_true, ne_eq, if_true, if_false, reduceCtorEq, DX, Nat.reduceBEq]
    refine ⟨by first | (exfalso; omega) | (simp [Msg.parts, Msg.cells, keep, *]; done), ?_⟩
    repeat (first | exact Same.same ok | refine Same.push ?_ _ | refine Same.room ?_ _ | (refine Same.make ?_ (by (try simp only [Heap.next_push, Heap.next_set, Heap.next_room]); omega) (by (try simp only [Heap.next_push, Heap.next_set, Heap.next_room]); omega)) | (refine Same.put ?_ (by simp (disch := omega) only [Heap.get_pushH, Heap.get_setH, hite_same, hite_ne, hite_eq, Heap.get_room, Heap.next_push, Heap.next_set, Heap.next_room, Option.isSome_some, *]) (fun z => by first | (simp; done) | (exfalso; (try simp only [Heap.next_push, Heap.next_set, Heap.next_room] at z); omega))))
  · refine ⟨by first | (exfalso; omega) | (simp [Msg.parts, Msg.cells, keep, *]; done), ?_⟩
    repeat (first | exact Same.same ok | refine Same.push ?_ _ | refine Same.room ?_ _ | (refine Same.make ?_ (by (try simp only [Heap.next_push, Heap.next_set, Heap.next_room]); omega) (by (try simp only [Heap.next_push, Heap.next_set, Heap.next_room]); omega)) | (refine Same.put ?_ (by simp (disch := omega) only [Heap.get_pushH, Heap.get_setH, hite_same, hite_ne, hite_eq, Heap.get_room, Heap.next_push, Heap.next_set, Heap.next_room, Option.isSome_some, *]) (fun z => by first | (simp; done) | (exfalso; (try simp only [Heap.next_push, Heap.next_set, Heap.next_room] at z); omega))))
end Go.B.YteigefgobkdmgaaDoor
/- A message in the heap, told as one: its parts read, and written. -/
namespace Go.B.YteigefgobkdmgaaDoor
open Go Go.B Go.Proofs
set_option maxRecDepth 100000
set_option maxHeartbeats 16000000
set_option linter.unusedSimpArgs false
set_option linter.unusedVariables false
theorem Msg.cells_length (m : Msg) : m.cells.length = 26 := rfl
def Msg.set (m : Msg) (i : Nat) (v : Int) : Msg := ⟨m.pan, fun j => if j = i then v else m.c j⟩
def Msg.set4 (m : Msg) (i : Nat) (a b c d : Int) : Msg := ⟨m.pan, fun j => if j = i then a else if j = i + 1 then b else if j = i + 2 then c else if j = i + 3 then d else m.c j⟩
def Msg.setPan (m : Msg) (s : ByteArray) : Msg := ⟨s, m.c⟩
theorem set_eq {m : Msg} {i : Nat} {v : Int} : (m.set i v).c i = v := if_pos rfl
theorem set_ne {m : Msg} {i j : Nat} {v : Int} (h : j ≠ i) : (m.set i v).c j = m.c j := if_neg h
theorem set4_ne {m : Msg} {i j : Nat} {a b c d : Int} (h : j < i ∨ i + 4 ≤ j) : (m.set4 i a b c d).c j = m.c j := by
  unfold Msg.set4; simp only []; rw [if_neg (by omega), if_neg (by omega), if_neg (by omega), if_neg (by omega)]
theorem setPan_c {m : Msg} {j : Nat} {s : ByteArray} : (m.setPan s).c j = m.c j := rfl
theorem setPan_pan {m : Msg} {s : ByteArray} : (m.setPan s).pan = s := rfl
theorem set_pan {m : Msg} {i : Nat} {v : Int} : (m.set i v).pan = m.pan := rfl
theorem set4_pan {m : Msg} {i : Nat} {a b c d : Int} : (m.set4 i a b c d).pan = m.pan := rfl
def Msg.zero : Msg := ⟨S [], fun _ => 0⟩
/-- A message that may be written. -/
def mO (m : Msg) : AObj := .cells m.cells 27 false
theorem mO_def (m : Msg) : AObj.cells m.cells 27 false = mO m := rfl
theorem mO_get {o n : Nat} {m : Msg} : gcV o n (some (mO m)) = if o + n ≤ 26 then some ((m.cells.drop o).take n) else none := rfl
theorem mO_all {m : Msg} : gcV 0 26 (some (mO m)) = some m.cells := rfl
theorem cells_toList {m : Msg} : m.cells.toArray.toList = m.cells := rfl
theorem cells_size {m : Msg} : m.cells.toArray.size = 26 := rfl
theorem mO_g0 {m : Msg} : gcV 0 1 (some (mO m)) = some [.int .i64 (m.c 0)] := rfl
theorem mO_g1 {m : Msg} : gcV 1 1 (some (mO m)) = some [.int .u16 (m.c 1)] := rfl
theorem mO_g2 {m : Msg} : gcV 2 1 (some (mO m)) = some [.int .u32 (m.c 2)] := rfl
theorem mO_g3 {m : Msg} : gcV 3 1 (some (mO m)) = some [.string m.pan] := rfl
theorem mO_g4 {m : Msg} : gcV 4 1 (some (mO m)) = some [.int .i64 (m.c 4)] := rfl
theorem mO_g21 {m : Msg} : gcV 21 1 (some (mO m)) = some [.int .i64 (m.c 21)] := rfl
theorem mO_g5 {m : Msg} : gcV 5 4 (some (mO m)) = some [.int .i64 (m.c 5), .int .i64 (m.c 6), .int .i64 (m.c 7), .int .i64 (m.c 8)] := rfl
theorem mO_g9 {m : Msg} : gcV 9 4 (some (mO m)) = some [.int .i64 (m.c 9), .int .i64 (m.c 10), .int .i64 (m.c 11), .int .i64 (m.c 12)] := rfl
theorem mO_g13 {m : Msg} : gcV 13 4 (some (mO m)) = some [.int .i64 (m.c 13), .int .i64 (m.c 14), .int .i64 (m.c 15), .int .i64 (m.c 16)] := rfl
theorem mO_g17 {m : Msg} : gcV 17 4 (some (mO m)) = some [.int .i64 (m.c 17), .int .i64 (m.c 18), .int .i64 (m.c 19), .int .i64 (m.c 20)] := rfl
theorem mO_g22 {m : Msg} : gcV 22 4 (some (mO m)) = some [.int .i64 (m.c 22), .int .i64 (m.c 23), .int .i64 (m.c 24), .int .i64 (m.c 25)] := rfl
theorem mO_h5 {m : Msg} : gcV 5 1 (some (mO m)) = some [.int .i64 (m.c 5)] := rfl
theorem mO_h6 {m : Msg} : gcV 6 1 (some (mO m)) = some [.int .i64 (m.c 6)] := rfl
theorem mO_h7 {m : Msg} : gcV 7 1 (some (mO m)) = some [.int .i64 (m.c 7)] := rfl
theorem mO_h8 {m : Msg} : gcV 8 1 (some (mO m)) = some [.int .i64 (m.c 8)] := rfl
theorem mO_h9 {m : Msg} : gcV 9 1 (some (mO m)) = some [.int .i64 (m.c 9)] := rfl
theorem mO_h10 {m : Msg} : gcV 10 1 (some (mO m)) = some [.int .i64 (m.c 10)] := rfl
theorem mO_h11 {m : Msg} : gcV 11 1 (some (mO m)) = some [.int .i64 (m.c 11)] := rfl
theorem mO_h12 {m : Msg} : gcV 12 1 (some (mO m)) = some [.int .i64 (m.c 12)] := rfl
theorem mO_h13 {m : Msg} : gcV 13 1 (some (mO m)) = some [.int .i64 (m.c 13)] := rfl
theorem mO_h14 {m : Msg} : gcV 14 1 (some (mO m)) = some [.int .i64 (m.c 14)] := rfl
theorem mO_h15 {m : Msg} : gcV 15 1 (some (mO m)) = some [.int .i64 (m.c 15)] := rfl
theorem mO_h16 {m : Msg} : gcV 16 1 (some (mO m)) = some [.int .i64 (m.c 16)] := rfl
theorem mO_h17 {m : Msg} : gcV 17 1 (some (mO m)) = some [.int .i64 (m.c 17)] := rfl
theorem mO_h18 {m : Msg} : gcV 18 1 (some (mO m)) = some [.int .i64 (m.c 18)] := rfl
theorem mO_h19 {m : Msg} : gcV 19 1 (some (mO m)) = some [.int .i64 (m.c 19)] := rfl
theorem mO_h20 {m : Msg} : gcV 20 1 (some (mO m)) = some [.int .i64 (m.c 20)] := rfl
theorem mO_h22 {m : Msg} : gcV 22 1 (some (mO m)) = some [.int .i64 (m.c 22)] := rfl
theorem mO_h23 {m : Msg} : gcV 23 1 (some (mO m)) = some [.int .i64 (m.c 23)] := rfl
theorem mO_h24 {m : Msg} : gcV 24 1 (some (mO m)) = some [.int .i64 (m.c 24)] := rfl
theorem mO_h25 {m : Msg} : gcV 25 1 (some (mO m)) = some [.int .i64 (m.c 25)] := rfl
theorem mO_p0 {H : Heap} {i : Nat} {m : Msg} {v : Int} : pcV H i 0 [.int .i64 v] (some (mO m)) = some (H.set i (mO (m.set 0 v))) := rfl
theorem mO_p1 {H : Heap} {i : Nat} {m : Msg} {v : Int} : pcV H i 1 [.int .u16 v] (some (mO m)) = some (H.set i (mO (m.set 1 v))) := rfl
theorem mO_p2 {H : Heap} {i : Nat} {m : Msg} {v : Int} : pcV H i 2 [.int .u32 v] (some (mO m)) = some (H.set i (mO (m.set 2 v))) := rfl
theorem mO_p4 {H : Heap} {i : Nat} {m : Msg} {v : Int} : pcV H i 4 [.int .i64 v] (some (mO m)) = some (H.set i (mO (m.set 4 v))) := rfl
theorem mO_p5 {H : Heap} {i : Nat} {m : Msg} {v : Int} : pcV H i 5 [.int .i64 v] (some (mO m)) = some (H.set i (mO (m.set 5 v))) := rfl
theorem mO_p6 {H : Heap} {i : Nat} {m : Msg} {v : Int} : pcV H i 6 [.int .i64 v] (some (mO m)) = some (H.set i (mO (m.set 6 v))) := rfl
theorem mO_p7 {H : Heap} {i : Nat} {m : Msg} {v : Int} : pcV H i 7 [.int .i64 v] (some (mO m)) = some (H.set i (mO (m.set 7 v))) := rfl
theorem mO_p8 {H : Heap} {i : Nat} {m : Msg} {v : Int} : pcV H i 8 [.int .i64 v] (some (mO m)) = some (H.set i (mO (m.set 8 v))) := rfl
theorem mO_p9 {H : Heap} {i : Nat} {m : Msg} {v : Int} : pcV H i 9 [.int .i64 v] (some (mO m)) = some (H.set i (mO (m.set 9 v))) := rfl
theorem mO_p10 {H : Heap} {i : Nat} {m : Msg} {v : Int} : pcV H i 10 [.int .i64 v] (some (mO m)) = some (H.set i (mO (m.set 10 v))) := rfl
theorem mO_p11 {H : Heap} {i : Nat} {m : Msg} {v : Int} : pcV H i 11 [.int .i64 v] (some (mO m)) = some (H.set i (mO (m.set 11 v))) := rfl
theorem mO_p12 {H : Heap} {i : Nat} {m : Msg} {v : Int} : pcV H i 12 [.int .i64 v] (some (mO m)) = some (H.set i (mO (m.set 12 v))) := rfl
theorem mO_p13 {H : Heap} {i : Nat} {m : Msg} {v : Int} : pcV H i 13 [.int .i64 v] (some (mO m)) = some (H.set i (mO (m.set 13 v))) := rfl
theorem mO_p14 {H : Heap} {i : Nat} {m : Msg} {v : Int} : pcV H i 14 [.int .i64 v] (some (mO m)) = some (H.set i (mO (m.set 14 v))) := rfl
theorem mO_p15 {H : Heap} {i : Nat} {m : Msg} {v : Int} : pcV H i 15 [.int .i64 v] (some (mO m)) = some (H.set i (mO (m.set 15 v))) := rfl
theorem mO_p16 {H : Heap} {i : Nat} {m : Msg} {v : Int} : pcV H i 16 [.int .i64 v] (some (mO m)) = some (H.set i (mO (m.set 16 v))) := rfl
theorem mO_p17 {H : Heap} {i : Nat} {m : Msg} {v : Int} : pcV H i 17 [.int .i64 v] (some (mO m)) = some (H.set i (mO (m.set 17 v))) := rfl
theorem mO_p18 {H : Heap} {i : Nat} {m : Msg} {v : Int} : pcV H i 18 [.int .i64 v] (some (mO m)) = some (H.set i (mO (m.set 18 v))) := rfl
theorem mO_p19 {H : Heap} {i : Nat} {m : Msg} {v : Int} : pcV H i 19 [.int .i64 v] (some (mO m)) = some (H.set i (mO (m.set 19 v))) := rfl
theorem mO_p20 {H : Heap} {i : Nat} {m : Msg} {v : Int} : pcV H i 20 [.int .i64 v] (some (mO m)) = some (H.set i (mO (m.set 20 v))) := rfl
theorem mO_p21 {H : Heap} {i : Nat} {m : Msg} {v : Int} : pcV H i 21 [.int .i64 v] (some (mO m)) = some (H.set i (mO (m.set 21 v))) := rfl
theorem mO_p22 {H : Heap} {i : Nat} {m : Msg} {v : Int} : pcV H i 22 [.int .i64 v] (some (mO m)) = some (H.set i (mO (m.set 22 v))) := rfl
theorem mO_p23 {H : Heap} {i : Nat} {m : Msg} {v : Int} : pcV H i 23 [.int .i64 v] (some (mO m)) = some (H.set i (mO (m.set 23 v))) := rfl
theorem mO_p24 {H : Heap} {i : Nat} {m : Msg} {v : Int} : pcV H i 24 [.int .i64 v] (some (mO m)) = some (H.set i (mO (m.set 24 v))) := rfl
theorem mO_p25 {H : Heap} {i : Nat} {m : Msg} {v : Int} : pcV H i 25 [.int .i64 v] (some (mO m)) = some (H.set i (mO (m.set 25 v))) := rfl
theorem mO_p3 {H : Heap} {i : Nat} {m : Msg} {s : ByteArray} : pcV H i 3 [.string s] (some (mO m)) = some (H.set i (mO (m.setPan s))) := rfl
theorem mO_q5 {H : Heap} {i : Nat} {m : Msg} {a b c d : Int} : pcV H i 5 [.int .i64 a, .int .i64 b, .int .i64 c, .int .i64 d] (some (mO m)) = some (H.set i (mO (m.set4 5 a b c d))) := rfl
theorem mO_q9 {H : Heap} {i : Nat} {m : Msg} {a b c d : Int} : pcV H i 9 [.int .i64 a, .int .i64 b, .int .i64 c, .int .i64 d] (some (mO m)) = some (H.set i (mO (m.set4 9 a b c d))) := rfl
theorem mO_q13 {H : Heap} {i : Nat} {m : Msg} {a b c d : Int} : pcV H i 13 [.int .i64 a, .int .i64 b, .int .i64 c, .int .i64 d] (some (mO m)) = some (H.set i (mO (m.set4 13 a b c d))) := rfl
theorem mO_q17 {H : Heap} {i : Nat} {m : Msg} {a b c d : Int} : pcV H i 17 [.int .i64 a, .int .i64 b, .int .i64 c, .int .i64 d] (some (mO m)) = some (H.set i (mO (m.set4 17 a b c d))) := rfl
theorem mO_q22 {H : Heap} {i : Nat} {m : Msg} {a b c d : Int} : pcV H i 22 [.int .i64 a, .int .i64 b, .int .i64 c, .int .i64 d] (some (mO m)) = some (H.set i (mO (m.set4 22 a b c d))) := rfl
theorem set_all (m x : Msg) : setCells m.cells 0 x.cells = x.cells := by
  unfold Msg.cells
  simp only [setCells, List.set_cons_zero, List.set_cons_succ, Nat.reduceAdd]
theorem mO_pAll {H : Heap} {i : Nat} {m x : Msg} : pcV H i 0 x.cells (some (mO m)) = some (H.set i (mO x)) := by
  unfold mO
  rw [pcV_cells, if_pos ⟨Nat.le_refl _, rfl⟩, set_all]
theorem cells_all_ok {x : Msg} : x.cells.all cellOk = true := rfl
theorem mO_alloc {e : Operand → Value} {H : Heap} {d : Option Tmp} {ty : TypeId} {pos : String} {af : Array Edge} {g : Option (Nat × Bool)} : aop Tryd.prog e ⟨d, .alloc 27, ty, pos, af, g⟩ H = some (.val (.pointer (some ⟨H.next, 0, none⟩)) (H.push (mO .zero))) := al_27
theorem mO_allocD {e : Operand → Value} {d : Option Tmp} {ty : TypeId} {pos : String} {af : Array Edge} {g : Option (Nat × Bool)} {j : Nat} : allocB Tryd.prog e ⟨d, .alloc 27, ty, pos, af, g⟩ j = some (.pointer (some ⟨j, 0, none⟩), mO .zero) := ad_27
theorem ba_beq {a b : ByteArray} : (a == b) = true ↔ a = b := by
  constructor
  · intro h
    obtain ⟨x⟩ := a; obtain ⟨y⟩ := b
    have : (x == y) = true := h
    rw [eq_of_beq this]
  · rintro rfl
    obtain ⟨x⟩ := a
    show (x == x) = true
    exact beq_self_eq_true x
/-- Are two messages the same? -/
def Msg.same (m x : Msg) : Bool := (m.c 0 == x.c 0) && ((m.c 1 == x.c 1) && ((m.c 2 == x.c 2) && ((m.pan == x.pan) && ((m.c 4 == x.c 4) && (((m.c 5 == x.c 5) && ((m.c 6 == x.c 6) && ((m.c 7 == x.c 7) && ((m.c 8 == x.c 8) && true)))) && (((m.c 9 == x.c 9) && ((m.c 10 == x.c 10) && ((m.c 11 == x.c 11) && ((m.c 12 == x.c 12) && true)))) && (((m.c 13 == x.c 13) && ((m.c 14 == x.c 14) && ((m.c 15 == x.c 15) && ((m.c 16 == x.c 16) && true)))) && (((m.c 17 == x.c 17) && ((m.c 18 == x.c 18) && ((m.c 19 == x.c 19) && ((m.c 20 == x.c 20) && true)))) && ((m.c 21 == x.c 21) && (((m.c 22 == x.c 22) && ((m.c 23 == x.c 23) && ((m.c 24 == x.c 24) && ((m.c 25 == x.c 25) && true)))) && true))))))))))
theorem mO_eq {H : Heap} {a b : Operand} {m x : Msg} : binV Tryd.prog H .eql 27 a b (.agg m.cells.toArray) (.agg x.cells.toArray) = some (.val (.bool (m.same x)) H) := be_27
theorem mO_ne {H : Heap} {a b : Operand} {m x : Msg} : binV Tryd.prog H .neq 27 a b (.agg m.cells.toArray) (.agg x.cells.toArray) = some (.val (.bool (!(m.same x))) H) := bn_27
theorem same_iff {m x : Msg} : m.same x = true ↔ m.pan = x.pan ∧ ∀ j, j < 26 → j ≠ 3 → m.c j = x.c j := by
  unfold Msg.same
  simp only [Bool.and_eq_true, ba_beq, beq_iff_eq, and_true]
  constructor
  · rintro ⟨h0, h1, h2, h3, h4, ⟨h5, h6, h7, h8⟩, ⟨h9, h10, h11, h12⟩, ⟨h13, h14, h15, h16⟩, ⟨h17, h18, h19, h20⟩, h21, ⟨h22, h23, h24, h25⟩⟩
    refine ⟨h3, fun j h1 h2 => ?_⟩
    have : j = 0 ∨ j = 1 ∨ j = 2 ∨ j = 4 ∨ j = 5 ∨ j = 6 ∨ j = 7 ∨ j = 8 ∨ j = 9 ∨ j = 10 ∨ j = 11 ∨ j = 12 ∨ j = 13 ∨ j = 14 ∨ j = 15 ∨ j = 16 ∨ j = 17 ∨ j = 18 ∨ j = 19 ∨ j = 20 ∨ j = 21 ∨ j = 22 ∨ j = 23 ∨ j = 24 ∨ j = 25 := by omega
    rcases this with rfl | rfl | rfl | rfl | rfl | rfl | rfl | rfl | rfl | rfl | rfl | rfl | rfl | rfl | rfl | rfl | rfl | rfl | rfl | rfl | rfl | rfl | rfl | rfl | rfl <;> assumption
  · rintro ⟨hp, h⟩
    exact ⟨h 0 (by decide) (by decide), h 1 (by decide) (by decide), h 2 (by decide) (by decide), hp, h 4 (by decide) (by decide), ⟨h 5 (by decide) (by decide), h 6 (by decide) (by decide), h 7 (by decide) (by decide), h 8 (by decide) (by decide)⟩, ⟨h 9 (by decide) (by decide), h 10 (by decide) (by decide), h 11 (by decide) (by decide), h 12 (by decide) (by decide)⟩, ⟨h 13 (by decide) (by decide), h 14 (by decide) (by decide), h 15 (by decide) (by decide), h 16 (by decide) (by decide)⟩, ⟨h 17 (by decide) (by decide), h 18 (by decide) (by decide), h 19 (by decide) (by decide), h 20 (by decide) (by decide)⟩, h 21 (by decide) (by decide), ⟨h 22 (by decide) (by decide), h 23 (by decide) (by decide), h 24 (by decide) (by decide), h 25 (by decide) (by decide)⟩⟩
theorem same_cells {m x : Msg} (h : m.same x = true) : m.cells = x.cells := by
  obtain ⟨h1, h2⟩ := same_iff.mp h
  unfold Msg.cells
  rw [h1, h2 0 (by decide) (by decide), h2 1 (by decide) (by decide), h2 2 (by decide) (by decide), h2 4 (by decide) (by decide), h2 5 (by decide) (by decide), h2 6 (by decide) (by decide), h2 7 (by decide) (by decide), h2 8 (by decide) (by decide), h2 9 (by decide) (by decide), h2 10 (by decide) (by decide), h2 11 (by decide) (by decide), h2 12 (by decide) (by decide), h2 13 (by decide) (by decide), h2 14 (by decide) (by decide), h2 15 (by decide) (by decide), h2 16 (by decide) (by decide), h2 17 (by decide) (by decide), h2 18 (by decide) (by decide), h2 19 (by decide) (by decide), h2 20 (by decide) (by decide), h2 21 (by decide) (by decide), h2 22 (by decide) (by decide), h2 23 (by decide) (by decide), h2 24 (by decide) (by decide), h2 25 (by decide) (by decide)]
theorem vs_cells {m : Msg} : isVs m.cells = True := eq_true (by unfold Msg.cells; simp only [isVs_int', isVs_string', isVs_nil])
theorem MX : type_of% (And.intro (@vs_cells) (And.intro (@mO_all) (And.intro (@cells_toList) (And.intro (@cells_size) (And.intro (@setPan_c) (And.intro (@setPan_pan) (And.intro (@set_pan) (And.intro (@set4_pan) (And.intro (@set_eq) (And.intro (@mO_g0) (And.intro (@mO_g1) (And.intro (@mO_g2) (And.intro (@mO_g3) (And.intro (@mO_g4) (And.intro (@mO_g21) (And.intro (@mO_g5) (And.intro (@mO_g9) (And.intro (@mO_g13) (And.intro (@mO_g17) (And.intro (@mO_g22) (And.intro (@mO_p0) (And.intro (@mO_p1) (And.intro (@mO_p2) (And.intro (@mO_p4) (And.intro (@mO_p21) (And.intro (@mO_p3) (And.intro (@mO_q5) (And.intro (@mO_q9) (And.intro (@mO_q13) (And.intro (@mO_q17) (And.intro (@mO_q22) (And.intro (@mO_pAll) (And.intro (@mO_alloc) (And.intro (@mO_allocD) (And.intro (@mO_def) (And.intro (@mO_eq) (@mO_ne))))))))))))))))))))))))))))))))))))) := And.intro (@vs_cells) (And.intro (@mO_all) (And.intro (@cells_toList) (And.intro (@cells_size) (And.intro (@setPan_c) (And.intro (@setPan_pan) (And.intro (@set_pan) (And.intro (@set4_pan) (And.intro (@set_eq) (And.intro (@mO_g0) (And.intro (@mO_g1) (And.intro (@mO_g2) (And.intro (@mO_g3) (And.intro (@mO_g4) (And.intro (@mO_g21) (And.intro (@mO_g5) (And.intro (@mO_g9) (And.intro (@mO_g13) (And.intro (@mO_g17) (And.intro (@mO_g22) (And.intro (@mO_p0) (And.intro (@mO_p1) (And.intro (@mO_p2) (And.intro (@mO_p4) (And.intro (@mO_p21) (And.intro (@mO_p3) (And.intro (@mO_q5) (And.intro (@mO_q9) (And.intro (@mO_q13) (And.intro (@mO_q17) (And.intro (@mO_q22) (And.intro (@mO_pAll) (And.intro (@mO_alloc) (And.intro (@mO_allocD) (And.intro (@mO_def) (And.intro (@mO_eq) (@mO_ne))))))))))))))))))))))))))))))))))))
end Go.B.YteigefgobkdmgaaDoor
/- Which messages are right, as the code tells it. -/
namespace Go.B.YteigefgobkdmgaaDoor
open Go Go.B Go.Proofs
set_option maxRecDepth 100000
set_option maxHeartbeats 16000000
set_option linter.unusedSimpArgs false
set_option linter.unusedVariables false
def Msg.n4 (m : Msg) (j : Nat) : N4 := ⟨m.c j, m.c (j + 1), m.c (j + 2), m.c (j + 3)⟩
/-- May a message be? -/
def Msg.right (m : Msg) : Bool :=
  decide (1 ≤ m.c 0 ∧ m.c 0 ≤ 7) && (m.same m.parts && (decide (m.c 2 ≤ 999999 ∧ 0 ≤ m.c 4 ∧ m.c 4 ≤ 1000000) && ((!decide (m.c 0 = 1) || panOk m.pan) && ([m.n4 5, m.n4 9, m.n4 22].all (N4.within 10000) && ([m.n4 13, m.n4 17].all (N4.within 2147483647) && decide (0 ≤ m.c 21 ∧ m.c 21 ≤ 1000000))))))
theorem kindS_nil (k : Int) : (kindS k = S []) ↔ ¬ (1 ≤ k ∧ k ≤ 7) := by
  constructor
  · intro h hk
    have h := S_inj h
    rcases (show k = 1 ∨ k = 2 ∨ k = 3 ∨ k = 4 ∨ k = 5 ∨ k = 6 ∨ k = 7 by omega) with rfl | rfl | rfl | rfl | rfl | rfl | rfl <;> exact absurd h (by decide)
  · intro hk
    simp only [kindS, kindL, if_neg (show ¬ k = 1 by omega), if_neg (show ¬ k = 2 by omega), if_neg (show ¬ k = 3 by omega), if_neg (show ¬ k = 4 by omega), if_neg (show ¬ k = 5 by omega), if_neg (show ¬ k = 6 by omega), if_neg (show ¬ k = 7 by omega)]
theorem isV_cells {m : Msg} : isV (.agg m.cells.toArray) := by rw [isV_agg', vs_cells]; trivial
theorem ndc_Right (m : Msg) (H : Heap) (ok : Ok H) (hp : m.pan.size ≤ maxLen) : ∃ v H', Ca V 11 #[.agg m.cells.toArray] H v H' ∧ v = .bool m.right ∧ Same H H' [] := by
  have okn : ∀ a, H.next ≤ a → H.get a = none := ok
  refine Ca_run rfl tab_11 rfl ?_
  simp (maxSteps := 5000000) (disch := omega) only [Tryd.f11, MX, V_P, SX, W_block, exitW, goInt, Int.reduceEq, setCells, oneOf, cellOk, reduceIte, Nat.reduceLT, Nat.reduceLeDiff, Nat.reduceEqDiff, Nat.reduceAdd, Nat.reduceSub, Nat.reduceMul, Int.reduceToNat, Int.reduceLT, Int.reduceLE, Int.reduceAdd, Int.reduceSub, implies_true, ne_eq, if_true, if_false, reduceCtorEq]
  refine W_drawR [[], [0], [1, 0], [2, 1, 0], [3, 2, 1, 0], [4, 3, 2, 1, 0], [4, 3, 2, 1, 0], [6, 4, 3, 2, 1, 0], [5, 4, 3, 2, 1, 0, 7, 6], [4, 3, 2, 1, 0, 8, 5, 7, 6], [9, 4, 3, 2, 1, 0, 8, 5, 7, 6], [10, 9, 4, 3, 2, 1, 0, 8, 5, 7, 6], [11, 10, 9, 4, 3, 2, 1, 0, 8, 5, 7, 6], [12, 11, 10, 9, 4, 3, 2, 1, 0, 8, 5, 7, 6], [10, 9, 4, 3, 2, 1, 0, 8, 5, 7, 6, 13, 12, 11], [14, 10, 9, 4, 3, 2, 1, 0, 8, 5, 7, 6, 13, 12, 11], [15, 14, 10, 9, 4, 3, 2, 1, 0, 8, 5, 7, 6, 13, 12, 11], [16, 15, 14, 10, 9, 4, 3, 2, 1, 0, 8, 5, 7, 6, 13, 12, 11], [17, 16, 15, 14, 10, 9, 4, 3, 2, 1, 0, 8, 5, 7, 6, 13, 12, 11], [15, 14, 10, 9, 4, 3, 2, 1, 0, 8, 5, 7, 6, 13, 12, 11, 18, 17, 16], [19, 15, 14, 10, 9, 4, 3, 2, 1, 0, 8, 5, 7, 6, 13, 12, 11, 18, 17, 16], [20, 19, 15, 14, 10, 9, 4, 3, 2, 1, 0, 8, 5, 7, 6, 13, 12, 11, 18, 17, 16], [21, 20, 19, 15, 14, 10, 9, 4, 3, 2, 1, 0, 8, 5, 7, 6, 13, 12, 11, 18, 17, 16], [22, 21, 20, 19, 15, 14, 10, 9, 4, 3, 2, 1, 0, 8, 5, 7, 6, 13, 12, 11, 18, 17, 16], [20, 19, 15, 14, 10, 9, 4, 3, 2, 1, 0, 8, 5, 7, 6, 13, 12, 11, 18, 17, 16, 23, 22, 21], [24, 20, 19, 15, 14, 10, 9, 4, 3, 2, 1, 0, 8, 5, 7, 6, 13, 12, 11, 18, 17, 16, 23, 22, 21]] [0, 1, 2, 3, 4, 6, 7, 5, 8, 9, 10, 11, 12, 13, 14, 15, 16, 17, 18, 19, 20, 21, 22, 23, 24, 25] (by decide +kernel) (by repeat (first | exact ok | refine Ok.push ?_ _ | refine Ok.room ?_ _ | (refine Ok.put ?_ _ (by simp (disch := omega) only [Heap.get_pushH, Heap.get_setH, hite_same, hite_ne, hite_eq, Heap.get_room, Heap.next_push, Heap.next_set, Heap.next_room, Option.isSome_some, *])))) ?_
  simp (maxSteps := 5000000) (disch := omega) only [MX, okn, V_P, SX, W_block, exitW, goInt, Int.reduceEq, setCells, oneOf, cellOk, reduceIte, Nat.reduceLT, Nat.reduceLeDiff, Nat.reduceEqDiff, Nat.reduceAdd, Nat.reduceSub, Nat.reduceMul, Int.reduceToNat, Int.reduceLT, Int.reduceLE, Int.reduceAdd, Int.reduceSub, implies_true, ne_eq, if_true, if_false, reduceCtorEq, DX, Nat.reduceBEq]
  refine DOpd_callR (by decide) rfl (by simp (maxSteps := 5000000) (disch := omega) only [MX, okn, V_P, SX, W_block, exitW, goInt, Int.reduceEq, setCells, oneOf, cellOk, reduceIte, Nat.reduceLT, Nat.reduceLeDiff, Nat.reduceEqDiff, Nat.reduceAdd, Nat.reduceSub, Nat.reduceMul, Int.reduceToNat, Int.reduceLT, Int.reduceLE, Int.reduceAdd, Int.reduceSub, implies_true, ne_eq, if_true, if_false, reduceCtorEq, DX, Nat.reduceBEq]) (ndc_kind (m.c 0) _) ?_
  rintro v H1 ⟨rfl, rfl⟩
  refine ⟨isV_string, KeepB.refl, ?_⟩
  simp (maxSteps := 5000000) (disch := omega) only [MX, okn, V_P, SX, W_block, exitW, goInt, Int.reduceEq, setCells, oneOf, cellOk, reduceIte, Nat.reduceLT, Nat.reduceLeDiff, Nat.reduceEqDiff, Nat.reduceAdd, Nat.reduceSub, Nat.reduceMul, Int.reduceToNat, Int.reduceLT, Int.reduceLE, Int.reduceAdd, Int.reduceSub, implies_true, ne_eq, if_true, if_false, reduceCtorEq, DX, Nat.reduceBEq]
  repeat' (first
    | (refine gW_dec (fun h => ?_) (fun h => ?_) <;> simp (maxSteps := 5000000) (disch := omega) only [h, MX, okn, V_P, SX, W_block, exitW, goInt, Int.reduceEq, setCells, oneOf, cellOk, reduceIte, Nat.reduceLT, Nat.reduceLeDiff, Nat.reduceEqDiff, Nat.reduceAdd, Nat.reduceSub, Nat.reduceMul, Int.reduceToNat, Int.reduceLT, Int.reduceLE, Int.reduceAdd, Int.reduceSub, implies_true, ne_eq, if_true, if_false, reduceCtorEq, DX, Nat.reduceBEq])
    | (refine cW_dec (fun h => ?_) (fun h => ?_) <;> simp (maxSteps := 5000000) (disch := omega) only [h, MX, okn, V_P, SX, W_block, exitW, goInt, Int.reduceEq, setCells, oneOf, cellOk, reduceIte, Nat.reduceLT, Nat.reduceLeDiff, Nat.reduceEqDiff, Nat.reduceAdd, Nat.reduceSub, Nat.reduceMul, Int.reduceToNat, Int.reduceLT, Int.reduceLE, Int.reduceAdd, Int.reduceSub, implies_true, ne_eq, if_true, if_false, reduceCtorEq, DX, Nat.reduceBEq])
    | (refine gW_bool (fun h => ?_) (fun h => ?_) <;> simp (maxSteps := 5000000) (disch := omega) only [h, MX, okn, V_P, SX, W_block, exitW, goInt, Int.reduceEq, setCells, oneOf, cellOk, reduceIte, Nat.reduceLT, Nat.reduceLeDiff, Nat.reduceEqDiff, Nat.reduceAdd, Nat.reduceSub, Nat.reduceMul, Int.reduceToNat, Int.reduceLT, Int.reduceLE, Int.reduceAdd, Int.reduceSub, implies_true, ne_eq, if_true, if_false, reduceCtorEq, DX, Nat.reduceBEq])
    | (refine cW_bool (fun h => ?_) (fun h => ?_) <;> simp (maxSteps := 5000000) (disch := omega) only [h, MX, okn, V_P, SX, W_block, exitW, goInt, Int.reduceEq, setCells, oneOf, cellOk, reduceIte, Nat.reduceLT, Nat.reduceLeDiff, Nat.reduceEqDiff, Nat.reduceAdd, Nat.reduceSub, Nat.reduceMul, Int.reduceToNat, Int.reduceLT, Int.reduceLE, Int.reduceAdd, Int.reduceSub, implies_true, ne_eq, if_true, if_false, reduceCtorEq, DX, Nat.reduceBEq])
    | (refine gD_dec (fun h => ?_) (fun h => ?_) <;> simp (maxSteps := 5000000) (disch := omega) only [h, MX, okn, V_P, SX, W_block, exitW, goInt, Int.reduceEq, setCells, oneOf, cellOk, reduceIte, Nat.reduceLT, Nat.reduceLeDiff, Nat.reduceEqDiff, Nat.reduceAdd, Nat.reduceSub, Nat.reduceMul, Int.reduceToNat, Int.reduceLT, Int.reduceLE, Int.reduceAdd, Int.reduceSub, implies_true, ne_eq, if_true, if_false, reduceCtorEq, DX, Nat.reduceBEq]))
  · refine ⟨?_, by repeat (first | exact Same.same ok | refine Same.push ?_ _ | refine Same.room ?_ _ | (refine Same.make ?_ (by (try simp only [Heap.next_push, Heap.next_set, Heap.next_room]); omega) (by (try simp only [Heap.next_push, Heap.next_set, Heap.next_room]); omega)) | (refine Same.put ?_ (by simp (disch := omega) only [Heap.get_pushH, Heap.get_setH, hite_same, hite_ne, hite_eq, Heap.get_room, Heap.next_push, Heap.next_set, Heap.next_room, Option.isSome_some, *]) (fun z => by first | (simp; done) | (exfalso; (try simp only [Heap.next_push, Heap.next_set, Heap.next_room] at z); omega))))⟩
    have hk := (kindS_nil (m.c 0)).mp h
    have : m.right = false := by unfold Msg.right; rw [decide_eq_false hk]; rfl
    rw [this]
  have hk : 1 ≤ m.c 0 ∧ m.c 0 ≤ 7 := Decidable.not_not.mp (fun z => h ((kindS_nil (m.c 0)).mpr z))
  refine DOpd_callR (by decide) rfl (by simp (maxSteps := 5000000) (disch := omega) only [MX, okn, V_P, SX, W_block, exitW, goInt, Int.reduceEq, setCells, oneOf, cellOk, reduceIte, Nat.reduceLT, Nat.reduceLeDiff, Nat.reduceEqDiff, Nat.reduceAdd, Nat.reduceSub, Nat.reduceMul, Int.reduceToNat, Int.reduceLT, Int.reduceLE, Int.reduceAdd, Int.reduceSub, implies_true, ne_eq, if_true, if_false, reduceCtorEq, DX, Nat.reduceBEq]) (ndc_parts m _ (by repeat (first | exact ok | refine Ok.push ?_ _ | refine Ok.room ?_ _ | (refine Ok.put ?_ _ (by simp (disch := omega) only [Heap.get_pushH, Heap.get_setH, hite_same, hite_ne, hite_eq, Heap.get_room, Heap.next_push, Heap.next_set, Heap.next_room, Option.isSome_some, *]))))) ?_
  rintro v H1 ⟨rfl, hs⟩
  refine ⟨isV_cells, hs.keep (by simp only [Heap.next_push, Heap.next_room]; exact Nat.le_refl _), ?_⟩
  have h0 : H1.get H.next = some (mO m) := by
    rw [hs.get H.next (by simp only [Heap.next_push, Heap.next_room]; omega) (by simp)]
    simp only [Heap.get_room, Heap.get_pushH, hite_same]
  have hs0 : Same H H1 [] := (by repeat (first | exact Same.same ok | refine Same.push ?_ _ | refine Same.room ?_ _ | (refine Same.make ?_ (by (try simp only [Heap.next_push, Heap.next_set, Heap.next_room]); omega) (by (try simp only [Heap.next_push, Heap.next_set, Heap.next_room]); omega)) | (refine Same.put ?_ (by simp (disch := omega) only [Heap.get_pushH, Heap.get_setH, hite_same, hite_ne, hite_eq, Heap.get_room, Heap.next_push, Heap.next_set, Heap.next_room, Option.isSome_some, *]) (fun z => by first | (simp; done) | (exfalso; (try simp only [Heap.next_push, Heap.next_set, Heap.next_room] at z); omega)))) : Same H ((H.push (mO m)).room 26) []).trans hs (by simp)
  have hn1 : H.next + 1 ≤ H1.next := by have := hs.le; simp only [Heap.next_push, Heap.next_room] at this; omega
  cases hq : m.same m.parts
  · simp (maxSteps := 5000000) (disch := omega) only [MX, okn, h0, hq, V_P, SX, W_block, exitW, goInt, Int.reduceEq, setCells, oneOf, cellOk, reduceIte, Nat.reduceLT, Nat.reduceLeDiff, Nat.reduceEqDiff, Nat.reduceAdd, Nat.reduceSub, Nat.reduceMul, Int.reduceToNat, Int.reduceLT, Int.reduceLE, Int.reduceAdd, Int.reduceSub, implies_true, ne_eq, if_true, if_false, reduceCtorEq, DX, Nat.reduceBEq]
    refine ⟨?_, hs0⟩
    unfold Msg.right; rw [hq]; simp
  simp (maxSteps := 5000000) (disch := omega) only [MX, okn, h0, hq, V_P, SX, W_block, exitW, goInt, Int.reduceEq, setCells, oneOf, cellOk, reduceIte, Nat.reduceLT, Nat.reduceLeDiff, Nat.reduceEqDiff, Nat.reduceAdd, Nat.reduceSub, Nat.reduceMul, Int.reduceToNat, Int.reduceLT, Int.reduceLE, Int.reduceAdd, Int.reduceSub, implies_true, ne_eq, if_true, if_false, reduceCtorEq, DX, Nat.reduceBEq]
  repeat' (first
    | (refine gW_dec (fun h => ?_) (fun h => ?_) <;> simp (maxSteps := 5000000) (disch := omega) only [h, MX, okn, h0, hq, V_P, SX, W_block, exitW, goInt, Int.reduceEq, setCells, oneOf, cellOk, reduceIte, Nat.reduceLT, Nat.reduceLeDiff, Nat.reduceEqDiff, Nat.reduceAdd, Nat.reduceSub, Nat.reduceMul, Int.reduceToNat, Int.reduceLT, Int.reduceLE, Int.reduceAdd, Int.reduceSub, implies_true, ne_eq, if_true, if_false, reduceCtorEq, DX, Nat.reduceBEq])
    | (refine cW_dec (fun h => ?_) (fun h => ?_) <;> simp (maxSteps := 5000000) (disch := omega) only [h, MX, okn, h0, hq, V_P, SX, W_block, exitW, goInt, Int.reduceEq, setCells, oneOf, cellOk, reduceIte, Nat.reduceLT, Nat.reduceLeDiff, Nat.reduceEqDiff, Nat.reduceAdd, Nat.reduceSub, Nat.reduceMul, Int.reduceToNat, Int.reduceLT, Int.reduceLE, Int.reduceAdd, Int.reduceSub, implies_true, ne_eq, if_true, if_false, reduceCtorEq, DX, Nat.reduceBEq])
    | (refine gW_bool (fun h => ?_) (fun h => ?_) <;> simp (maxSteps := 5000000) (disch := omega) only [h, MX, okn, h0, hq, V_P, SX, W_block, exitW, goInt, Int.reduceEq, setCells, oneOf, cellOk, reduceIte, Nat.reduceLT, Nat.reduceLeDiff, Nat.reduceEqDiff, Nat.reduceAdd, Nat.reduceSub, Nat.reduceMul, Int.reduceToNat, Int.reduceLT, Int.reduceLE, Int.reduceAdd, Int.reduceSub, implies_true, ne_eq, if_true, if_false, reduceCtorEq, DX, Nat.reduceBEq])
    | (refine cW_bool (fun h => ?_) (fun h => ?_) <;> simp (maxSteps := 5000000) (disch := omega) only [h, MX, okn, h0, hq, V_P, SX, W_block, exitW, goInt, Int.reduceEq, setCells, oneOf, cellOk, reduceIte, Nat.reduceLT, Nat.reduceLeDiff, Nat.reduceEqDiff, Nat.reduceAdd, Nat.reduceSub, Nat.reduceMul, Int.reduceToNat, Int.reduceLT, Int.reduceLE, Int.reduceAdd, Int.reduceSub, implies_true, ne_eq, if_true, if_false, reduceCtorEq, DX, Nat.reduceBEq])
    | (refine gD_dec (fun h => ?_) (fun h => ?_) <;> simp (maxSteps := 5000000) (disch := omega) only [h, MX, okn, h0, hq, V_P, SX, W_block, exitW, goInt, Int.reduceEq, setCells, oneOf, cellOk, reduceIte, Nat.reduceLT, Nat.reduceLeDiff, Nat.reduceEqDiff, Nat.reduceAdd, Nat.reduceSub, Nat.reduceMul, Int.reduceToNat, Int.reduceLT, Int.reduceLE, Int.reduceAdd, Int.reduceSub, implies_true, ne_eq, if_true, if_false, reduceCtorEq, DX, Nat.reduceBEq]))
  · refine ⟨?_, hs0⟩
    unfold Msg.right; rw [decide_eq_false (p := m.c 2 ≤ 999999 ∧ _) (by omega)]; simp
  · refine ⟨?_, hs0⟩
    unfold Msg.right; rw [decide_eq_false (p := m.c 2 ≤ 999999 ∧ _) (by omega)]; simp
  · refine ⟨?_, hs0⟩
    unfold Msg.right; rw [decide_eq_false (p := m.c 2 ≤ 999999 ∧ _) (by omega)]; simp
  · refine ⟨?_, hs0⟩
    have : (!decide (m.c 0 = 1) || panOk m.pan) = false := by unfold panOk; simp; omega
    unfold Msg.right; rw [this]; simp
  · refine ⟨?_, hs0⟩
    have : (!decide (m.c 0 = 1) || panOk m.pan) = false := by unfold panOk; simp; omega
    unfold Msg.right; rw [this]; simp
  · refine W_callR rfl (by simp (maxSteps := 5000000) (disch := omega) only [MX, h0, V_P, SX, W_block, exitW, goInt, Int.reduceEq, setCells, oneOf, cellOk, reduceIte, Nat.reduceLT, Nat.reduceLeDiff, Nat.reduceEqDiff, Nat.reduceAdd, Nat.reduceSub, Nat.reduceMul, Int.reduceToNat, Int.reduceLT, Int.reduceLE, Int.reduceAdd, Int.reduceSub, implies_true, ne_eq, if_true, if_false, reduceCtorEq]) (frame_Digits m.pan H1 hp) ?_
    rintro v H2 ⟨rfl, e2⟩
    obtain rfl := e2.symm
    cases hd : digs m.pan
    · simp (maxSteps := 5000000) (disch := omega) only [MX, okn, h0, hq, hd, V_P, SX, W_block, exitW, goInt, Int.reduceEq, setCells, oneOf, cellOk, reduceIte, Nat.reduceLT, Nat.reduceLeDiff, Nat.reduceEqDiff, Nat.reduceAdd, Nat.reduceSub, Nat.reduceMul, Int.reduceToNat, Int.reduceLT, Int.reduceLE, Int.reduceAdd, Int.reduceSub, implies_true, ne_eq, if_true, if_false, reduceCtorEq]
      refine ⟨?_, hs0⟩
      have : (!decide (m.c 0 = 1) || panOk m.pan) = false := by unfold panOk; rw [hd]; simp; omega
      unfold Msg.right; rw [this]; simp
    have hpan : (!decide (m.c 0 = 1) || panOk m.pan) = true := by unfold panOk; rw [hd]; simp; omega
    simp (maxSteps := 5000000) (disch := omega) only [MX, okn, h0, hq, hd, V_P, SX, W_block, exitW, goInt, Int.reduceEq, setCells, oneOf, cellOk, reduceIte, Nat.reduceLT, Nat.reduceLeDiff, Nat.reduceEqDiff, Nat.reduceAdd, Nat.reduceSub, Nat.reduceMul, Int.reduceToNat, Int.reduceLT, Int.reduceLE, Int.reduceAdd, Int.reduceSub, implies_true, ne_eq, if_true, if_false, reduceCtorEq]
    refine W_callR rfl (by simp (maxSteps := 5000000) (disch := omega) only [MX, okn, h0, hq, V_P, SX, W_block, exitW, goInt, Int.reduceEq, setCells, oneOf, cellOk, reduceIte, Nat.reduceLT, Nat.reduceLeDiff, Nat.reduceEqDiff, Nat.reduceAdd, Nat.reduceSub, Nat.reduceMul, Int.reduceToNat, Int.reduceLT, Int.reduceLE, Int.reduceAdd, Int.reduceSub, implies_true, ne_eq, if_true, if_false, reduceCtorEq]) (ndc_within 10000 [m.n4 5, m.n4 9, m.n4 22] _ (by repeat (first | exact hs0.ok | refine Ok.push ?_ _ | refine Ok.room ?_ _ | (refine Ok.put ?_ _ (by simp (disch := omega) only [Heap.get_pushH, Heap.get_setH, hite_same, hite_ne, hite_eq, Heap.get_room, Heap.next_push, Heap.next_set, Heap.next_room, Option.isSome_some, *])))) H1.next 3 false (by simp only [Heap.get_pushH, hite_same]; rfl) (by simp)) ?_
    rintro v H2 ⟨rfl, hs2⟩
    have h2 : H2.get H.next = some (mO m) := by
      rw [hs2.get H.next (by simp only [Heap.next_push]; omega) (by simp), Heap.get_push, if_neg (by omega), h0]
    have hs3 : Same H H2 [] := (hs0.push _).trans hs2 (by simp)
    have hn2 := hs2.le
    simp only [Heap.next_push] at hn2
    cases hw : [m.n4 5, m.n4 9, m.n4 22].all (N4.within 10000)
    · simp (maxSteps := 5000000) (disch := omega) only [MX, okn, h0, hq, h2, hw, V_P, SX, W_block, exitW, goInt, Int.reduceEq, setCells, oneOf, cellOk, reduceIte, Nat.reduceLT, Nat.reduceLeDiff, Nat.reduceEqDiff, Nat.reduceAdd, Nat.reduceSub, Nat.reduceMul, Int.reduceToNat, Int.reduceLT, Int.reduceLE, Int.reduceAdd, Int.reduceSub, implies_true, ne_eq, if_true, if_false, reduceCtorEq]
      refine ⟨?_, hs3⟩
      unfold Msg.right; rw [hw]; simp
    simp (maxSteps := 5000000) (disch := omega) only [MX, okn, h0, hq, h2, hw, V_P, SX, W_block, exitW, goInt, Int.reduceEq, setCells, oneOf, cellOk, reduceIte, Nat.reduceLT, Nat.reduceLeDiff, Nat.reduceEqDiff, Nat.reduceAdd, Nat.reduceSub, Nat.reduceMul, Int.reduceToNat, Int.reduceLT, Int.reduceLE, Int.reduceAdd, Int.reduceSub, implies_true, ne_eq, if_true, if_false, reduceCtorEq]
    refine W_callR rfl (by simp (maxSteps := 5000000) (disch := omega) only [MX, okn, h0, hq, h2, hw, V_P, SX, W_block, exitW, goInt, Int.reduceEq, setCells, oneOf, cellOk, reduceIte, Nat.reduceLT, Nat.reduceLeDiff, Nat.reduceEqDiff, Nat.reduceAdd, Nat.reduceSub, Nat.reduceMul, Int.reduceToNat, Int.reduceLT, Int.reduceLE, Int.reduceAdd, Int.reduceSub, implies_true, ne_eq, if_true, if_false, reduceCtorEq]) (ndc_within 2147483647 [m.n4 13, m.n4 17] _ (by repeat (first | exact hs3.ok | refine Ok.push ?_ _ | refine Ok.room ?_ _ | (refine Ok.put ?_ _ (by simp (disch := omega) only [Heap.get_pushH, Heap.get_setH, hite_same, hite_ne, hite_eq, Heap.get_room, Heap.next_push, Heap.next_set, Heap.next_room, Option.isSome_some, *])))) H2.next 2 false (by simp only [Heap.get_pushH, hite_same]; rfl) (by simp)) ?_
    rintro v H3 ⟨rfl, hs4⟩
    have h3 : H3.get H.next = some (mO m) := by
      rw [hs4.get H.next (by simp only [Heap.next_push]; omega) (by simp), Heap.get_push, if_neg (by omega), h2]
    have hs5 : Same H H3 [] := (hs3.push _).trans hs4 (by simp)
    cases hv : [m.n4 13, m.n4 17].all (N4.within 2147483647)
    · simp (maxSteps := 5000000) (disch := omega) only [MX, okn, h0, hq, h3, hv, V_P, SX, W_block, exitW, goInt, Int.reduceEq, setCells, oneOf, cellOk, reduceIte, Nat.reduceLT, Nat.reduceLeDiff, Nat.reduceEqDiff, Nat.reduceAdd, Nat.reduceSub, Nat.reduceMul, Int.reduceToNat, Int.reduceLT, Int.reduceLE, Int.reduceAdd, Int.reduceSub, implies_true, ne_eq, if_true, if_false, reduceCtorEq]
      refine ⟨?_, hs5⟩
      unfold Msg.right; rw [hv]; simp
    simp (maxSteps := 5000000) (disch := omega) only [MX, okn, h0, hq, h3, hv, V_P, SX, W_block, exitW, goInt, Int.reduceEq, setCells, oneOf, cellOk, reduceIte, Nat.reduceLT, Nat.reduceLeDiff, Nat.reduceEqDiff, Nat.reduceAdd, Nat.reduceSub, Nat.reduceMul, Int.reduceToNat, Int.reduceLT, Int.reduceLE, Int.reduceAdd, Int.reduceSub, implies_true, ne_eq, if_true, if_false, reduceCtorEq]
    repeat' (first
    | (refine gW_dec (fun h => ?_) (fun h => ?_) <;> simp (maxSteps := 5000000) (disch := omega) only [h, MX, okn, h0, hq, h3, hv, V_P, SX, W_block, exitW, goInt, Int.reduceEq, setCells, oneOf, cellOk, reduceIte, Nat.reduceLT, Nat.reduceLeDiff, Nat.reduceEqDiff, Nat.reduceAdd, Nat.reduceSub, Nat.reduceMul, Int.reduceToNat, Int.reduceLT, Int.reduceLE, Int.reduceAdd, Int.reduceSub, implies_true, ne_eq, if_true, if_false, reduceCtorEq])
    | (refine cW_dec (fun h => ?_) (fun h => ?_) <;> simp (maxSteps := 5000000) (disch := omega) only [h, MX, okn, h0, hq, h3, hv, V_P, SX, W_block, exitW, goInt, Int.reduceEq, setCells, oneOf, cellOk, reduceIte, Nat.reduceLT, Nat.reduceLeDiff, Nat.reduceEqDiff, Nat.reduceAdd, Nat.reduceSub, Nat.reduceMul, Int.reduceToNat, Int.reduceLT, Int.reduceLE, Int.reduceAdd, Int.reduceSub, implies_true, ne_eq, if_true, if_false, reduceCtorEq])
    | (refine gW_bool (fun h => ?_) (fun h => ?_) <;> simp (maxSteps := 5000000) (disch := omega) only [h, MX, okn, h0, hq, h3, hv, V_P, SX, W_block, exitW, goInt, Int.reduceEq, setCells, oneOf, cellOk, reduceIte, Nat.reduceLT, Nat.reduceLeDiff, Nat.reduceEqDiff, Nat.reduceAdd, Nat.reduceSub, Nat.reduceMul, Int.reduceToNat, Int.reduceLT, Int.reduceLE, Int.reduceAdd, Int.reduceSub, implies_true, ne_eq, if_true, if_false, reduceCtorEq])
    | (refine cW_bool (fun h => ?_) (fun h => ?_) <;> simp (maxSteps := 5000000) (disch := omega) only [h, MX, okn, h0, hq, h3, hv, V_P, SX, W_block, exitW, goInt, Int.reduceEq, setCells, oneOf, cellOk, reduceIte, Nat.reduceLT, Nat.reduceLeDiff, Nat.reduceEqDiff, Nat.reduceAdd, Nat.reduceSub, Nat.reduceMul, Int.reduceToNat, Int.reduceLT, Int.reduceLE, Int.reduceAdd, Int.reduceSub, implies_true, ne_eq, if_true, if_false, reduceCtorEq]))
    all_goals (refine ⟨?_, hs5⟩; unfold Msg.right; rw [hq, hw, hv, hpan]; congr 1; rw [Bool.eq_iff_iff]; simp; omega)
  · have hpan : (!decide (m.c 0 = 1) || panOk m.pan) = true := by simp; omega

    refine W_callR rfl (by simp (maxSteps := 5000000) (disch := omega) only [MX, okn, h0, hq, V_P, SX, W_block, exitW, goInt, Int.reduceEq, setCells, oneOf, cellOk, reduceIte, Nat.reduceLT, Nat.reduceLeDiff, Nat.reduceEqDiff, Nat.reduceAdd, Nat.reduceSub, Nat.reduceMul, Int.reduceToNat, Int.reduceLT, Int.reduceLE, Int.reduceAdd, Int.reduceSub, implies_true, ne_eq, if_true, if_false, reduceCtorEq]) (ndc_within 10000 [m.n4 5, m.n4 9, m.n4 22] _ (by repeat (first | exact hs0.ok | refine Ok.push ?_ _ | refine Ok.room ?_ _ | (refine Ok.put ?_ _ (by simp (disch := omega) only [Heap.get_pushH, Heap.get_setH, hite_same, hite_ne, hite_eq, Heap.get_room, Heap.next_push, Heap.next_set, Heap.next_room, Option.isSome_some, *])))) H1.next 3 false (by simp only [Heap.get_pushH, hite_same]; rfl) (by simp)) ?_
    rintro v H2 ⟨rfl, hs2⟩
    have h2 : H2.get H.next = some (mO m) := by
      rw [hs2.get H.next (by simp only [Heap.next_push]; omega) (by simp), Heap.get_push, if_neg (by omega), h0]
    have hs3 : Same H H2 [] := (hs0.push _).trans hs2 (by simp)
    have hn2 := hs2.le
    simp only [Heap.next_push] at hn2
    cases hw : [m.n4 5, m.n4 9, m.n4 22].all (N4.within 10000)
    · simp (maxSteps := 5000000) (disch := omega) only [MX, okn, h0, hq, h2, hw, V_P, SX, W_block, exitW, goInt, Int.reduceEq, setCells, oneOf, cellOk, reduceIte, Nat.reduceLT, Nat.reduceLeDiff, Nat.reduceEqDiff, Nat.reduceAdd, Nat.reduceSub, Nat.reduceMul, Int.reduceToNat, Int.reduceLT, Int.reduceLE, Int.reduceAdd, Int.reduceSub, implies_true, ne_eq, if_true, if_false, reduceCtorEq]
      refine ⟨?_, hs3⟩
      unfold Msg.right; rw [hw]; simp
    simp (maxSteps := 5000000) (disch := omega) only [MX, okn, h0, hq, h2, hw, V_P, SX, W_block, exitW, goInt, Int.reduceEq, setCells, oneOf, cellOk, reduceIte, Nat.reduceLT, Nat.reduceLeDiff, Nat.reduceEqDiff, Nat.reduceAdd, Nat.reduceSub, Nat.reduceMul, Int.reduceToNat, Int.reduceLT, Int.reduceLE, Int.reduceAdd, Int.reduceSub, implies_true, ne_eq, if_true, if_false, reduceCtorEq]
    refine W_callR rfl (by simp (maxSteps := 5000000) (disch := omega) only [MX, okn, h0, hq, h2, hw, V_P, SX, W_block, exitW, goInt, Int.reduceEq, setCells, oneOf, cellOk, reduceIte, Nat.reduceLT, Nat.reduceLeDiff, Nat.reduceEqDiff, Nat.reduceAdd, Nat.reduceSub, Nat.reduceMul, Int.reduceToNat, Int.reduceLT, Int.reduceLE, Int.reduceAdd, Int.reduceSub, implies_true, ne_eq, if_true, if_false, reduceCtorEq]) (ndc_within 2147483647 [m.n4 13, m.n4 17] _ (by repeat (first | exact hs3.ok | refine Ok.push ?_ _ | refine Ok.room ?_ _ | (refine Ok.put ?_ _ (by simp (disch := omega) only [Heap.get_pushH, Heap.get_setH, hite_same, hite_ne, hite_eq, Heap.get_room, Heap.next_push, Heap.next_set, Heap.next_room, Option.isSome_some, *])))) H2.next 2 false (by simp only [Heap.get_pushH, hite_same]; rfl) (by simp)) ?_
    rintro v H3 ⟨rfl, hs4⟩
    have h3 : H3.get H.next = some (mO m) := by
      rw [hs4.get H.next (by simp only [Heap.next_push]; omega) (by simp), Heap.get_push, if_neg (by omega), h2]
    have hs5 : Same H H3 [] := (hs3.push _).trans hs4 (by simp)
    cases hv : [m.n4 13, m.n4 17].all (N4.within 2147483647)
    · simp (maxSteps := 5000000) (disch := omega) only [MX, okn, h0, hq, h3, hv, V_P, SX, W_block, exitW, goInt, Int.reduceEq, setCells, oneOf, cellOk, reduceIte, Nat.reduceLT, Nat.reduceLeDiff, Nat.reduceEqDiff, Nat.reduceAdd, Nat.reduceSub, Nat.reduceMul, Int.reduceToNat, Int.reduceLT, Int.reduceLE, Int.reduceAdd, Int.reduceSub, implies_true, ne_eq, if_true, if_false, reduceCtorEq]
      refine ⟨?_, hs5⟩
      unfold Msg.right; rw [hv]; simp
    simp (maxSteps := 5000000) (disch := omega) only [MX, okn, h0, hq, h3, hv, V_P, SX, W_block, exitW, goInt, Int.reduceEq, setCells, oneOf, cellOk, reduceIte, Nat.reduceLT, Nat.reduceLeDiff, Nat.reduceEqDiff, Nat.reduceAdd, Nat.reduceSub, Nat.reduceMul, Int.reduceToNat, Int.reduceLT, Int.reduceLE, Int.reduceAdd, Int.reduceSub, implies_true, ne_eq, if_true, if_false, reduceCtorEq]
    repeat' (first
    | (refine gW_dec (fun h => ?_) (fun h => ?_) <;> simp (maxSteps := 5000000) (disch := omega) only [h, MX, okn, h0, hq, h3, hv, V_P, SX, W_block, exitW, goInt, Int.reduceEq, setCells, oneOf, cellOk, reduceIte, Nat.reduceLT, Nat.reduceLeDiff, Nat.reduceEqDiff, Nat.reduceAdd, Nat.reduceSub, Nat.reduceMul, Int.reduceToNat, Int.reduceLT, Int.reduceLE, Int.reduceAdd, Int.reduceSub, implies_true, ne_eq, if_true, if_false, reduceCtorEq])
    | (refine cW_dec (fun h => ?_) (fun h => ?_) <;> simp (maxSteps := 5000000) (disch := omega) only [h, MX, okn, h0, hq, h3, hv, V_P, SX, W_block, exitW, goInt, Int.reduceEq, setCells, oneOf, cellOk, reduceIte, Nat.reduceLT, Nat.reduceLeDiff, Nat.reduceEqDiff, Nat.reduceAdd, Nat.reduceSub, Nat.reduceMul, Int.reduceToNat, Int.reduceLT, Int.reduceLE, Int.reduceAdd, Int.reduceSub, implies_true, ne_eq, if_true, if_false, reduceCtorEq])
    | (refine gW_bool (fun h => ?_) (fun h => ?_) <;> simp (maxSteps := 5000000) (disch := omega) only [h, MX, okn, h0, hq, h3, hv, V_P, SX, W_block, exitW, goInt, Int.reduceEq, setCells, oneOf, cellOk, reduceIte, Nat.reduceLT, Nat.reduceLeDiff, Nat.reduceEqDiff, Nat.reduceAdd, Nat.reduceSub, Nat.reduceMul, Int.reduceToNat, Int.reduceLT, Int.reduceLE, Int.reduceAdd, Int.reduceSub, implies_true, ne_eq, if_true, if_false, reduceCtorEq])
    | (refine cW_bool (fun h => ?_) (fun h => ?_) <;> simp (maxSteps := 5000000) (disch := omega) only [h, MX, okn, h0, hq, h3, hv, V_P, SX, W_block, exitW, goInt, Int.reduceEq, setCells, oneOf, cellOk, reduceIte, Nat.reduceLT, Nat.reduceLeDiff, Nat.reduceEqDiff, Nat.reduceAdd, Nat.reduceSub, Nat.reduceMul, Int.reduceToNat, Int.reduceLT, Int.reduceLE, Int.reduceAdd, Int.reduceSub, implies_true, ne_eq, if_true, if_false, reduceCtorEq]))
    all_goals (refine ⟨?_, hs5⟩; unfold Msg.right; rw [hq, hw, hv, hpan]; congr 1; rw [Bool.eq_iff_iff]; simp; omega)
end Go.B.YteigefgobkdmgaaDoor
/- Which messages are right, as the document tells it: its letters. -/
namespace Go.B.YteigefgobkdmgaaDoor
open Go Go.B Go.Proofs
set_option maxRecDepth 100000
set_option maxHeartbeats 16000000
set_option linter.unusedSimpArgs false
set_option linter.unusedVariables false
def letL (k : Int) : List UInt8 := if k = 1 then [116, 115, 112, 97] else if k = 2 then [116, 115, 110, 114] else if k = 3 then [116] else if k = 4 then [116, 115, 110, 114, 99, 100, 108, 109] else if k = 5 then [116, 115, 97, 110] else if k = 6 then [116, 115] else if k = 7 then [116, 115] else []
theorem ref_parts (k : Int) (H : Heap) : ∃ v H', Ca V 24 #[.int .i64 k] H v H' ∧ v = .tuple #[.string (kindS k), .string (S (letL k)), .bool (decide (1 ≤ k ∧ k ≤ 7))] ∧ H' = H := by
  refine Ca_run rfl tab_24 rfl ?_
  simp (maxSteps := 5000000) (disch := omega) only [Tryd.f24, V_P, SX, W_block, exitW, goInt, Int.reduceEq, setCells, oneOf, cellOk, reduceIte, Nat.reduceLT, Nat.reduceLeDiff, Nat.reduceEqDiff, Nat.reduceAdd, Nat.reduceSub, Nat.reduceMul, Int.reduceToNat, Int.reduceLT, Int.reduceLE, Int.reduceAdd, Int.reduceSub, implies_true, ne_eq, if_true, if_false, reduceCtorEq]
  repeat' (first
    | (refine gW_dec (fun h => ?_) (fun h => ?_) <;> simp (maxSteps := 5000000) (disch := omega) only [h, V_P, SX, W_block, exitW, goInt, Int.reduceEq, setCells, oneOf, cellOk, reduceIte, Nat.reduceLT, Nat.reduceLeDiff, Nat.reduceEqDiff, Nat.reduceAdd, Nat.reduceSub, Nat.reduceMul, Int.reduceToNat, Int.reduceLT, Int.reduceLE, Int.reduceAdd, Int.reduceSub, implies_true, ne_eq, if_true, if_false, reduceCtorEq])
    | (refine cW_dec (fun h => ?_) (fun h => ?_) <;> simp (maxSteps := 5000000) (disch := omega) only [h, V_P, SX, W_block, exitW, goInt, Int.reduceEq, setCells, oneOf, cellOk, reduceIte, Nat.reduceLT, Nat.reduceLeDiff, Nat.reduceEqDiff, Nat.reduceAdd, Nat.reduceSub, Nat.reduceMul, Int.reduceToNat, Int.reduceLT, Int.reduceLE, Int.reduceAdd, Int.reduceSub, implies_true, ne_eq, if_true, if_false, reduceCtorEq])
    | (refine gW_bool (fun h => ?_) (fun h => ?_) <;> simp (maxSteps := 5000000) (disch := omega) only [h, V_P, SX, W_block, exitW, goInt, Int.reduceEq, setCells, oneOf, cellOk, reduceIte, Nat.reduceLT, Nat.reduceLeDiff, Nat.reduceEqDiff, Nat.reduceAdd, Nat.reduceSub, Nat.reduceMul, Int.reduceToNat, Int.reduceLT, Int.reduceLE, Int.reduceAdd, Int.reduceSub, implies_true, ne_eq, if_true, if_false, reduceCtorEq])
    | (refine cW_bool (fun h => ?_) (fun h => ?_) <;> simp (maxSteps := 5000000) (disch := omega) only [h, V_P, SX, W_block, exitW, goInt, Int.reduceEq, setCells, oneOf, cellOk, reduceIte, Nat.reduceLT, Nat.reduceLeDiff, Nat.reduceEqDiff, Nat.reduceAdd, Nat.reduceSub, Nat.reduceMul, Int.reduceToNat, Int.reduceLT, Int.reduceLE, Int.reduceAdd, Int.reduceSub, implies_true, ne_eq, if_true, if_false, reduceCtorEq]))
  all_goals first
    | (subst k; rfl)
    | (have h1 : kindS k = S [] := (kindS_nil k).mpr (by omega)
       have h2 : letL k = [] := by simp only [letL, if_neg (show ¬ k = 1 by omega), if_neg (show ¬ k = 2 by omega), if_neg (show ¬ k = 3 by omega), if_neg (show ¬ k = 4 by omega), if_neg (show ¬ k = 5 by omega), if_neg (show ¬ k = 6 by omega), if_neg (show ¬ k = 7 by omega)]
       rw [h1, h2, decide_eq_false (by omega)])
def hasB (l : List UInt8) (c : Int) : Bool := l.any fun b => decide ((b.toNat : Int) = c)
theorem ref_has (l : List UInt8) (c : Int) (H : Heap) (hl : l.length ≤ maxLen) : ∃ v H', Ca V 31 #[.string (S l), .int .u8 c] H v H' ∧ v = .bool (hasB l c) ∧ H' = H := by
  have hl : (S l).size ≤ 9223372036854775807 := hl
  refine Ca_run rfl tab_31 rfl ?_
  generalize hs : S l = s at *
  have hU : l = U s := by rw [← hs]
  simp (maxSteps := 5000000) (disch := omega) only [Tryd.f31, V_P, SX, W_block, exitW, goInt, Int.reduceEq, setCells, oneOf, cellOk, reduceIte, Nat.reduceLT, Nat.reduceLeDiff, Nat.reduceEqDiff, Nat.reduceAdd, Nat.reduceSub, Nat.reduceMul, Int.reduceToNat, Int.reduceLT, Int.reduceLE, Int.reduceAdd, Int.reduceSub, implies_true, ne_eq, if_true, if_false, reduceCtorEq]
  refine W_for (fun (i : Nat) t H2 => H2 = H ∧ t.get 0 = some (.string s) ∧ t.get 1 = some (.int .u8 c) ∧ t.get 5 = some (.int .i64 i) ∧ i ≤ s.size ∧ (∀ j b, j < i → s[j]? = some b → (b.toNat : Int) ≠ c)) (fun i => s.size - i) 0 ?_ ?_
  · simp (maxSteps := 5000000) (disch := omega) only [V_P, SX, W_block, exitW, goInt, Int.reduceEq, setCells, oneOf, cellOk, reduceIte, Nat.reduceLT, Nat.reduceLeDiff, Nat.reduceEqDiff, Nat.reduceAdd, Nat.reduceSub, Nat.reduceMul, Int.reduceToNat, Int.reduceLT, Int.reduceLE, Int.reduceAdd, Int.reduceSub, implies_true, ne_eq, if_true, if_false, reduceCtorEq]
    exact ⟨rfl, Nat.zero_le _, fun j x h => absurd h (by omega)⟩
  rintro i t H2 ⟨rfl, g0, g1, g3, hi, hall⟩
  simp (maxSteps := 5000000) (disch := omega) only [g0, g1, g3, V_P, SX, W_block, exitW, goInt, Int.reduceEq, setCells, oneOf, cellOk, reduceIte, Nat.reduceLT, Nat.reduceLeDiff, Nat.reduceEqDiff, Nat.reduceAdd, Nat.reduceSub, Nat.reduceMul, Int.reduceToNat, Int.reduceLT, Int.reduceLE, Int.reduceAdd, Int.reduceSub, implies_true, ne_eq, if_true, if_false, reduceCtorEq]
  refine cW_dec (fun hlt => ?_) (fun hlt => ?_)
  · have hlt' : i < s.size := by omega
    have hb : s[i]? = some s[i] := getElem?_pos s i hlt'
    generalize s[i] = b at hb
    simp (maxSteps := 5000000) (disch := omega) only [g0, g1, g3, hb, V_P, SX, W_block, exitW, goInt, Int.reduceEq, setCells, oneOf, cellOk, reduceIte, Nat.reduceLT, Nat.reduceLeDiff, Nat.reduceEqDiff, Nat.reduceAdd, Nat.reduceSub, Nat.reduceMul, Int.reduceToNat, Int.reduceLT, Int.reduceLE, Int.reduceAdd, Int.reduceSub, implies_true, ne_eq, if_true, if_false, reduceCtorEq]
    repeat' (first
    | (refine gW_dec (fun h => ?_) (fun h => ?_) <;> simp (maxSteps := 5000000) (disch := omega) only [h, g0, g1, g3, hb, V_P, SX, W_block, exitW, goInt, Int.reduceEq, setCells, oneOf, cellOk, reduceIte, Nat.reduceLT, Nat.reduceLeDiff, Nat.reduceEqDiff, Nat.reduceAdd, Nat.reduceSub, Nat.reduceMul, Int.reduceToNat, Int.reduceLT, Int.reduceLE, Int.reduceAdd, Int.reduceSub, implies_true, ne_eq, if_true, if_false, reduceCtorEq])
    | (refine cW_dec (fun h => ?_) (fun h => ?_) <;> simp (maxSteps := 5000000) (disch := omega) only [h, g0, g1, g3, hb, V_P, SX, W_block, exitW, goInt, Int.reduceEq, setCells, oneOf, cellOk, reduceIte, Nat.reduceLT, Nat.reduceLeDiff, Nat.reduceEqDiff, Nat.reduceAdd, Nat.reduceSub, Nat.reduceMul, Int.reduceToNat, Int.reduceLT, Int.reduceLE, Int.reduceAdd, Int.reduceSub, implies_true, ne_eq, if_true, if_false, reduceCtorEq])
    | (refine gW_bool (fun h => ?_) (fun h => ?_) <;> simp (maxSteps := 5000000) (disch := omega) only [h, g0, g1, g3, hb, V_P, SX, W_block, exitW, goInt, Int.reduceEq, setCells, oneOf, cellOk, reduceIte, Nat.reduceLT, Nat.reduceLeDiff, Nat.reduceEqDiff, Nat.reduceAdd, Nat.reduceSub, Nat.reduceMul, Int.reduceToNat, Int.reduceLT, Int.reduceLE, Int.reduceAdd, Int.reduceSub, implies_true, ne_eq, if_true, if_false, reduceCtorEq])
    | (refine cW_bool (fun h => ?_) (fun h => ?_) <;> simp (maxSteps := 5000000) (disch := omega) only [h, g0, g1, g3, hb, V_P, SX, W_block, exitW, goInt, Int.reduceEq, setCells, oneOf, cellOk, reduceIte, Nat.reduceLT, Nat.reduceLeDiff, Nat.reduceEqDiff, Nat.reduceAdd, Nat.reduceSub, Nat.reduceMul, Int.reduceToNat, Int.reduceLT, Int.reduceLE, Int.reduceAdd, Int.reduceSub, implies_true, ne_eq, if_true, if_false, reduceCtorEq]))
    · have : hasB l c = true := by
        unfold hasB
        rw [List.any_eq_true]
        refine ⟨b, ?_, by simpa using ‹(b.toNat : Int) = c›⟩
        rw [hU]
        rw [getElem?_pos s i hlt'] at hb
        cases hb
        exact Array.getElem_mem_toList _
      rw [this]
    · refine ⟨i + 1, ⟨by simp, by omega, fun j d hj hd => ?_⟩, by omega⟩
      by_cases hji : j = i
      · subst hji; rw [hb] at hd; cases hd; assumption
      · exact hall j d (by omega) hd
  · simp (maxSteps := 5000000) (disch := omega) only [g0, g1, g3, V_P, SX, W_block, exitW, goInt, Int.reduceEq, setCells, oneOf, cellOk, reduceIte, Nat.reduceLT, Nat.reduceLeDiff, Nat.reduceEqDiff, Nat.reduceAdd, Nat.reduceSub, Nat.reduceMul, Int.reduceToNat, Int.reduceLT, Int.reduceLE, Int.reduceAdd, Int.reduceSub, implies_true, ne_eq, if_true, if_false, reduceCtorEq]
    have : hasB l c = false := by
      unfold hasB
      rw [List.any_eq_false]
      intro x hx
      rw [hU] at hx
      obtain ⟨j, hj, rfl⟩ := List.mem_iff_getElem.mp hx
      have hj' : j < s.size := by simpa using hj
      have := hall j s[j] (by omega) (getElem?_pos s j hj')
      simp only [decide_eq_true_eq]
      exact this
    rw [this]
theorem ref_within (n : N4) (most : Int) (H : Heap) (ok : Ok H) : ∃ v H', Ca V 33 #[.agg #[.int .i64 n.a, .int .i64 n.b, .int .i64 n.c, .int .i64 n.d], .int .i64 most] H v H' ∧ v = .bool (n.within most) ∧ Same H H' [] := by
  refine Ca_run rfl tab_33 rfl ?_
  simp (maxSteps := 5000000) (disch := omega) only [Tryd.f33, V_P, SX, W_block, exitW, goInt, Int.reduceEq, setCells, oneOf, cellOk, reduceIte, Nat.reduceLT, Nat.reduceLeDiff, Nat.reduceEqDiff, Nat.reduceAdd, Nat.reduceSub, Nat.reduceMul, Int.reduceToNat, Int.reduceLT, Int.reduceLE, Int.reduceAdd, Int.reduceSub, implies_true, ne_eq, if_true, if_false, reduceCtorEq]
  iterate 5
    all_goals (try refine W_unroll ?_)
    all_goals (try (simp (maxSteps := 5000000) (disch := omega) only [V_P, SX, W_block, exitW, goInt, Int.reduceEq, setCells, oneOf, cellOk, reduceIte, Nat.reduceLT, Nat.reduceLeDiff, Nat.reduceEqDiff, Nat.reduceAdd, Nat.reduceSub, Nat.reduceMul, Int.reduceToNat, Int.reduceLT, Int.reduceLE, Int.reduceAdd, Int.reduceSub, implies_true, ne_eq, if_true, if_false, reduceCtorEq]))
    repeat' (first
    | (refine gW_dec (fun h => ?_) (fun h => ?_) <;> simp (maxSteps := 5000000) (disch := omega) only [h, V_P, SX, W_block, exitW, goInt, Int.reduceEq, setCells, oneOf, cellOk, reduceIte, Nat.reduceLT, Nat.reduceLeDiff, Nat.reduceEqDiff, Nat.reduceAdd, Nat.reduceSub, Nat.reduceMul, Int.reduceToNat, Int.reduceLT, Int.reduceLE, Int.reduceAdd, Int.reduceSub, implies_true, ne_eq, if_true, if_false, reduceCtorEq])
    | (refine cW_dec (fun h => ?_) (fun h => ?_) <;> simp (maxSteps := 5000000) (disch := omega) only [h, V_P, SX, W_block, exitW, goInt, Int.reduceEq, setCells, oneOf, cellOk, reduceIte, Nat.reduceLT, Nat.reduceLeDiff, Nat.reduceEqDiff, Nat.reduceAdd, Nat.reduceSub, Nat.reduceMul, Int.reduceToNat, Int.reduceLT, Int.reduceLE, Int.reduceAdd, Int.reduceSub, implies_true, ne_eq, if_true, if_false, reduceCtorEq])
    | (refine gW_bool (fun h => ?_) (fun h => ?_) <;> simp (maxSteps := 5000000) (disch := omega) only [h, V_P, SX, W_block, exitW, goInt, Int.reduceEq, setCells, oneOf, cellOk, reduceIte, Nat.reduceLT, Nat.reduceLeDiff, Nat.reduceEqDiff, Nat.reduceAdd, Nat.reduceSub, Nat.reduceMul, Int.reduceToNat, Int.reduceLT, Int.reduceLE, Int.reduceAdd, Int.reduceSub, implies_true, ne_eq, if_true, if_false, reduceCtorEq])
    | (refine cW_bool (fun h => ?_) (fun h => ?_) <;> simp (maxSteps := 5000000) (disch := omega) only [h, V_P, SX, W_block, exitW, goInt, Int.reduceEq, setCells, oneOf, cellOk, reduceIte, Nat.reduceLT, Nat.reduceLeDiff, Nat.reduceEqDiff, Nat.reduceAdd, Nat.reduceSub, Nat.reduceMul, Int.reduceToNat, Int.reduceLT, Int.reduceLE, Int.reduceAdd, Int.reduceSub, implies_true, ne_eq, if_true, if_false, reduceCtorEq]))
  all_goals (refine ⟨by congr 1; rw [Bool.eq_iff_iff]; unfold N4.within; simp; try omega, ?_⟩; repeat (first | exact Same.same ok | refine Same.push ?_ _ | refine Same.room ?_ _ | (refine Same.make ?_ (by (try simp only [Heap.next_push, Heap.next_set, Heap.next_room]); omega) (by (try simp only [Heap.next_push, Heap.next_set, Heap.next_room]); omega)) | (refine Same.put ?_ (by simp (disch := omega) only [Heap.get_pushH, Heap.get_setH, hite_same, hite_ne, hite_eq, Heap.get_room, Heap.next_push, Heap.next_set, Heap.next_room, Option.isSome_some, *]) (fun z => by first | (simp; done) | (exfalso; (try simp only [Heap.next_push, Heap.next_set, Heap.next_room] at z); omega)))))
/-- The five parts of notes: where, how many each may be, their letters. -/
def grp (i : Nat) : Nat := if i = 0 then 5 else if i = 1 then 9 else if i = 2 then 13 else if i = 3 then 17 else 22
def mostG (i : Nat) : Int := if i = 2 ∨ i = 3 then 2147483647 else 10000
def lett (i : Nat) : UInt8 := if i = 0 then 110 else if i = 1 then 114 else if i = 2 then 99 else if i = 3 then 100 else 109
theorem ref_notes (p i : Nat) (hi : i < 5) (H : Heap) : ∃ v H', Ca V 26 #[.pointer (some ⟨p, 0, none⟩), .int .u8 (lett i).toNat] H v H' ∧ v = .tuple #[.pointer (some ⟨p, grp i, none⟩), .int .i64 (mostG i)] ∧ H' = H := by
  refine Ca_run rfl tab_26 rfl ?_
  rcases (show i = 0 ∨ i = 1 ∨ i = 2 ∨ i = 3 ∨ i = 4 by omega) with rfl | rfl | rfl | rfl | rfl
  · rw [show ((lett 0).toNat : Int) = 110 from rfl]; simp (maxSteps := 5000000) (disch := omega) only [Tryd.f26, V_P, SX, W_block, exitW, goInt, Int.reduceEq, setCells, oneOf, cellOk, reduceIte, Nat.reduceLT, Nat.reduceLeDiff, Nat.reduceEqDiff, Nat.reduceAdd, Nat.reduceSub, Nat.reduceMul, Int.reduceToNat, Int.reduceLT, Int.reduceLE, Int.reduceAdd, Int.reduceSub, implies_true, ne_eq, if_true, if_false, reduceCtorEq]; rfl
  · rw [show ((lett 1).toNat : Int) = 114 from rfl]; simp (maxSteps := 5000000) (disch := omega) only [Tryd.f26, V_P, SX, W_block, exitW, goInt, Int.reduceEq, setCells, oneOf, cellOk, reduceIte, Nat.reduceLT, Nat.reduceLeDiff, Nat.reduceEqDiff, Nat.reduceAdd, Nat.reduceSub, Nat.reduceMul, Int.reduceToNat, Int.reduceLT, Int.reduceLE, Int.reduceAdd, Int.reduceSub, implies_true, ne_eq, if_true, if_false, reduceCtorEq]; rfl
  · rw [show ((lett 2).toNat : Int) = 99 from rfl]; simp (maxSteps := 5000000) (disch := omega) only [Tryd.f26, V_P, SX, W_block, exitW, goInt, Int.reduceEq, setCells, oneOf, cellOk, reduceIte, Nat.reduceLT, Nat.reduceLeDiff, Nat.reduceEqDiff, Nat.reduceAdd, Nat.reduceSub, Nat.reduceMul, Int.reduceToNat, Int.reduceLT, Int.reduceLE, Int.reduceAdd, Int.reduceSub, implies_true, ne_eq, if_true, if_false, reduceCtorEq]; rfl
  · rw [show ((lett 3).toNat : Int) = 100 from rfl]; simp (maxSteps := 5000000) (disch := omega) only [Tryd.f26, V_P, SX, W_block, exitW, goInt, Int.reduceEq, setCells, oneOf, cellOk, reduceIte, Nat.reduceLT, Nat.reduceLeDiff, Nat.reduceEqDiff, Nat.reduceAdd, Nat.reduceSub, Nat.reduceMul, Int.reduceToNat, Int.reduceLT, Int.reduceLE, Int.reduceAdd, Int.reduceSub, implies_true, ne_eq, if_true, if_false, reduceCtorEq]; rfl
  · rw [show ((lett 4).toNat : Int) = 109 from rfl]; simp (maxSteps := 5000000) (disch := omega) only [Tryd.f26, V_P, SX, W_block, exitW, goInt, Int.reduceEq, setCells, oneOf, cellOk, reduceIte, Nat.reduceLT, Nat.reduceLeDiff, Nat.reduceEqDiff, Nat.reduceAdd, Nat.reduceSub, Nat.reduceMul, Int.reduceToNat, Int.reduceLT, Int.reduceLE, Int.reduceAdd, Int.reduceSub, implies_true, ne_eq, if_true, if_false, reduceCtorEq]; rfl
theorem has_stan {k : Int} (h : 1 ≤ k ∧ k ≤ 7) : hasB (letL k) 115 = keep k 2 := by
  rcases (show k = 1 ∨ k = 2 ∨ k = 3 ∨ k = 4 ∨ k = 5 ∨ k = 6 ∨ k = 7 by omega) with rfl | rfl | rfl | rfl | rfl | rfl | rfl <;> decide
theorem has_amount {k : Int} (h : 1 ≤ k ∧ k ≤ 7) : hasB (letL k) 97 = keep k 4 := by
  rcases (show k = 1 ∨ k = 2 ∨ k = 3 ∨ k = 4 ∨ k = 5 ∨ k = 6 ∨ k = 7 by omega) with rfl | rfl | rfl | rfl | rfl | rfl | rfl <;> decide
theorem has_loads {k : Int} (h : 1 ≤ k ∧ k ≤ 7) : hasB (letL k) 108 = keep k 21 := by
  rcases (show k = 1 ∨ k = 2 ∨ k = 3 ∨ k = 4 ∨ k = 5 ∨ k = 6 ∨ k = 7 by omega) with rfl | rfl | rfl | rfl | rfl | rfl | rfl <;> decide
theorem has_pan {k : Int} (h : 1 ≤ k ∧ k ≤ 7) : hasB (letL k) 112 = decide (k = 1) := by
  rcases (show k = 1 ∨ k = 2 ∨ k = 3 ∨ k = 4 ∨ k = 5 ∨ k = 6 ∨ k = 7 by omega) with rfl | rfl | rfl | rfl | rfl | rfl | rfl <;> decide
theorem has_grp {k : Int} (h : 1 ≤ k ∧ k ≤ 7) {i : Nat} (hi : i < 5) : hasB (letL k) (lett i).toNat = keep k (grp i) := by
  rcases (show i = 0 ∨ i = 1 ∨ i = 2 ∨ i = 3 ∨ i = 4 by omega) with rfl | rfl | rfl | rfl | rfl <;> rcases (show k = 1 ∨ k = 2 ∨ k = 3 ∨ k = 4 ∨ k = 5 ∨ k = 6 ∨ k = 7 by omega) with rfl | rfl | rfl | rfl | rfl | rfl | rfl <;> decide
theorem letL_length (k : Int) : (letL k).length ≤ 8 := by
  unfold letL
  repeat' split
  all_goals decide
end Go.B.YteigefgobkdmgaaDoor
/- The document's Right answers as the code's. -/
namespace Go.B.YteigefgobkdmgaaDoor
open Go Go.B Go.Proofs
set_option maxRecDepth 100000
set_option maxHeartbeats 16000000
set_option linter.unusedSimpArgs false
set_option linter.unusedVariables false
def N4.isZ (n : N4) : Bool := (n.a == 0) && ((n.b == 0) && ((n.c == 0) && (n.d == 0)))
def grpOk (m : Msg) (i : Nat) : Bool := N4.within (mostG i) (m.n4 (grp i)) && (keep (m.c 0) (grp i) || (m.n4 (grp i)).isZ)
def Msg.right2 (m : Msg) : Bool :=
  decide (1 ≤ m.c 0 ∧ m.c 0 ≤ 7) && (decide (m.c 2 ≤ 999999 ∧ 0 ≤ m.c 4 ∧ m.c 4 ≤ 1000000 ∧ 0 ≤ m.c 21 ∧ m.c 21 ≤ 1000000) &&
    ((keep (m.c 0) 2 || decide (m.c 2 = 0)) && ((keep (m.c 0) 4 || decide (m.c 4 = 0)) && ((keep (m.c 0) 21 || decide (m.c 21 = 0)) && ((if m.c 0 = 1 then panOk m.pan else decide (m.pan = S [])) && (List.range 5).all (grpOk m))))))
theorem keep_grp (k : Int) {g j : Nat} (h : (g = 5 ∨ g = 9 ∨ g = 13 ∨ g = 17 ∨ g = 22) ∧ g ≤ j ∧ j < g + 4) : keep k j = keep k g := by
  obtain ⟨hg, h1, h2⟩ := h
  rcases hg with rfl | rfl | rfl | rfl | rfl
  · rcases (show j = 5 ∨ j = 6 ∨ j = 7 ∨ j = 8 by omega) with rfl | rfl | rfl | rfl <;> simp [keep]
  · rcases (show j = 9 ∨ j = 10 ∨ j = 11 ∨ j = 12 by omega) with rfl | rfl | rfl | rfl <;> simp [keep]
  · rcases (show j = 13 ∨ j = 14 ∨ j = 15 ∨ j = 16 by omega) with rfl | rfl | rfl | rfl <;> simp [keep]
  · rcases (show j = 17 ∨ j = 18 ∨ j = 19 ∨ j = 20 by omega) with rfl | rfl | rfl | rfl <;> simp [keep]
  · rcases (show j = 22 ∨ j = 23 ∨ j = 24 ∨ j = 25 by omega) with rfl | rfl | rfl | rfl <;> simp [keep]
theorem same_parts (m : Msg) : m.same m.parts = true ↔ (m.c 0 = 1 ∨ m.pan = S []) ∧ ∀ j, j < 26 → j ≠ 3 → (keep (m.c 0) j = true ∨ m.c j = 0) := by
  rw [same_iff]
  refine and_congr ?_ (forall_congr' fun j => forall_congr' fun h1 => forall_congr' fun h2 => ?_)
  · show m.pan = (if m.c 0 = 1 then m.pan else S []) ↔ _
    by_cases h : m.c 0 = 1 <;> simp [h]
  · show m.c j = (if keep (m.c 0) j = true then m.c j else 0) ↔ _
    by_cases h : keep (m.c 0) j = true <;> simp [h]
theorem isZ_iff {n : N4} : n.isZ = true ↔ n.a = 0 ∧ n.b = 0 ∧ n.c = 0 ∧ n.d = 0 := by unfold N4.isZ; simp
theorem right_iff (m : Msg) : m.right = true ↔ (1 ≤ m.c 0 ∧ m.c 0 ≤ 7) ∧ (m.c 2 ≤ 999999 ∧ 0 ≤ m.c 4 ∧ m.c 4 ≤ 1000000 ∧ 0 ≤ m.c 21 ∧ m.c 21 ≤ 1000000) ∧
    (∀ j, j < 26 → j ≠ 3 → (keep (m.c 0) j = true ∨ m.c j = 0)) ∧ (m.c 0 = 1 ∧ panOk m.pan = true ∨ m.c 0 ≠ 1 ∧ m.pan = S []) ∧ (∀ i, i < 5 → N4.within (mostG i) (m.n4 (grp i)) = true) := by
  unfold Msg.right
  rw [Bool.and_eq_true, Bool.and_eq_true, Bool.and_eq_true, Bool.and_eq_true, Bool.and_eq_true, Bool.and_eq_true, same_parts]
  simp only [decide_eq_true_eq, List.all_cons, List.all_nil, Bool.and_true, Bool.and_eq_true, Bool.or_eq_true, Bool.not_eq_true', decide_eq_false_iff_not]
  constructor
  · rintro ⟨h1, ⟨h2, h3⟩, h4, h5, ⟨a, b, e⟩, ⟨c, d⟩, h6⟩
    refine ⟨h1, ⟨h4.1, h4.2.1, h4.2.2, h6.1, h6.2⟩, h3, ?_, fun i hi => ?_⟩
    · by_cases hk : m.c 0 = 1
      · exact .inl ⟨hk, h5.resolve_left (fun z => z hk)⟩
      · exact .inr ⟨hk, h2.resolve_left hk⟩
    · rcases (show i = 0 ∨ i = 1 ∨ i = 2 ∨ i = 3 ∨ i = 4 by omega) with rfl | rfl | rfl | rfl | rfl <;> assumption
  · rintro ⟨h1, h2, h3, h4, h5⟩
    refine ⟨h1, ⟨?_, h3⟩, ⟨h2.1, h2.2.1, h2.2.2.1⟩, ?_, ⟨h5 0 (by decide), h5 1 (by decide), h5 4 (by decide)⟩, ⟨h5 2 (by decide), h5 3 (by decide)⟩, h2.2.2.2⟩
    · rcases h4 with ⟨a, b⟩ | ⟨a, b⟩
      · exact .inl a
      · exact .inr b
    · rcases h4 with ⟨a, b⟩ | ⟨a, b⟩
      · exact .inr b
      · exact .inl a
theorem right_eq (m : Msg) : m.right = m.right2 := by
  rw [Bool.eq_iff_iff, right_iff]
  unfold Msg.right2
  simp only [Bool.and_eq_true, decide_eq_true_eq, Bool.or_eq_true, List.all_eq_true, List.mem_range, grpOk]
  constructor
  · rintro ⟨h1, h2, h3, h4, h5⟩
    refine ⟨h1, h2, h3 2 (by decide) (by decide), h3 4 (by decide) (by decide), h3 21 (by decide) (by decide), ?_, fun i hi => ⟨h5 i hi, ?_⟩⟩
    · rcases h4 with ⟨a, b⟩ | ⟨a, b⟩
      · rw [if_pos a]; exact b
      · rw [if_neg a]; simpa using b
    · have hg : (grp i = 5 ∨ grp i = 9 ∨ grp i = 13 ∨ grp i = 17 ∨ grp i = 22) := by
        rcases (show i = 0 ∨ i = 1 ∨ i = 2 ∨ i = 3 ∨ i = 4 by omega) with rfl | rfl | rfl | rfl | rfl <;> decide
      have e0 := h3 (grp i) (by omega) (by omega)
      have e1 := h3 (grp i + 1) (by omega) (by omega)
      have e2 := h3 (grp i + 2) (by omega) (by omega)
      have e3 := h3 (grp i + 3) (by omega) (by omega)
      rw [keep_grp _ ⟨hg, by omega, by omega⟩] at e1 e2 e3
      cases hk : keep (m.c 0) (grp i)
      · rw [hk] at e0 e1 e2 e3
        refine .inr (isZ_iff.mpr ⟨?_, ?_, ?_, ?_⟩)
        · exact e0.resolve_left (by simp)
        · exact e1.resolve_left (by simp)
        · exact e2.resolve_left (by simp)
        · exact e3.resolve_left (by simp)
      · exact .inl rfl
  · rintro ⟨h1, h2, h3, h4, h5, h6, h7⟩
    refine ⟨h1, h2, fun j hj h3' => ?_, ?_, fun i hi => (h7 i hi).1⟩
    · have hcase : j = 0 ∨ j = 1 ∨ j = 2 ∨ j = 4 ∨ j = 21 ∨ ∃ i, i < 5 ∧ grp i ≤ j ∧ j < grp i + 4 := by
        by_cases a : 5 ≤ j ∧ j < 9
        · exact .inr (.inr (.inr (.inr (.inr ⟨0, by decide, a⟩))))
        by_cases b : 9 ≤ j ∧ j < 13
        · exact .inr (.inr (.inr (.inr (.inr ⟨1, by decide, b⟩))))
        by_cases c : 13 ≤ j ∧ j < 17
        · exact .inr (.inr (.inr (.inr (.inr ⟨2, by decide, c⟩))))
        by_cases d : 17 ≤ j ∧ j < 21
        · exact .inr (.inr (.inr (.inr (.inr ⟨3, by decide, d⟩))))
        by_cases e : 22 ≤ j ∧ j < 26
        · exact .inr (.inr (.inr (.inr (.inr ⟨4, by decide, e⟩))))
        omega
      rcases hcase with rfl | rfl | rfl | rfl | rfl | ⟨i, hi, ha, hb⟩
      · exact .inl rfl
      · exact .inl rfl
      · exact h3
      · exact h4
      · exact h5
      · have hg : (grp i = 5 ∨ grp i = 9 ∨ grp i = 13 ∨ grp i = 17 ∨ grp i = 22) := by
          rcases (show i = 0 ∨ i = 1 ∨ i = 2 ∨ i = 3 ∨ i = 4 by omega) with rfl | rfl | rfl | rfl | rfl <;> decide
        rw [keep_grp _ ⟨hg, ha, hb⟩]
        rcases (h7 i hi).2 with hk | hz
        · exact .inl hk
        · obtain ⟨z0, z1, z2, z3⟩ := isZ_iff.mp hz
          right
          rcases (show j = grp i ∨ j = grp i + 1 ∨ j = grp i + 2 ∨ j = grp i + 3 by omega) with rfl | rfl | rfl | rfl <;> assumption
    · by_cases hk : m.c 0 = 1
      · rw [if_pos hk] at h6; exact .inl ⟨hk, h6⟩
      · rw [if_neg hk] at h6; exact .inr ⟨hk, by simpa using h6⟩

theorem ref_Right (m : Msg) (H : Heap) (ok : Ok H) (hp : m.pan.size ≤ maxLen) : ∃ v H', Ca V 12 #[.agg m.cells.toArray] H v H' ∧ v = .bool m.right ∧ Same H H' [] := by
  have okn : ∀ a, H.next ≤ a → H.get a = none := ok
  refine Ca_run rfl tab_12 rfl ?_
  rw [right_eq]
  simp (maxSteps := 5000000) (disch := omega) only [Tryd.f12, MX, V_P, SX, W_block, exitW, goInt, Int.reduceEq, setCells, oneOf, cellOk, reduceIte, Nat.reduceLT, Nat.reduceLeDiff, Nat.reduceEqDiff, Nat.reduceAdd, Nat.reduceSub, Nat.reduceMul, Int.reduceToNat, Int.reduceLT, Int.reduceLE, Int.reduceAdd, Int.reduceSub, implies_true, ne_eq, if_true, if_false, reduceCtorEq]
  refine W_callR rfl (by simp (maxSteps := 5000000) (disch := omega) only [MX, V_P, SX, W_block, exitW, goInt, Int.reduceEq, setCells, oneOf, cellOk, reduceIte, Nat.reduceLT, Nat.reduceLeDiff, Nat.reduceEqDiff, Nat.reduceAdd, Nat.reduceSub, Nat.reduceMul, Int.reduceToNat, Int.reduceLT, Int.reduceLE, Int.reduceAdd, Int.reduceSub, implies_true, ne_eq, if_true, if_false, reduceCtorEq]) (ref_parts (m.c 0) _) ?_
  rintro v H1 ⟨rfl, rfl⟩
  by_cases hk : 1 ≤ m.c 0 ∧ m.c 0 ≤ 7
  rotate_left
  · rw [decide_eq_false hk]
    simp (maxSteps := 5000000) (disch := omega) only [MX, V_P, SX, W_block, exitW, goInt, Int.reduceEq, setCells, oneOf, cellOk, reduceIte, Nat.reduceLT, Nat.reduceLeDiff, Nat.reduceEqDiff, Nat.reduceAdd, Nat.reduceSub, Nat.reduceMul, Int.reduceToNat, Int.reduceLT, Int.reduceLE, Int.reduceAdd, Int.reduceSub, implies_true, ne_eq, if_true, if_false, reduceCtorEq]
    refine ⟨?_, by repeat (first | exact Same.same ok | refine Same.push ?_ _ | refine Same.room ?_ _ | (refine Same.make ?_ (by (try simp only [Heap.next_push, Heap.next_set, Heap.next_room]); omega) (by (try simp only [Heap.next_push, Heap.next_set, Heap.next_room]); omega)) | (refine Same.put ?_ (by simp (disch := omega) only [Heap.get_pushH, Heap.get_setH, hite_same, hite_ne, hite_eq, Heap.get_room, Heap.next_push, Heap.next_set, Heap.next_room, Option.isSome_some, *]) (fun z => by first | (simp; done) | (exfalso; (try simp only [Heap.next_push, Heap.next_set, Heap.next_room] at z); omega))))⟩
    unfold Msg.right2; rw [decide_eq_false hk]; rfl
  rw [decide_eq_true hk]
  have hlen : (letL (m.c 0)).length ≤ maxLen := Nat.le_trans (letL_length _) (by decide)
  have hg : (H.push (mO m)).get H.next = some (mO m) := by simp only [Heap.get_pushH, hite_same]
  simp (maxSteps := 5000000) (disch := omega) only [MX, V_P, SX, W_block, exitW, goInt, Int.reduceEq, setCells, oneOf, cellOk, reduceIte, Nat.reduceLT, Nat.reduceLeDiff, Nat.reduceEqDiff, Nat.reduceAdd, Nat.reduceSub, Nat.reduceMul, Int.reduceToNat, Int.reduceLT, Int.reduceLE, Int.reduceAdd, Int.reduceSub, implies_true, ne_eq, if_true, if_false, reduceCtorEq]
  repeat' (first
    | (refine gW_dec (fun h => ?_) (fun h => ?_) <;> simp (maxSteps := 5000000) (disch := omega) only [h, MX, V_P, SX, W_block, exitW, goInt, Int.reduceEq, setCells, oneOf, cellOk, reduceIte, Nat.reduceLT, Nat.reduceLeDiff, Nat.reduceEqDiff, Nat.reduceAdd, Nat.reduceSub, Nat.reduceMul, Int.reduceToNat, Int.reduceLT, Int.reduceLE, Int.reduceAdd, Int.reduceSub, implies_true, ne_eq, if_true, if_false, reduceCtorEq])
    | (refine cW_dec (fun h => ?_) (fun h => ?_) <;> simp (maxSteps := 5000000) (disch := omega) only [h, MX, V_P, SX, W_block, exitW, goInt, Int.reduceEq, setCells, oneOf, cellOk, reduceIte, Nat.reduceLT, Nat.reduceLeDiff, Nat.reduceEqDiff, Nat.reduceAdd, Nat.reduceSub, Nat.reduceMul, Int.reduceToNat, Int.reduceLT, Int.reduceLE, Int.reduceAdd, Int.reduceSub, implies_true, ne_eq, if_true, if_false, reduceCtorEq])
    | (refine gW_bool (fun h => ?_) (fun h => ?_) <;> simp (maxSteps := 5000000) (disch := omega) only [h, MX, V_P, SX, W_block, exitW, goInt, Int.reduceEq, setCells, oneOf, cellOk, reduceIte, Nat.reduceLT, Nat.reduceLeDiff, Nat.reduceEqDiff, Nat.reduceAdd, Nat.reduceSub, Nat.reduceMul, Int.reduceToNat, Int.reduceLT, Int.reduceLE, Int.reduceAdd, Int.reduceSub, implies_true, ne_eq, if_true, if_false, reduceCtorEq])
    | (refine cW_bool (fun h => ?_) (fun h => ?_) <;> simp (maxSteps := 5000000) (disch := omega) only [h, MX, V_P, SX, W_block, exitW, goInt, Int.reduceEq, setCells, oneOf, cellOk, reduceIte, Nat.reduceLT, Nat.reduceLeDiff, Nat.reduceEqDiff, Nat.reduceAdd, Nat.reduceSub, Nat.reduceMul, Int.reduceToNat, Int.reduceLT, Int.reduceLE, Int.reduceAdd, Int.reduceSub, implies_true, ne_eq, if_true, if_false, reduceCtorEq]))
  · refine ⟨?_, by repeat (first | exact Same.same ok | refine Same.push ?_ _ | refine Same.room ?_ _ | (refine Same.make ?_ (by (try simp only [Heap.next_push, Heap.next_set, Heap.next_room]); omega) (by (try simp only [Heap.next_push, Heap.next_set, Heap.next_room]); omega)) | (refine Same.put ?_ (by simp (disch := omega) only [Heap.get_pushH, Heap.get_setH, hite_same, hite_ne, hite_eq, Heap.get_room, Heap.next_push, Heap.next_set, Heap.next_room, Option.isSome_some, *]) (fun z => by first | (simp; done) | (exfalso; (try simp only [Heap.next_push, Heap.next_set, Heap.next_room] at z); omega))))⟩
    unfold Msg.right2; rw [decide_eq_false (p := m.c 2 ≤ 999999 ∧ _) (by omega)]; simp
  · refine ⟨?_, by repeat (first | exact Same.same ok | refine Same.push ?_ _ | refine Same.room ?_ _ | (refine Same.make ?_ (by (try simp only [Heap.next_push, Heap.next_set, Heap.next_room]); omega) (by (try simp only [Heap.next_push, Heap.next_set, Heap.next_room]); omega)) | (refine Same.put ?_ (by simp (disch := omega) only [Heap.get_pushH, Heap.get_setH, hite_same, hite_ne, hite_eq, Heap.get_room, Heap.next_push, Heap.next_set, Heap.next_room, Option.isSome_some, *]) (fun z => by first | (simp; done) | (exfalso; (try simp only [Heap.next_push, Heap.next_set, Heap.next_room] at z); omega))))⟩
    unfold Msg.right2; rw [decide_eq_false (p := m.c 2 ≤ 999999 ∧ _) (by omega)]; simp
  · refine ⟨?_, by repeat (first | exact Same.same ok | refine Same.push ?_ _ | refine Same.room ?_ _ | (refine Same.make ?_ (by (try simp only [Heap.next_push, Heap.next_set, Heap.next_room]); omega) (by (try simp only [Heap.next_push, Heap.next_set, Heap.next_room]); omega)) | (refine Same.put ?_ (by simp (disch := omega) only [Heap.get_pushH, Heap.get_setH, hite_same, hite_ne, hite_eq, Heap.get_room, Heap.next_push, Heap.next_set, Heap.next_room, Option.isSome_some, *]) (fun z => by first | (simp; done) | (exfalso; (try simp only [Heap.next_push, Heap.next_set, Heap.next_room] at z); omega))))⟩
    unfold Msg.right2; rw [decide_eq_false (p := m.c 2 ≤ 999999 ∧ _) (by omega)]; simp
  · refine ⟨?_, by repeat (first | exact Same.same ok | refine Same.push ?_ _ | refine Same.room ?_ _ | (refine Same.make ?_ (by (try simp only [Heap.next_push, Heap.next_set, Heap.next_room]); omega) (by (try simp only [Heap.next_push, Heap.next_set, Heap.next_room]); omega)) | (refine Same.put ?_ (by simp (disch := omega) only [Heap.get_pushH, Heap.get_setH, hite_same, hite_ne, hite_eq, Heap.get_room, Heap.next_push, Heap.next_set, Heap.next_room, Option.isSome_some, *]) (fun z => by first | (simp; done) | (exfalso; (try simp only [Heap.next_push, Heap.next_set, Heap.next_room] at z); omega))))⟩
    unfold Msg.right2; rw [decide_eq_false (p := m.c 2 ≤ 999999 ∧ _) (by omega)]; simp
  · refine ⟨?_, by repeat (first | exact Same.same ok | refine Same.push ?_ _ | refine Same.room ?_ _ | (refine Same.make ?_ (by (try simp only [Heap.next_push, Heap.next_set, Heap.next_room]); omega) (by (try simp only [Heap.next_push, Heap.next_set, Heap.next_room]); omega)) | (refine Same.put ?_ (by simp (disch := omega) only [Heap.get_pushH, Heap.get_setH, hite_same, hite_ne, hite_eq, Heap.get_room, Heap.next_push, Heap.next_set, Heap.next_room, Option.isSome_some, *]) (fun z => by first | (simp; done) | (exfalso; (try simp only [Heap.next_push, Heap.next_set, Heap.next_room] at z); omega))))⟩
    unfold Msg.right2; rw [decide_eq_false (p := m.c 2 ≤ 999999 ∧ _) (by omega)]; simp
  have hr : m.c 2 ≤ 999999 ∧ 0 ≤ m.c 4 ∧ m.c 4 ≤ 1000000 ∧ 0 ≤ m.c 21 ∧ m.c 21 ≤ 1000000 := by omega
  refine W_cutO 8 (fun t H2 => H2 = H.push (mO m) ∧ t.get 1 = some (.pointer (some ⟨H.next, 0, none⟩)) ∧ t.get 2 = some (.bool false) ∧ t.get 4 = some (.string (S (letL (m.c 0)))) ∧ t.get 52 = some (.bool (!(keep (m.c 0) 2 || decide (m.c 2 = 0))))) ?_ ?_
  · simp (maxSteps := 5000000) (disch := omega) only [MX, V_P, SX, W_block, exitW, goInt, Int.reduceEq, setCells, oneOf, cellOk, reduceIte, Nat.reduceLT, Nat.reduceLeDiff, Nat.reduceEqDiff, Nat.reduceAdd, Nat.reduceSub, Nat.reduceMul, Int.reduceToNat, Int.reduceLT, Int.reduceLE, Int.reduceAdd, Int.reduceSub, implies_true, ne_eq, if_true, if_false, reduceCtorEq]
    refine W_callR rfl (by simp (maxSteps := 5000000) (disch := omega) only [MX, V_P, SX, W_block, exitW, goInt, Int.reduceEq, setCells, oneOf, cellOk, reduceIte, Nat.reduceLT, Nat.reduceLeDiff, Nat.reduceEqDiff, Nat.reduceAdd, Nat.reduceSub, Nat.reduceMul, Int.reduceToNat, Int.reduceLT, Int.reduceLE, Int.reduceAdd, Int.reduceSub, implies_true, ne_eq, if_true, if_false, reduceCtorEq]) (ref_has (letL (m.c 0)) 115 _ hlen) ?_
    rintro v H2 ⟨rfl, rfl⟩
    rw [has_stan hk]
    cases hk2 : keep (m.c 0) 2
    · simp (maxSteps := 5000000) (disch := omega) only [MX, hk2, hg, V_P, SX, W_block, exitW, goInt, Int.reduceEq, setCells, oneOf, cellOk, reduceIte, Nat.reduceLT, Nat.reduceLeDiff, Nat.reduceEqDiff, Nat.reduceAdd, Nat.reduceSub, Nat.reduceMul, Int.reduceToNat, Int.reduceLT, Int.reduceLE, Int.reduceAdd, Int.reduceSub, implies_true, ne_eq, if_true, if_false, reduceCtorEq]
      (try simp [hk2])
    · simp (maxSteps := 5000000) (disch := omega) only [MX, hk2, hg, V_P, SX, W_block, exitW, goInt, Int.reduceEq, setCells, oneOf, cellOk, reduceIte, Nat.reduceLT, Nat.reduceLeDiff, Nat.reduceEqDiff, Nat.reduceAdd, Nat.reduceSub, Nat.reduceMul, Int.reduceToNat, Int.reduceLT, Int.reduceLE, Int.reduceAdd, Int.reduceSub, implies_true, ne_eq, if_true, if_false, reduceCtorEq]
      (try simp [hk2])
  rintro t H2 ⟨rfl, g1, g2, g4, g5⟩
  refine W_cutO 10 (fun t H2 => H2 = H.push (mO m) ∧ t.get 1 = some (.pointer (some ⟨H.next, 0, none⟩)) ∧ t.get 2 = some (.bool false) ∧ t.get 4 = some (.string (S (letL (m.c 0)))) ∧ t.get 62 = some (.bool (!((keep (m.c 0) 2 || decide (m.c 2 = 0)) && (keep (m.c 0) 4 || decide (m.c 4 = 0)))))) ?_ ?_
  · cases hc : (keep (m.c 0) 2 || decide (m.c 2 = 0))
    · simp (maxSteps := 5000000) (disch := omega) only [MX, g1, g2, g4, g5, hc, V_P, SX, W_block, exitW, goInt, Int.reduceEq, setCells, oneOf, cellOk, reduceIte, Nat.reduceLT, Nat.reduceLeDiff, Nat.reduceEqDiff, Nat.reduceAdd, Nat.reduceSub, Nat.reduceMul, Int.reduceToNat, Int.reduceLT, Int.reduceLE, Int.reduceAdd, Int.reduceSub, implies_true, ne_eq, if_true, if_false, reduceCtorEq]
      rfl
    simp (maxSteps := 5000000) (disch := omega) only [MX, g1, g2, g4, g5, hc, V_P, SX, W_block, exitW, goInt, Int.reduceEq, setCells, oneOf, cellOk, reduceIte, Nat.reduceLT, Nat.reduceLeDiff, Nat.reduceEqDiff, Nat.reduceAdd, Nat.reduceSub, Nat.reduceMul, Int.reduceToNat, Int.reduceLT, Int.reduceLE, Int.reduceAdd, Int.reduceSub, implies_true, ne_eq, if_true, if_false, reduceCtorEq]
    refine W_callR rfl (by simp (maxSteps := 5000000) (disch := omega) only [MX, g1, g2, g4, g5, hc, V_P, SX, W_block, exitW, goInt, Int.reduceEq, setCells, oneOf, cellOk, reduceIte, Nat.reduceLT, Nat.reduceLeDiff, Nat.reduceEqDiff, Nat.reduceAdd, Nat.reduceSub, Nat.reduceMul, Int.reduceToNat, Int.reduceLT, Int.reduceLE, Int.reduceAdd, Int.reduceSub, implies_true, ne_eq, if_true, if_false, reduceCtorEq]) (ref_has (letL (m.c 0)) 97 _ hlen) ?_
    rintro v H2 ⟨rfl, rfl⟩
    rw [has_amount hk]
    cases hk2 : keep (m.c 0) 4
    · simp (maxSteps := 5000000) (disch := omega) only [MX, hk2, hg, g1, g2, g4, g5, hc, V_P, SX, W_block, exitW, goInt, Int.reduceEq, setCells, oneOf, cellOk, reduceIte, Nat.reduceLT, Nat.reduceLeDiff, Nat.reduceEqDiff, Nat.reduceAdd, Nat.reduceSub, Nat.reduceMul, Int.reduceToNat, Int.reduceLT, Int.reduceLE, Int.reduceAdd, Int.reduceSub, implies_true, ne_eq, if_true, if_false, reduceCtorEq]
      (try simp [hk2])
    · simp (maxSteps := 5000000) (disch := omega) only [MX, hk2, hg, g1, g2, g4, g5, hc, V_P, SX, W_block, exitW, goInt, Int.reduceEq, setCells, oneOf, cellOk, reduceIte, Nat.reduceLT, Nat.reduceLeDiff, Nat.reduceEqDiff, Nat.reduceAdd, Nat.reduceSub, Nat.reduceMul, Int.reduceToNat, Int.reduceLT, Int.reduceLE, Int.reduceAdd, Int.reduceSub, implies_true, ne_eq, if_true, if_false, reduceCtorEq]
      (try simp [hk2])
  rintro t H2 ⟨rfl, g1, g2, g4, g5⟩
  refine W_cutO 10 (fun t H2 => H2 = H.push (mO m) ∧ t.get 1 = some (.pointer (some ⟨H.next, 0, none⟩)) ∧ t.get 2 = some (.bool false) ∧ t.get 4 = some (.string (S (letL (m.c 0)))) ∧ t.get 72 = some (.bool (!(((keep (m.c 0) 2 || decide (m.c 2 = 0)) && (keep (m.c 0) 4 || decide (m.c 4 = 0))) && (keep (m.c 0) 21 || decide (m.c 21 = 0)))))) ?_ ?_
  · cases hc : ((keep (m.c 0) 2 || decide (m.c 2 = 0)) && (keep (m.c 0) 4 || decide (m.c 4 = 0)))
    · simp (maxSteps := 5000000) (disch := omega) only [MX, g1, g2, g4, g5, hc, V_P, SX, W_block, exitW, goInt, Int.reduceEq, setCells, oneOf, cellOk, reduceIte, Nat.reduceLT, Nat.reduceLeDiff, Nat.reduceEqDiff, Nat.reduceAdd, Nat.reduceSub, Nat.reduceMul, Int.reduceToNat, Int.reduceLT, Int.reduceLE, Int.reduceAdd, Int.reduceSub, implies_true, ne_eq, if_true, if_false, reduceCtorEq]
      rfl
    simp (maxSteps := 5000000) (disch := omega) only [MX, g1, g2, g4, g5, hc, V_P, SX, W_block, exitW, goInt, Int.reduceEq, setCells, oneOf, cellOk, reduceIte, Nat.reduceLT, Nat.reduceLeDiff, Nat.reduceEqDiff, Nat.reduceAdd, Nat.reduceSub, Nat.reduceMul, Int.reduceToNat, Int.reduceLT, Int.reduceLE, Int.reduceAdd, Int.reduceSub, implies_true, ne_eq, if_true, if_false, reduceCtorEq]
    refine W_callR rfl (by simp (maxSteps := 5000000) (disch := omega) only [MX, g1, g2, g4, g5, hc, V_P, SX, W_block, exitW, goInt, Int.reduceEq, setCells, oneOf, cellOk, reduceIte, Nat.reduceLT, Nat.reduceLeDiff, Nat.reduceEqDiff, Nat.reduceAdd, Nat.reduceSub, Nat.reduceMul, Int.reduceToNat, Int.reduceLT, Int.reduceLE, Int.reduceAdd, Int.reduceSub, implies_true, ne_eq, if_true, if_false, reduceCtorEq]) (ref_has (letL (m.c 0)) 108 _ hlen) ?_
    rintro v H2 ⟨rfl, rfl⟩
    rw [has_loads hk]
    cases hk2 : keep (m.c 0) 21
    · simp (maxSteps := 5000000) (disch := omega) only [MX, hk2, hg, g1, g2, g4, g5, hc, V_P, SX, W_block, exitW, goInt, Int.reduceEq, setCells, oneOf, cellOk, reduceIte, Nat.reduceLT, Nat.reduceLeDiff, Nat.reduceEqDiff, Nat.reduceAdd, Nat.reduceSub, Nat.reduceMul, Int.reduceToNat, Int.reduceLT, Int.reduceLE, Int.reduceAdd, Int.reduceSub, implies_true, ne_eq, if_true, if_false, reduceCtorEq]
      (try simp [hk2])
    · simp (maxSteps := 5000000) (disch := omega) only [MX, hk2, hg, g1, g2, g4, g5, hc, V_P, SX, W_block, exitW, goInt, Int.reduceEq, setCells, oneOf, cellOk, reduceIte, Nat.reduceLT, Nat.reduceLeDiff, Nat.reduceEqDiff, Nat.reduceAdd, Nat.reduceSub, Nat.reduceMul, Int.reduceToNat, Int.reduceLT, Int.reduceLE, Int.reduceAdd, Int.reduceSub, implies_true, ne_eq, if_true, if_false, reduceCtorEq]
      (try simp [hk2])
  rintro t H2 ⟨rfl, g1, g2, g4, g5⟩
  refine W_cutO 10 (fun t H2 => H2 = H.push (mO m) ∧ t.get 1 = some (.pointer (some ⟨H.next, 0, none⟩)) ∧ t.get 2 = some (.bool false) ∧ t.get 4 = some (.string (S (letL (m.c 0)))) ∧ t.get 82 = some (.bool (!((((keep (m.c 0) 2 || decide (m.c 2 = 0)) && (keep (m.c 0) 4 || decide (m.c 4 = 0))) && (keep (m.c 0) 21 || decide (m.c 21 = 0))) && (!decide (m.c 0 = 1) || panOk m.pan))))) ?_ ?_
  · cases hc : (((keep (m.c 0) 2 || decide (m.c 2 = 0)) && (keep (m.c 0) 4 || decide (m.c 4 = 0))) && (keep (m.c 0) 21 || decide (m.c 21 = 0)))
    · simp (maxSteps := 5000000) (disch := omega) only [MX, g1, g2, g4, g5, hc, V_P, SX, W_block, exitW, goInt, Int.reduceEq, setCells, oneOf, cellOk, reduceIte, Nat.reduceLT, Nat.reduceLeDiff, Nat.reduceEqDiff, Nat.reduceAdd, Nat.reduceSub, Nat.reduceMul, Int.reduceToNat, Int.reduceLT, Int.reduceLE, Int.reduceAdd, Int.reduceSub, implies_true, ne_eq, if_true, if_false, reduceCtorEq]
      rfl
    simp (maxSteps := 5000000) (disch := omega) only [MX, g1, g2, g4, g5, hc, V_P, SX, W_block, exitW, goInt, Int.reduceEq, setCells, oneOf, cellOk, reduceIte, Nat.reduceLT, Nat.reduceLeDiff, Nat.reduceEqDiff, Nat.reduceAdd, Nat.reduceSub, Nat.reduceMul, Int.reduceToNat, Int.reduceLT, Int.reduceLE, Int.reduceAdd, Int.reduceSub, implies_true, ne_eq, if_true, if_false, reduceCtorEq]
    refine W_callR rfl (by simp (maxSteps := 5000000) (disch := omega) only [MX, g1, g2, g4, g5, hc, V_P, SX, W_block, exitW, goInt, Int.reduceEq, setCells, oneOf, cellOk, reduceIte, Nat.reduceLT, Nat.reduceLeDiff, Nat.reduceEqDiff, Nat.reduceAdd, Nat.reduceSub, Nat.reduceMul, Int.reduceToNat, Int.reduceLT, Int.reduceLE, Int.reduceAdd, Int.reduceSub, implies_true, ne_eq, if_true, if_false, reduceCtorEq]) (ref_has (letL (m.c 0)) 112 _ hlen) ?_
    rintro v H2 ⟨rfl, rfl⟩
    rw [has_pan hk]
    by_cases h1 : m.c 0 = 1
    · rw [decide_eq_true h1]
      simp (maxSteps := 5000000) (disch := omega) only [MX, hg, g1, g2, g4, g5, hc, V_P, SX, W_block, exitW, goInt, Int.reduceEq, setCells, oneOf, cellOk, reduceIte, Nat.reduceLT, Nat.reduceLeDiff, Nat.reduceEqDiff, Nat.reduceAdd, Nat.reduceSub, Nat.reduceMul, Int.reduceToNat, Int.reduceLT, Int.reduceLE, Int.reduceAdd, Int.reduceSub, implies_true, ne_eq, if_true, if_false, reduceCtorEq]
      refine W_callR rfl (by simp (maxSteps := 5000000) (disch := omega) only [MX, hg, g1, g2, g4, g5, hc, V_P, SX, W_block, exitW, goInt, Int.reduceEq, setCells, oneOf, cellOk, reduceIte, Nat.reduceLT, Nat.reduceLeDiff, Nat.reduceEqDiff, Nat.reduceAdd, Nat.reduceSub, Nat.reduceMul, Int.reduceToNat, Int.reduceLT, Int.reduceLE, Int.reduceAdd, Int.reduceSub, implies_true, ne_eq, if_true, if_false, reduceCtorEq]) (ref_Pan m.pan _ hp) ?_
      rintro v H2 ⟨rfl, rfl⟩
      simp (maxSteps := 5000000) (disch := omega) only [MX, hg, g1, g2, g4, g5, hc, V_P, SX, W_block, exitW, goInt, Int.reduceEq, setCells, oneOf, cellOk, reduceIte, Nat.reduceLT, Nat.reduceLeDiff, Nat.reduceEqDiff, Nat.reduceAdd, Nat.reduceSub, Nat.reduceMul, Int.reduceToNat, Int.reduceLT, Int.reduceLE, Int.reduceAdd, Int.reduceSub, implies_true, ne_eq, if_true, if_false, reduceCtorEq]
      (try simp [h1])
    · rw [decide_eq_false h1]
      simp (maxSteps := 5000000) (disch := omega) only [MX, hg, g1, g2, g4, g5, hc, V_P, SX, W_block, exitW, goInt, Int.reduceEq, setCells, oneOf, cellOk, reduceIte, Nat.reduceLT, Nat.reduceLeDiff, Nat.reduceEqDiff, Nat.reduceAdd, Nat.reduceSub, Nat.reduceMul, Int.reduceToNat, Int.reduceLT, Int.reduceLE, Int.reduceAdd, Int.reduceSub, implies_true, ne_eq, if_true, if_false, reduceCtorEq]
      (try simp [h1])
  rintro t H2 ⟨rfl, g1, g2, g4, g5⟩
  refine W_cutO 9 (fun t H2 => H2 = H.push (mO m) ∧ t.get 1 = some (.pointer (some ⟨H.next, 0, none⟩)) ∧ t.get 2 = some (.bool false) ∧ t.get 4 = some (.string (S (letL (m.c 0)))) ∧ t.get 91 = some (.bool (!(((((keep (m.c 0) 2 || decide (m.c 2 = 0)) && (keep (m.c 0) 4 || decide (m.c 4 = 0))) && (keep (m.c 0) 21 || decide (m.c 21 = 0))) && (!decide (m.c 0 = 1) || panOk m.pan)) && (decide (m.c 0 = 1) || decide (m.pan = S [])))))) ?_ ?_
  · cases hc : ((((keep (m.c 0) 2 || decide (m.c 2 = 0)) && (keep (m.c 0) 4 || decide (m.c 4 = 0))) && (keep (m.c 0) 21 || decide (m.c 21 = 0))) && (!decide (m.c 0 = 1) || panOk m.pan))
    · simp (maxSteps := 5000000) (disch := omega) only [MX, g1, g2, g4, g5, hc, V_P, SX, W_block, exitW, goInt, Int.reduceEq, setCells, oneOf, cellOk, reduceIte, Nat.reduceLT, Nat.reduceLeDiff, Nat.reduceEqDiff, Nat.reduceAdd, Nat.reduceSub, Nat.reduceMul, Int.reduceToNat, Int.reduceLT, Int.reduceLE, Int.reduceAdd, Int.reduceSub, implies_true, ne_eq, if_true, if_false, reduceCtorEq]
      rfl
    simp (maxSteps := 5000000) (disch := omega) only [MX, g1, g2, g4, g5, hc, V_P, SX, W_block, exitW, goInt, Int.reduceEq, setCells, oneOf, cellOk, reduceIte, Nat.reduceLT, Nat.reduceLeDiff, Nat.reduceEqDiff, Nat.reduceAdd, Nat.reduceSub, Nat.reduceMul, Int.reduceToNat, Int.reduceLT, Int.reduceLE, Int.reduceAdd, Int.reduceSub, implies_true, ne_eq, if_true, if_false, reduceCtorEq]
    refine W_callR rfl (by simp (maxSteps := 5000000) (disch := omega) only [MX, g1, g2, g4, g5, hc, V_P, SX, W_block, exitW, goInt, Int.reduceEq, setCells, oneOf, cellOk, reduceIte, Nat.reduceLT, Nat.reduceLeDiff, Nat.reduceEqDiff, Nat.reduceAdd, Nat.reduceSub, Nat.reduceMul, Int.reduceToNat, Int.reduceLT, Int.reduceLE, Int.reduceAdd, Int.reduceSub, implies_true, ne_eq, if_true, if_false, reduceCtorEq]) (ref_has (letL (m.c 0)) 112 _ hlen) ?_
    rintro v H2 ⟨rfl, rfl⟩
    rw [has_pan hk]
    by_cases h1 : m.c 0 = 1
    · rw [decide_eq_true h1]
      simp (maxSteps := 5000000) (disch := omega) only [MX, hg, g1, g2, g4, g5, hc, V_P, SX, W_block, exitW, goInt, Int.reduceEq, setCells, oneOf, cellOk, reduceIte, Nat.reduceLT, Nat.reduceLeDiff, Nat.reduceEqDiff, Nat.reduceAdd, Nat.reduceSub, Nat.reduceMul, Int.reduceToNat, Int.reduceLT, Int.reduceLE, Int.reduceAdd, Int.reduceSub, implies_true, ne_eq, if_true, if_false, reduceCtorEq]
      (try simp [h1])
    · rw [decide_eq_false h1]
      simp (maxSteps := 5000000) (disch := omega) only [MX, hg, g1, g2, g4, g5, hc, V_P, SX, W_block, exitW, goInt, Int.reduceEq, setCells, oneOf, cellOk, reduceIte, Nat.reduceLT, Nat.reduceLeDiff, Nat.reduceEqDiff, Nat.reduceAdd, Nat.reduceSub, Nat.reduceMul, Int.reduceToNat, Int.reduceLT, Int.reduceLE, Int.reduceAdd, Int.reduceSub, implies_true, ne_eq, if_true, if_false, reduceCtorEq]
      (try simp [h1])
  rintro t H2 ⟨rfl, g1, g2, g4, g5⟩
  have e2 : m.right2 = ((((((keep (m.c 0) 2 || decide (m.c 2 = 0)) && (keep (m.c 0) 4 || decide (m.c 4 = 0))) && (keep (m.c 0) 21 || decide (m.c 21 = 0))) && (!decide (m.c 0 = 1) || panOk m.pan)) && (decide (m.c 0 = 1) || decide (m.pan = S []))) && (List.range 5).all (grpOk m)) := by
    unfold Msg.right2; rw [decide_eq_true hk, decide_eq_true hr]
    by_cases h1 : m.c 0 = 1
    · simp [h1, Bool.and_assoc]
    · simp [h1, Bool.and_assoc]
  cases hc : (((((keep (m.c 0) 2 || decide (m.c 2 = 0)) && (keep (m.c 0) 4 || decide (m.c 4 = 0))) && (keep (m.c 0) 21 || decide (m.c 21 = 0))) && (!decide (m.c 0 = 1) || panOk m.pan)) && (decide (m.c 0 = 1) || decide (m.pan = S [])))
  · simp (maxSteps := 5000000) (disch := omega) only [MX, g1, g2, g4, g5, hc, V_P, SX, W_block, exitW, goInt, Int.reduceEq, setCells, oneOf, cellOk, reduceIte, Nat.reduceLT, Nat.reduceLeDiff, Nat.reduceEqDiff, Nat.reduceAdd, Nat.reduceSub, Nat.reduceMul, Int.reduceToNat, Int.reduceLT, Int.reduceLE, Int.reduceAdd, Int.reduceSub, implies_true, ne_eq, if_true, if_false, reduceCtorEq]
    refine ⟨?_, by repeat (first | exact Same.same ok | refine Same.push ?_ _ | refine Same.room ?_ _ | (refine Same.make ?_ (by (try simp only [Heap.next_push, Heap.next_set, Heap.next_room]); omega) (by (try simp only [Heap.next_push, Heap.next_set, Heap.next_room]); omega)) | (refine Same.put ?_ (by simp (disch := omega) only [Heap.get_pushH, Heap.get_setH, hite_same, hite_ne, hite_eq, Heap.get_room, Heap.next_push, Heap.next_set, Heap.next_room, Option.isSome_some, *]) (fun z => by first | (simp; done) | (exfalso; (try simp only [Heap.next_push, Heap.next_set, Heap.next_room] at z); omega))))⟩
    rw [e2, hc]; rfl
  rw [hc, Bool.true_and] at e2
  simp (maxSteps := 5000000) (disch := omega) only [MX, g1, g2, g4, g5, hc, V_P, SX, W_block, exitW, goInt, Int.reduceEq, setCells, oneOf, cellOk, reduceIte, Nat.reduceLT, Nat.reduceLeDiff, Nat.reduceEqDiff, Nat.reduceAdd, Nat.reduceSub, Nat.reduceMul, Int.reduceToNat, Int.reduceLT, Int.reduceLE, Int.reduceAdd, Int.reduceSub, implies_true, ne_eq, if_true, if_false, reduceCtorEq]
  refine W_for (fun (i : Nat) t H2 => t.get 1 = some (.pointer (some ⟨H.next, 0, none⟩)) ∧ t.get 4 = some (.string (S (letL (m.c 0)))) ∧ t.get 6 = some (.int .i64 i) ∧ i ≤ 5 ∧ (∀ j, j < i → grpOk m j = true) ∧ Same H H2 [] ∧ H.next < H2.next ∧ H2.get H.next = some (mO m)) (fun i => 5 - i) 0 ?_ ?_
  · simp (maxSteps := 5000000) (disch := omega) only [g1, g4, hg, V_P, SX, W_block, exitW, goInt, Int.reduceEq, setCells, oneOf, cellOk, reduceIte, Nat.reduceLT, Nat.reduceLeDiff, Nat.reduceEqDiff, Nat.reduceAdd, Nat.reduceSub, Nat.reduceMul, Int.reduceToNat, Int.reduceLT, Int.reduceLE, Int.reduceAdd, Int.reduceSub, implies_true, ne_eq, if_true, if_false, reduceCtorEq]
    exact ⟨rfl, fun j h => absurd h (by omega), by repeat (first | exact Same.same ok | refine Same.push ?_ _ | refine Same.room ?_ _ | (refine Same.make ?_ (by (try simp only [Heap.next_push, Heap.next_set, Heap.next_room]); omega) (by (try simp only [Heap.next_push, Heap.next_set, Heap.next_room]); omega)) | (refine Same.put ?_ (by simp (disch := omega) only [Heap.get_pushH, Heap.get_setH, hite_same, hite_ne, hite_eq, Heap.get_room, Heap.next_push, Heap.next_set, Heap.next_room, Option.isSome_some, *]) (fun z => by first | (simp; done) | (exfalso; (try simp only [Heap.next_push, Heap.next_set, Heap.next_room] at z); omega)))), Nat.lt_succ_self _⟩
  rintro i t H2 ⟨g1, g4, g6, hi, hall, hs, hn, hgm⟩
  have ok2 := hs.ok
  simp (maxSteps := 5000000) (disch := omega) only [MX, g1, g4, g6, hgm, V_P, SX, W_block, exitW, goInt, Int.reduceEq, setCells, oneOf, cellOk, reduceIte, Nat.reduceLT, Nat.reduceLeDiff, Nat.reduceEqDiff, Nat.reduceAdd, Nat.reduceSub, Nat.reduceMul, Int.reduceToNat, Int.reduceLT, Int.reduceLE, Int.reduceAdd, Int.reduceSub, implies_true, ne_eq, if_true, if_false, reduceCtorEq]
  refine cW_dec (fun hlt => ?_) (fun hlt => ?_)
  rotate_left
  · simp (maxSteps := 5000000) (disch := omega) only [MX, g1, g4, g6, hgm, V_P, SX, W_block, exitW, goInt, Int.reduceEq, setCells, oneOf, cellOk, reduceIte, Nat.reduceLT, Nat.reduceLeDiff, Nat.reduceEqDiff, Nat.reduceAdd, Nat.reduceSub, Nat.reduceMul, Int.reduceToNat, Int.reduceLT, Int.reduceLE, Int.reduceAdd, Int.reduceSub, implies_true, ne_eq, if_true, if_false, reduceCtorEq]
    refine ⟨?_, hs⟩
    rw [e2]
    congr 1
    symm
    rw [List.all_eq_true]
    intro j hj
    exact hall j (by have := List.mem_range.mp hj; omega)
  have hi5 : i < 5 := by omega
  have hle : (⟨#[110, 114, 99, 100, 109]⟩ : ByteArray)[i]? = some (lett i) := by
    rcases (show i = 0 ∨ i = 1 ∨ i = 2 ∨ i = 3 ∨ i = 4 by omega) with rfl | rfl | rfl | rfl | rfl <;> rfl
  have hgr : gcV (grp i) 4 (H2.get H.next) = some [.int .i64 (m.c (grp i)), .int .i64 (m.c (grp i + 1)), .int .i64 (m.c (grp i + 2)), .int .i64 (m.c (grp i + 3))] := by
    rw [hgm]
    rcases (show i = 0 ∨ i = 1 ∨ i = 2 ∨ i = 3 ∨ i = 4 by omega) with rfl | rfl | rfl | rfl | rfl <;> rfl
  simp (maxSteps := 5000000) (disch := omega) only [MX, g1, g4, g6, hle, V_P, SX, W_block, exitW, goInt, Int.reduceEq, setCells, oneOf, cellOk, reduceIte, Nat.reduceLT, Nat.reduceLeDiff, Nat.reduceEqDiff, Nat.reduceAdd, Nat.reduceSub, Nat.reduceMul, Int.reduceToNat, Int.reduceLT, Int.reduceLE, Int.reduceAdd, Int.reduceSub, implies_true, ne_eq, if_true, if_false, reduceCtorEq]
  refine W_callR rfl (by simp (maxSteps := 5000000) (disch := omega) only [MX, g1, g4, g6, hle, V_P, SX, W_block, exitW, goInt, Int.reduceEq, setCells, oneOf, cellOk, reduceIte, Nat.reduceLT, Nat.reduceLeDiff, Nat.reduceEqDiff, Nat.reduceAdd, Nat.reduceSub, Nat.reduceMul, Int.reduceToNat, Int.reduceLT, Int.reduceLE, Int.reduceAdd, Int.reduceSub, implies_true, ne_eq, if_true, if_false, reduceCtorEq]) (ref_notes H.next i hi5 _) ?_
  rintro v H3 ⟨rfl, e3⟩
  obtain rfl := e3.symm
  simp (maxSteps := 5000000) (disch := omega) only [MX, g1, g4, g6, hle, hgr, V_P, SX, W_block, exitW, goInt, Int.reduceEq, setCells, oneOf, cellOk, reduceIte, Nat.reduceLT, Nat.reduceLeDiff, Nat.reduceEqDiff, Nat.reduceAdd, Nat.reduceSub, Nat.reduceMul, Int.reduceToNat, Int.reduceLT, Int.reduceLE, Int.reduceAdd, Int.reduceSub, implies_true, ne_eq, if_true, if_false, reduceCtorEq]
  refine W_callR rfl (by simp (maxSteps := 5000000) (disch := omega) only [MX, g1, g4, g6, hle, hgr, Msg.n4, V_P, SX, W_block, exitW, goInt, Int.reduceEq, setCells, oneOf, cellOk, reduceIte, Nat.reduceLT, Nat.reduceLeDiff, Nat.reduceEqDiff, Nat.reduceAdd, Nat.reduceSub, Nat.reduceMul, Int.reduceToNat, Int.reduceLT, Int.reduceLE, Int.reduceAdd, Int.reduceSub, implies_true, ne_eq, if_true, if_false, reduceCtorEq]) (ref_within (m.n4 (grp i)) (mostG i) _ ok2) ?_
  rintro v H4 ⟨rfl, hs4⟩
  have hgm4 : H4.get H.next = some (mO m) := by rw [hs4.get _ hn (by simp), hgm]
  have hgr4 : gcV (grp i) 4 (H4.get H.next) = some [.int .i64 (m.c (grp i)), .int .i64 (m.c (grp i + 1)), .int .i64 (m.c (grp i + 2)), .int .i64 (m.c (grp i + 3))] := by rw [hs4.get _ hn (by simp)]; exact hgr
  have hs5 : Same H H4 [] := hs.trans hs4 (by simp)
  have bad : grpOk m i = false → m.right2 = false := fun h => by
    rw [e2, List.all_eq_false]
    exact ⟨i, List.mem_range.mpr hi5, by simp [h]⟩
  have hle4 := hs4.le
  cases hw : (m.n4 (grp i)).within (mostG i)
  · simp (maxSteps := 5000000) (disch := omega) only [MX, g1, g4, g6, hle, hgr4, hw, V_P, SX, W_block, exitW, goInt, Int.reduceEq, setCells, oneOf, cellOk, reduceIte, Nat.reduceLT, Nat.reduceLeDiff, Nat.reduceEqDiff, Nat.reduceAdd, Nat.reduceSub, Nat.reduceMul, Int.reduceToNat, Int.reduceLT, Int.reduceLE, Int.reduceAdd, Int.reduceSub, implies_true, ne_eq, if_true, if_false, reduceCtorEq]
    refine ⟨?_, hs5⟩
    rw [bad (by unfold grpOk; rw [hw]; rfl)]
  simp (maxSteps := 5000000) (disch := omega) only [MX, g1, g4, g6, hle, hgr4, hw, V_P, SX, W_block, exitW, goInt, Int.reduceEq, setCells, oneOf, cellOk, reduceIte, Nat.reduceLT, Nat.reduceLeDiff, Nat.reduceEqDiff, Nat.reduceAdd, Nat.reduceSub, Nat.reduceMul, Int.reduceToNat, Int.reduceLT, Int.reduceLE, Int.reduceAdd, Int.reduceSub, implies_true, ne_eq, if_true, if_false, reduceCtorEq]
  refine W_callR rfl (by simp (maxSteps := 5000000) (disch := omega) only [MX, g1, g4, g6, hle, hgr4, hw, V_P, SX, W_block, exitW, goInt, Int.reduceEq, setCells, oneOf, cellOk, reduceIte, Nat.reduceLT, Nat.reduceLeDiff, Nat.reduceEqDiff, Nat.reduceAdd, Nat.reduceSub, Nat.reduceMul, Int.reduceToNat, Int.reduceLT, Int.reduceLE, Int.reduceAdd, Int.reduceSub, implies_true, ne_eq, if_true, if_false, reduceCtorEq]) (ref_has (letL (m.c 0)) (lett i).toNat _ hlen) ?_
  rintro v H5 ⟨rfl, e5⟩
  obtain rfl := e5.symm
  rw [has_grp hk hi5]
  cases hk2 : keep (m.c 0) (grp i)
  · cases hz : (m.n4 (grp i)).isZ
    · have hz2 := hz
      unfold N4.isZ Msg.n4 at hz2
      simp (maxSteps := 5000000) (disch := omega) only [MX, g1, g4, g6, hle, hgr4, hw, hk2, hz2, V_P, SX, W_block, exitW, goInt, Int.reduceEq, setCells, oneOf, cellOk, reduceIte, Nat.reduceLT, Nat.reduceLeDiff, Nat.reduceEqDiff, Nat.reduceAdd, Nat.reduceSub, Nat.reduceMul, Int.reduceToNat, Int.reduceLT, Int.reduceLE, Int.reduceAdd, Int.reduceSub, implies_true, ne_eq, if_true, if_false, reduceCtorEq]
      refine ⟨?_, hs5⟩
      rw [bad (by unfold grpOk; rw [hw, hk2, hz]; rfl)]
    · have hz2 := hz
      unfold N4.isZ Msg.n4 at hz2
      simp (maxSteps := 5000000) (disch := omega) only [MX, g1, g4, g6, hle, hgr4, hw, hk2, hz2, V_P, SX, W_block, exitW, goInt, Int.reduceEq, setCells, oneOf, cellOk, reduceIte, Nat.reduceLT, Nat.reduceLeDiff, Nat.reduceEqDiff, Nat.reduceAdd, Nat.reduceSub, Nat.reduceMul, Int.reduceToNat, Int.reduceLT, Int.reduceLE, Int.reduceAdd, Int.reduceSub, implies_true, ne_eq, if_true, if_false, reduceCtorEq]
      refine ⟨i + 1, ⟨by simp, by omega, fun j hj => ?_, hs5, by omega, hgm4⟩, by omega⟩
      by_cases hji : j = i
      · subst hji; unfold grpOk; rw [hw, hk2, hz]; rfl
      · exact hall j (by omega)
  · simp (maxSteps := 5000000) (disch := omega) only [MX, g1, g4, g6, hle, hgr4, hw, hk2, V_P, SX, W_block, exitW, goInt, Int.reduceEq, setCells, oneOf, cellOk, reduceIte, Nat.reduceLT, Nat.reduceLeDiff, Nat.reduceEqDiff, Nat.reduceAdd, Nat.reduceSub, Nat.reduceMul, Int.reduceToNat, Int.reduceLT, Int.reduceLE, Int.reduceAdd, Int.reduceSub, implies_true, ne_eq, if_true, if_false, reduceCtorEq]
    refine ⟨i + 1, ⟨by simp, by omega, fun j hj => ?_, hs5, by omega, hgm4⟩, by omega⟩
    by_cases hji : j = i
    · subst hji; unfold grpOk; rw [hw, hk2]; rfl
    · exact hall j (by omega)
end Go.B.YteigefgobkdmgaaDoor
