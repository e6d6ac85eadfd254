import Derived.Test.YthajndlkibpncaaDoorQBase
import Derived.Test.YthajndlkibpncaaDoorQDigits
import Derived.Test.YthajndlkibpncaaDoorPAllx3
/- Texts, their numbers, and a number in so many digits, in plain lists. -/
namespace Go.Proofs.YthajndlkibpncaaDoor.Q
open Go.RowKit Go.Proofs.YthajndlkibpncaaDoorW.PrintWords Go.Proofs.YthajndlkibpncaaDoorW.PrintMore Go.Proofs.YthajndlkibpncaaDoor.PAll
set_option linter.unusedVariables false

/-- A text out of its bytes. -/
abbrev S (l : List UInt8) : ByteArray := ⟨l.toArray⟩
theorem S_list (l : List UInt8) : (S l).data.toList = l := rfl
theorem S_size (l : List UInt8) : (S l).size = l.length := rfl
theorem S_of (s : ByteArray) : S s.data.toList = s := rfl
theorem size_list (s : ByteArray) : s.size = s.data.toList.length := (data_length s).symm
theorem S_append (l m : List UInt8) : S l ++ S m = S (l ++ m) := by
  apply ByteArray.ext
  rw [ByteArray.data_append]
  simp
theorem S_inj {l m : List UInt8} (h : S l = S m) : l = m := congrArg (fun s : ByteArray => s.data.toList) h
theorem S_extract (l : List UInt8) (a b : Nat) : (S l).extract a b = S ((l.take b).drop a) := by
  apply ByteArray.ext
  rw [ByteArray.data_extract]
  simp [List.drop_take]
theorem bt_lt {l : List UInt8} {i : Nat} (h : i < l.length) : bt (S l) (i : Int) = (l[i].toNat : Int) := by
  rw [← rd_bytesOf, rd_lt (by simpa [bytesOf] using h)]
  simp [bytesOf]
theorem toList_S (l : List UInt8) : (S l).toList = l := by rw [Go.Lib.toList_data]

def AllDig (l : List UInt8) : Prop := ∀ c ∈ l, IsDig c
instance (l : List UInt8) : Decidable (AllDig l) := by unfold AllDig; infer_instance
theorem AllDig.cons {c : UInt8} {l : List UInt8} : AllDig (c :: l) ↔ IsDig c ∧ AllDig l := by unfold AllDig; simp
/-- A text's number. -/
def numR (l : List UInt8) : Int × Bool := if 1 ≤ l.length ∧ l.length ≤ 18 ∧ AllDig l then ((val l : Int), true) else (0, false)
theorem val_18 {l : List UInt8} (h : l.length ≤ 18) (hd : AllDig l) : val l < 1000000000000000000 := by
  have h1 := val_lt l.length l rfl hd
  have h2 : (10 : Nat) ^ l.length ≤ 10 ^ 18 := Nat.pow_le_pow_right (by decide) h
  omega
/-- A number in so many digits. -/
def digR (v n : Int) : ByteArray × Bool := if 0 ≤ v ∧ 1 ≤ n ∧ n ≤ 18 ∧ v.toNat < 10 ^ n.toNat then (S (digN n.toNat v.toNat), true) else (S [], false)
theorem itoa_len (v : Int) (h0 : -9223372036854775808 ≤ v) (h1 : v ≤ 9223372036854775807) : (Go.Lib.itoa v).length ≤ 20 := by
  have h : ∀ n : Nat, n ≤ 9223372036854775808 → (Go.Lib.decDigits n).length ≤ 19 := fun n hn => (pad_dec 19 n (by decide) (by omega)).1
  unfold Go.Lib.itoa
  split
  · rw [List.length_cons]; have := h v.natAbs (by omega); omega
  · have := h v.toNat (by omega); omega
theorem bcd_Digits_eq (v n : Int) (hw : (Lit.int .i64 v).wf = true) : bcd_Digits.f v n = some (digR v n) := by
  have hb : -9223372036854775808 ≤ v ∧ v ≤ 9223372036854775807 := by simpa [Lit.wf, IntKind.min, IntKind.max, IntKind.bits, IntKind.signed] using hw
  have hl := itoa_len v hb.1 hb.2
  unfold bcd_Digits.f
  rw [show strconv_FormatInt.f v 10 = some (S (Go.Lib.itoa v)) from if_pos ⟨rfl, hw⟩]
  simp only [Option.bind_some]
  rw [S_size]
  by_cases h0 : v < 0
  · rw [if_pos h0, show digR v n = (S [], false) from if_neg (by omega)]
  rw [if_neg h0]
  by_cases h1 : n < 1
  · rw [if_pos h1, show digR v n = (S [], false) from if_neg (by omega)]
  rw [if_neg h1]
  by_cases h2 : n > 18
  · rw [if_pos h2, show digR v n = (S [], false) from if_neg (by omega)]
  rw [if_neg h2]
  obtain ⟨m, rfl⟩ := Int.eq_ofNat_of_zero_le (show 0 ≤ n by omega)
  obtain ⟨u, rfl⟩ := Int.eq_ofNat_of_zero_le (show 0 ≤ v by omega)
  have hi : Go.Lib.itoa (u : Int) = Go.Lib.decDigits u := by unfold Go.Lib.itoa; rw [if_neg h0]; rfl
  rw [hi] at hl ⊢
  by_cases h3 : u < 10 ^ m
  · obtain ⟨h4, h5⟩ := pad_dec m u (by omega) h3
    rw [if_neg (by omega), show digR (u : Int) (m : Int) = (S (digN m u), true) from if_pos ⟨by omega, by omega, by omega, h3⟩]
    rw [show wrap64 ((m : Int) - ((Go.Lib.decDigits u).length : Int)) = ((m - (Go.Lib.decDigits u).length : Nat) : Int) from by unfold wrap64; omega]
    rw [show strings_Repeat.f (⟨#[48]⟩ : ByteArray) ((m - (Go.Lib.decDigits u).length : Nat) : Int) = some (S (List.replicate (m - (Go.Lib.decDigits u).length) 48)) from by
      unfold strings_Repeat.f
      rw [if_pos ⟨by omega, by omega, by rw [show (⟨#[48]⟩ : ByteArray).size = 1 from rfl]; omega⟩, Int.toNat_natCast, show (⟨#[48]⟩ : ByteArray).data.toList = [48] from rfl, repeat_zero]]
    simp only [Option.bind_some]
    rw [if_pos (by simp only [S_size, List.length_replicate]; omega), S_append, h5]
  · have := dec_long (show 10 ^ m ≤ u by omega)
    rw [if_pos (by omega), show digR (u : Int) (m : Int) = (S [], false) from if_neg (fun h => h3 h.2.2.2)]
end Go.Proofs.YthajndlkibpncaaDoor.Q
