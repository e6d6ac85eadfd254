import Derived.Test.YthajndlkibpncaaDoorWWords
import Derived.Laws.BitsLemmas
/- Plain tools: rounds, wraps, bytes, exclusive or. -/
namespace Go.Proofs.YthajndlkibpncaaDoor.Q
open Go.RowKit Go.Proofs.YthajndlkibpncaaDoorW.PrintWords
set_option linter.unusedVariables false

theorem wrap_id {n : Int} (h0 : -9223372036854775808 ≤ n) (h1 : n ≤ 9223372036854775807) : wrap64 n = n := by unfold wrap64; omega
theorem wrap_succ {i : Nat} {n : Nat} (h : i < n) (hn : n ≤ 140737488355328) : wrap64 ((i : Int) + 1) = ((i + 1 : Nat) : Int) := by unfold wrap64; omega
theorem rd_lt {l : List Int} {i : Nat} (h : i < l.length) : rd l (i : Int) = l[i] := by simp [rd, List.getD_eq_getElem?_getD, List.getElem?_eq_getElem h]
theorem rd_nat (l : List Int) (i : Nat) : rd l (i : Int) = l[i]?.getD 0 := by simp [rd, List.getD_eq_getElem?_getD]

/-- A byte. -/
def U8 (x : Int) : Prop := 0 ≤ x ∧ x ≤ 255
theorem U8.of {x : Int} (h : (Lit.int .u8 x).wf = true) : U8 x := by
  simp [Lit.wf, IntKind.min, IntKind.max, IntKind.bits, IntKind.signed] at h
  unfold U8
  omega

/-! ### exclusive or of bytes -/
abbrev X (a b : Int) : Int := Go.bits .xor .u8 a b
theorem X_eq (a b : Int) : X a b = ((BitVec.ofInt 8 a ^^^ BitVec.ofInt 8 b).toNat : Int) := by
  show IntKind.u8.wrap ((BitVec.ofInt 8 a ^^^ BitVec.ofInt 8 b).toNat : Int) = _
  have h := (BitVec.ofInt 8 a ^^^ BitVec.ofInt 8 b).isLt
  rw [IntKind.wrap_u8]
  omega
theorem X_u8 (a b : Int) : U8 (X a b) := by
  rw [X_eq]
  have h := (BitVec.ofInt 8 a ^^^ BitVec.ofInt 8 b).isLt
  unfold U8
  omega
theorem ofInt_toNat (v : BitVec 8) : BitVec.ofInt 8 (v.toNat : Int) = v := by simp
theorem X_assoc (a b c : Int) : X (X a b) c = X a (X b c) := by
  rw [X_eq a b, X_eq b c, X_eq, X_eq, ofInt_toNat, ofInt_toNat, BitVec.xor_assoc]
theorem X_comm (a b : Int) : X a b = X b a := by rw [X_eq, X_eq, BitVec.xor_comm]
theorem X_self (a : Int) : X a a = 0 := by rw [X_eq, BitVec.xor_self]; rfl
theorem X_zero {a : Int} (h : U8 a) : X 0 a = a := by
  rw [X_eq]
  unfold U8 at h
  obtain ⟨n, rfl⟩ := Int.eq_ofNat_of_zero_le h.1
  have : n < 256 := by omega
  simp [BitVec.toNat_ofNat]
  omega
theorem X_zl (b c : Int) : X (X 0 b) c = X b c := by
  rw [X_eq 0 b, X_eq _ c, ofInt_toNat, X_eq b c]
  simp
theorem X_zero' {a : Int} (h : U8 a) : X a 0 = a := by rw [X_comm, X_zero h]

/-- All bytes, one xor the other. -/
def lrc (l : List Int) : Int := l.foldl X 0
theorem foldl_X (l : List Int) : ∀ a, U8 a → l.foldl X a = X a (l.foldl X 0) := by
  induction l with
  | nil => intro a h; exact (X_zero' h).symm
  | cons b l ih =>
    intro a h
    show l.foldl X (X a b) = X a (l.foldl X (X 0 b))
    rw [ih _ (X_u8 _ _), ih (X 0 b) (X_u8 _ _), X_assoc, X_zl]
theorem lrc_u8 (l : List Int) (h : ∀ x ∈ l, U8 x) : U8 (lrc l) := by
  unfold lrc
  suffices ∀ a, U8 a → U8 (l.foldl X a) from this 0 (by unfold U8; omega)
  clear h
  induction l with
  | nil => intro a h; exact h
  | cons b l ih => intro a h; exact ih _ (X_u8 _ _)
theorem lrc_append (l m : List Int) : lrc (l ++ m) = X (lrc l) (lrc m) := by
  unfold lrc
  rw [List.foldl_append, foldl_X m]
  suffices ∀ a, U8 a → U8 (l.foldl X a) from this 0 (by unfold U8; omega)
  induction l with
  | nil => intro a h; exact h
  | cons b l ih => intro a h; exact ih _ (X_u8 _ _)

/-! ### rounds -/
theorem Ev.ite_pos {α : Type} {c : Prop} [Decidable c] {f g : Nat → Option α} {r : α} (h : c) (k : Ev f r) : Ev (fun n => if c then f n else g n) r := Ev.congr (fun _ => if_pos h) k
theorem Ev.ite_neg {α : Type} {c : Prop} [Decidable c] {f g : Nat → Option α} {r : α} (h : ¬ c) (k : Ev g r) : Ev (fun n => if c then f n else g n) r := Ev.congr (fun _ => if_neg h) k
theorem Ev.some_bind {α β : Type} {a : α} {f : Nat → α → Option β} {r : β} (k : Ev (fun n => f n a) r) : Ev (fun n => (some a).bind (f n)) r := k
theorem Ev.const_bind {α β : Type} {o : Option α} {a : α} {f : Nat → α → Option β} {r : β} (h : o = some a) (k : Ev (fun n => f n a) r) : Ev (fun n => o.bind (f n)) r := by subst h; exact k
end Go.Proofs.YthajndlkibpncaaDoor.Q
