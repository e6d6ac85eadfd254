import Derived.Test.YtnnoanfiehjleaaDoorQRefNum
import Derived.Test.YtnnoanfiehjleaaDoorPAllx9
/- Decimals of a number: their digits, how many, and what they read as. -/
namespace Go.Proofs.YtnnoanfiehjleaaDoor.Q
open Go.RowKit Go.Proofs.YtnnoanfiehjleaaDoorW.PrintWords Go.Proofs.YtnnoanfiehjleaaDoorW.PrintMore Go.Proofs.YtnnoanfiehjleaaDoor.PAll
set_option linter.unusedVariables false

theorem pow_big (k n : Nat) (h : n < 2 ^ k) : n < 10 ^ (k + 1) :=
  Nat.lt_of_lt_of_le h (Nat.le_trans (Nat.pow_le_pow_left (by decide : 2 ≤ 10) k) (Nat.pow_le_pow_right (by decide) (Nat.le_succ k)))
theorem dec_digs (n : Nat) : AllDig (Go.Lib.decDigits n) := by
  have hb : n < 10 ^ (n + 1) := pow_big n n Nat.lt_two_pow_self
  have h := (pad_dec (n + 1) n (by omega) hb).2
  intro c hc
  exact digN_dig (n + 1) n c (by rw [← h]; exact List.mem_append_right _ hc)
theorem val_zeros (l : List UInt8) : ∀ m, val (List.replicate m 48 ++ l) = val l
  | 0 => rfl
  | m + 1 => by
    rw [List.replicate_succ, List.cons_append]
    exact val_zeros l m
theorem dec_val (n : Nat) : val (Go.Lib.decDigits n) = n := by
  have hb : n < 10 ^ (n + 1) := pow_big n n Nat.lt_two_pow_self
  have h := (pad_dec (n + 1) n (by omega) hb).2
  rw [← val_zeros _ (n + 1 - (Go.Lib.decDigits n).length), h, val_digN_lt hb]
theorem dec_short {k n : Nat} (hk : 1 ≤ k) (h : n < 10 ^ k) : (Go.Lib.decDigits n).length ≤ k := (pad_dec k n hk h).1
theorem decimals_ev (n : Nat) (hn : n ≤ 9223372036854775807) : Ev (fun k => guichetseat_Decimals.f k (n : Int)) (S (Go.Lib.decDigits n)) := by
  unfold guichetseat_Decimals.f
  exact Ev.bind (ref_dec_nat n hn) (Ev.now _)
theorem numR_dec {n : Nat} (hn : n < 1000000000000000000) : numR (Go.Lib.decDigits n) = ((n : Int), true) := by
  unfold numR
  have h1 := (dec_len n).2
  have h2 := dec_short (k := 18) (by decide) (show n < 10 ^ 18 from hn)
  rw [if_pos ⟨h1, h2, dec_digs n⟩, dec_val]
end Go.Proofs.YtnnoanfiehjleaaDoor.Q
