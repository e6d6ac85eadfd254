/- A number in so many digits, packed and unpacked. -/
import Derived.Test.YtcldlekkbabpoaaDoorQBcdPack
import Derived.Test.YtcldlekkbabpoaaDoorPAllx7
namespace Go.Proofs.YtcldlekkbabpoaaDoor.Pure
open Go.RowKit Go.Proofs.YtcldlekkbabpoaaDoorW.PrintWords Go.Proofs.YtcldlekkbabpoaaDoorW.PrintMore Go.Proofs.YtcldlekkbabpoaaDoor.PAll Go.Proofs.YtcldlekkbabpoaaDoor.Q

theorem BcdZeros : guichetlaw6_BcdZeros.Pure := by
  intro a b ha hb
  have ha' : 0 ≤ a ∧ a ≤ 4294967295 := by simpa [Lit.wf, IntKind.min, IntKind.max, IntKind.bits, IntKind.signed] using ha
  have hb' : 0 ≤ b ∧ b ≤ 255 := by simpa [Lit.wf, IntKind.min, IntKind.max, IntKind.bits, IntKind.signed] using hb
  obtain ⟨u, rfl⟩ := Int.eq_ofNat_of_zero_le ha'.1
  obtain ⟨y, rfl⟩ := Int.eq_ofNat_of_zero_le hb'.1
  obtain ⟨n, hn, h1, h2⟩ : ∃ n : Nat, wrap64 (10 + wrap64 (Int.tmod (y : Int) 9)) = (n : Int) ∧ 10 ≤ n ∧ n ≤ 18 := by
    refine ⟨10 + y % 9, ?_, by omega, by omega⟩
    rw [Int.tmod_eq_emod_of_nonneg (by omega)]
    unfold wrap64
    omega
  have hu : u < 10 ^ n := Nat.lt_of_lt_of_le (show u < 10 ^ 10 by omega) (Nat.pow_le_pow_right (by decide) h1)
  have hd : digR (u : Int) (n : Int) = (S (digN n u), true) := by
    unfold digR
    rw [Int.toNat_natCast, Int.toNat_natCast]
    exact if_pos ⟨by clear hu; omega, by clear hu; omega, by clear hu; omega, hu⟩
  have hN := numR_digN (by clear hu; omega) h2 hu
  clear hu
  refine Ev.rounds (g := fun k => guichetlaw6_BcdZeros.f k (u : Int) (y : Int)) ?_
  unfold guichetlaw6_BcdZeros.f
  rw [hn, show wrap64 (u : Int) = (u : Int) from by unfold wrap64; omega, bcd_Digits_eq (u : Int) (n : Int) (by simp [Lit.wf, IntKind.min, IntKind.max, IntKind.bits, IntKind.signed]; omega), hd]
  have hlen : (digN n u).length = n := digN_length n u
  have hnum := bcd_number (digN n u) (by omega)
  rw [hN] at hnum
  obtain ⟨m, l', hp, hl', hd', hc⟩ := pack_ev (digN n u) (digN_dig n u) (by omega)
  have hun := unpack_ev (digN n u) (by omega) m l' hl' hd' hc
  rw [hlen] at hun
  have hm : (n + 1) / 2 = m := by
    rcases hc with ⟨h, rfl⟩ | ⟨h, rfl⟩
    · omega
    · rw [List.length_cons] at hl'; omega
  refine Ev.bind known_true (Ev.ite_pos rfl (Ev.some_bind ?_))
  refine Ev.bind hnum (Ev.bind hp (Ev.bind hun ?_))
  refine Ev.ite_pos rfl (Ev.ite_pos rfl (Ev.ite_pos rfl (Ev.ite_pos rfl (Ev.ite_pos ?_ (Ev.ite_pos rfl (Ev.ite_pos rfl ?_))))))
  · show (((digN n u).length : Nat) : Int) = (n : Int)
    rw [hlen]
  · rw [show (((pk m l', true).1.length : Nat) : Int) = wrap64 (Int.tdiv (wrap64 ((n : Int) + 1)) 2) from by
      show (((pk m l').length : Nat) : Int) = _
      rw [pk_length, show wrap64 ((n : Int) + 1) = ((n + 1 : Nat) : Int) from by unfold wrap64; omega, Int.tdiv_eq_ediv_of_nonneg (by omega)]
      unfold wrap64
      omega, beq_self_eq_true]
    exact Ev.now _
end Go.Proofs.YtcldlekkbabpoaaDoor.Pure
