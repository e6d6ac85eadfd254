/- Two halves of a byte, one digit each. -/
import Derived.Test.YtcldlekkbabpoaaDoorQBcdPack
import Derived.Test.YtcldlekkbabpoaaDoorPAllx6
namespace Go.Proofs.YtcldlekkbabpoaaDoor.Pure
open Go.RowKit Go.Proofs.YtcldlekkbabpoaaDoorW.PrintWords Go.Proofs.YtcldlekkbabpoaaDoorW.PrintMore Go.Proofs.YtcldlekkbabpoaaDoor.PAll Go.Proofs.YtcldlekkbabpoaaDoor.Q

theorem halves_pack : ∀ a b : Fin 10, bcd_Pack.f 20 (strOfNums [(48 + (a.val : Int)) % 256, (48 + (b.val : Int)) % 256]) = some ([Go.bits .or .u8 (((a.val : Int) * 16) % 256) (b.val : Int)], true)
    ∧ bcd_Pack.f 20 ((strOfNums [(48 + (a.val : Int)) % 256, (48 + (b.val : Int)) % 256]).extract 1 (strOfNums [(48 + (a.val : Int)) % 256, (48 + (b.val : Int)) % 256]).size) = some ([(b.val : Int)], true) := by decide +kernel
theorem halves_unpack : ∀ x : Fin 256, (bcd_Unpack.f 20 [(x.val : Int)] 2).map (·.2) = some (if (x.val : Int) / 16 < 10 then decide (Go.bits .and .u8 (x.val : Int) 15 < 10) else false) := by decide +kernel
theorem BcdHalves : guichetlaw6_BcdHalves.Pure := by
  intro a b ha hb
  have ha' : 0 ≤ a ∧ a ≤ 255 := by simpa [Lit.wf, IntKind.min, IntKind.max, IntKind.bits, IntKind.signed] using ha
  have hb' : 0 ≤ b ∧ b ≤ 255 := by simpa [Lit.wf, IntKind.min, IntKind.max, IntKind.bits, IntKind.signed] using hb
  obtain ⟨x, rfl⟩ := Int.eq_ofNat_of_zero_le ha'.1
  obtain ⟨y, rfl⟩ := Int.eq_ofNat_of_zero_le hb'.1
  have tm : ∀ n : Nat, Int.tmod (n : Int) 10 = ((n % 10 : Nat) : Int) := fun n => by rw [Int.tmod_eq_emod_of_nonneg (by omega)]; omega
  refine Ev.rounds (g := fun k => guichetlaw6_BcdHalves.f k (x : Int) (y : Int)) ?_
  unfold guichetlaw6_BcdHalves.f
  rw [tm, tm]
  have hp := halves_pack ⟨x % 10, by omega⟩ ⟨y % 10, by omega⟩
  have hu := halves_unpack ⟨x, by omega⟩
  simp only at hp hu
  obtain ⟨u, hu1, hu2⟩ := Option.map_eq_some_iff.1 hu
  refine Ev.bind known_true (Ev.ite_pos rfl (Ev.some_bind ?_))
  refine Ev.bind (Ev.of (bcd_Pack.mono _) hp.1) ?_
  refine Ev.ite_pos (show 1 ≤ (((2 : Nat) : Int)) from by decide) ?_
  refine Ev.bind (Ev.of (bcd_Pack.mono _) hp.2) ?_
  refine Ev.bind (Ev.of (bcd_Unpack.mono _ _) hu1) ?_
  refine Ev.ite_pos rfl (Ev.ite_pos rfl (Ev.ite_pos rfl (Ev.ite_pos rfl ?_)))
  rw [hu2]
  by_cases c : (x : Int) / 16 < 10
  · rw [if_pos c, if_pos c, beq_self_eq_true]
    exact Ev.now _
  · rw [if_neg c, if_neg c, beq_self_eq_true]
    exact Ev.now _
end Go.Proofs.YtcldlekkbabpoaaDoor.Pure
