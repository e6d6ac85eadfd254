import Derived.Test.YtidjkodejcnolaaDoorQKnown10
import Derived.Test.YtidjkodejcnolaaDoorQStan
import Derived.Test.YtidjkodejcnolaaDoorPAllx4
/- Keys are in one line, as their texts are. -/
namespace Go.Proofs.YtidjkodejcnolaaDoor.Pure
open Go.RowKit Go.Proofs.YtidjkodejcnolaaDoorW.PrintWords Go.Proofs.YtidjkodejcnolaaDoorW.PrintMore Go.Proofs.YtidjkodejcnolaaDoor.PAll Go.Proofs.YtidjkodejcnolaaDoor.Q
theorem StanLine : guichetlaw10_StanLine.Pure := by
  intro a0 a1 b0 b1 c0 c1 ha0 ha1 hb0 hb1 hc0 hc1
  have n16 : ∀ v : Int, (Lit.int .u16 v).wf = true → ∃ n : Nat, v = (n : Int) ∧ n ≤ 65535 := fun v h => by
    simp [Lit.wf, IntKind.min, IntKind.max, IntKind.bits, IntKind.signed] at h
    exact ⟨v.toNat, by omega, by omega⟩
  have n32 : ∀ v : Int, (Lit.int .u32 v).wf = true → ∃ n : Nat, Int.tmod v 1000000 = (n : Int) ∧ n ≤ 999999 := fun v h => by
    simp [Lit.wf, IntKind.min, IntKind.max, IntKind.bits, IntKind.signed] at h
    rw [Int.tmod_eq_emod_of_nonneg h.1]
    exact ⟨(v % 1000000).toNat, by omega, by omega⟩
  obtain ⟨t, rfl, ht⟩ := n16 a0 ha0
  obtain ⟨t', rfl, ht'⟩ := n16 b0 hb0
  obtain ⟨t'', rfl, ht''⟩ := n16 c0 hc0
  obtain ⟨s, es, hs⟩ := n32 a1 ha1
  obtain ⟨s', es', hs'⟩ := n32 b1 hb1
  obtain ⟨s'', es'', hs''⟩ := n32 c1 hc1
  rw [es, es', es'']
  obtain ⟨K0, h0⟩ := known10
  obtain ⟨K1, h1⟩ := less_ev (t : Int) (s : Int) (t' : Int) (s' : Int)
  obtain ⟨K2, h2⟩ := less_ev (t' : Int) (s' : Int) (t'' : Int) (s'' : Int)
  obtain ⟨K3, h3⟩ := less_ev (t : Int) (s : Int) (t'' : Int) (s'' : Int)
  obtain ⟨K4, h4⟩ := less_ev (t' : Int) (s' : Int) (t : Int) (s : Int)
  refine ⟨K0 + K1 + K2 + K3 + K4, h0 _ (by omega), _, _, _, _, _, _, h1 _ (by omega), h2 _ (by omega), h3 _ (by omega), h4 _ (by omega), text_f ht hs, text_f ht' hs', ?_, ?_, ?_⟩
  · simp only [decide_eq_true_eq]
    omega
  · rw [toList_S, toList_S, less_key ht hs ht' hs', decide_eq_decide]
    omega
  · rw [Bool.eq_iff_iff]
    simp only [Bool.and_eq_true, beq_iff_eq, Bool.not_eq_true', Bool.or_eq_false_iff, decide_eq_false_iff_not]
    omega
end Go.Proofs.YtidjkodejcnolaaDoor.Pure
