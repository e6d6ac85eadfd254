import Derived.Test.YtnnoanfiehjleaaDoorQKnown15
import Derived.Test.YtnnoanfiehjleaaDoorQDec
import Derived.Test.YtnnoanfiehjleaaDoorPAllx11
/- A walk goes on by four digits alone. -/
namespace Go.Proofs.YtnnoanfiehjleaaDoor.Q
open Go.RowKit Go.Proofs.YtnnoanfiehjleaaDoorW.PrintWords Go.Proofs.YtnnoanfiehjleaaDoorW.PrintMore Go.Proofs.YtnnoanfiehjleaaDoor.PAll
set_option linter.unusedVariables false

abbrev pinT : List S34 := [(⟨0, 66, 1, 2⟩ : S34), (⟨1, 90, 0, 0⟩ : S34), (⟨2, 90, 0, 0⟩ : S34)]
theorem pin_run (x : ByteArray) : runG pinT 0 [x] = (if numB x.data.toList 4 4 = true then 1 else 2, 1, false, S [], 0) := by
  have h0 : finG pinT 0 = some ⟨0, 66, 1, 2⟩ := rfl
  have h1 : finG pinT 1 = some ⟨1, 90, 0, 0⟩ := rfl
  have h2 : finG pinT 2 = some ⟨2, 90, 0, 0⟩ := rfl
  show goG pinT (198 + 1 + 1) [x] (S []) 0 0 0 false (S []) 0 = _
  have hs : stepG (⟨0, 66, 1, 2⟩ : S34) [x] (S []) 0 0 0 false (S []) 0 = (true, [], S [], 0, (if numB x.data.toList 4 4 = true then 1 else 2), 0, false, S [], 0) := by
    unfold stepG
    rw [if_neg (by decide), if_pos (by decide)]
    dsimp only
    unfold takG
    rw [if_neg (by decide), if_pos rfl]
    by_cases h : numB x.data.toList 4 4 = true
    · simp only [if_pos h]
    · simp only [if_neg h]
  rw [goG, h0]
  dsimp only
  rw [hs]
  by_cases h : numB x.data.toList 4 4 = true
  · simp only [if_pos h, if_true]
    rw [goG, h1]
    rfl
  · simp only [if_neg h, if_true]
    rw [goG, h2]
    rfl
theorem numB_four (l : List UInt8) : numB l 4 4 = (decide (l.length = 4) && decide (AllDig l)) := by
  unfold numB numR
  by_cases h : l.length = 4
  · by_cases hd : AllDig l
    · rw [if_pos ⟨by omega, by omega, hd⟩]; simp [h, hd]
    · rw [if_neg (fun h' => hd h'.2.2)]; simp [hd]
  · have : (decide (4 ≤ l.length) && decide (l.length ≤ 4)) = false := by
      rw [← Bool.decide_and, decide_eq_false_iff_not]
      omega
    rw [this]
    simp [h]
theorem numB_decs (n : Nat) : numB (Go.Lib.decDigits n) 4 4 = decide (1000 ≤ n ∧ n ≤ 9999) := by
  rw [numB_four, decide_eq_true (dec_digs n), Bool.and_true, decide_eq_decide]
  constructor
  · intro h
    have h1 := (dec_len n).1
    rw [h] at h1
    by_cases h2 : n < 1000
    · have := dec_short (k := 3) (by decide) h2
      omega
    · omega
  · intro h
    have h1 := dec_long (k := 3) (n := n) h.1
    have h2 := dec_short (k := 4) (n := n) (by decide) (by omega)
    omega
theorem pins_l0 (l : List UInt8) (n : Nat) (hl : l.length ≤ 40) (hn : n ≤ 65535) (d : Nat) : ∀ i : Nat, l.length - i = d → i ≤ l.length → Ev (fun k => guichetlaw15_WalkPins.l0 k (S l) (n : Int) pinT (decide (l.length = 4) && decide (AllDig (l.take i))) (i : Int)) true := by
  induction d with
  | zero =>
    intro i hd hi
    rw [List.take_of_length_le (by omega)]
    refine Ev.succ ?_
    simp only [guichetlaw15_WalkPins.l0]
    refine Ev.ite_neg (by rw [S_size]; omega) ?_
    refine Ev.bind (run_ev pinT (by decide) 0 [S l] (fun x hx => ?_)) ?_
    · obtain rfl := List.mem_singleton.1 hx
      rw [S_size]
      omega
    rw [show wrap64 (n : Int) = (n : Int) from by unfold wrap64; omega]
    refine Ev.bind (decimals_ev n (by omega)) ?_
    refine Ev.bind (run_ev pinT (by decide) 0 [S (Go.Lib.decDigits n)] (fun x hx => ?_)) ?_
    · obtain rfl := List.mem_singleton.1 hx
      rw [S_size]
      have := dec_short (k := 5) (n := n) (by decide) (by omega)
      omega
    rw [pin_run, pin_run, S_list, S_list, numB_decs, ← numB_four]
    dsimp only
    have fin : (if (n : Int) ≥ 1000 then some ((((if decide (1000 ≤ n ∧ n ≤ 9999) = true then 1 else 2 : Int)) == 1) == decide ((n : Int) ≤ 9999)) else some ((((if decide (1000 ≤ n ∧ n ≤ 9999) = true then 1 else 2 : Int)) == 1) == false)) = some true := by
      by_cases h1 : 1000 ≤ n
      · rw [if_pos (by omega)]
        by_cases h2 : n ≤ 9999
        · rw [if_pos (decide_eq_true ⟨h1, h2⟩), decide_eq_true (show (n : Int) ≤ 9999 by omega)]
          rfl
        · rw [if_neg (by rw [decide_eq_true_iff]; omega), decide_eq_false (show ¬ (n : Int) ≤ 9999 by omega)]
          rfl
      · rw [if_neg (by omega), if_neg (by rw [decide_eq_true_iff]; omega)]
        rfl
    by_cases h : numB l 4 4 = true
    · simp only [if_pos h]
      refine ⟨0, fun _ _ => ?_⟩
      rw [fin, h]
      rfl
    · simp only [if_neg h]
      refine ⟨0, fun _ _ => ?_⟩
      rw [fin, show numB l 4 4 = false from by simpa using h]
      rfl
  | succ d ih =>
    intro i hd hi
    have hlt : i < l.length := by omega
    have h := ih (i + 1) (by omega) (by omega)
    have hall : AllDig (l.take (i + 1)) ↔ AllDig (l.take i) ∧ IsDig l[i] := by
      rw [List.take_succ_eq_append_getElem hlt]
      unfold AllDig
      simp only [List.mem_append, List.mem_singleton]
      exact ⟨fun h => ⟨fun c hc => h c (.inl hc), h _ (.inr rfl)⟩, fun h c hc => hc.elim (h.1 c) (fun e => e ▸ h.2)⟩
    refine Ev.succ ?_
    simp only [guichetlaw15_WalkPins.l0]
    rw [bt_lt hlt, wrap_succ hlt (by omega)]
    refine Ev.ite_pos (by rw [S_size]; omega) ?_
    by_cases hg : (decide (l.length = 4) && decide (AllDig (l.take i))) = true
    · refine Ev.ite_pos hg (Ev.ite_pos (by omega) ?_)
      simp only [Bool.and_eq_true, decide_eq_true_eq] at hg
      rw [decide_eq_true hg.1, Bool.true_and] at h
      by_cases h1 : (48 : Int) ≤ (l[i].toNat : Int)
      · refine Ev.ite_pos h1 ?_
        rw [show decide ((l[i].toNat : Int) ≤ 57) = decide (AllDig (l.take (i + 1))) from by
          rw [decide_eq_decide, hall]
          unfold IsDig
          constructor
          · intro h2
            exact ⟨hg.2, by omega, by omega⟩
          · intro h2
            omega]
        exact h
      · refine Ev.ite_neg h1 ?_
        rw [show decide (AllDig (l.take (i + 1))) = false from by
          rw [decide_eq_false_iff_not, hall]
          unfold IsDig
          intro h2
          omega] at h
        exact h
    · refine Ev.ite_neg hg ?_
      rw [show (decide (l.length = 4) && decide (AllDig (l.take (i + 1)))) = false from by
        rw [Bool.eq_false_iff]
        intro h2
        apply hg
        simp only [Bool.and_eq_true, decide_eq_true_eq] at h2 ⊢
        exact ⟨h2.1, (hall.1 h2.2).1⟩] at h
      exact h
end Go.Proofs.YtnnoanfiehjleaaDoor.Q
namespace Go.Proofs.YtnnoanfiehjleaaDoor.Pure
open Go.RowKit Go.Proofs.YtnnoanfiehjleaaDoorW.PrintWords Go.Proofs.YtnnoanfiehjleaaDoorW.PrintMore Go.Proofs.YtnnoanfiehjleaaDoor.PAll Go.Proofs.YtnnoanfiehjleaaDoor.Q
theorem WalkPins : guichetlaw15_WalkPins.Pure := by
  intro a0 a1 h0 h1
  refine Ev.rounds ?_
  unfold guichetlaw15_WalkPins.f
  refine Ev.bind known15 (Ev.ite_pos rfl ?_)
  by_cases hs : (a0.size : Int) > 40
  · exact Ev.ite_pos hs (Ev.now _)
  refine Ev.ite_neg hs ?_
  have hw : 0 ≤ a1 ∧ a1 ≤ 65535 := by simpa [Lit.wf, IntKind.min, IntKind.max, IntKind.bits, IntKind.signed] using h1
  obtain ⟨n, rfl⟩ := Int.eq_ofNat_of_zero_le hw.1
  have hl : a0.data.toList.length ≤ 40 := by rw [← size_list]; omega
  have h := pins_l0 a0.data.toList n hl (by omega) _ 0 rfl (by omega)
  rw [show ((a0.size : Int) == 4) = (decide (a0.data.toList.length = 4) && decide (AllDig (a0.data.toList.take 0))) from by
    rw [size_list, List.take_zero, decide_eq_true (show AllDig [] from fun c hc => by cases hc), Bool.and_true, Bool.eq_iff_iff, beq_iff_eq, decide_eq_true_iff]
    omega]
  exact h
end Go.Proofs.YtnnoanfiehjleaaDoor.Pure
