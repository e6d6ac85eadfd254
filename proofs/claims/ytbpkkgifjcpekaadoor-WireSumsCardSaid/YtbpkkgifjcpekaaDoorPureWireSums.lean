/- A frame's last byte makes all from behind its STX on come to nought; a sum of two texts is the xor of their sums. -/
import Derived.Test.YtbpkkgifjcpekaaDoorQKnown
import Derived.Test.YtbpkkgifjcpekaaDoorPAllx3
namespace Go.Proofs.YtbpkkgifjcpekaaDoor.Pure
open Go.RowKit Go.Proofs.YtbpkkgifjcpekaaDoorW.PrintWords Go.Proofs.YtbpkkgifjcpekaaDoorW.PrintMore Go.Proofs.YtbpkkgifjcpekaaDoor.PAll Go.Proofs.YtbpkkgifjcpekaaDoor.Q

theorem j1_true (l m : List Int) (hl : l.length ≤ 200) (hm : m.length ≤ 200) : Ev (fun k => guichetlaw11_WireSums.j1 k l m false) true := by
  refine Ev.step (f := fun k => (wire_Lrc.f k (l ++ m)).bind fun t => (wire_Lrc.f k l).bind fun t2 => (wire_Lrc.f k m).bind fun t3 => if t = X t2 t3 then (wire_Lrc.f k []).bind fun t4 => some (t4 == 0) else some false) (fun k => ?_) ?_
  · simp only [guichetlaw11_WireSums.j1, Option.bind_some, List.nil_append, List.length_nil, Bool.false_eq_true, if_false]
    rw [if_pos (by omega), if_pos (by omega)]
  · refine Ev.bind (f := fun k t => (wire_Lrc.f k l).bind fun t2 => (wire_Lrc.f k m).bind fun t3 => if t = X t2 t3 then (wire_Lrc.f k []).bind fun t4 => some (t4 == 0) else some false) (wire_lrc _ (by simp; omega)) ?_
    refine Ev.bind (f := fun k t2 => (wire_Lrc.f k m).bind fun t3 => if lrc (l ++ m) = X t2 t3 then (wire_Lrc.f k []).bind fun t4 => some (t4 == 0) else some false) (wire_lrc _ (by omega)) ?_
    refine Ev.bind (f := fun k t3 => if lrc (l ++ m) = X (lrc l) t3 then (wire_Lrc.f k []).bind fun t4 => some (t4 == 0) else some false) (wire_lrc _ (by omega)) ?_
    refine Ev.ite_pos (lrc_append l m) ?_
    exact Ev.bind (f := fun _ t4 => some (t4 == 0)) (wire_lrc [] (by simp)) (Ev.now _)
theorem j0_true (l m : List Int) (hl : l.length ≤ 100) (hm : m.length ≤ 100) : Ev (fun k => guichetlaw11_WireSums.j0 k l m false) true := by
  refine Ev.step (g := fun k => guichetlaw11_WireSums.j0 k l m false) (fun k => by simp only [guichetlaw11_WireSums.j0, Bool.false_eq_true, if_false]; rfl) ?_
  refine Ev.bind (wire_frame l (by omega)) ?_
  by_cases hg : Fits l
  · have hF : frameR l = (frame l, true) := if_pos hg
    rw [hF]
    have hlen : (frame l).length = l.length + 3 := by simp [frame]
    have hd : (frame l).drop 1 = l ++ [3] ++ [X (lrc l) 3] := by simp [frame]
    have hl0 : lrc ((frame l).drop 1) = 0 := by
      rw [hd, lrc_append, lrc_append, show lrc [3] = X 0 3 from rfl, show lrc [X (lrc l) 3] = X 0 (X (lrc l) 3) from rfl, X_zero (X_u8 _ _), X_zero (by unfold U8; omega), X_self]
    refine Ev.ite_pos rfl ?_
    refine Ev.ite_neg (by rw [hlen]; omega) ?_
    refine Ev.ite_pos (by rw [hlen]; omega) ?_
    refine Ev.bind (wire_lrc ((frame l).drop 1) (by rw [List.length_drop, hlen]; omega)) ?_
    refine Ev.ite_pos hl0 ?_
    refine Ev.ite_pos (by rw [hlen]; omega) ?_
    refine Ev.ite_pos (by rfl) ?_
    have hw : wrap64 (((frame l).length : Int) - 2) = ((l.length + 1 : Nat) : Int) := by rw [hlen]; unfold wrap64; omega
    rw [hw]
    refine Ev.ite_pos (by omega) ?_
    refine Ev.ite_pos (by rw [hlen]; omega) ?_
    have h3 : rd (frame l) ((l.length + 1 : Nat) : Int) = 3 := by
      rw [rd_nat]
      simp [frame]
    rw [h3]
    exact j1_true l m (by omega) (by omega)
  · have hF : frameR l = ([], false) := if_neg hg
    rw [hF]
    exact Ev.ite_neg (by simp) (j1_true l m (by omega) (by omega))

theorem WireSums : guichetlaw11_WireSums.Pure := by
  intro l m _ _ _ _ _ _
  refine Ev.rounds (g := fun k => guichetlaw11_WireSums.f k l m) ?_
  unfold guichetlaw11_WireSums.f
  refine Ev.bind (f := fun k t => if t = true then (if (l.length : Int) > 100 then (guichetlaw11_WireSums.j0 k l m true) else (guichetlaw11_WireSums.j0 k l m (decide ((m.length : Int) > 100)))) else (some false)) known_true ?_
  refine Ev.ite_pos rfl ?_
  have ht : Ev (fun k => guichetlaw11_WireSums.j0 k l m true) true := Ev.step (f := fun _ => some true) (fun k => by simp only [guichetlaw11_WireSums.j0, if_true]) (Ev.now _)
  by_cases h1 : l.length > 100
  · exact Ev.ite_pos (by omega) ht
  refine Ev.ite_neg (by omega) ?_
  by_cases h2 : m.length > 100
  · rw [decide_eq_true (by omega)]; exact ht
  · rw [decide_eq_false (by omega)]; exact j0_true l m (by omega) (by omega)
end Go.Proofs.YtbpkkgifjcpekaaDoor.Pure
