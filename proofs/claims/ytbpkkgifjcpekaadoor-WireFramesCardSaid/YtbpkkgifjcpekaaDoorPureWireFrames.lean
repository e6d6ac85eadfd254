/- Any bytes are a frame, or none, and it comes back, whatever stands ahead that begins none, and behind. -/
import Derived.Test.YtbpkkgifjcpekaaDoorQKnown
import Derived.Test.YtbpkkgifjcpekaaDoorQUnframe
import Derived.Test.YtbpkkgifjcpekaaDoorPAllx4
namespace Go.Proofs.YtbpkkgifjcpekaaDoor.Pure
open Go.RowKit Go.Proofs.YtbpkkgifjcpekaaDoorW.PrintWords Go.Proofs.YtbpkkgifjcpekaaDoorW.PrintMore Go.Proofs.YtbpkkgifjcpekaaDoor.PAll Go.Proofs.YtbpkkgifjcpekaaDoor.Q

theorem frames_end (l a m : List Int) (hf : Fits l) (ha : a.length ≤ 60) (hm : m.length ≤ 60) (h2 : 2 ∉ a) :
    Ev (fun k => (wire_Unframe.f k (a ++ frame l ++ m)).bind fun bt => if bt.2.2 = true then (if (strOfNums bt.1).toList = (strOfNums l).toList then some (bt.2.1 == wrap64 ((a.length : Int) + ((frame l).length : Int))) else some false) else some false) true := by
  have hlen : (frame l).length = l.length + 3 := by simp [frame]
  have h5 := hf.2
  have hu : un (a ++ frame l ++ m) none 0 = (l, ((a.length + (frame l).length : Nat) : Int), true) := by
    rw [List.append_assoc, un_skip _ a 0 h2, Nat.zero_add, un_frame l m none _ hf]
  refine Ev.bind (f := fun _ bt => if bt.2.2 = true then (if (strOfNums bt.1).toList = (strOfNums l).toList then some (bt.2.1 == wrap64 ((a.length : Int) + ((frame l).length : Int))) else some false) else some false) (wire_unframe (a ++ frame l ++ m) (by simp; omega)) ?_
  rw [hu]
  refine Ev.ite_pos rfl (Ev.ite_pos rfl ?_)
  rw [show wrap64 ((a.length : Int) + ((frame l).length : Int)) = ((a.length + (frame l).length : Nat) : Int) from by unfold wrap64; omega]
  simp only [beq_self_eq_true]
  exact Ev.now _
theorem frames_l0 (l a m : List Int) (hf : Fits l) (ha : a.length ≤ 60) (hm : m.length ≤ 60) (d : Nat) : ∀ i : Nat, a.length - i = d → i ≤ a.length → 2 ∉ a.take i → Ev (fun k => guichetlaw11_WireFrames.l0 k l a m (frame l) (i : Int)) true := by
  have hlen : (frame l).length = l.length + 3 := by simp [frame]
  have h5 := hf.2
  induction d with
  | zero =>
    intro i hd hi h2
    have e : a.take i = a := List.take_of_length_le (by omega)
    rw [e] at h2
    refine Ev.step (fun k => ?_) (frames_end l a m hf ha hm h2)
    simp only [guichetlaw11_WireFrames.l0]
    rw [if_neg (by omega)]
    simp only [List.nil_append, List.length_nil, Option.bind_some, List.length_append]
    rw [if_pos (by omega), if_pos (by omega), if_pos (by omega)]
  | succ d ih =>
    intro i hd hi h2
    have hlt : i < a.length := by omega
    have hs : ∀ k, guichetlaw11_WireFrames.l0 (k + 1) l a m (frame l) (i : Int) = if a[i] = 2 then some true else guichetlaw11_WireFrames.l0 k l a m (frame l) ((i + 1 : Nat) : Int) := fun k => by
      simp only [guichetlaw11_WireFrames.l0]
      rw [if_pos (by omega), if_pos (by omega), rd_lt hlt, wrap_succ hlt (by omega)]
    refine Ev.step hs ?_
    by_cases hc : a[i] = 2
    · exact Ev.ite_pos hc (Ev.now _)
    · refine Ev.ite_neg hc (ih (i + 1) (by omega) (by omega) ?_)
      rw [List.take_succ_eq_append_getElem hlt, List.mem_append, List.mem_singleton]
      exact fun h => h.elim h2 (fun h => hc h.symm)
theorem WireFrames : guichetlaw11_WireFrames.Pure := by
  intro l a m _ _ _ _ _ _ _ _ _
  refine Ev.rounds (g := fun k => guichetlaw11_WireFrames.f k l a m) ?_
  unfold guichetlaw11_WireFrames.f
  refine Ev.bind (f := fun k t => if t = true then (if (l.length : Int) > 600 then (guichetlaw11_WireFrames.j0 k l a m true) else (if (a.length : Int) > 60 then (guichetlaw11_WireFrames.j0 k l a m true) else (guichetlaw11_WireFrames.j0 k l a m (decide ((m.length : Int) > 60))))) else (some false)) known_true ?_
  refine Ev.ite_pos rfl ?_
  have ht : Ev (fun k => guichetlaw11_WireFrames.j0 k l a m true) true := Ev.step (f := fun _ => some true) (fun k => by simp only [guichetlaw11_WireFrames.j0, if_true]) (Ev.now _)
  by_cases h1 : l.length > 600
  · exact Ev.ite_pos (by omega) ht
  refine Ev.ite_neg (by omega) ?_
  by_cases h2 : a.length > 60
  · exact Ev.ite_pos (by omega) ht
  refine Ev.ite_neg (by omega) ?_
  by_cases h3 : m.length > 60
  · rw [decide_eq_true (by omega)]; exact ht
  rw [decide_eq_false (by omega)]
  refine Ev.step (f := fun k => (wire_Frame.f k l).bind fun b => (guichetref1_Frame.f k l).bind fun c => (if (strOfNums b.1).toList = (strOfNums c.1).toList then (guichetlaw11_WireFrames.j1 k l a m b.1 b.2 (b.2 != c.2)) else (guichetlaw11_WireFrames.j1 k l a m b.1 b.2 true))) (fun k => by simp only [guichetlaw11_WireFrames.j0, Bool.false_eq_true, if_false]) ?_
  refine Ev.bind (f := fun k b => (guichetref1_Frame.f k l).bind fun c => (if (strOfNums b.1).toList = (strOfNums c.1).toList then (guichetlaw11_WireFrames.j1 k l a m b.1 b.2 (b.2 != c.2)) else (guichetlaw11_WireFrames.j1 k l a m b.1 b.2 true))) (wire_frame l (by omega)) ?_
  refine Ev.bind (f := fun k c => (if (strOfNums (frameR l).1).toList = (strOfNums c.1).toList then (guichetlaw11_WireFrames.j1 k l a m (frameR l).1 (frameR l).2 ((frameR l).2 != c.2)) else (guichetlaw11_WireFrames.j1 k l a m (frameR l).1 (frameR l).2 true))) (ref_frame l) ?_
  refine Ev.ite_pos rfl ?_
  rw [bne_self_eq_false]
  refine Ev.step (f := fun k => if (frameR l).2 = true then (guichetlaw11_WireFrames.l0 k l a m (frameR l).1 0) else (some (((frameR l).1.length : Int) == 0))) (fun k => by simp only [guichetlaw11_WireFrames.j1, Bool.false_eq_true, if_false]) ?_
  by_cases hf : Fits l
  · rw [show frameR l = (frame l, true) from if_pos hf]
    exact Ev.ite_pos rfl (frames_l0 l a m hf (by omega) (by omega) _ 0 rfl (by omega) (by simp))
  · rw [show frameR l = ([], false) from if_neg hf]
    exact Ev.ite_neg (by simp) (Ev.now _)
end Go.Proofs.YtbpkkgifjcpekaaDoor.Pure
