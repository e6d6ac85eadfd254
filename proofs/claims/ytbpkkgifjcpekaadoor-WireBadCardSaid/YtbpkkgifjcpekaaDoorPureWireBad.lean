/- A frame whose sum is another one, or that isn't ended, doesn't hide the one behind it. -/
import Derived.Test.YtbpkkgifjcpekaaDoorQKnown
import Derived.Test.YtbpkkgifjcpekaaDoorQUnframe
import Derived.Test.YtbpkkgifjcpekaaDoorPAllx9
namespace Go.Proofs.YtbpkkgifjcpekaaDoor.Pure
open Go.RowKit Go.Proofs.YtbpkkgifjcpekaaDoorW.PrintWords Go.Proofs.YtbpkkgifjcpekaaDoorW.PrintMore Go.Proofs.YtbpkkgifjcpekaaDoor.PAll Go.Proofs.YtbpkkgifjcpekaaDoor.Q

/-- What stands ahead ends within no frame: then the frame behind it is read. -/
theorem bad_end (a b : List Int) (hb : Fits b) (ha : a.length ≤ 600) (hu : un (a ++ frame b) none 0 = (b, ((a.length + (frame b).length : Nat) : Int), true)) :
    Ev (fun k => (wire_Unframe.f k (a ++ frame b)).bind fun bt => if bt.2.2 = true then (if (strOfNums bt.1).toList = (strOfNums b).toList then some (bt.2.1 == wrap64 ((a.length : Int) + ((frame b).length : Int))) else some false) else some false) true := by
  have hlen : (frame b).length = b.length + 3 := by simp [frame]
  have h5 := hb.2
  refine Ev.bind (f := fun _ bt => if bt.2.2 = true then (if (strOfNums bt.1).toList = (strOfNums b).toList then some (bt.2.1 == wrap64 ((a.length : Int) + ((frame b).length : Int))) else some false) else some false) (wire_unframe (a ++ frame b) (by simp; omega)) ?_
  rw [hu]
  refine Ev.ite_pos rfl (Ev.ite_pos rfl ?_)
  rw [show wrap64 ((a.length : Int) + ((frame b).length : Int)) = ((a.length + (frame b).length : Nat) : Int) from by unfold wrap64; omega]
  simp only [beq_self_eq_true]
  exact Ev.now _
theorem un_frame' (b : List Int) (cur : Option (List Int)) (n : Nat) (h : Fits b) : un (frame b) cur n = (b, ((n + (frame b).length : Nat) : Int), true) := by
  have := un_frame b [] cur n h
  rwa [List.append_nil] at this
theorem X_ne (s x : Int) (hx : U8 x) (h0 : x ≠ 0) : X s x ≠ s := by
  intro h
  have h1 : X s (X s x) = X s s := by rw [h]
  rw [← X_assoc, X_self, X_zero hx] at h1
  exact h0 h1
theorem bad_sum (a b : List Int) (s : Int) (ha : Fits a) (hb : Fits b) (h2 : s ≠ 2) (hs : s ≠ X (lrc a) 3) : un (([2] ++ a ++ [3, s]) ++ frame b) none 0 = (b, ((([2] ++ a ++ [3, s]).length + (frame b).length : Nat) : Int), true) := by
  have e : ([2] ++ a ++ [3, s]) ++ frame b = 2 :: (a ++ (3 :: s :: frame b)) := by simp
  rw [e, un_stx, un_body _ _ _ _ ha.1, List.nil_append, un, if_neg (by omega), if_pos rfl]
  show (if a.length ≤ 500 ∧ (s :: frame b).head? = some (X (lrc a) 3) then (a, _, true) else un (s :: frame b) none _) = _
  rw [if_neg (fun h => hs (Option.some.inj h.2)), un, if_neg h2]
  have : un (frame b) none (0 + 1 + a.length + 1 + 1) = (b, ((([2] ++ a ++ [3, s]).length + (frame b).length : Nat) : Int), true) := by
    rw [un_frame' b none _ hb]
    simp
    omega
  split
  · exact this
  · exact this
theorem bad_cut (a b : List Int) (ha : Fits a) (hb : Fits b) : un (([2] ++ a) ++ frame b) none 0 = (b, ((([2] ++ a).length + (frame b).length : Nat) : Int), true) := by
  have e : ([2] ++ a) ++ frame b = 2 :: (a ++ frame b) := by simp
  rw [e, un_stx, un_body _ _ _ _ ha.1, un_frame' b _ _ hb]
  simp
  omega

theorem WireBad : guichetlaw11_WireBad.Pure := by
  intro a b x how _ _ hua _ _ hub hx hhow
  refine Ev.rounds (g := fun k => guichetlaw11_WireBad.f k a b x how) ?_
  unfold guichetlaw11_WireBad.f
  refine Ev.bind (f := fun k t => if t = true then (if (a.length : Int) > 60 then (guichetlaw11_WireBad.j0 k a b x how true) else (if (b.length : Int) > 60 then (guichetlaw11_WireBad.j0 k a b x how true) else (guichetlaw11_WireBad.j0 k a b x how (x == 0)))) else (some false)) known_true ?_
  refine Ev.ite_pos rfl ?_
  have ht : Ev (fun k => guichetlaw11_WireBad.j0 k a b x how true) true := Ev.step (f := fun _ => some true) (fun k => by simp only [guichetlaw11_WireBad.j0, if_true]) (Ev.now _)
  by_cases h1 : a.length > 60
  · exact Ev.ite_pos (by omega) ht
  refine Ev.ite_neg (by omega) ?_
  by_cases h2 : b.length > 60
  · exact Ev.ite_pos (by omega) ht
  refine Ev.ite_neg (by omega) ?_
  by_cases h3 : x = 0
  · rw [show (x == 0) = true from by simp [h3]]; exact ht
  rw [show (x == 0) = false from by simp [h3]]
  refine Ev.step (f := fun k => (guichetref1_Frame.f k a).bind fun p => (guichetref1_Frame.f k b).bind fun q => (if p.2 = true then (guichetlaw11_WireBad.j1 k b x how p.1 q.1 (!q.2)) else (guichetlaw11_WireBad.j1 k b x how p.1 q.1 true))) (fun k => by simp only [guichetlaw11_WireBad.j0, Bool.false_eq_true, if_false]) ?_
  refine Ev.bind (f := fun k p => (guichetref1_Frame.f k b).bind fun q => (if p.2 = true then (guichetlaw11_WireBad.j1 k b x how p.1 q.1 (!q.2)) else (guichetlaw11_WireBad.j1 k b x how p.1 q.1 true))) (ref_frame a) ?_
  refine Ev.bind (f := fun k q => (if (frameR a).2 = true then (guichetlaw11_WireBad.j1 k b x how (frameR a).1 q.1 (!q.2)) else (guichetlaw11_WireBad.j1 k b x how (frameR a).1 q.1 true))) (ref_frame b) ?_
  have hj : ∀ p q, Ev (fun k => guichetlaw11_WireBad.j1 k b x how p q true) true := fun p q => Ev.step (f := fun _ => some true) (fun k => by simp only [guichetlaw11_WireBad.j1, if_true]) (Ev.now _)
  by_cases fa : Fits a
  case neg =>
    rw [show frameR a = ([], false) from if_neg fa]
    exact Ev.ite_neg (by simp) (hj _ _)
  rw [show frameR a = (frame a, true) from if_pos fa]
  refine Ev.ite_pos rfl ?_
  by_cases fb : Fits b
  case neg =>
    rw [show frameR b = ([], false) from if_neg fb]
    exact hj _ _
  rw [show frameR b = (frame b, true) from if_pos fb]
  have hla : (frame a).length = a.length + 3 := by simp [frame]
  have hlb : (frame b).length = b.length + 3 := by simp [frame]
  have hw1 : wrap64 (((frame a).length : Int) - 1) = ((a.length + 2 : Nat) : Int) := by rw [hla]; unfold wrap64; omega
  have hw2 : wrap64 (((frame a).length : Int) - 2) = ((a.length + 1 : Nat) : Int) := by rw [hla]; unfold wrap64; omega
  have hx8 := U8.of hx
  by_cases c0 : Int.tmod how 3 = 0
  · have hrd : rd (frame a) ((a.length + 2 : Nat) : Int) = X (lrc a) 3 := by rw [rd_nat]; simp [frame]
    have hset : (frame a).set (a.length + 2) (X (X (lrc a) 3) x) = [2] ++ a ++ [3, X (X (lrc a) 3) x] := by
      simp [frame]
    have hrd2 : rd ([2] ++ a ++ [3, X (X (lrc a) 3) x]) ((a.length + 2 : Nat) : Int) = X (X (lrc a) 3) x := by rw [rd_nat]; simp
    have hl2 : ([2] ++ a ++ [3, X (X (lrc a) 3) x]).length = (frame a).length := by simp [frame]
    by_cases cs : X (X (lrc a) 3) x = 2
    · refine Ev.step (f := fun _ => some true) (fun k => ?_) (Ev.now _)
      simp only [guichetlaw11_WireBad.j1, Bool.not_true, Bool.false_eq_true, if_false, c0, if_true, hw1, hrd, Int.toNat_natCast, hset, Option.bind_some, hrd2]
      rw [if_pos (by omega), if_pos (by omega), if_pos cs]
    · have hu := bad_sum a b (X (X (lrc a) 3) x) fa fb cs (X_ne _ _ hx8 h3)
      refine Ev.step (fun k => ?_) (bad_end _ b fb (by rw [hl2]; omega) hu)
      simp only [guichetlaw11_WireBad.j1, Bool.not_true, Bool.false_eq_true, if_false, c0, if_true, hw1, hrd, Int.toNat_natCast, hset, Option.bind_some, hrd2, List.nil_append, List.length_nil, hl2]
      rw [if_pos (by omega), if_pos (by omega), if_neg cs, if_pos (by omega), if_pos (by omega)]
  · by_cases c1 : Int.tmod how 3 = 1
    · have htk : (frame a).take (a.length + 1) = [2] ++ a := by
        rw [show frame a = ([2] ++ a) ++ [3, X (lrc a) 3] from rfl, List.take_append_of_le_length (by simp), List.take_of_length_le (by simp)]
      have hl2 : ([2] ++ a).length = a.length + 1 := by simp
      refine Ev.step (fun k => ?_) (bad_end ([2] ++ a) b fb (by rw [hl2]; omega) (bad_cut a b fa fb))
      simp only [guichetlaw11_WireBad.j1, Bool.not_true, Bool.false_eq_true, if_false]
      rw [if_neg c0, if_pos c1]
      simp only [hw2, Int.toNat_natCast, htk, Option.bind_some, List.length_nil]
      rw [if_pos (by omega), if_pos (by omega), if_pos (by rw [hl2]; omega), List.nil_append, if_pos (by rw [hl2]; omega)]
    · have htk : (frame a).take (1 : Int).toNat = [2] := by simp [frame]
      refine Ev.step (fun k => ?_) (bad_end [2] b fb (by simp) (by
        have := bad_cut [] b ⟨⟨by simp, by simp⟩, by simp⟩ fb
        simpa using this))
      simp only [guichetlaw11_WireBad.j1, Bool.not_true, Bool.false_eq_true, if_false]
      rw [if_neg c0, if_neg c1]
      simp only [htk, Option.bind_some, List.length_nil]
      rw [if_pos (by omega), if_pos (by simp), List.nil_append, if_pos (by simp; omega)]
end Go.Proofs.YtbpkkgifjcpekaaDoor.Pure
