/- Which frame any bytes begin with, behind bad ones, cut ones, others in one another. -/
import Derived.Test.YtbpkkgifjcpekaaDoorQKnown
import Derived.Test.YtbpkkgifjcpekaaDoorQUnframe
import Derived.Test.YtbpkkgifjcpekaaDoorPAllx10
namespace Go.Proofs.YtbpkkgifjcpekaaDoor.Pure
open Go.RowKit Go.Proofs.YtbpkkgifjcpekaaDoorW.PrintWords Go.Proofs.YtbpkkgifjcpekaaDoorW.PrintMore Go.Proofs.YtbpkkgifjcpekaaDoor.PAll Go.Proofs.YtbpkkgifjcpekaaDoor.Q

theorem un_bound : ∀ (l : List Int) (cur : Option (List Int)) (n : Nat), (un l cur n).2.2 = true → 0 ≤ (un l cur n).2.1 ∧ (un l cur n).2.1 ≤ ((n + l.length : Nat) : Int)
  | [], cur, n => fun h => by simp [un] at h
  | c :: t, cur, n => fun h => by
    unfold un at h ⊢
    have step : ∀ cur', (un t cur' (n + 1)).2.2 = true → 0 ≤ (un t cur' (n + 1)).2.1 ∧ (un t cur' (n + 1)).2.1 ≤ ((n + (c :: t).length : Nat) : Int) := fun cur' h' => by
      have := un_bound t cur' (n + 1) h'
      rw [List.length_cons]
      omega
    split at h
    · rename_i h2
      rw [if_pos h2]
      exact step _ h
    · rename_i h2
      rw [if_neg h2]
      split at h
      · rename_i h3
        rw [if_pos h3]
        cases cur with
        | none => exact step _ h
        | some x =>
          simp only at h ⊢
          split at h
          · rename_i h4
            rw [if_pos h4]
            cases t with
            | nil => exact absurd h4.2 (by simp)
            | cons _ t => simp only [List.length_cons]; omega
          · rename_i h4
            rw [if_neg h4]
            exact step _ h
      · rename_i h3
        rw [if_neg h3]
        exact step _ h

theorem reads_l2 (x86 : List (List Int)) (m j : Int) (hl1 : Ev (fun k => guichetlaw11_WireReads.l1 k x86 m (wrap64 (j + 1))) true) (d : Nat) : ∀ (i : Nat) (y : List Int), 10 - i = d → i ≤ 10 → y.length ≤ 1000 → Ev (fun k => guichetlaw11_WireReads.l2 k y (i : Int) x86 m j) true := by
  induction d with
  | zero =>
    intro i y hd hi hy
    refine Ev.step (fun k => ?_) hl1
    simp only [guichetlaw11_WireReads.l2]
    rw [if_neg (by omega)]
  | succ d ih =>
    intro i y hd hi hy
    refine Ev.step (f := fun k => (wire_Unframe.f k y).bind fun a => (guichetref1_Unframe.f k y).bind fun b => (if (strOfNums a.1).toList = (strOfNums b.1).toList then (if a.2.1 = b.2.1 then (guichetlaw11_WireReads.j6 k y i a.2.2 b.2.1 x86 m j (a.2.2 != b.2.2)) else (guichetlaw11_WireReads.j6 k y i a.2.2 b.2.1 x86 m j true)) else (guichetlaw11_WireReads.j6 k y i a.2.2 b.2.1 x86 m j true))) (fun k => by simp only [guichetlaw11_WireReads.l2]; rw [if_pos (by omega)]) ?_
    refine Ev.bind (wire_unframe y (by omega)) ?_
    refine Ev.bind (ref_unframe y (by omega)) ?_
    have hb := un_bound y none 0
    generalize un y none 0 = u at hb
    refine Ev.ite_pos rfl (Ev.ite_pos rfl ?_)
    rw [bne_self_eq_false]
    by_cases hu : u.2.2 = true
    · obtain ⟨h0, h1⟩ := hb hu
      refine Ev.step (fun k => ?_) (ih (i + 1) (y.drop u.2.1.toNat) (by omega) (by omega) (by rw [List.length_drop]; omega))
      simp only [guichetlaw11_WireReads.j6, Bool.false_eq_true, if_false]
      rw [if_pos hu, if_pos h0, if_pos (by omega), show wrap64 ((i : Int) + 1) = ((i + 1 : Nat) : Int) from by unfold wrap64; omega]
    · refine Ev.step (fun k => ?_) hl1
      simp only [guichetlaw11_WireReads.j6, Bool.false_eq_true, if_false]
      rw [if_neg hu]
theorem reads_l1 (a b : List Int) (ha : a.length ≤ 1000) (hb : b.length ≤ 1000) : Ev (fun k => guichetlaw11_WireReads.l1 k [a, b] 2 0) true := by
  have w1 : wrap64 (0 + 1) = 1 := by unfold wrap64; omega
  have w2 : wrap64 (1 + 1) = 2 := by unfold wrap64; omega
  have e2 : Ev (fun k => guichetlaw11_WireReads.l1 k [a, b] 2 2) true := Ev.step (f := fun _ => some true) (fun k => by simp only [guichetlaw11_WireReads.l1]; rw [if_neg (by omega)]) (Ev.now _)
  have e1 : Ev (fun k => guichetlaw11_WireReads.l1 k [a, b] 2 1) true := by
    refine Ev.step (fun k => ?_) (reads_l2 [a, b] 2 1 (by rw [w2]; exact e2) _ 0 b rfl (by omega) hb)
    simp only [guichetlaw11_WireReads.l1]
    rw [if_pos (by omega), if_pos (by omega), if_pos (by simp)]
    rfl
  refine Ev.step (fun k => ?_) (reads_l2 [a, b] 2 0 (by rw [w1]; exact e1) _ 0 a rfl (by omega) ha)
  simp only [guichetlaw11_WireReads.l1]
  rw [if_pos (by omega), if_pos (by omega), if_pos (by simp)]
  rfl
theorem frameR_len (l : List Int) (h : l.length = 2) : (frameR l).1.length ≤ 5 := by
  unfold frameR
  split
  · simp [frame, h]
  · simp
theorem reads_l0 (raw ks : List Int) (hr : raw.length ≤ 200) (hk : ks.length ≤ 40) (d : Nat) : ∀ (i : Nat) (b : List Int), ks.length - i = d → i ≤ ks.length → b.length ≤ 5 * i → Ev (fun k => guichetlaw11_WireReads.l0 k raw ks b (i : Int)) true := by
  induction d with
  | zero =>
    intro i b hd hi hb
    refine Ev.step (fun k => ?_) (reads_l1 raw b (by omega) (by omega))
    simp only [guichetlaw11_WireReads.l0]
    rw [if_neg (by omega)]
    rfl
  | succ d ih =>
    intro i b hd hi hb
    have hlt : i < ks.length := by omega
    have next : ∀ b' : List Int, b'.length ≤ b.length + 5 → Ev (fun k => guichetlaw11_WireReads.l0 k raw ks b' (wrap64 ((i : Int) + 1))) true := fun b' h' => by
      rw [wrap_succ hlt (by omega)]
      exact ih (i + 1) b' (by omega) (by omega) (by omega)
    generalize hr8 : Int.tmod (rd ks (i : Int)) 8 = r
    have j3t : Ev (fun k => guichetlaw11_WireReads.j3 k raw ks b i r true) true := by
      refine Ev.step (fun k => ?_) (next (b ++ [3]) (by simp))
      simp only [guichetlaw11_WireReads.j3, if_true]
      rw [if_pos (by omega)]
    have j3f : Ev (fun k => guichetlaw11_WireReads.j3 k raw ks b i r false) true := by
      by_cases h4 : r = 4
      · refine Ev.step (fun k => ?_) (next (b ++ [97, 98]) (by simp))
        simp only [guichetlaw11_WireReads.j3, Bool.false_eq_true, if_false]
        rw [if_pos h4]
        simp only [Option.bind_some, List.length_cons, List.length_nil]
        rw [if_pos (by omega)]
      by_cases h5 : r = 5
      · refine Ev.step (f := fun k => (guichetref1_Frame.f k [120, (((Int.tdiv (rd ks (i : Int)) 8) % 256) + 60) % 256]).bind fun bt => (if b.length + bt.1.length < 140737488355328 then (guichetlaw11_WireReads.l0 k raw ks (b ++ bt.1) (wrap64 ((i : Int) + 1))) else none)) (fun k => ?_) ?_
        · simp only [guichetlaw11_WireReads.j3, Bool.false_eq_true, if_false]
          rw [if_neg h4, if_pos h5, if_pos (by omega), if_pos (by omega)]
        · refine Ev.bind (ref_frame _) ?_
          have hl := frameR_len [120, (((Int.tdiv (rd ks (i : Int)) 8) % 256) + 60) % 256] rfl
          refine Ev.ite_pos (by omega) (next _ (by rw [List.length_append]; omega))
      by_cases h6 : r = 6
      · refine Ev.step (fun k => ?_) (next (b ++ [2, 3, 3]) (by simp))
        simp only [guichetlaw11_WireReads.j3, Bool.false_eq_true, if_false]
        rw [if_neg h4, if_neg h5, if_pos h6]
        simp only [Option.bind_some, List.length_cons, List.length_nil]
        rw [if_pos (by omega)]
      · refine Ev.step (fun k => ?_) (next (b ++ [rd ks (i : Int)]) (by simp))
        simp only [guichetlaw11_WireReads.j3, Bool.false_eq_true, if_false]
        rw [if_neg h4, if_neg h5, if_neg h6, if_pos (by omega), if_pos (by omega), if_pos (by omega)]
    have j2t : Ev (fun k => guichetlaw11_WireReads.j2 k raw ks b i r true) true := by
      refine Ev.step (fun k => ?_) (next (b ++ [2]) (by simp))
      simp only [guichetlaw11_WireReads.j2, if_true]
      rw [if_pos (by omega)]
    have j2f : Ev (fun k => guichetlaw11_WireReads.j2 k raw ks b i r false) true := by
      refine Ev.step (f := fun k => if r = 2 then guichetlaw11_WireReads.j3 k raw ks b i r (r == 2) else guichetlaw11_WireReads.j3 k raw ks b i r (r == 3)) (fun k => by simp only [guichetlaw11_WireReads.j2, Bool.false_eq_true, if_false]) ?_
      by_cases h2 : r = 2
      · refine Ev.ite_pos h2 ?_
        rw [show (r == 2) = true from by simp [h2]]
        exact j3t
      · refine Ev.ite_neg h2 ?_
        cases r == 3
        · exact j3f
        · exact j3t
    refine Ev.step (f := fun k => if r = 0 then guichetlaw11_WireReads.j2 k raw ks b i r (r == 0) else guichetlaw11_WireReads.j2 k raw ks b i r (r == 1)) (fun k => by simp only [guichetlaw11_WireReads.l0]; rw [if_pos (by omega), if_pos (by omega), hr8]) ?_
    by_cases h0 : r = 0
    · refine Ev.ite_pos h0 ?_
      rw [show (r == 0) = true from by simp [h0]]
      exact j2t
    · refine Ev.ite_neg h0 ?_
      cases r == 1
      · exact j2f
      · exact j2t
theorem WireReads : guichetlaw11_WireReads.Pure := by
  intro raw ks _ _ _ _ _ _
  refine Ev.rounds (g := fun k => guichetlaw11_WireReads.f k raw ks) ?_
  unfold guichetlaw11_WireReads.f
  refine Ev.bind (f := fun k t => if t = true then (if (raw.length : Int) > 200 then (guichetlaw11_WireReads.j0 k raw ks true) else (guichetlaw11_WireReads.j0 k raw ks (decide ((ks.length : Int) > 40)))) else (some false)) known_true ?_
  refine Ev.ite_pos rfl ?_
  have ht : Ev (fun k => guichetlaw11_WireReads.j0 k raw ks true) true := Ev.step (f := fun _ => some true) (fun k => by simp only [guichetlaw11_WireReads.j0, if_true]) (Ev.now _)
  by_cases h1 : raw.length > 200
  · exact Ev.ite_pos (by omega) ht
  refine Ev.ite_neg (by omega) ?_
  by_cases h2 : ks.length > 40
  · rw [decide_eq_true (by omega)]; exact ht
  · rw [decide_eq_false (by omega)]
    refine Ev.step (fun k => ?_) (reads_l0 raw ks (by omega) (by omega) _ 0 [] rfl (by omega) (by simp))
    simp only [guichetlaw11_WireReads.j0, Bool.false_eq_true, if_false]
    rfl
end Go.Proofs.YtbpkkgifjcpekaaDoor.Pure
