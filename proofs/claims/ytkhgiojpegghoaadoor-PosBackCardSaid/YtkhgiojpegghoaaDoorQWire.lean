import Derived.Test.YtkhgiojpegghoaaDoorQBase
import Derived.Test.YtkhgiojpegghoaaDoorPAllx3
import Derived.Test.YtkhgiojpegghoaaDoorPAllx5
import Derived.Test.YtkhgiojpegghoaaDoorPAllx6
/- Package wire and its reference: what they compute, in plain lists. -/
namespace Go.Proofs.YtkhgiojpegghoaaDoor.Q
open Go.RowKit Go.Proofs.YtkhgiojpegghoaaDoorW.PrintWords Go.Proofs.YtkhgiojpegghoaaDoorW.PrintMore Go.Proofs.YtkhgiojpegghoaaDoor.PAll
set_option linter.unusedVariables false

theorem drop_cons {l : List Int} {i : Nat} (h : i < l.length) : l.drop i = l[i] :: l.drop (i + 1) := List.drop_eq_getElem_cons h

/-! ### Lrc -/
theorem wire_lrc_l0 (l : List Int) (hl : l.length ≤ 140737488355328) (d : Nat) : ∀ (i : Nat) (a : Int), l.length - i = d → i ≤ l.length → Ev (fun k => wire_Lrc.l0 k a l (l.length : Int) (i : Int)) ((l.drop i).foldl X a) := by
  induction d with
  | zero =>
    intro i a hd hi
    have e : l.drop i = [] := List.drop_eq_nil_of_le (by omega)
    rw [e]
    exact Ev.step (f := fun _ => some a) (fun k => by simp only [wire_Lrc.l0]; rw [if_neg (by omega)]) (Ev.now _)
  | succ d ih =>
    intro i a hd hi
    have hlt : i < l.length := by omega
    rw [drop_cons hlt]
    refine Ev.step (f := fun k => wire_Lrc.l0 k (X a l[i]) l (l.length : Int) ((i + 1 : Nat) : Int)) (fun k => ?_) (ih (i + 1) _ (by omega) (by omega))
    simp only [wire_Lrc.l0]
    rw [if_pos (by omega), if_pos (by omega), if_pos (by omega), rd_lt hlt, wrap_succ hlt hl]
theorem wire_lrc (l : List Int) (hl : l.length ≤ 140737488355328) : Ev (fun k => wire_Lrc.f k l) (lrc l) := wire_lrc_l0 l hl _ 0 0 rfl (by omega)
theorem ref_lrc_l0 (l : List Int) (hl : l.length ≤ 140737488355328) (d : Nat) : ∀ (i : Nat) (a : Int), l.length - i = d → i ≤ l.length → Ev (fun k => guichetref1_Lrc.l0 k l a (i : Int)) ((l.drop i).foldl X a) := by
  induction d with
  | zero =>
    intro i a hd hi
    have e : l.drop i = [] := List.drop_eq_nil_of_le (by omega)
    rw [e]
    exact Ev.step (f := fun _ => some a) (fun k => by simp only [guichetref1_Lrc.l0]; rw [if_neg (by omega)]) (Ev.now _)
  | succ d ih =>
    intro i a hd hi
    have hlt : i < l.length := by omega
    rw [drop_cons hlt]
    refine Ev.step (f := fun k => guichetref1_Lrc.l0 k l (X a l[i]) ((i + 1 : Nat) : Int)) (fun k => ?_) (ih (i + 1) _ (by omega) (by omega))
    simp only [guichetref1_Lrc.l0]
    rw [if_pos (by omega), if_pos (by omega), rd_lt hlt, wrap_succ hlt hl]
theorem ref_lrc (l : List Int) (hl : l.length ≤ 140737488355328) : Ev (fun k => guichetref1_Lrc.f k l) (lrc l) := ref_lrc_l0 l hl _ 0 0 rfl (by omega)

/-! ### marks -/
theorem index_l0 (l : List Int) (c : Int) (hl : l.length ≤ 140737488355328) (d : Nat) : ∀ (i : Nat), l.length - i = d → i ≤ l.length → ∃ r, Ev (fun k => slices_Index_byte_byte.l0 k l c (l.length : Int) (i : Int)) r ∧ (0 ≤ r ↔ c ∈ l.drop i) := by
  induction d with
  | zero =>
    intro i hd hi
    have e : l.drop i = [] := List.drop_eq_nil_of_le (by omega)
    rw [e]
    exact ⟨-1, Ev.step (f := fun _ => some (-1)) (fun k => by simp only [slices_Index_byte_byte.l0]; rw [if_neg (by omega)]) (Ev.now _), by simp⟩
  | succ d ih =>
    intro i hd hi
    have hlt : i < l.length := by omega
    have hdc := drop_cons hlt
    by_cases hc : c = l[i]
    · refine ⟨(i : Int), Ev.step (f := fun _ => some (i : Int)) (fun k => ?_) (Ev.now _), ?_⟩
      · simp only [slices_Index_byte_byte.l0]
        rw [if_pos (by omega), if_pos (by omega), if_pos (by omega), rd_lt hlt, if_pos hc]
      · rw [hdc, hc]; exact iff_of_true (by omega) List.mem_cons_self
    · obtain ⟨r, hr, hm⟩ := ih (i + 1) (by omega) (by omega)
      refine ⟨r, Ev.step (f := fun k => slices_Index_byte_byte.l0 k l c (l.length : Int) ((i + 1 : Nat) : Int)) (fun k => ?_) hr, ?_⟩
      · simp only [slices_Index_byte_byte.l0]
        rw [if_pos (by omega), if_pos (by omega), if_pos (by omega), rd_lt hlt, if_neg hc, wrap_succ hlt hl]
      · rw [hm, hdc, List.mem_cons]
        exact ⟨.inr, fun h => h.elim (fun h => absurd h hc) id⟩
theorem contains (l : List Int) (c : Int) (hl : l.length ≤ 140737488355328) : Ev (fun k => slices_Contains_byte_byte.f k l c) (decide (c ∈ l)) := by
  obtain ⟨r, hr, hm⟩ := index_l0 l c hl _ 0 rfl (by omega)
  refine Ev.bind (f := fun _ t => some (decide (t ≥ 0))) hr ?_
  have e : decide (r ≥ 0) = decide (c ∈ l) := by
    rw [decide_eq_decide]
    simpa using hm
  rw [e]
  exact Ev.now _
/-- A text without an STX or ETX. -/
def Plain (l : List Int) : Prop := 2 ∉ l ∧ 3 ∉ l
theorem marks (l : List Int) (hl : l.length ≤ 140737488355328) : Ev (fun k => wire_marks.f k l) (decide (2 ∈ l) || decide (3 ∈ l)) := by
  unfold wire_marks.f
  refine Ev.bind (f := fun k t => if t = true then some true else (slices_Contains_byte_byte.f k l 3).bind fun t => some t) (contains l 2 hl) ?_
  by_cases h : 2 ∈ l
  · simp only [h, decide_true, if_true, Bool.true_or]
    exact Ev.now _
  · simp only [h, decide_false, Bool.false_or]
    refine Ev.ite_neg (by simp) ?_
    exact Ev.bind (f := fun _ t => some t) (contains l 3 hl) (Ev.now _)

/-! ### Concat of three -/
theorem concat3 (a b c : List Int) (h : a.length + b.length + c.length ≤ 140737488351000) : Ev (fun k => slices_Concat_byte_byte.f k [a, b, c]) (a ++ b ++ c) := by
  refine ⟨9, fun k hk => ?_⟩
  obtain ⟨k, rfl⟩ : ∃ m, k = m + 8 := ⟨k - 8, by omega⟩
  have w : ∀ n : Int, 0 ≤ n → n ≤ 140737488355328 → wrap64 n = n := fun n h0 h1 => wrap_id (by omega) (by omega)
  obtain ⟨k, rfl⟩ : ∃ m, k = m + 1 := ⟨k - 1, by omega⟩
  have r0 : rd_L1 [a, b, c] 0 = a := rfl
  have r1 : rd_L1 [a, b, c] 1 = b := rfl
  have r2 : rd_L1 [a, b, c] 2 = c := rfl
  have w1 : wrap64 (0 + 1) = 1 := by unfold wrap64; omega
  have w2 : wrap64 (1 + 1) = 2 := by unfold wrap64; omega
  have w3 : wrap64 (2 + 1) = 3 := by unfold wrap64; omega
  have hg : slices_Grow_byte_byte.f [] ((a.length : Int) + b.length + c.length) = some [] := by
    unfold slices_Grow_byte_byte.f
    rw [if_pos ⟨rfl, by omega, by omega⟩]
  have s0 : wrap64 (0 + (a.length : Int)) = a.length := by rw [Int.zero_add]; exact w _ (by omega) (by omega)
  have s1 : wrap64 ((a.length : Int) + b.length) = (a.length : Int) + b.length := w _ (by omega) (by omega)
  have s2 : wrap64 ((a.length : Int) + b.length + c.length) = (a.length : Int) + b.length + c.length := w _ (by omega) (by omega)
  unfold slices_Concat_byte_byte.f
  simp only [slices_Concat_byte_byte.l0, List.length_cons, List.length_nil, r0, r1, r2, w1, w2, w3, s0, s1, s2]
  simp only [show ((0 + 1 + 1 + 1 : Nat) : Int) = 3 from rfl, show ((0 : Int) < 3) = True from by simp, show ((1 : Int) < 3) = True from by simp, show ((2 : Int) < 3) = True from by simp, show ((3 : Int) < 3) = False from by simp, show ((0 : Int) ≤ 0) = True from by simp, show ((0 : Int) ≤ 1) = True from by simp, show ((0 : Int) ≤ 2) = True from by simp, if_true, if_false]
  rw [if_neg (by omega), if_neg (by omega), if_neg (by omega), hg]
  simp only [Option.bind_some, slices_Concat_byte_byte.l1, List.length_cons, List.length_nil, r0, r1, r2, w1, w2, w3, List.nil_append, List.length_append]
  simp only [show ((0 + 1 + 1 + 1 : Nat) : Int) = 3 from rfl, show ((0 : Int) < 3) = True from by simp, show ((1 : Int) < 3) = True from by simp, show ((2 : Int) < 3) = True from by simp, show ((3 : Int) < 3) = False from by simp, show ((0 : Int) ≤ 0) = True from by simp, show ((0 : Int) ≤ 1) = True from by simp, show ((0 : Int) ≤ 2) = True from by simp, if_true, if_false]
  rw [if_pos (by omega), if_pos (by omega), if_pos (by omega)]

/-! ### Frame -/
/-- A frame. -/
def frame (l : List Int) : List Int := [2] ++ l ++ [3, X (lrc l) 3]
def Fits (l : List Int) : Prop := Plain l ∧ l.length ≤ 500
instance (l : List Int) : Decidable (Fits l) := by unfold Fits Plain; infer_instance
def frameR (l : List Int) : List Int × Bool := if Fits l then (frame l, true) else ([], false)
theorem wire_frame (l : List Int) (hl : l.length ≤ 140737488350000) : Ev (fun k => wire_Frame.f k l) (frameR l) := by
  have hj : Ev (fun k => wire_Frame.j0 k l false) (frame l, true) := by
    refine Ev.step (f := fun k => (wire_Lrc.f k l).bind fun t => (slices_Concat_byte_byte.f k [[2], l, [3, X t 3]]).bind fun t => some (t, true)) (fun k => by simp only [wire_Frame.j0]; rw [if_neg (by simp)]) ?_
    refine Ev.bind (f := fun k t => (slices_Concat_byte_byte.f k [[2], l, [3, X t 3]]).bind fun t => some (t, true)) (wire_lrc l (by omega)) ?_
    exact Ev.bind (f := fun _ t => some (t, true)) (concat3 [2] l [3, X (lrc l) 3] (by simp; omega)) (Ev.now _)
  have hj' : Ev (fun k => wire_Frame.j0 k l true) ([], false) := Ev.step (f := fun _ => some ([], false)) (fun k => by simp only [wire_Frame.j0, if_true]) (Ev.now _)
  unfold wire_Frame.f
  refine Ev.bind (f := fun k t => if t = true then wire_Frame.j0 k l true else wire_Frame.j0 k l (decide ((l.length : Int) > 500))) (marks l (by omega)) ?_
  by_cases h2 : 2 ∈ l
  · rw [show frameR l = ([], false) from if_neg (fun h => h.1.1 h2)]
    exact Ev.ite_pos (by simp [h2]) hj'
  by_cases h3 : 3 ∈ l
  · rw [show frameR l = ([], false) from if_neg (fun h => h.1.2 h3)]
    exact Ev.ite_pos (by simp [h3]) hj'
  refine Ev.ite_neg (by simp [h2, h3]) ?_
  by_cases hs : l.length ≤ 500
  · rw [show frameR l = (frame l, true) from if_pos ⟨⟨h2, h3⟩, hs⟩, decide_eq_false (by omega)]
    exact hj
  · rw [show frameR l = ([], false) from if_neg (fun h => hs h.2), decide_eq_true (by omega)]
    exact hj'
def frame' (l : List Int) (t : Int) : List Int := [2] ++ l ++ [3, X t 3]
theorem ref_frame_l0 (l : List Int) (hl : l.length ≤ 500) (d : Nat) : ∀ (i : Nat), l.length - i = d → i ≤ l.length → Ev (fun k => guichetref1_Frame.l0 k l (i : Int)) (if 2 ∉ l.drop i ∧ 3 ∉ l.drop i then (frame l, true) else ([], false)) := by
  induction d with
  | zero =>
    intro i hd hi
    have e : l.drop i = [] := List.drop_eq_nil_of_le (by omega)
    rw [e, if_pos (by simp)]
    refine Ev.step (f := fun k => (guichetref1_Lrc.f k l).bind fun t => some (frame' l t, true)) (fun k => ?_) (Ev.bind (f := fun _ t => some (frame' l t, true)) (ref_lrc l (by omega)) (Ev.now _))
    simp only [guichetref1_Frame.l0]
    rw [if_neg (by omega)]
    simp only [Option.bind_some, List.length_append, List.length_cons, List.length_nil]
    rw [if_pos (by omega), if_pos (by omega)]
    congr 1
    funext t
    rw [if_pos (by omega)]
    simp [frame']
  | succ d ih =>
    intro i hd hi
    have hlt : i < l.length := by omega
    have step : ∀ f : Nat → Option (List Int × Bool), (∀ k, (if l[i] = 2 then some ([], false) else if l[i] = 3 then some ([], false) else guichetref1_Frame.l0 k l ((i + 1 : Nat) : Int)) = f k) → ∀ k, guichetref1_Frame.l0 (k + 1) l (i : Int) = f k := fun f hf k => by
      rw [← hf k]
      simp only [guichetref1_Frame.l0]
      rw [if_pos (by omega), if_pos (by omega), rd_lt hlt, wrap_succ hlt (by omega : l.length ≤ 140737488355328)]
    rw [drop_cons hlt]
    by_cases h2 : l[i] = 2
    · rw [if_neg (by simp [h2])]
      exact Ev.step (f := fun _ => some ([], false)) (step _ (fun k => if_pos h2)) (Ev.now _)
    by_cases h3 : l[i] = 3
    · rw [if_neg (by simp [h3])]
      exact Ev.step (f := fun _ => some ([], false)) (step _ (fun k => by rw [if_neg h2, if_pos h3])) (Ev.now _)
    have e : (2 ∉ l[i] :: l.drop (i + 1) ∧ 3 ∉ l[i] :: l.drop (i + 1)) ↔ (2 ∉ l.drop (i + 1) ∧ 3 ∉ l.drop (i + 1)) := by
      simp only [List.mem_cons, not_or]
      constructor
      · rintro ⟨⟨_, a⟩, _, b⟩; exact ⟨a, b⟩
      · rintro ⟨a, b⟩; exact ⟨⟨fun h => h2 h.symm, a⟩, fun h => h3 h.symm, b⟩
    rw [show (if 2 ∉ l[i] :: l.drop (i + 1) ∧ 3 ∉ l[i] :: l.drop (i + 1) then (frame l, true) else ([], false)) = (if 2 ∉ l.drop (i + 1) ∧ 3 ∉ l.drop (i + 1) then (frame l, true) else ([], false)) from by simp only [e]]
    exact Ev.step (f := fun k => guichetref1_Frame.l0 k l ((i + 1 : Nat) : Int)) (step _ (fun k => by rw [if_neg h2, if_neg h3])) (ih (i + 1) (by omega) (by omega))
theorem ref_frame (l : List Int) : Ev (fun k => guichetref1_Frame.f k l) (frameR l) := by
  unfold guichetref1_Frame.f
  by_cases h : l.length ≤ 500
  · refine Ev.ite_neg (by omega) ?_
    have := ref_frame_l0 l h _ 0 rfl (by omega)
    have e : frameR l = (if 2 ∉ l.drop 0 ∧ 3 ∉ l.drop 0 then (frame l, true) else ([], false)) := by
      unfold frameR
      simp only [Fits, Plain, h, and_true, List.drop_zero]
    rw [e]
    exact this
  · rw [show frameR l = ([], false) from if_neg (fun h' => h h'.2)]
    exact Ev.ite_pos (by omega) (Ev.now _)
end Go.Proofs.YtkhgiojpegghoaaDoor.Q
