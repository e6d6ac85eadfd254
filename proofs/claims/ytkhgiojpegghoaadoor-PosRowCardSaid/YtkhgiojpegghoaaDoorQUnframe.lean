import Derived.Test.YtkhgiojpegghoaaDoorQWire
/- Unframe: bytes are gone through one by one: what has come since the STX, how many bytes were taken. -/
namespace Go.Proofs.YtkhgiojpegghoaaDoor.Q
open Go.RowKit Go.Proofs.YtkhgiojpegghoaaDoorW.PrintWords Go.Proofs.YtkhgiojpegghoaaDoorW.PrintMore Go.Proofs.YtkhgiojpegghoaaDoor.PAll
set_option linter.unusedVariables false

def un : List Int → Option (List Int) → Nat → List Int × Int × Bool
  | [], _, _ => ([], 0, false)
  | c :: t, cur, n =>
    if c = 2 then un t (some []) (n + 1)
    else if c = 3 then
      match cur with
      | none => un t none (n + 1)
      | some x => if x.length ≤ 500 ∧ t.head? = some (X (lrc x) 3) then (x, (n : Int) + 2, true) else un t none (n + 1)
    else un t (cur.map (· ++ [c])) (n + 1)

/-- Where the frame that is read began, and what came since. -/
def Rel (l : List Int) (i : Nat) (b : Int) (cur : Option (List Int)) : Prop :=
  (b = -1 ∧ cur = none) ∨ ∃ f : Nat, b = f ∧ f < i ∧ cur = some ((l.take i).drop (f + 1))

theorem take_drop_succ {l : List Int} {i f : Nat} (h : i < l.length) (hf : f < i) : (l.take (i + 1)).drop (f + 1) = (l.take i).drop (f + 1) ++ [l[i]] := by
  rw [List.take_succ_eq_append_getElem h, List.drop_append_of_le_length (by rw [List.length_take]; omega)]
theorem rel_next {l : List Int} {i : Nat} {b : Int} {cur : Option (List Int)} (h : i < l.length) (hr : Rel l i b cur) : Rel l (i + 1) b (cur.map (· ++ [l[i]])) := by
  rcases hr with ⟨rfl, rfl⟩ | ⟨f, rfl, hf, rfl⟩
  · exact .inl ⟨rfl, rfl⟩
  · exact .inr ⟨f, rfl, by omega, by rw [take_drop_succ h hf]; rfl⟩
theorem rel_stx {l : List Int} {i : Nat} (h : i < l.length) : Rel l (i + 1) (i : Int) (some []) := .inr ⟨i, rfl, by omega, by rw [List.drop_eq_nil_of_le (by rw [List.length_take]; omega)]⟩
theorem rel_none (l : List Int) (i : Nat) : Rel l i (-1) none := .inl ⟨rfl, rfl⟩
theorem head_drop (l : List Int) (i : Nat) : (l.drop i).head? = l[i]? := by simp [List.head?_drop]

theorem wire_un (l : List Int) (hl : l.length ≤ 140737488350000) (d : Nat) : ∀ (i : Nat) (b : Int) (cur : Option (List Int)), l.length - i = d → i ≤ l.length → Rel l i b cur → Ev (fun k => wire_Unframe.l0 k l b l (l.length : Int) (i : Int)) (un (l.drop i) cur i) := by
  induction d with
  | zero =>
    intro i b cur hd hi hr
    have e : l.drop i = [] := List.drop_eq_nil_of_le (by omega)
    rw [e]
    exact Ev.step (f := fun _ => some ([], 0, false)) (fun k => by simp only [wire_Unframe.l0]; rw [if_neg (by omega)]) (Ev.now _)
  | succ d ih =>
    intro i b cur hd hi hr
    have hlt : i < l.length := by omega
    have hw : wrap64 ((i : Int) + 1) = ((i + 1 : Nat) : Int) := wrap_succ hlt (by omega)
    rw [drop_cons hlt]
    refine Ev.step (f := fun k => if l[i] = 2 then wire_Unframe.l0 k l (i : Int) l (l.length : Int) ((i + 1 : Nat) : Int) else if l[i] = 3 then wire_Unframe.j1 k l b i l (l.length : Int) i (decide (b ≥ 0)) else wire_Unframe.j1 k l b i l (l.length : Int) i false) (fun k => ?_) ?_
    · simp only [wire_Unframe.l0]
      rw [if_pos (by omega), if_pos (by omega), if_pos (by omega), rd_lt hlt, hw]
    have skip : ∀ b cur, Rel l (i + 1) b cur → Ev (fun k => wire_Unframe.j1 k l b i l (l.length : Int) i false) (un (l.drop (i + 1)) cur (i + 1)) := fun b cur h => by
      refine Ev.step (f := fun k => wire_Unframe.l0 k l b l (l.length : Int) ((i + 1 : Nat) : Int)) (fun k => ?_) (ih (i + 1) b cur (by omega) (by omega) h)
      simp only [wire_Unframe.j1, Bool.false_eq_true, if_false, hw]
    by_cases h2 : l[i] = 2
    · unfold un
      rw [if_pos h2]
      exact Ev.ite_pos h2 (ih (i + 1) i (some []) (by omega) (by omega) (rel_stx hlt))
    unfold un
    rw [if_neg h2]
    refine Ev.ite_neg h2 ?_
    by_cases h3 : l[i] = 3
    · rw [if_pos h3]
      refine Ev.ite_pos h3 ?_
      rcases hr with ⟨rfl, rfl⟩ | ⟨f, rfl, hf, rfl⟩
      · exact skip (-1) none (rel_none _ _)
      · have hfw : wrap64 ((f : Int) + 1) = ((f + 1 : Nat) : Int) := wrap_succ (show f < l.length by omega) (by omega)
        have hnext : Ev (fun k => wire_Unframe.l0 k l (-1) l (l.length : Int) ((i + 1 : Nat) : Int)) (un (l.drop (i + 1)) none (i + 1)) := ih (i + 1) (-1) none (by omega) (by omega) (rel_none _ _)
        generalize hx : (l.take i).drop (f + 1) = x
        have hxl : x.length ≤ l.length := by rw [← hx]; simp; omega
        have hj : ∀ k, wire_Unframe.j1 (k + 1) l f i l (l.length : Int) i true = if ((i + 1 : Nat) : Int) < l.length then (if (x.length : Int) ≤ 500 then ((wire_Lrc.f k x).bind fun t => if rd l ((i + 1 : Nat) : Int) = X t 3 then (bytes_Clone.f x).bind (fun y => some (y, wrap64 ((i : Int) + 2), true)) else wire_Unframe.l0 k l (-1) l (l.length : Int) ((i + 1 : Nat) : Int)) else wire_Unframe.l0 k l (-1) l (l.length : Int) ((i + 1 : Nat) : Int)) else wire_Unframe.l0 k l (-1) l (l.length : Int) ((i + 1 : Nat) : Int) := fun k => by
          simp only [wire_Unframe.j1, if_true, hfw, hw]
          rw [if_pos (by omega), if_pos (by omega), if_pos (by omega)]
          simp only [Option.bind_some, Int.toNat_natCast, hx]
          rw [if_pos (show (0 : Int) ≤ ((i + 1 : Nat) : Int) by omega)]
        rw [decide_eq_true (show (f : Int) ≥ 0 by omega)]
        refine Ev.step hj ?_
        show Ev _ (if x.length ≤ 500 ∧ (l.drop (i + 1)).head? = some (X (lrc x) 3) then (x, (i : Int) + 2, true) else un (l.drop (i + 1)) none (i + 1))
        by_cases h4 : i + 1 < l.length
        · refine Ev.ite_pos (by omega) ?_
          by_cases h5 : x.length ≤ 500
          · refine Ev.ite_pos (by omega) ?_
            refine Ev.bind (f := fun k t => if rd l ((i + 1 : Nat) : Int) = X t 3 then (bytes_Clone.f x).bind (fun y => some (y, wrap64 ((i : Int) + 2), true)) else wire_Unframe.l0 k l (-1) l (l.length : Int) ((i + 1 : Nat) : Int)) (wire_lrc x (by omega)) ?_
            have hh : (l.drop (i + 1)).head? = some (l[i + 1]'h4) := by rw [head_drop, List.getElem?_eq_getElem h4]
            rw [rd_lt h4]
            by_cases h6 : l[i + 1] = X (lrc x) 3
            · have hc : bytes_Clone.f x = some x := if_pos (by omega)
              have hw2 : wrap64 ((i : Int) + 2) = (i : Int) + 2 := by unfold wrap64; omega
              rw [if_pos (show x.length ≤ 500 ∧ (l.drop (i + 1)).head? = some (X (lrc x) 3) from ⟨h5, by rw [hh, h6]⟩)]
              refine Ev.ite_pos h6 ?_
              rw [hc, hw2]
              exact Ev.now _
            · rw [if_neg (fun h : x.length ≤ 500 ∧ (l.drop (i + 1)).head? = some (X (lrc x) 3) => h6 (Option.some.inj (hh.symm.trans h.2)))]
              exact Ev.ite_neg h6 hnext
          · rw [if_neg (fun h => h5 h.1)]
            exact Ev.ite_neg (by omega) hnext
        · rw [if_neg (fun h : x.length ≤ 500 ∧ (l.drop (i + 1)).head? = some (X (lrc x) 3) => by have h_ := h.2; rw [head_drop, List.getElem?_eq_none (by omega)] at h_; cases h_)]
          exact Ev.ite_neg (by omega) hnext
    · rw [if_neg h3]
      exact Ev.ite_neg h3 (skip b _ (rel_next hlt hr))
theorem wire_unframe (l : List Int) (hl : l.length ≤ 140737488350000) : Ev (fun k => wire_Unframe.f k l) (un l none 0) := wire_un l hl _ 0 (-1) none rfl (by omega) (rel_none _ _)

theorem ref_un (l : List Int) (hl : l.length ≤ 140737488350000) (d : Nat) : ∀ (i : Nat) (b : Int) (cur : Option (List Int)), l.length - i = d → i ≤ l.length → Rel l i b cur → Ev (fun k => guichetref1_Unframe.l0 k l b (i : Int)) (un (l.drop i) cur i) := by
  induction d with
  | zero =>
    intro i b cur hd hi hr
    have e : l.drop i = [] := List.drop_eq_nil_of_le (by omega)
    rw [e]
    exact Ev.step (f := fun _ => some ([], 0, false)) (fun k => by simp only [guichetref1_Unframe.l0]; rw [if_neg (by omega)]) (Ev.now _)
  | succ d ih =>
    intro i b cur hd hi hr
    have hlt : i < l.length := by omega
    have hw : wrap64 ((i : Int) + 1) = ((i + 1 : Nat) : Int) := wrap_succ hlt (by omega)
    rw [drop_cons hlt]
    refine Ev.step (f := fun k => if l[i] = 2 then guichetref1_Unframe.j1 k l (i : Int) (i : Int) else guichetref1_Unframe.j1 k l b (i : Int)) (fun k => ?_) ?_
    · simp only [guichetref1_Unframe.l0]
      rw [if_pos (by omega), if_pos (by omega), rd_lt hlt]
    have hj1 : ∀ (b : Int) k, guichetref1_Unframe.j1 (k + 1) l b (i : Int) = if l[i] = 3 then guichetref1_Unframe.j2 k l b (i : Int) (decide (b < 0)) else guichetref1_Unframe.j2 k l b (i : Int) true := fun b k => by
      simp only [guichetref1_Unframe.j1]
      rw [if_pos (by omega), if_pos (by omega), rd_lt hlt]
    have skip : ∀ b cur, Rel l (i + 1) b cur → Ev (fun k => guichetref1_Unframe.j2 k l b (i : Int) true) (un (l.drop (i + 1)) cur (i + 1)) := fun b cur h => by
      refine Ev.step (f := fun k => guichetref1_Unframe.l0 k l b ((i + 1 : Nat) : Int)) (fun k => ?_) (ih (i + 1) b cur (by omega) (by omega) h)
      simp only [guichetref1_Unframe.j2, if_true, hw]
    by_cases h2 : l[i] = 2
    · unfold un
      rw [if_pos h2]
      refine Ev.ite_pos h2 (Ev.step (hj1 _) (Ev.ite_neg (by omega) (skip _ _ (rel_stx hlt))))
    unfold un
    rw [if_neg h2]
    refine Ev.ite_neg h2 (Ev.step (hj1 _) ?_)
    by_cases h3 : l[i] = 3
    · rw [if_pos h3]
      refine Ev.ite_pos h3 ?_
      rcases hr with ⟨rfl, rfl⟩ | ⟨f, rfl, hf, rfl⟩
      · exact skip (-1) none (rel_none _ _)
      · have hfw : wrap64 ((f : Int) + 1) = ((f + 1 : Nat) : Int) := wrap_succ (show f < l.length by omega) (by omega)
        have hnext : Ev (fun k => guichetref1_Unframe.l0 k l (-1) ((i + 1 : Nat) : Int)) (un (l.drop (i + 1)) none (i + 1)) := ih (i + 1) (-1) none (by omega) (by omega) (rel_none _ _)
        generalize hx : (l.take i).drop (f + 1) = x
        have hxl : x.length ≤ l.length := by rw [← hx]; simp; omega
        have hj : ∀ k, guichetref1_Unframe.j2 (k + 1) l f i false = if ((i + 1 : Nat) : Int) < l.length then (if (x.length : Int) ≤ 500 then ((guichetref1_Lrc.f k x).bind fun t => if rd l ((i + 1 : Nat) : Int) = X t 3 then (some (x, wrap64 ((i : Int) + 2), true)) else guichetref1_Unframe.l0 k l (-1) ((i + 1 : Nat) : Int)) else guichetref1_Unframe.l0 k l (-1) ((i + 1 : Nat) : Int)) else guichetref1_Unframe.l0 k l (-1) ((i + 1 : Nat) : Int) := fun k => by
          simp only [guichetref1_Unframe.j2, Bool.false_eq_true, if_false, hfw, hw]
          rw [if_pos (by omega), if_pos (by omega), if_pos (by omega)]
          simp only [Option.bind_some, Int.toNat_natCast, hx, List.nil_append, List.length_nil, Nat.zero_add]
          rw [if_pos (by omega : (0 : Int) ≤ ((i + 1 : Nat) : Int)), if_pos (by omega : x.length < 140737488355328)]
        rw [decide_eq_false (show ¬ (f : Int) < 0 by omega)]
        refine Ev.step hj ?_
        show Ev _ (if x.length ≤ 500 ∧ (l.drop (i + 1)).head? = some (X (lrc x) 3) then (x, (i : Int) + 2, true) else un (l.drop (i + 1)) none (i + 1))
        by_cases h4 : i + 1 < l.length
        · refine Ev.ite_pos (by omega) ?_
          by_cases h5 : x.length ≤ 500
          · refine Ev.ite_pos (by omega) ?_
            refine Ev.bind (f := fun k t => if rd l ((i + 1 : Nat) : Int) = X t 3 then some (x, wrap64 ((i : Int) + 2), true) else guichetref1_Unframe.l0 k l (-1) ((i + 1 : Nat) : Int)) (ref_lrc x (by omega)) ?_
            have hh : (l.drop (i + 1)).head? = some (l[i + 1]'h4) := by rw [head_drop, List.getElem?_eq_getElem h4]
            rw [rd_lt h4]
            by_cases h6 : l[i + 1] = X (lrc x) 3
            · have hw2 : wrap64 ((i : Int) + 2) = (i : Int) + 2 := by unfold wrap64; omega
              rw [if_pos (show x.length ≤ 500 ∧ (l.drop (i + 1)).head? = some (X (lrc x) 3) from ⟨h5, by rw [hh, h6]⟩)]
              refine Ev.ite_pos h6 ?_
              rw [hw2]
              exact Ev.now _
            · rw [if_neg (fun h : x.length ≤ 500 ∧ (l.drop (i + 1)).head? = some (X (lrc x) 3) => h6 (Option.some.inj (hh.symm.trans h.2)))]
              exact Ev.ite_neg h6 hnext
          · rw [if_neg (fun h => h5 h.1)]
            exact Ev.ite_neg (by omega) hnext
        · rw [if_neg (fun h : x.length ≤ 500 ∧ (l.drop (i + 1)).head? = some (X (lrc x) 3) => by have h_ := h.2; rw [head_drop, List.getElem?_eq_none (by omega)] at h_; cases h_)]
          exact Ev.ite_neg (by omega) hnext
    · rw [if_neg h3]
      exact Ev.ite_neg h3 (skip b _ (rel_next hlt hr))
theorem ref_unframe (l : List Int) (hl : l.length ≤ 140737488350000) : Ev (fun k => guichetref1_Unframe.f k l) (un l none 0) := ref_un l hl _ 0 (-1) none rfl (by omega) (rel_none _ _)

/-! ### what un tells of texts that we know -/
theorem un_skip (t : List Int) : ∀ (a : List Int) (n : Nat), 2 ∉ a → un (a ++ t) none n = un t none (n + a.length)
  | [], n, _ => rfl
  | c :: a, n, h => by
    have h2 : ¬ c = 2 := fun e => h (by simp [e])
    have := un_skip t a (n + 1) (fun e => h (by simp [e]))
    rw [List.cons_append, un, if_neg h2, List.length_cons, ← Nat.add_assoc, Nat.add_right_comm]
    split
    · exact this
    · exact this
theorem un_body (t : List Int) : ∀ (b x : List Int) (n : Nat), Plain b → un (b ++ t) (some x) n = un t (some (x ++ b)) (n + b.length)
  | [], x, n, _ => by simp
  | c :: b, x, n, h => by
    have h2 : ¬ c = 2 := fun e => h.1 (by simp [e])
    have h3 : ¬ c = 3 := fun e => h.2 (by simp [e])
    have := un_body t b (x ++ [c]) (n + 1) ⟨fun e => h.1 (by simp [e]), fun e => h.2 (by simp [e])⟩
    rw [List.cons_append, un, if_neg h2, if_neg h3]
    simp only [Option.map_some]
    rw [this]
    simp [Nat.add_assoc, Nat.add_comm 1]
theorem un_stx (t : List Int) (cur : Option (List Int)) (n : Nat) : un (2 :: t) cur n = un t (some []) (n + 1) := by
  show (if (2 : Int) = 2 then un t (some []) (n + 1) else _) = _
  exact if_pos rfl
theorem un_frame (b more : List Int) (cur : Option (List Int)) (n : Nat) (h : Fits b) : un (frame b ++ more) cur n = (b, ((n + (frame b).length : Nat) : Int), true) := by
  have e : frame b ++ more = 2 :: (b ++ (3 :: X (lrc b) 3 :: more)) := by simp [frame]
  rw [e, un_stx, un_body _ _ _ _ h.1, un, if_neg (by omega), if_pos rfl]
  simp only [List.nil_append, List.head?_cons]
  rw [if_pos ⟨h.2, trivial⟩]
  simp [frame]
  omega
end Go.Proofs.YtkhgiojpegghoaaDoor.Q
