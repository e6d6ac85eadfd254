import Derived.Test.YteigefgobkdmgaaDoorBD24
/- The law MsgBack. -/
namespace Go.B.YteigefgobkdmgaaDoor
open Go Go.B Go.Proofs
set_option maxRecDepth 100000
set_option maxHeartbeats 16000000
set_option linter.unusedSimpArgs false
set_option linter.unusedVariables false
theorem sp_bytes {m : Msg} (h : m.right = true) (hw : m.wf) : (sp m.bytes).map S = m.texts := by
  obtain ⟨p1, _⟩ := texts_ok h hw
  have e1 := sp_jn (m.texts.map U) (by unfold Msg.texts; simp) (fun a ha => by obtain ⟨s, hs, rfl⟩ := List.mem_map.mp ha; exact p1 s hs)
  unfold Msg.bytes
  rw [e1, List.map_map]
  exact (List.map_id _)
theorem brow_of {H : Heap} {i : Nat} {y : List UInt8} (h : H.get i = some (.cells (bytesV y) 5 false)) : BRow H (some ⟨i, 0, none⟩) capU y :=
  ⟨.inr ⟨i, 0, bytesV y, 5, false, rfl, h, by rw [bytesV_length]; omega, by rw [List.drop_zero, List.take_of_length_le (by rw [bytesV_length]; omega)], sz_5⟩⟩
theorem setCells_length : ∀ (l c : List Value) (o : Nat), (setCells c o l).length = c.length
  | [], c, o => rfl
  | v :: l, c, o => by rw [setCells, setCells_length l, List.length_set]
theorem setCells_eq : ∀ (l c : List Value) (o : Nat), o + l.length ≤ c.length → setCells c o l = c.take o ++ (l ++ c.drop (o + l.length))
  | [], c, o, _ => by simp [setCells]
  | v :: l, c, o, h => by
    simp only [List.length_cons] at h ⊢
    rw [setCells, setCells_eq l (c.set o v) (o + 1) (by rw [List.length_set]; omega), List.drop_set_of_lt (by omega), show o + 1 + l.length = o + (l.length + 1) by omega]
    have : (c.set o v).take (o + 1) = c.take o ++ [v] := by
      rw [List.take_add_one, List.take_set_of_le (Nat.le_refl _), List.getElem?_set_self (by omega)]
      rfl
    rw [this]; simp
theorem msgs2 {m x : Msg} {Z : List Value} (h : Z.length = 52) : setCells (setCells Z 0 m.cells) 26 x.cells = m.cells ++ x.cells := by
  rw [setCells_eq m.cells Z 0 (by rw [Msg.cells_length]; omega), setCells_eq x.cells _ 26 (by simp [Msg.cells_length]; omega)]
  simp only [List.take_zero, List.nil_append, Msg.cells_length]
  rw [List.take_append_of_le_length (by rw [Msg.cells_length]; exact Nat.le_refl _), List.take_of_length_le (by rw [Msg.cells_length]; exact Nat.le_refl _), List.drop_of_length_le (by simp [Msg.cells_length]; omega)]
  simp
theorem binV_bne {P : Program} {H : Heap} {t : TypeId} {x y : Operand} {a b : Bool} (hu : P.underlying t = some .bool) : binV P H .neq t x y (.bool a) (.bool b) = some (.val (.bool (!(a == b))) H) := by
  refine binV_eq nilEq_bool rfl rfl ?_ rfl
  simp only [binOp]
  rw [runP_bind]
  have : runP P (Op.equal t (.bool a) (.bool b)) = some (a == b) := by
    unfold Op.equal Op.maxDepth Op.equalIn
    rw [runP_bind, runP_und hu]
    rfl
  rw [this]
  rfl
end Go.B.YteigefgobkdmgaaDoor
