import Derived.Test.YteigefgobkdmgaaDoorBD25
/- The law's call. -/
namespace Go.B.YteigefgobkdmgaaDoor
open Go Go.B Go.Proofs
set_option maxRecDepth 100000
set_option maxHeartbeats 4000000
set_option linter.unusedSimpArgs false
set_option linter.unusedVariables false
theorem law_enc (H : Heap) (avs : List Value) (ds : List Dat) (ok : Ok H) (h : AllEnc Tryd.prog H [27, 5, 5, 22, 22] avs ds) : ∃ v H', Ca V 3 avs.toArray H v H' ∧ v = .bool true := by
  obtain ⟨v0, avs, y0, ds, rfl, rfl, h0, h⟩ := h.cons_inv
  obtain ⟨v1, avs, y1, ds, rfl, rfl, h1, h⟩ := h.cons_inv
  obtain ⟨v2, avs, y2, ds, rfl, rfl, h2, h⟩ := h.cons_inv
  obtain ⟨v3, avs, y3, ds, rfl, rfl, h3, h⟩ := h.cons_inv
  obtain ⟨v4, avs, y4, ds, rfl, rfl, h4, h⟩ := h.cons_inv
  obtain rfl := h.nil_inv
  unfold EncV at h0
  rw [if_pos (by kernel_rfl)] at h0
  obtain ⟨acs, rfl, h0⟩ := h0
  obtain ⟨m, rfl, wm⟩ := dec_msg h0
  obtain ⟨x1, rfl, w1⟩ := encV_int un_5 h1
  obtain ⟨x2, rfl, w2⟩ := encV_int un_5 h2
  obtain ⟨x3, rfl, w3⟩ := encV_int un_22 h3
  obtain ⟨x4, rfl, w4⟩ := encV_int un_22 h4
  exact law_back m wm x1 x2 x3 x4 (wf_u8 w1) (wf_u8 w2) (wf_u16 w3) (wf_u16 w4) H ok
/-- The law's call: it answers true, whatever comes in. -/
theorem law_called {W : World} {HH : Type} {enc : TypeId × Value → HH} {base : Nat} {held : Bool} {args : Array Value} {xs : List (DataW HH)} {ps : List MemPlace}
    (hX : ∀ D : Dem Tryd.prog, (∀ w, D.I w → RowKit.Below W.heap.size W w) → ExtOk Tryd.prog X)
    (hok : ∀ (j : Nat) t v, #[27, 5, 5, 22, 22][j]? = some t → args[j]? = some v → Value.okWide Tryd.prog W .any base t v) (h : DataW.TrodAll enc Tryd.prog W 0 (fun _ => true) held [27, 5, 5, 22, 22] args.toList xs ps) :
    Calls Tryd.prog 3 args W fun e W' => e = .returned (.bool true) ∧ RowKit.Below W.heap.size W W' := by
  let D : Dem Tryd.prog := ⟨W.heap.size, fun w => RowKit.Below W.heap.size W w, fun _ _ _ hb h => h.trans hb⟩
  have hch : ([3, 2, 5, 9, 22, 23, 25, 27].all fun t => chk Tryd.prog [3, 2, 5, 9, 22, 23, 25, 27] t) = true := by decide +kernel
  refine law_calls (V := V) V_P tab_ok (hX D fun w h => h) (ts := [3, 2, 5, 9, 22, 23, 25, 27]) (tys := [27, 5, 5, 22, 22]) (fun t ht => List.all_eq_true.mp hch t ht) (by decide) (fun j t v h1 h2 => hok j t v (by simpa using h1) h2) h (RowKit.Below.refl _ _) (Nat.le_refl _) law_enc
end Go.B.YteigefgobkdmgaaDoor
