import Derived.Test.YteigefgobkdmgaaDoorBD26
/- The law's call. -/
namespace Go.B.YteigefgobkdmgaaDoor
open Go Go.B Go.Proofs
set_option maxRecDepth 100000
set_option maxHeartbeats 4000000
set_option linter.unusedSimpArgs false
set_option linter.unusedVariables false
theorem flat1 : ∀ ys : List UInt8, ys.flatMap (fun b : UInt8 => [Value.int .u8 b.toNat]) = bytesV ys
  | [] => rfl
  | a :: r => by rw [List.flatMap_cons, flat1 r]; rfl
theorem dec_bytes {H : Heap} {v : Value} {d : Dat} (h : EncV Tryd.prog H 31 v d) : ∃ (b : Option Addr) (c : Nat) (y : List UInt8), v = .slice b y.length c ∧ y.length ≤ maxLen ∧ BRow H b c y := by
  unfold EncV at h
  rw [if_neg (by unfold isAggT; rw [un_31]; simp)] at h
  obtain ⟨b, n, c, l, hc, hn, hm, hr⟩ := h.slice_inv3 un_31
  simp only [List.cons.injEq, and_true] at hc
  subst hc
  rcases hr with ⟨h0, hb⟩ | ⟨i, row, rfl, rfl, hg, hrl, hrow⟩
  · subst h0
    exact ⟨b, c, [], rfl, hm, ⟨.inl ⟨rfl, hb⟩⟩⟩
  · have co : Program.cellsOf Tryd.prog 5 = 1 := by kernel_rfl
    rw [co] at hrl hrow
    obtain ⟨ys, h1, h2, _⟩ := rows_of (P := Tryd.prog) (H := H) (e := 5) (fun b : UInt8 => [Value.int .u8 b.toNat]) (fun _ => True) (sz := 1) (fun cs d _ h => by
      obtain ⟨n, rfl, hw⟩ := h.int_inv un_5
      have hw := wf_u8 hw
      exact ⟨UInt8.ofNat n.toNat, by rw [UInt8.toNat_ofNat']; congr 2; omega, trivial⟩) n row l hn.symm hrl hrow
    have h3 : row = bytesV ys := h2.trans (flat1 ys)
    subst h1
    exact ⟨_, _, ys, rfl, hm, ⟨.inr ⟨i, 0, row, 5, true, rfl, hg, by rw [h3, bytesV_length]; omega, by rw [h3, List.drop_zero, List.take_of_length_le (by rw [bytesV_length]; omega)], sz_5⟩⟩⟩
theorem law_enc (H : Heap) (avs : List Value) (ds : List Dat) (ok : Ok H) (h : AllEnc Tryd.prog H [31, 5, 5, 22, 22, 22, 5, 5] avs ds) : ∃ v H', Ca V 4 avs.toArray H v H' ∧ v = .bool true := by
  obtain ⟨v0, avs, y0, ds, rfl, rfl, h0, h⟩ := h.cons_inv
  obtain ⟨v1, avs, y1, ds, rfl, rfl, h1, h⟩ := h.cons_inv
  obtain ⟨v2, avs, y2, ds, rfl, rfl, h2, h⟩ := h.cons_inv
  obtain ⟨v3, avs, y3, ds, rfl, rfl, h3, h⟩ := h.cons_inv
  obtain ⟨v4, avs, y4, ds, rfl, rfl, h4, h⟩ := h.cons_inv
  obtain ⟨v5, avs, y5, ds, rfl, rfl, h5, h⟩ := h.cons_inv
  obtain ⟨v6, avs, y6, ds, rfl, rfl, h6, h⟩ := h.cons_inv
  obtain ⟨v7, avs, y7, ds, rfl, rfl, h7, h⟩ := h.cons_inv
  obtain rfl := h.nil_inv
  obtain ⟨b, c, y, rfl, hl, hy⟩ := dec_bytes h0
  obtain ⟨x1, rfl, w1⟩ := encV_int un_5 h1
  obtain ⟨x2, rfl, w2⟩ := encV_int un_5 h2
  obtain ⟨x3, rfl, w3⟩ := encV_int un_22 h3
  obtain ⟨x4, rfl, w4⟩ := encV_int un_22 h4
  obtain ⟨x5, rfl, w5⟩ := encV_int un_22 h5
  obtain ⟨x6, rfl, w6⟩ := encV_int un_5 h6
  obtain ⟨x7, rfl, w7⟩ := encV_int un_5 h7
  exact law_reads y b c hl x1 x2 x3 x4 x5 x6 x7 (wf_u8 w1) (wf_u8 w2) (wf_u16 w3) (wf_u16 w4) (wf_u16 w5) (wf_u8 w6) (wf_u8 w7) H ok hy
/-- The law's call: it answers true, whatever comes in. -/
theorem law_called {W : World} {HH : Type} {enc : TypeId × Value → HH} {base : Nat} {held : Bool} {args : Array Value} {xs : List (DataW HH)} {ps : List MemPlace}
    (hX : ∀ D : Dem Tryd.prog, (∀ w, D.I w → RowKit.Below W.heap.size W w) → ExtOk Tryd.prog X)
    (hok : ∀ (j : Nat) t v, #[31, 5, 5, 22, 22, 22, 5, 5][j]? = some t → args[j]? = some v → Value.okWide Tryd.prog W .any base t v) (h : DataW.TrodAll enc Tryd.prog W 0 (fun _ => true) held [31, 5, 5, 22, 22, 22, 5, 5] args.toList xs ps) :
    Calls Tryd.prog 4 args W fun e W' => e = .returned (.bool true) ∧ RowKit.Below W.heap.size W W' := by
  let D : Dem Tryd.prog := ⟨W.heap.size, fun w => RowKit.Below W.heap.size W w, fun _ _ _ hb h => h.trans hb⟩
  have hch : ([5, 22, 31].all fun t => chk Tryd.prog [5, 22, 31] t) = true := by decide +kernel
  refine law_calls (V := V) V_P tab_ok (hX D fun w h => h) (ts := [5, 22, 31]) (tys := [31, 5, 5, 22, 22, 22, 5, 5]) (fun t ht => List.all_eq_true.mp hch t ht) (by decide) (fun j t v h1 h2 => hok j t v (by simpa using h1) h2) h (RowKit.Below.refl _ _) (Nat.le_refl _) law_enc
end Go.B.YteigefgobkdmgaaDoor
