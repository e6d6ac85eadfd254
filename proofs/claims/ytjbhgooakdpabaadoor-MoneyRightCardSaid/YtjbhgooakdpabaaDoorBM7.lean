import Derived.Test.YtjbhgooakdpabaaDoorBM6
/- The configuration that came in, read; the law's call. -/
namespace Go.B
open Go
section
variable {P : Program} {H : Heap} {t : TypeId} {cs : List Value} {d : Dat}
theorem Enc.int_inv {k : IntKind} (h : Enc P H t cs d) (hu : P.underlying t = some (.int k)) : ∃ n, cs = [.int k n] ∧ (Lit.int k n).wf = true := by
  cases h with
  | int hu2 hw => rw [hu] at hu2; cases hu2; exact ⟨_, rfl, hw⟩
  | bool hu2 => rw [hu] at hu2; cases hu2
  | str hu2 => rw [hu] at hu2; cases hu2
  | nil hu2 => rw [hu] at hu2; cases hu2
  | emp hu2 => rw [hu] at hu2; cases hu2
  | slice hu2 => rw [hu] at hu2; cases hu2
  | struct hu2 => rw [hu] at hu2; cases hu2
  | array hu2 => rw [hu] at hu2; cases hu2
theorem Enc.str_inv (h : Enc P H t cs d) (hu : P.underlying t = some .string) : ∃ s, cs = [.string s] ∧ s.size ≤ maxLen := by
  cases h with
  | str hu2 hw => exact ⟨_, rfl, hw⟩
  | bool hu2 => rw [hu] at hu2; cases hu2
  | int hu2 => rw [hu] at hu2; cases hu2
  | nil hu2 => rw [hu] at hu2; cases hu2
  | emp hu2 => rw [hu] at hu2; cases hu2
  | slice hu2 => rw [hu] at hu2; cases hu2
  | struct hu2 => rw [hu] at hu2; cases hu2
  | array hu2 => rw [hu] at hu2; cases hu2
theorem Enc.struct_inv {fs : Array Field} (h : Enc P H t cs d) (hu : P.underlying t = some (.struct fs)) : cs.length = P.cellsOf t ∧ ∃ l : List Dat, l.length = fs.size ∧ ∀ (j : Nat) (f : Field) (x : Dat), fs[j]? = some f → l[j]? = some x → Enc P H f.type ((cs.drop f.offset).take (P.cellsOf f.type)) x := by
  cases h with
  | struct hu2 hc hl hh => rw [hu] at hu2; cases hu2; exact ⟨hc, _, hl, hh⟩
  | bool hu2 => rw [hu] at hu2; cases hu2
  | int hu2 => rw [hu] at hu2; cases hu2
  | nil hu2 => rw [hu] at hu2; cases hu2
  | emp hu2 => rw [hu] at hu2; cases hu2
  | slice hu2 => rw [hu] at hu2; cases hu2
  | str hu2 => rw [hu] at hu2; cases hu2
  | array hu2 => rw [hu] at hu2; cases hu2
theorem Enc.array_inv {n : Nat} {e : TypeId} (h : Enc P H t cs d) (hu : P.underlying t = some (.array n e)) : cs.length = P.cellsOf t ∧ ∃ l : List Dat, l.length = n ∧ ∀ (j : Nat) (x : Dat), l[j]? = some x → Enc P H e ((cs.drop (j * P.cellsOf e)).take (P.cellsOf e)) x := by
  cases h with
  | array hu2 hc hl hh => rw [hu] at hu2; cases hu2; exact ⟨hc, _, hl, hh⟩
  | bool hu2 => rw [hu] at hu2; cases hu2
  | int hu2 => rw [hu] at hu2; cases hu2
  | nil hu2 => rw [hu] at hu2; cases hu2
  | emp hu2 => rw [hu] at hu2; cases hu2
  | slice hu2 => rw [hu] at hu2; cases hu2
  | str hu2 => rw [hu] at hu2; cases hu2
  | struct hu2 => rw [hu] at hu2; cases hu2
theorem Enc.slice_inv {e : TypeId} (h : Enc P H t cs d) (hu : P.underlying t = some (.slice e)) : ∃ (b : Option Addr) (n c : Nat) (l : List Dat), cs = [.slice b n c] ∧ n = l.length ∧ n ≤ maxLen ∧
    (n = 0 ∨ ∃ (i : Nat) (row : List Value), b = some ⟨i, 0, none⟩ ∧ H.get i = some (.cells row e true) ∧ row.length = n * P.cellsOf e ∧ ∀ (j : Nat) (x : Dat), l[j]? = some x → Enc P H e ((row.drop (j * P.cellsOf e)).take (P.cellsOf e)) x) := by
  cases h with
  | nil hu2 => exact ⟨_, _, _, [], rfl, rfl, Nat.zero_le _, .inl rfl⟩
  | emp hu2 => exact ⟨_, _, _, [], rfl, rfl, Nat.zero_le _, .inl rfl⟩
  | slice hu2 hg hl hc hh => rw [hu] at hu2; cases hu2; exact ⟨_, _, _, _, rfl, rfl, hl, .inr ⟨_, _, rfl, hg, hc, hh⟩⟩
  | bool hu2 => rw [hu] at hu2; cases hu2
  | int hu2 => rw [hu] at hu2; cases hu2
  | str hu2 => rw [hu] at hu2; cases hu2
  | struct hu2 => rw [hu] at hu2; cases hu2
  | array hu2 => rw [hu] at hu2; cases hu2

/-- A row, read element by element. -/
theorem rows_of {e : TypeId} {α : Type} (f : α → List Value) (Q : α → Prop) {sz : Nat} (dec : ∀ cs d, cs.length = sz → Enc P H e cs d → ∃ x, cs = f x ∧ Q x) : ∀ (n : Nat) (row : List Value) (l : List Dat), l.length = n → row.length = n * sz →
    (∀ (j : Nat) (x : Dat), l[j]? = some x → Enc P H e ((row.drop (j * sz)).take sz) x) → ∃ xs : List α, xs.length = n ∧ row = xs.flatMap f ∧ ∀ x ∈ xs, Q x
  | 0, row, l, h1, h2, _ => ⟨[], rfl, by simpa using h2, by simp⟩
  | n + 1, row, [], h1, _, _ => by simp at h1
  | n + 1, row, d :: l, h1, h2, h3 => by
    have h0 := h3 0 d rfl
    rw [Nat.zero_mul, List.drop_zero] at h0
    rw [Nat.succ_mul] at h2
    obtain ⟨x, hx, hq⟩ := dec _ _ (by rw [List.length_take]; omega) h0
    obtain ⟨xs, hl, hr, hqs⟩ := rows_of f Q dec n (row.drop sz) l (by simpa using h1) (by rw [List.length_drop]; omega) (fun j y hy => by
      have := h3 (j + 1) y (by simpa using hy)
      rw [Nat.succ_mul, Nat.add_comm] at this
      rw [List.drop_drop]; exact this)
    refine ⟨x :: xs, by simp [hl], ?_, ?_⟩
    · rw [List.flatMap_cons, ← hx, ← hr, List.take_append_drop]
    · intro y hy
      rcases List.mem_cons.mp hy with rfl | h
      · exact hq
      · exact hqs y h
theorem AllEnc.cons_inv {ts : List TypeId} {vs : List Value} {ds : List Dat} (h : AllEnc P H (t :: ts) vs ds) : ∃ v vs' d ds', vs = v :: vs' ∧ ds = d :: ds' ∧ EncV P H t v d ∧ AllEnc P H ts vs' ds' := by
  cases vs with
  | nil => unfold AllEnc at h; exact absurd h (by simp)
  | cons v vs =>
    cases ds with
    | nil => unfold AllEnc at h; exact absurd h (by simp)
    | cons d ds => exact ⟨v, vs, d, ds, rfl, rfl, h.1, h.2⟩
theorem AllEnc.nil_inv {vs : List Value} {ds : List Dat} (h : AllEnc P H [] vs ds) : vs = [] := by
  cases vs with
  | nil => rfl
  | cons v vs => unfold AllEnc at h; exact absurd h (by simp)
/-- A list of known length. -/
theorem list1 {l : List Value} (h : l.length = 1) : ∃ a, l = [a] := by match l, h with | [a], _ => exact ⟨a, rfl⟩
end
end Go.B

namespace Go.B.YtjbhgooakdpabaaDoor
open Go Go.B Go.Proofs
set_option maxRecDepth 100000
set_option maxHeartbeats 16000000
set_option linter.unusedSimpArgs false
set_option linter.unusedVariables false

theorem co_2 : Program.cellsOf Tryd.prog 2 = 1 := by kernel_rfl
theorem co_3 : Program.cellsOf Tryd.prog 3 = 1 := by kernel_rfl
theorem co_9 : Program.cellsOf Tryd.prog 9 = 1 := by kernel_rfl
theorem co_23 : Program.cellsOf Tryd.prog 23 = 1 := by kernel_rfl
theorem co_31 : Program.cellsOf Tryd.prog 31 = 1 := by kernel_rfl
theorem co_33 : Program.cellsOf Tryd.prog 33 = 1 := by kernel_rfl
theorem co_35 : Program.cellsOf Tryd.prog 35 = 5 := by kernel_rfl
theorem co_38 : Program.cellsOf Tryd.prog 38 = 4 := by kernel_rfl
theorem co_39 : Program.cellsOf Tryd.prog 39 = 16 := by kernel_rfl

theorem dec_cass {H : Heap} {cs : List Value} {d : Dat} (h : Enc Tryd.prog H 38 cs d) : ∃ x : Cass, cs = x.cells := by
  obtain ⟨hl, l, hll, hf⟩ := h.struct_inv un_38
  rw [co_38] at hl
  match cs, hl with
  | [a0, a1, a2, a3], _ =>
    match l, hll with
    | [y0, y1, y2, y3], _ =>
      obtain ⟨n0, e0, _⟩ := (hf 0 _ y0 rfl rfl).int_inv un_2
      obtain ⟨n1, e1, _⟩ := (hf 1 _ y1 rfl rfl).int_inv un_3
      obtain ⟨n2, e2, _⟩ := (hf 2 _ y2 rfl rfl).int_inv un_3
      obtain ⟨n3, e3, _⟩ := (hf 3 _ y3 rfl rfl).int_inv un_3
      simp [co_2, co_3] at e0 e1 e2 e3
      subst e0 e1 e2 e3
      exact ⟨⟨n0, n1, n2, n3⟩, rfl⟩
theorem dec_t4 {H : Heap} {cs : List Value} {d : Dat} (h : Enc Tryd.prog H 39 cs d) : ∃ x : T4, cs = x.cells := by
  obtain ⟨hl, l, hll, hf⟩ := h.array_inv un_39
  rw [co_39] at hl
  rw [co_38] at hf
  obtain ⟨xs, h1, h2, _⟩ := rows_of (P := Tryd.prog) (H := H) (e := 38) Cass.cells (fun _ => True) (sz := 4) (fun cs d _ h => by obtain ⟨x, hx⟩ := dec_cass h; exact ⟨x, hx, trivial⟩) 4 cs l hll hl hf
  match xs, h1 with
  | [a, b, c, e], _ => exact ⟨⟨a, b, c, e⟩, h2⟩
theorem dec_cfg {H : Heap} {cs : List Value} {d : Dat} (h : Enc Tryd.prog H 35 cs d) : ∃ (c : Cfg) (b1 b2 b3 : Option Addr) (c1 c2 c3 : Nat), cs = cfgV c b1 b2 b3 c1 c2 c3 ∧ CfgAt H c b1 b2 b3 := by
  obtain ⟨hl, l, hll, hf⟩ := h.struct_inv un_35
  rw [co_35] at hl
  match cs, hl with
  | [a0, a1, a2, a3, a4], _ =>
    match l, hll with
    | [y0, y1, y2, y3, y4], _ =>
      obtain ⟨b1, n1, c1, l1, e0, hn1, hm1, hr1⟩ := (hf 0 _ y0 rfl rfl).slice_inv un_33
      obtain ⟨b2, n2, c2, l2, e1, hn2, hm2, hr2⟩ := (hf 1 _ y1 rfl rfl).slice_inv un_31
      obtain ⟨b3, n3, c3, l3, e2, hn3, hm3, hr3⟩ := (hf 2 _ y2 rfl rfl).slice_inv un_23
      obtain ⟨z3, e3, _⟩ := (hf 3 _ y3 rfl rfl).int_inv un_2
      obtain ⟨z4, e4, _⟩ := (hf 4 _ y4 rfl rfl).int_inv un_2
      simp [co_2, co_33, co_31, co_23] at e0 e1 e2 e3 e4
      subst e0 e1 e2 e3 e4
      rw [co_39] at hr1
      rw [co_9] at hr2
      rw [co_2] at hr3
      obtain ⟨ts, ht, hrow1⟩ : ∃ ts : List T4, ts.length = n1 ∧ Row H b1 n1 16 (ts.flatMap T4.cells) := by
        rcases hr1 with rfl | ⟨i, row, rfl, hg, hc, he⟩
        · exact ⟨[], rfl, rfl, .inl rfl⟩
        · obtain ⟨xs, h1, h2, _⟩ := rows_of (P := Tryd.prog) (H := H) (e := 39) T4.cells (fun _ => True) (sz := 16) (fun cs d _ h => by obtain ⟨x, hx⟩ := dec_t4 h; exact ⟨x, hx, trivial⟩) n1 row l1 hn1.symm hc he
          subst h2
          exact ⟨xs, h1, Row.whole hg hc sz_39⟩
      obtain ⟨ps, hp, hpm, hrow2⟩ : ∃ ps : List ByteArray, ps.length = n2 ∧ (∀ p ∈ ps, p.size ≤ maxLen) ∧ Row H b2 n2 1 (ps.map Value.string) := by
        rcases hr2 with rfl | ⟨i, row, rfl, hg, hc, he⟩
        · exact ⟨[], rfl, by simp, rfl, .inl rfl⟩
        · obtain ⟨xs, h1, h2, h3⟩ := rows_of (P := Tryd.prog) (H := H) (e := 9) (fun s : ByteArray => [Value.string s]) (fun s => s.size ≤ maxLen) (sz := 1) (fun cs d _ h => h.str_inv un_9) n2 row l2 hn2.symm hc he
          rw [← List.map_eq_flatMap] at h2
          subst h2
          exact ⟨xs, h1, h3, Row.whole hg hc sz_9⟩
      obtain ⟨fs, hfl, hrow3⟩ : ∃ fs : List Int, fs.length = n3 ∧ Row H b3 n3 1 (fs.map (Value.int .i64)) := by
        rcases hr3 with rfl | ⟨i, row, rfl, hg, hc, he⟩
        · exact ⟨[], rfl, rfl, .inl rfl⟩
        · obtain ⟨xs, h1, h2, h3⟩ := rows_of (P := Tryd.prog) (H := H) (e := 2) (fun s : Int => [Value.int .i64 s]) (fun s => True) (sz := 1) (fun cs d _ h => by obtain ⟨n, hn, _⟩ := h.int_inv un_2; exact ⟨n, hn, trivial⟩) n3 row l3 hn3.symm hc he
          rw [← List.map_eq_flatMap] at h2
          subst h2
          exact ⟨xs, h1, Row.whole hg hc sz_2⟩
      subst ht hp hfl
      exact ⟨⟨ts, ps, fs, z3, z4⟩, b1, b2, b3, c1, c2, c3, rfl, hrow1, hrow2, hrow3, hm1, hm2, hm3, hpm⟩

theorem wf_u8 {n : Int} (h : (Lit.int .u8 n).wf = true) : 0 ≤ n ∧ n < 256 := by
  simp only [Lit.wf, Bool.and_eq_true, decide_eq_true_eq] at h
  have h1 : IntKind.u8.min = 0 := by decide
  have h2 : IntKind.u8.max = 255 := by decide
  omega
theorem wf_i64 {n : Int} (h : (Lit.int .i64 n).wf = true) : -9223372036854775808 ≤ n ∧ n ≤ 9223372036854775807 := by
  simp only [Lit.wf, Bool.and_eq_true, decide_eq_true_eq] at h
  have h1 : IntKind.i64.min = -9223372036854775808 := by decide
  have h2 : IntKind.i64.max = 9223372036854775807 := by decide
  omega
theorem encV_int {H : Heap} {t : TypeId} {k : IntKind} {v : Value} {d : Dat} (hu : Tryd.prog.underlying t = some (.int k)) (h : EncV Tryd.prog H t v d) : ∃ n, v = .int k n ∧ (Lit.int k n).wf = true := by
  unfold EncV at h
  rw [if_neg (by unfold isAggT; rw [hu]; simp)] at h
  obtain ⟨n, h1, h2⟩ := h.int_inv hu
  simp at h1
  exact ⟨n, h1, h2⟩
theorem V_ext [Dem Tryd.prog] (hk : ∀ w, Dem.I Tryd.prog w → Calls Tryd.prog 6 #[] w fun e w' => e = .returned (.bool true) ∧ RowKit.Below w.heap.size w w') : ExtOk Tryd.prog V.X := by
  refine ExtOk.add ExtOk.none ?_
  refine ScalExt.ok (fun args v h => ?_) Tryd.func6 rfl (by decide +kernel)
  unfold trueX at h
  split at h
  · rename_i hs
    cases h
    have ha : args = #[] := Array.eq_empty_of_size_eq_zero hs
    subst ha
    refine ⟨rfl, fun w hI => ?_⟩
    refine (hk w hI).mono ?_
    rintro e w' ⟨rfl, hb⟩
    exact ⟨⟨_, rfl, fun ρ => VRel.scalA rfl⟩, hb⟩
  · cases h
theorem law_enc (H : Heap) (avs : List Value) (ds : List Dat) (ok : Ok H) (h : AllEnc Tryd.prog H [35, 5, 5, 5, 2, 2] avs ds) : ∃ v H', Ca V 4 avs.toArray H v H' ∧ v = .bool true := by
  obtain ⟨v0, avs, y0, ds, rfl, rfl, h0, h⟩ := h.cons_inv
  obtain ⟨v1, avs, y1, ds, rfl, rfl, h1, h⟩ := h.cons_inv
  obtain ⟨v2, avs, y2, ds, rfl, rfl, h2, h⟩ := h.cons_inv
  obtain ⟨v3, avs, y3, ds, rfl, rfl, h3, h⟩ := h.cons_inv
  obtain ⟨v4, avs, y4, ds, rfl, rfl, h4, h⟩ := h.cons_inv
  obtain ⟨v5, avs, y5, ds, rfl, rfl, h5, h⟩ := h.cons_inv
  obtain rfl := h.nil_inv
  unfold EncV at h0
  rw [if_pos (by kernel_rfl)] at h0
  obtain ⟨acs, rfl, h0⟩ := h0
  obtain ⟨c, b1, b2, b3, c1, c2, c3, rfl, hc⟩ := dec_cfg h0
  obtain ⟨x1, rfl, w1⟩ := encV_int un_5 h1
  obtain ⟨x2, rfl, w2⟩ := encV_int un_5 h2
  obtain ⟨x3, rfl, w3⟩ := encV_int un_5 h3
  obtain ⟨x4, rfl, w4⟩ := encV_int un_2 h4
  obtain ⟨x5, rfl, w5⟩ := encV_int un_2 h5
  exact law_Right c b1 b2 b3 c1 c2 c3 x1 x2 x3 x4 x5 (wf_u8 w1).1 (wf_u8 w1).2 (wf_u8 w2).1 (wf_u8 w2).2 (wf_u8 w3).1 (wf_u8 w3).2 (wf_i64 w4).1 (wf_i64 w4).2 (wf_i64 w5).1 (wf_i64 w5).2 H ok hc

/-- The law's call: it answers true, whatever comes in. -/
theorem law_called {W : World} {HH : Type} {enc : TypeId × Value → HH} {base : Nat} {held : Bool} {args : Array Value} {xs : List (DataW HH)} {ps : List MemPlace}
    (hk : ∀ w, RowKit.Below W.heap.size W w → Calls Tryd.prog 6 #[] w fun e w' => e = .returned (.bool true) ∧ RowKit.Below w.heap.size w w')
    (hok : ∀ (j : Nat) t v, #[35, 5, 5, 5, 2, 2][j]? = some t → args[j]? = some v → Value.okWide Tryd.prog W .any base t v) (h : DataW.TrodAll enc Tryd.prog W 0 (fun _ => true) held [35, 5, 5, 5, 2, 2] args.toList xs ps) :
    Calls Tryd.prog 4 args W fun e W' => e = .returned (.bool true) ∧ RowKit.Below W.heap.size W W' := by
  let D : Dem Tryd.prog := ⟨W.heap.size, fun w => RowKit.Below W.heap.size W w, fun _ _ _ hb h => h.trans hb⟩
  have hch : ([2, 3, 5, 9, 23, 31, 33, 35, 38, 39].all fun t => chk Tryd.prog [2, 3, 5, 9, 23, 31, 33, 35, 38, 39] t) = true := by decide +kernel
  refine law_calls (V := V) V_P tab_ok (V_ext hk) (ts := [2, 3, 5, 9, 23, 31, 33, 35, 38, 39]) (tys := [35, 5, 5, 5, 2, 2]) (fun t ht => List.all_eq_true.mp hch t ht) (fun t ht => by simp at ht; rcases ht with rfl | rfl | rfl <;> decide) (fun j t v h1 h2 => hok j t v (by simpa using h1) h2) h (RowKit.Below.refl _ _) (Nat.le_refl _) law_enc
end Go.B.YtjbhgooakdpabaaDoor
