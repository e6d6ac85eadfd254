import Derived.Test.YteigefgobkdmgaaDoorWWords
import Derived.Test.YteigefgobkdmgaaDoorWLast
import Derived.Test.YteigefgobkdmgaaDoorWKept
import Derived.Test.YteigefgobkdmgaaDoorWShare
import Derived.Test.YteigefgobkdmgaaDoorWMore
import Derived.Test.YteigefgobkdmgaaDoorShelf
import Derived.SliceStrings
import Derived.ProofKit
import Derived.Lib.LaidTab
import Derived.Lib.SmallJoins
import Derived.Lib.LaidU8
import Derived.Lib.ItoaNum
import Derived.Lib.AppendIntMem
import Derived.OwnWalk
import Derived.Laws.OwnMore
import Derived.Laws.AppendOwn
import Derived.Lib.ConvBytes
import Derived.Lib.SlBytesConst
import Derived.ArgAppend
/- Own words beside the print's: '[]byte(s)' as a step whose row is only read; a row of the call's own out of one new block. -/
namespace Go.Proofs.YteigefgobkdmgaaDoorW.PrintMore
open Go.RowKit Go.Proofs.YteigefgobkdmgaaDoorW.PrintWords
set_option linter.unusedVariables false

/-- A cut of a row, told anew. -/
theorem cut_told {α : Type} {d : Kd α} {w : World} {A A' : Option Addr} {l l' : List α} (hN : l' = l) (hA : A' = A) (h : d.C w A l.length l) : d.C w A' l'.length l' := by
  subst hN hA
  exact h
/-- The same cut, told twice. -/
theorem cut_same {r : Result Value} {W : World} {v v' : Value} (h : r = Result.ok v W) (h' : r = Result.ok v' W) : v = v' := by
  rw [h] at h'
  injection h'
theorem ownBlock_len (A : Option Addr) (n n' c c' : Nat) : (Value.slice A n c).ownBlock = (Value.slice A n' c').ownBlock := by cases A <;> rfl
open Go.ChangeShapes Go.WideShapes in
/-- A slice of strings that came in, as it is read. -/
theorem strings_of_trod {H : Type} {enc : TypeId × Value → H} {P : Program} {W : World} {base : Nat} {spare : Nat → Bool} {held : Bool} {t e : TypeId} {a : Option Addr} {len cap : Nat} {d : DataW H} {ps : List MemPlace}
    (hu : P.underlying t = some (.slice e)) (he : P.underlying e = some .string) (hc : P.cellsOf e = 1) (h : DataW.Trod enc P W base spare held t (.slice a len cap) d ps) :
    ∃ l : List ByteArray, Kd.C Kd.string W a l.length l ∧ l.length = len ∧ l.length ≤ cap ∧ l.length ≤ maxLen := by
  obtain ⟨fuel, hf⟩ := h
  rcases open_strings hu he hc hf with ⟨hcs, _⟩ | ⟨x, l', c, ss, hcs, _, hl, hm, hz, _, hcell, _⟩
  · simp [Value.cells] at hcs
    obtain ⟨rfl, rfl, rfl⟩ := hcs
    exact ⟨[], Kd.C_nil _ _, rfl, Nat.le_refl _, Nat.zero_le _⟩
  · simp [Value.cells] at hcs
    obtain ⟨rfl, rfl, rfl⟩ := hcs
    have hz' : len ≤ ss.length := by
      have : ss.length = if spare x.block = true then cap else len := by simpa using hz
      rw [this]
      split <;> omega
    have hlen : (ss.take len).length = len := by rw [List.length_take]; omega
    refine ⟨ss.take len, ?_, hlen, by omega, by omega⟩
    refine ⟨rfl, by unfold maxLen at hm; omega, fun hp => ⟨x, rfl, fun j p hj => ⟨[.string p], rfl, rfl, fun i u hu => ?_⟩⟩⟩
    cases i with
    | zero =>
      simp at hu
      subst hu
      have hj2 : j < (ss.take len).length := (List.getElem?_eq_some_iff.1 hj).1
      have hj3 : ss[j]? = some p := by rw [List.getElem?_take] at hj; split at hj <;> simp_all
      have := hcell j (by omega)
      rw [List.getD_eq_getElem?_getD, hj3] at this
      simpa [Kd.string, Kd.scalar] using this
    | succ i => simp at hu
/-- A variable of an interface type: nil, or a type and a value. -/
def ErrAt (g : Nat) (w : World) : Prop := ∃ ev, w.cell? ⟨g, 0, none⟩ = some ev ∧ (ev = .nilIface ∨ ∃ te pe, ev = .iface te pe)
theorem ErrAt.stays {g : Nat} {w W : World} (h : ErrAt g w) (hb : Below w.heap.size w W) : ErrAt g W := by
  obtain ⟨ev, hc, he⟩ := h
  exact ⟨ev, (hb.cell (World.block_lt_of_cell? w _ hc)).trans hc, he⟩
theorem tab_of_reads {P : Program} {W : World} {name : String} {k : IntKind} {zs : List Int} {g : Nat} {t e : TypeId} {n : Nat}
    (hg : P.globalNamed name = some g) (hty : (P.globals[g]?).map (·.type) = some t) (ht : P.underlying t = some (.array n e)) (he : P.underlying e = some (.int k)) (hce : P.cellsOf e = 1) (hct : P.cellsOf t = n)
    (h : Lib.VarReads P W name (Lib.tabData k zs)) : Lib.TabIs P W name k zs := by
  obtain ⟨g', t', cs, fuel, p, hg', ht', hvar, hd⟩ := h
  obtain rfl := Option.some.inj (hg.symm.trans hg')
  obtain rfl := Option.some.inj (hty.symm.trans ht')
  unfold Lib.TabIs
  rw [hvar, ← Lib.cells_of_tab ht he hce hct hd]
theorem err_of_reads {P : Program} {W : World} {name : String} {g : Nat} {t : TypeId} {ms : Array (String × TypeId)} {d : DataW Unit}
    (hg : P.globalNamed name = some g) (hty : (P.globals[g]?).map (·.type) = some t) (ht : P.underlying t = some (.interface ms))
    (h : Lib.VarReads P W name d) : ErrAt g W := by
  obtain ⟨g', t', cs, fuel, p, hg', ht', hvar, hd⟩ := h
  obtain rfl := Option.some.inj (hg.symm.trans hg')
  obtain rfl := Option.some.inj (hty.symm.trans ht')
  cases fuel with
  | zero => simp [DataW.trod] at hd
  | succ f =>
    have hc := World.var?_cell hg hvar 0
    match hcs : cs.toList, hd with
    | [], hd => simp [DataW.trod, ht] at hd
    | _ :: _ :: _, hd => simp [DataW.trod, ht] at hd
    | [v], hd =>
      have hv : cs[0]? = some v := by rw [← Array.getElem?_toList, hcs]; rfl
      rw [hv] at hc
      refine ⟨v, hc, ?_⟩
      cases v <;> simp [DataW.trod, ht] at hd
      all_goals first | exact .inl rfl | exact .inr ⟨_, _, rfl⟩
/-- A variable of the library's that holds some integer. -/
def SomeInt (g : Nat) (w : World) : Prop := ∃ m : Int, w.cell? ⟨g, 0, none⟩ = some (.int .i64 m)
theorem SomeInt.stays {g : Nat} {w W : World} (h : SomeInt g w) (hb : Below w.heap.size w W) : SomeInt g W := by
  obtain ⟨m, hc⟩ := h
  exact ⟨m, (hb.cell (World.block_lt_of_cell? w _ hc)).trans hc⟩
/-- What is asked of the listed variables. -/
def TAB (w : World) : Prop := (Lib.TabIs Tryd.prog w "internal/strconv.uint64pow10" .u64 Lib.pow10Tab) ∧ (ErrAt 2 w) ∧ (ErrAt 3 w)
theorem tab_at {w W : World} (h : TAB w) (hb : Below w.heap.size w W) : TAB W := ⟨Go.Joins.tab_stays (g := 0) (by kernel_rfl) h.1 hb (Nat.le_refl _), ErrAt.stays h.2.1 hb, ErrAt.stays h.2.2 hb⟩
theorem TAB_pow10 {w : World} (h : TAB w) : Lib.TabIs Tryd.prog w "internal/strconv.uint64pow10" .u64 Lib.pow10Tab := h.1
theorem TAB_syntax {w : World} (h : TAB w) : ErrAt 2 w := h.2.1
theorem TAB_range {w : World} (h : TAB w) : ErrAt 3 w := h.2.2
/-- '[]byte(s)': the bytes. -/
def convBytes.f (s : ByteArray) : Option (List Int) := if s.size ≤ 9223372036854775807 then some (bytesOf s) else none

section
variable {P : Program} {ops : Array Oper} {rest : List Oper} {o : Oper} {a : Act} {Q : Exit → Act → World → Prop} {W : World}
theorem gate_conv {s t : TypeId} {x : Operand} (_ho : o.op = .convert s t x) (h : wpList P ops Q (o :: rest) a W) : wpList P ops Q (o :: rest) a W := h
theorem conv_V (W : World) (e : TypeId) (s : ByteArray) (hs : s.size ≤ 9223372036854775807) :
    Kd.V (Kd.int .u8) e (Lib.bytesWorld W e s) W.heap.size (fun k_ => W.heap.size ≤ k_) (.slice (some ⟨W.heap.size, 0, none⟩) s.size (grownCap W s.size 0 e)) (bytesOf s) := by
  have hr := bytes_reads W e s hs
  have hC : Kd.C (Kd.int .u8) (Lib.bytesWorld W e s) (some ⟨W.heap.size, 0, none⟩) s.size (bytesOf s) := Kd.C_of_reads (d := (0 : Int)) (h1 := fun _ => rfl) hr
  have hl : (bytesOf s).length = s.size := bytesOf_length s
  have hcap : s.size ≤ grownCap W s.size 0 e := grownCap_ge W s.size 0 e
  rw [← hl] at hC hcap ⊢
  refine ⟨_, _, rfl, hcap, ?_⟩
  intro W' hW'
  refine Kd.C_of_reads (d := (0 : Int)) (h1 := fun _ => rfl) ⟨rfl, by rw [hl]; exact hs, fun hp => ⟨_, rfl, fun j hj => ?_⟩⟩
  have hb := hW' W.heap.size (Nat.le_refl _) (by rw [Lib.bytesWorld_size]; omega)
  have hc : W'.cell? ((⟨W.heap.size, 0, none⟩ : Addr).add j) = (Lib.bytesWorld W e s).cell? ((⟨W.heap.size, 0, none⟩ : Addr).add j) := by
    rw [add_plain]
    simp [World.cell?, hb]
  obtain ⟨ad, e1, h1⟩ := hr.2.2 (by rw [hl] at hp; exact hp)
  cases e1
  rw [hc]
  exact h1 j (by rw [hl] at hj; exact hj)
theorem conv_law (hg : o.guard = none) (src dst e : TypeId) (x : Operand) (hop : o.op = .convert src dst x) {u : TypeDesc} (hs : P.underlying src = some u) (hd : P.underlying dst = some (.slice e)) (he : P.underlying e = some (.int .u8))
    (s : ByteArray) (r : List Int) (hx : a.eval x = .string s) (hf : convBytes.f s = some r)
    (h : ∀ v w1, Kd.V (Kd.int .u8) e w1 W.heap.size (fun k_ => W.heap.size ≤ k_) v r → Below W.heap.size W w1 → wpList P ops Q rest (a.put o.dst v) w1) :
    wpList P ops Q (o :: rest) a W := by
  unfold convBytes.f at hf
  split at hf
  · rename_i hsz
    obtain rfl := Option.some.inj hf
    refine wpList_plain hg fun K hK' => ?_
    have hrun := print_bytes (P := P) src dst e hs hd he s W
    unfold Oper.wp
    simp [execOp, hop, hx, hrun, Result.andThen]
    exact hK' _ _ (h _ _ (conv_V W e s hsz) (bytes_below (Below.refl _ _) (Nat.le_refl _) e s))
  · cases hf
end

/-- '[]byte("..")' of a constant: the literal's row, marked behind its last cell. -/
def convLit.f (l : List Int) : Option (List Int) := some l
section
variable {P : Program} {ops : Array Oper} {rest : List Oper} {o : Oper} {a : Act} {Q : Exit → Act → World → Prop} {W : World}
theorem lit_V (W : World) (e : TypeId) (l : List Int) (hl : l.length ≤ 9223372036854775807) (fr : Nat × Nat) :
    Kd.V (Kd.int .u8) e (W.alloc (.cells (l.map (Value.int .u8)).toArray e fr)) W.heap.size (fun k_ => W.heap.size ≤ k_) (.slice (some ⟨W.heap.size, 0, none⟩) l.length l.length) l := by
  refine ⟨_, _, rfl, Nat.le_refl _, ?_⟩
  intro W' hW'
  refine Kd.C_of_reads (d := (0 : Int)) (h1 := fun _ => rfl) ⟨rfl, hl, fun hp => ⟨_, rfl, fun j hj => ?_⟩⟩
  have hb := hW' W.heap.size (Nat.le_refl _) (by simp)
  have hb2 : W'.heap[W.heap.size]? = some (.cells (l.map (Value.int .u8)).toArray e fr) := by
    rw [hb]
    show (W.heap.push _)[W.heap.size]? = _
    simp
  rw [add_plain]
  simp [World.cell?, hb2, List.getD_eq_getElem?_getD, List.getElem?_eq_getElem hj]
theorem convLit_law (hg : o.guard = none) (t e : TypeId) (x : Operand) (hop : o.op = .convert t t x) (hd : P.underlying t = some (.slice e)) (he : P.underlying e = some (.int .u8))
    (l r : List Int) {n c g : Nat} {C : Array Value} (hx : a.eval x = .slice (some ⟨g, 0, none⟩) n c) (hgs : g = W.heap.size) (hn : n = l.length ∧ c = l.length) (hC : C = (l.map (Value.int .u8)).toArray) (hl : l.length ≤ 9223372036854775807) (hf : convLit.f l = some r)
    (h : ∀ v w1, (∃ A, v = .slice A r.length r.length) → Kd.V (Kd.int .u8) e w1 W.heap.size (fun k_ => W.heap.size ≤ k_) v r → Below W.heap.size W w1 → wpList P ops Q rest (a.put o.dst v) w1) :
    wpList P ops Q (o :: rest) a (W.alloc (.cells C e)) := by
  obtain rfl := Option.some.inj hf
  obtain ⟨rfl, rfl⟩ := hn
  subst hC
  subst hgs
  refine wpList_plain hg fun K hK' => ?_
  have hrun := Lib.run_convert_bytes_const (P := P) W t e (l.map (Value.int .u8)).toArray l.length l.length hd he
  unfold Oper.wp
  simp [execOp, hop, hx, hrun, Result.andThen]
  exact hK' _ _ (h _ _ ⟨_, rfl⟩ (lit_V W e l hl _) (below_alloc (Below.refl _ _) _))
/-- An append to it: its row is full, so (of one element or more) a new one. -/
def appLit.f (l m : List Int) : Option (List Int) := if 0 < m.length ∧ l.length + m.length ≤ 140737488355328 then some (l ++ m) else none
theorem appLit_law (s x : Operand) (hg : o.guard = none) (t : TypeId) (hop : o.op = .call { callee := .builtin .append, args := #[s, x], argTypes := #[t, t] }) (e : TypeId) (hd : P.underlying t = some (.slice e)) (hinfo : (P.info? e).map (fun i => (i.zero, i.size, i.bytes)) = some (some (.int .u8 0), 1, 1))
    (A0 A1 : Option Addr) (c0 c1 : Nat) (l m r : List Int) (hs : a.eval s = .slice A0 l.length c0) (hx : a.eval x = .slice A1 m.length c1) (hr0 : Kd.C (Kd.int .u8) W A0 l.length l) (hc0 : l.length ≤ c0) (hr1 : Kd.C (Kd.int .u8) W A1 m.length m) (hc1 : m.length ≤ c1)
    (hcap : ∃ A, Value.slice A0 l.length c0 = .slice A l.length l.length) (hf : appLit.f l m = some r)
    (h : ∀ v w1, Kd.R (Kd.int .u8) e w1 W.heap.size (fun _ => True) v r → Below W.heap.size W w1 → wpList P ops Q rest (a.put o.dst v) w1) :
    wpList P ops Q (o :: rest) a W := by
  unfold appLit.f at hf
  split at hf
  case isFalse => cases hf
  rename_i hc
  obtain ⟨h0, hlen⟩ := hc
  obtain rfl := Option.some.inj hf
  obtain ⟨i0, hi, hz0, hz1, hz2⟩ := info_parts hinfo
  have hcl : c0 = l.length := by
    obtain ⟨A, hA⟩ := hcap
    injection hA
  have cellsOf : ∀ (A : Option Addr) (l : List Int), Kd.C (Kd.int .u8) W A l.length l → ∀ b, A = some b → ∀ (j : Nat) u, (l.map (Value.int .u8))[j]? = some u → W.cell? (b.add j) = some u := fun A l hr b hb j u hu => by
    have hj : j < l.length := by
      have := (List.getElem?_eq_some_iff.1 hu).1
      simpa using this
    obtain ⟨ad, e1, h1⟩ := Kd.at_int hr (j : Int) (by omega) (by omega)
    rw [hb] at e1
    cases e1
    have hu2 : u = .int .u8 (rd l j) := by
      rw [List.getElem?_map, List.getElem?_eq_getElem hj] at hu
      simpa [rd, List.getD_eq_getElem?_getD, List.getElem?_eq_getElem hj] using hu.symm
    rw [hu2]
    exact h1
  obtain ⟨ad, rfl, _⟩ := hr1.2.2 h0
  refine wpList_append_grows W hg s x t hop e i0 (.int .u8 0) 1 1 hd hi hz0 hz1 hz2 rfl (by decide) A0 l.length c0 (l.map (Value.int .u8)) hs ?_ (by simp) (cellsOf A0 l hr0) ad m.length c1 (m.map (Value.int .u8)) hx (by simp) (cellsOf _ m hr1 ad rfl) (fun u hu => by
    obtain ⟨x, _, rfl⟩ := List.mem_map.1 hu
    rfl) (by omega) (by unfold maxLen; omega) (by omega) ?_
  · intro hA
    have hl0 : l.length = 0 := by
      rcases Nat.eq_zero_or_pos l.length with h' | h'
      · exact h'
      · obtain ⟨_, e1, _⟩ := hr0.2.2 h'
        rw [hA] at e1
        cases e1
    omega
  · intro v w1 ho hg'
    refine h v w1 ?_ ((Below.refl _ _).grown hg' (Nat.le_refl _) (by intro k hk; cases hk))
    refine Kd.R_of_own (enc := Value.int .u8) (h1 := fun _ => rfl) ?_ (fun _ _ => trivial)
    simpa [encs] using ho
end

theorem V_string {P : Program} {W : World} {base : Nat} {e' src dst e : TypeId} {ok : Nat → Prop} {v : Value} {xs : List Int} (hs : P.underlying src = some (.slice e)) (he : P.underlying e = some (.int .u8)) (hd : P.underlying dst = some .string)
    (h : Kd.V (Kd.int .u8) e' W base ok v xs) : (convert src dst v).run P W = .ok (.string (strOfNums xs)) W := by
  obtain ⟨A, c, rfl, _, hf⟩ := h
  exact Kd.C_string hs he hd (Kd.F_now hf)

/-- One new block that holds just these cells: a row of the call's own. -/
theorem own_lit {α : Type} {enc : α → Value} {h1 : ∀ x, (enc x).oneCell' = true} (w : World) (e : TypeId) (xs : List α) (hm : xs.length ≤ maxLen) :
    (Kd.scalar enc h1).R e (w.alloc (.cells (xs.map enc).toArray e)) w.heap.size (fun _ => True) (.slice (some ⟨w.heap.size, 0, none⟩) xs.length xs.length) xs := by
  refine Kd.R_of_own ?_ (fun _ _ => trivial)
  have h := World.ownsRow_lit (base := w.heap.size) (e := e) (size := 1) w (xs.map enc).toArray xs.length (Nat.le_refl _) hm (by simp)
  simpa [encs] using h
end Go.Proofs.YteigefgobkdmgaaDoorW.PrintMore
namespace Go.Proofs.YteigefgobkdmgaaDoorW.PrintWords
open Go.RowKit
namespace Kd
/-- The first no elements of a row of the call's own: a row of the call's own, too. -/
theorem R_take0 {α : Type} {enc : α → Value} {h1 : ∀ x, (enc x).oneCell' = true} {e base n c : Nat} {w : World} {ok : Nat → Prop} {A : Option Addr} {xs : List α} (h : (scalar enc h1).R e w base ok (.slice A n c) xs) :
    (scalar enc h1).R e w base ok (.slice A 0 c) [] := by
  have ho := own_of_R h
  obtain ⟨hl, ho⟩ := ho
  refine R_of_own ?_ (fun k hk => h.1 k (by cases A <;> exact hk))
  refine ⟨by simp [encs], ?_⟩
  rcases ho with ⟨e1, _⟩ | ⟨g, cap, cur, e1, hb, hh, hn, hm, hs, _⟩
  · injection e1 with ea en ec
    subst ea; subst ec
    exact .inl ⟨rfl, rfl⟩
  · injection e1 with ea en ec
    subst ea; subst ec
    exact .inr ⟨g, _, cur, rfl, hb, hh, Nat.zero_le _, hm, hs, by simp [encs]⟩
end Kd
end Go.Proofs.YteigefgobkdmgaaDoorW.PrintWords
