import Derived.Test.YtjbhgooakdpabaaDoorXWords
import Derived.Deep.Slices
import Derived.Lib.SmallJoins
import Derived.HandedShaped
import Derived.Handed
/- A slice of records that came in, as it is read. -/
namespace Go.Proofs.YtjbhgooakdpabaaDoorW.PrintMore
open Go.RowKit Go.Proofs.YtjbhgooakdpabaaDoorW.PrintWords
set_option linter.unusedVariables false
theorem list2 {α : Type} {cs : List α} (h : cs.length = 2) : ∃ c0 c1, cs = [c0, c1] := by
  match cs, h with
  | [c0, c1], _ => exact ⟨c0, c1, rfl⟩
theorem list3 {α : Type} {cs : List α} (h : cs.length = 3) : ∃ c0 c1 c2, cs = [c0, c1, c2] := by
  match cs, h with
  | [c0, c1, c2], _ => exact ⟨c0, c1, c2, rfl⟩
theorem list4 {α : Type} {cs : List α} (h : cs.length = 4) : ∃ c0 c1 c2 c3, cs = [c0, c1, c2, c3] := by
  match cs, h with
  | [c0, c1, c2, c3], _ => exact ⟨c0, c1, c2, c3, rfl⟩
theorem rows_of_trod {H : Type} {enc : TypeId × Value → H} {P : Program} {W : World} {base : Nat} {spare : Nat → Bool} {held : Bool} {t e : TypeId} {a : Option Addr} {len cap : Nat} {d : DataW H} {ps : List MemPlace}
    {α : Type} (K : Kd α) (Q : α → Prop) (hu : P.underlying t = some (.slice e)) (hc : P.cellsOf e = K.sz)
    (hdec : ∀ (n : Nat) (cs : List Value) (x : DataW H × List MemPlace), cs.length = K.sz → DataW.trod enc P W base spare held n e cs = some x → ∃ y : α, K.K W y cs ∧ Q y)
    (h : DataW.Trod enc P W base spare held t (.slice a len cap) d ps) :
    ∃ l : List α, Kd.C K W a l.length l ∧ l.length = len ∧ l.length ≤ cap ∧ l.length ≤ maxLen ∧ ∀ y ∈ l, Q y := by
  obtain ⟨fuel, hf⟩ := h
  rcases Go.Deep.open_slice hu hf with ⟨hcs, _⟩ | ⟨ad, l', c', m, n, D, Pl, hcs, _, hl, hm, hmm, _, hx⟩
  · simp [Value.cells] at hcs
    obtain ⟨rfl, rfl, rfl⟩ := hcs
    exact ⟨[], Kd.C_nil _ _, rfl, Nat.le_refl _, Nat.zero_le _, fun y hy => by cases hy⟩
  · simp [Value.cells] at hcs
    obtain ⟨rfl, rfl, rfl⟩ := hcs
    have hle : len ≤ m := by rw [hmm]; split <;> omega
    have key : ∀ k, k ≤ len → ∃ l : List α, l.length = k ∧ (∀ y ∈ l, Q y) ∧ ∀ (j : Nat) (p : α), l[j]? = some p → ∃ c, c.length = K.sz ∧ K.K W p c ∧ ∀ (i : Nat) u, c[i]? = some u → W.cell? (ad.add (j * K.sz + i)) = some u := by
      intro k
      induction k with
      | zero => intro _; exact ⟨[], rfl, fun y hy => (by cases hy), fun j p hj => by simp at hj⟩
      | succ k ih =>
        intro hk
        obtain ⟨l, h1, h2, h3⟩ := ih (by omega)
        obtain ⟨cs, hcs, hts⟩ := hx k (by omega)
        rw [hc] at hcs
        obtain ⟨_, hlen, hcell⟩ := World.cells?_some hcs
        obtain ⟨y, hy, hq⟩ := hdec n cs _ hlen hts
        refine ⟨l ++ [y], by simp [h1], fun z hz => ?_, fun j p hj => ?_⟩
        · rw [List.mem_append, List.mem_singleton] at hz
          rcases hz with hz | rfl
          · exact h2 z hz
          · exact hq
        · by_cases hjk : j < l.length
          · rw [List.getElem?_append_left hjk] at hj
            exact h3 j p hj
          · rw [List.getElem?_append_right (by omega)] at hj
            have hj0 : j - l.length = 0 := by
              have := (List.getElem?_eq_some_iff.1 hj).1
              simp at this
              omega
            rw [hj0] at hj
            simp at hj
            subst hj
            obtain rfl : j = k := by omega
            refine ⟨cs, hlen, hy, fun i u hu => ?_⟩
            have hi : i < K.sz := by
              have := (List.getElem?_eq_some_iff.1 hu).1
              omega
            have := hcell i hi
            rw [hu, Addr.add_add] at this
            exact this
    obtain ⟨l, h1, h2, h3⟩ := key len (Nat.le_refl _)
    have hmx : len ≤ maxLen := by omega
    exact ⟨l, ⟨rfl, by unfold maxLen at hm; omega, fun _ => ⟨ad, rfl, h3⟩⟩, h1, by omega, by omega, h2⟩
end Go.Proofs.YtjbhgooakdpabaaDoorW.PrintMore
namespace Go.Proofs.YtjbhgooakdpabaaDoorW
open Go
variable {H : Type} {enc : TypeId × Value → H}
/-- A tied card's wrap that hands the world's shape on. -/
theorem returnsInHanded_of_change_andS {a : Assume} {C : Checked} {os : Os} {f : FuncId} {fn : Func} {s : ChangeSpec} {conds : List PathCond} {apart fresh handsOn again : Bool} {X : World → Array Value → Prop}
    (hX : ∀ (w w' : World) (args : Array Value), w.heap = w'.heap → X w args → X w' args)
    (own : ownKnob C.prog.godebug = none) (started : os.Started) (noInit : C.prog.inits.idxOf? f = none) (hfn : C.prog.funcs[f]? = some fn)
    (witness : ∃ (w : World) (tape : Tape) (i : Input), w.os = os ∧ (w.forCall tape i).Shaped C.prog ∧ i.vars = [] ∧ Input.okWide C.prog (w.forCall tape i) .any w.heap.size f i ∧
      ((s.pre enc C.prog fn conds apart (w.forCall tape i).memory i.args ∧ X (w.forCall tape i).memory i.args) ∧ sizedMet enc C.prog fn (OpenSpec.ofChange s) apart (w.forCall tape i).memory i.args) ∧ a.holds C.prog (lone (Frame.enter C.prog f i.args .normal) [] (w.forCall tape i)))
    (contract : ∀ (W : World) (base : Nat) (args : Array Value) (ds gs : List (DataW H)) (before : List MemPlace),
      (∀ (j : Nat) t v, fn.params[j]? = some t → args[j]? = some v → Value.okWide C.prog W .any base t v) →
      DataW.Whole enc C.prog fn.params.toList s.vars apart W args.toList ds gs before →
      conds.all (PathCond.test C.prog ⟨fn.params.toList, ds, s.plain.varTypes C.prog, gs⟩) = true →
      (DataW.weightsEach C.prog (fn.params.toList ++ s.plain.varTypes C.prog) (ds ++ gs)).all (· ≤ reachBytes) = true → X W args → W.ShapedOpen C.prog →
      a.holds C.prog (lone (Frame.enter C.prog f args .normal) [] W) →
      Calls C.prog f args W fun e W' => ∃ v, e = .returned v ∧ s.post enc C.prog fn apart fresh handsOn again W args v W') :
    ReturnsInHanded a C os f .any (fun w args => (s.pre enc C.prog fn conds apart w args ∧ X w args) ∧ sizedMet enc C.prog fn (OpenSpec.ofChange s) apart w args) (s.post enc C.prog fn apart fresh handsOn again) := by
  refine returnsInHanded_of_calls own started noInit witness ?_
  intro w tape i _ hsh _ hok hpre hholds
  obtain ⟨_, _, _, fn', hfn', _, _, _, _, hval⟩ := hok
  have e : fn' = fn := Option.some.inj (hfn'.symm.trans hfn)
  subst e
  obtain ⟨⟨⟨ds, gs, before, hw, hc⟩, hx⟩, hz⟩ := hpre
  have hw' := DataW.Whole.of_heap (w' := w.forCall tape i) (by rfl) hw
  refine (contract (w.forCall tape i) w.heap.size i.args ds gs before hval hw' hc (hz.weights hw) (hX _ _ _ (by rfl) hx) hsh hholds).mono fun e W' ⟨v, he, hp⟩ => ?_
  subst he
  exact ChangeSpec.post_blind hp
end Go.Proofs.YtjbhgooakdpabaaDoorW
