import Derived.Test.YthajndlkibpncaaDoorQTable
/- Whole tables: what both read out of any text. -/
namespace Go.Proofs.YthajndlkibpncaaDoor.Q
open Go.RowKit Go.Proofs.YthajndlkibpncaaDoorW.PrintWords Go.Proofs.YthajndlkibpncaaDoorW.PrintMore Go.Proofs.YthajndlkibpncaaDoor.PAll
set_option linter.unusedVariables false
set_option linter.unusedSimpArgs false
/-! ### a cut at the first line's end -/
theorem index10 : ∀ s : List UInt8, (Go.Lib.index s [10] = -1 ∧ 10 ∉ s) ∨ ∃ a b : List UInt8, s = a ++ 10 :: b ∧ 10 ∉ a ∧ Go.Lib.index s [10] = (a.length : Int)
  | [] => .inl ⟨rfl, by simp⟩
  | c :: l => by
    by_cases h : c = 10
    · subst h
      exact .inr ⟨[], l, rfl, by simp, by simp [Go.Lib.index, List.isPrefixOf]⟩
    · have hp : ([10] : List UInt8).isPrefixOf (c :: l) = false := by simp [List.isPrefixOf]; exact fun e => h e.symm
      rcases index10 l with ⟨h1, h2⟩ | ⟨a, b, h1, h2, h3⟩
      · refine .inl ⟨?_, fun hm => ?_⟩
        · simp [Go.Lib.index, hp, h1]
        · rcases List.mem_cons.mp hm with e | e
          · exact h e.symm
          · exact h2 e
      · refine .inr ⟨c :: a, b, by rw [h1]; rfl, fun hm => ?_, ?_⟩
        · rcases List.mem_cons.mp hm with e | e
          · exact h e.symm
          · exact h2 e
        · rw [Go.Lib.index, hp, h3]
          simp
theorem cut10 (s : List UInt8) : (Go.Lib.cut s [10] = (s, [], false) ∧ 10 ∉ s) ∨ ∃ a b : List UInt8, s = a ++ 10 :: b ∧ 10 ∉ a ∧ Go.Lib.cut s [10] = (a, b, true) := by
  rcases index10 s with ⟨h1, h2⟩ | ⟨a, b, h1, h2, h3⟩
  · refine .inl ⟨?_, h2⟩
    unfold Go.Lib.cut
    rw [h1]
    rfl
  · refine .inr ⟨a, b, h1, h2, ?_⟩
    unfold Go.Lib.cut
    rw [h3, if_pos (by omega), Int.toNat_natCast, h1]
    simp
theorem dig_no10 {c : UInt8} (h : IsDig c) : (10 : UInt8) ≠ c := by
  rintro rfl
  unfold IsDig at h
  revert h
  decide
theorem kind_no10 {c : UInt8} (h : KindP (c.toNat : Int)) : (10 : UInt8) ≠ c := by
  rintro rfl
  revert h
  decide
theorem good_no10 {X : List UInt8} (h : goodB X = true) : (10 : UInt8) ∉ X := by
  obtain ⟨c0, c1, c2, c3, c4, c5, c6, c7, c8, c9, c10, c11, c12, rfl⟩ := len13 (goodB_len h)
  simp only [goodB, decide_eq_true_eq] at h
  obtain ⟨⟨a, b, c⟩, rfl, hk, rfl, ⟨d, e, f⟩, rfl, g, i, j⟩ := h
  simp only [List.mem_cons, List.not_mem_nil, or_false, not_or]
  exact ⟨dig_no10 a, dig_no10 b, dig_no10 c, by decide, kind_no10 hk, by decide, dig_no10 d, dig_no10 e, dig_no10 f, by decide, dig_no10 g, dig_no10 i, dig_no10 j⟩
theorem goodL_cut {a b : List UInt8} (ha : 10 ∉ a) : goodL (a ++ 10 :: b) = goodB a := by
  cases h : goodB a with
  | true =>
    have hl := goodB_len h
    unfold goodL
    rw [List.take_append_of_le_length (by omega), List.take_of_length_le (by omega), h, List.getElem?_append_right (by omega), hl]
    rfl
  | false =>
    cases hg : goodL (a ++ 10 :: b) with
    | false => rfl
    | true =>
      obtain ⟨h1, h2, h3⟩ := goodL_len hg
      have hno := good_no10 h2
      by_cases hlt : a.length < 13
      · exfalso
        apply hno
        rw [List.mem_iff_getElem?]
        refine ⟨a.length, ?_⟩
        rw [List.getElem?_take_of_lt hlt, List.getElem?_append_right (by omega)]
        simp
      · by_cases hgt : 13 < a.length
        · exfalso
          apply ha
          rw [List.mem_iff_getElem?]
          refine ⟨13, ?_⟩
          rw [List.getElem?_append_left hgt] at h3
          exact h3
        · rw [List.take_append_of_le_length (by omega), List.take_of_length_le (by omega)] at h2
          rw [h2] at h
          cases h
/-- What a text's table is, or at which line it is none. -/
def parseT : Nat → List UInt8 → List S34 → List S34 × Int × Int
  | 0, _, _ => ([], 0, 0)
  | f + 1, s, out => if s = [] then (out, 0, 0) else if goodL s = true then (if 100 ≤ out.length then ([], ((out.length + 1 : Nat) : Int), 25) else parseT f (s.drop 14) (out ++ [stB (s.take 13)])) else ([], ((out.length + 1 : Nat) : Int), 28)
theorem S_nil_list {s : List UInt8} : (S s).toList = ([] : List UInt8) ↔ s = [] := by rw [toList_S]
theorem st_eta (x : S34) : (⟨x.f0, x.f1, x.f2, x.f3⟩ : S34) = x := rfl
theorem parse_ev : ∀ (f : Nat) (s : List UInt8) (out : List S34), s.length < f → s.length ≤ 1000000 → out.length ≤ 100 → Ev (fun k => table_Parse.l0 k (S s) out ((out.length + 1 : Nat) : Int)) (parseT f s out)
  | 0, s, out => fun h _ _ => by omega
  | f + 1, s, out => fun h hl ho => by
    unfold parseT
    by_cases hs : s = []
    · rw [if_pos hs]
      refine Ev.step (f := fun _ => some (out, 0, 0)) (fun k => ?_) (Ev.now _)
      simp only [table_Parse.l0]
      rw [if_pos (S_nil_list.mpr hs)]
    · rw [if_neg hs]
      refine Ev.step (f := fun k => (some ((S (Go.Lib.cut s [10]).1), S (Go.Lib.cut s [10]).2.1, (Go.Lib.cut s [10]).2.2)).bind fun bt142 => (table_read.f k bt142.1).bind fun bt145 => (if bt145.2.2.2.2 = true then (table_Parse.j1 k out ((out.length + 1 : Nat) : Int) bt142.2.1 (!bt142.2.2) bt145.1 bt145.2.1 bt145.2.2.1 bt145.2.2.2.1) else (table_Parse.j1 k out ((out.length + 1 : Nat) : Int) bt142.2.1 true bt145.1 bt145.2.1 bt145.2.2.1 bt145.2.2.2.1))) (fun k => ?_) ?_
      · simp only [table_Parse.l0]
        rw [if_neg (fun e => hs (S_nil_list.mp e)), show strings_Cut.f (S s) (⟨#[10]⟩ : ByteArray) = some ((S (Go.Lib.cut s [10]).1), S (Go.Lib.cut s [10]).2.1, (Go.Lib.cut s [10]).2.2) from by unfold strings_Cut.f; rw [S_size, if_pos (by omega)]]
      · refine Ev.some_bind ?_
        have hbad : ∀ (rest : ByteArray) (x0 x1 x2 x3 : Int), Ev (fun k => table_Parse.j1 k out ((out.length + 1 : Nat) : Int) rest true x0 x1 x2 x3) ([], ((out.length + 1 : Nat) : Int), 28) := fun rest x0 x1 x2 x3 => Ev.step (f := fun _ => some ([], ((out.length + 1 : Nat) : Int), 28)) (fun k => by simp only [table_Parse.j1]; rfl) (Ev.now _)
        rcases cut10 s with ⟨hc, hno⟩ | ⟨a, b, hab, hna, hc⟩
        · rw [hc]
          have hg : goodL s = false := by
            cases hg : goodL s with
            | false => rfl
            | true => exact absurd (List.mem_of_getElem? (goodL_len hg).2.2) hno
          rw [hg, if_neg (by simp)]
          obtain ⟨r, hr, _, _⟩ := read_ev s hl
          refine Ev.bind hr ?_
          split
          · exact hbad _ _ _ _ _
          · exact hbad _ _ _ _ _
        · rw [hc]
          have hal : a.length ≤ s.length := by rw [hab]; simp
          have hg : goodL s = goodB a := by rw [hab]; exact goodL_cut hna
          obtain ⟨r, hr, h1, h2⟩ := read_ev a (by omega)
          refine Ev.bind hr ?_
          cases hga : goodB a with
          | false =>
            rw [hg, hga, if_neg (by simp)]
            exact Ev.ite_neg (by rw [h2 hga]; simp) (hbad _ _ _ _ _)
          | true =>
            have hal13 := goodB_len hga
            have ht : s.take 13 = a := by rw [hab, List.take_append_of_le_length (by omega), List.take_of_length_le (by omega)]
            have hd : s.drop 14 = b := by rw [hab, List.drop_append, List.drop_eq_nil_of_le (by omega), hal13]; rfl
            have hbl : b.length < s.length := by rw [hab]; simp; omega
            rw [hg, hga, if_pos rfl, ht, hd]
            rw [h1 hga]
            refine Ev.ite_pos rfl ?_
            refine Ev.step (f := fun k => if ((out.length + 1 : Nat) : Int) > 100 then some ([], ((out.length + 1 : Nat) : Int), 25) else table_Parse.l0 k (S b) (out ++ [stB a]) (((out ++ [stB a]).length + 1 : Nat) : Int)) (fun k => ?_) ?_
            · simp only [table_Parse.j1, Bool.not_true, Bool.false_eq_true, if_false]
              rw [if_pos (show out.length < 4398046511104 by omega), wrap_succ (show out.length + 1 < 1000 by omega) (by omega)]
              simp only [List.length_append, List.length_cons, List.length_nil]
            · by_cases h100 : 100 ≤ out.length
              · rw [if_pos h100]
                exact Ev.ite_pos (by omega) (Ev.now _)
              · rw [if_neg h100]
                exact Ev.ite_neg (by omega) (parse_ev f b (out ++ [stB a]) (by omega) (by omega) (by simp; omega))
theorem refparse_ev : ∀ (f : Nat) (s : List UInt8) (out : List S34), s.length < f → s.length ≤ 1000000 → out.length ≤ 100 → Ev (fun k => guichetref12_TableParse.l0 k (S s) out) (parseT f s out)
  | 0, s, out => fun h _ _ => by omega
  | f + 1, s, out => fun h hl ho => by
    unfold parseT
    by_cases hs : s = []
    · rw [if_pos hs]
      refine Ev.step (f := fun _ => some (out, 0, 0)) (fun k => ?_) (Ev.now _)
      simp only [guichetref12_TableParse.l0]
      rw [if_pos (S_nil_list.mpr hs)]
    · rw [if_neg hs]
      have hw : wrap64 ((out.length : Int) + 1) = ((out.length + 1 : Nat) : Int) := wrap_succ (n := 1000) (by omega) (by omega)
      refine Ev.step (f := fun k => (guichetref12_line.f k (S s)).bind fun bt188 => (if bt188.2.2.2.2 = true then (if (out.length : Int) ≥ 100 then (some (([] : List (S34)), ((out.length + 1 : Nat) : Int), 25)) else (if out.length < 4398046511104 then (if 14 ≤ ((S s).size : Int) then (guichetref12_TableParse.l0 k ((S s).extract 14 (S s).size) (out ++ [(⟨bt188.1, bt188.2.1, bt188.2.2.1, bt188.2.2.2.1⟩ : S34)])) else (none)) else (none))) else (some (([] : List (S34)), ((out.length + 1 : Nat) : Int), 28)))) (fun k => ?_) ?_
      · simp only [guichetref12_TableParse.l0, hw]
        rw [if_neg (fun e => hs (S_nil_list.mp e))]
      · obtain ⟨r, hr, h1, h2⟩ := refline_ev s hl
        refine Ev.bind hr ?_
        cases hg : goodL s with
        | false =>
          rw [if_neg (by simp)]
          exact Ev.ite_neg (by rw [h2 hg]; simp) (Ev.now _)
        | true =>
          have h14 := (goodL_len hg).1
          rw [if_pos rfl, h1 hg]
          refine Ev.ite_pos rfl ?_
          by_cases h100 : 100 ≤ out.length
          · rw [if_pos h100]
            exact Ev.ite_pos (by omega) (Ev.now _)
          · rw [if_neg h100]
            refine Ev.ite_neg (by omega) (Ev.ite_pos (by omega) (Ev.ite_pos (by rw [S_size]; omega) ?_))
            rw [S_size, S_extract, List.take_of_length_le (Nat.le_refl _)]
            exact refparse_ev f (s.drop 14) (out ++ [stB (s.take 13)]) (by rw [List.length_drop]; omega) (by rw [List.length_drop]; omega) (by simp; omega)
def parseS (s : List UInt8) : List S34 × Int × Int := parseT (s.length + 1) s []
theorem parse_f (s : List UInt8) (hl : s.length ≤ 1000000) : Ev (fun k => table_Parse.f k (S s)) (parseS s) := parse_ev (s.length + 1) s [] (by omega) hl (by simp)
theorem refparse_f (s : List UInt8) (hl : s.length ≤ 1000000) : Ev (fun k => guichetref12_TableParse.f k (S s)) (parseS s) := refparse_ev (s.length + 1) s [] (by omega) hl (by simp)
theorem parseT_len : ∀ (f : Nat) (s : List UInt8) (out : List S34), out.length ≤ 100 → (parseT f s out).1.length ≤ 100
  | 0, s, out => fun h => by simp [parseT]
  | f + 1, s, out => fun h => by
    unfold parseT
    split
    · exact h
    · split
      · split
        · simp
        · exact parseT_len f _ _ (by simp; omega)
      · simp
theorem rdT_lt {l : List S34} {i : Nat} (h : i < l.length) : rd_T34 l (i : Int) = l[i] := by simp [rd_T34, List.getD_eq_getElem?_getD, List.getElem?_eq_getElem h]
theorem states_l0 (l : List S34) (hl : l.length ≤ 1000) (d : Nat) : ∀ i : Nat, l.length - i = d → i ≤ l.length → Ev (fun k => guichethelp_States.l0 k l l (i : Int)) true := by
  induction d with
  | zero =>
    intro i hd hi
    exact Ev.step (f := fun _ => some true) (fun k => by simp only [guichethelp_States.l0]; rw [if_neg (by omega)]) (Ev.now _)
  | succ d ih =>
    intro i hd hi
    refine Ev.step (f := fun k => guichethelp_States.l0 k l l ((i + 1 : Nat) : Int)) (fun k => ?_) (ih (i + 1) (by omega) (by omega))
    simp only [guichethelp_States.l0]
    rw [if_pos (by omega), if_pos (by omega), if_pos (by omega), if_neg (by simp), wrap_succ (show i < 1000 by omega) (by omega)]
theorem states_ev (l : List S34) (hl : l.length ≤ 1000) : Ev (fun k => guichethelp_States.f k l l) true := by
  unfold guichethelp_States.f
  exact Ev.ite_pos rfl (states_l0 l hl _ 0 rfl (by omega))
end Go.Proofs.YthajndlkibpncaaDoor.Q
