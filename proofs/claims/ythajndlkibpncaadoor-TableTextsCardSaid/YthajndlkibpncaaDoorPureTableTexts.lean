import Derived.Test.YthajndlkibpncaaDoorQKnown14
import Derived.Test.YthajndlkibpncaaDoorPAllx9
import Derived.Test.YthajndlkibpncaaDoorPAllx8
import Derived.Test.YthajndlkibpncaaDoorPAllx10
/- TableTexts: the text of any table, and which table any text is. -/
namespace Go.Proofs.YthajndlkibpncaaDoor.Pure
open Go.RowKit Go.Proofs.YthajndlkibpncaaDoorW.PrintWords Go.Proofs.YthajndlkibpncaaDoorW.PrintMore Go.Proofs.YthajndlkibpncaaDoor.PAll Go.Proofs.YthajndlkibpncaaDoor.Q
set_option linter.unusedVariables false
set_option linter.unusedSimpArgs false
/-! ### the reference's text -/
theorem digR_bad {v : Int} (h : ¬ (0 ≤ v ∧ v ≤ 999)) : digR v 3 = (S [], false) := by
  unfold digR
  rw [if_neg]
  rintro ⟨a, _, _, b⟩
  have b : v.toNat < 1000 := b
  omega
def Wf (x : S34) : Prop := U8 x.f1 ∧ (Lit.int .i64 x.f0).wf = true ∧ (Lit.int .i64 x.f2).wf = true ∧ (Lit.int .i64 x.f3).wf = true
theorem reftext_l0 (l : List S34) (hl : l.length ≤ 1000) (hu : ∀ x ∈ l, Wf x) (d : Nat) : ∀ (i : Nat) (acc : List UInt8), l.length - i = d → i ≤ l.length → acc.length ≤ 14 * i → Ev (fun k => guichetref12_TableText.l0 k l (S acc) (i : Int)) (if AllR (l.drop i) then S (acc ++ textL (l.drop i)) else S []) := by
  induction d with
  | zero =>
    intro i acc hd hi ha
    obtain rfl : i = l.length := by omega
    rw [List.drop_length, if_pos (show AllR [] from fun x hx => by cases hx)]
    refine Ev.step (f := fun _ => some (S acc)) (fun k => by simp only [guichetref12_TableText.l0]; rw [if_neg (by omega)]) ?_
    rw [show acc ++ textL [] = acc from List.append_nil _]
    exact Ev.now _
  | succ d ih =>
    intro i acc hd hi ha
    have hlt : i < l.length := by omega
    have hdr : l.drop i = l[i] :: l.drop (i + 1) := List.drop_eq_getElem_cons hlt
    obtain ⟨hu1, hu0, hu2, hu3⟩ := hu _ (List.getElem_mem hlt)
    refine Ev.step (f := ?f) (fun k => ?_) ?_
    case f => exact fun k => ((guichetref1_Digits.f k (l[i]).f0 3).bind fun bt237 => ((guichetref1_Digits.f k (l[i]).f2 3).bind fun bt240 => ((guichetref1_Digits.f k (l[i]).f3 3).bind fun bt243 => (if bt237.2 = true then (if bt240.2 = true then (if bt243.2 = true then ((guichetref12_kind.f k (l[i]).f1).bind fun t246 => (if t246 = true then (if (S acc).size + bt237.1.size ≤ 9223372036854775807 then (if (S acc ++ bt237.1).size + 1 ≤ 9223372036854775807 then ((some (([(l[i]).f1] : List Int) : List Int)).bind fun y248 => (if ((S acc ++ bt237.1) ++ (⟨#[32]⟩ : ByteArray)).size + (strOfNums y248).size ≤ 9223372036854775807 then (if (((S acc ++ bt237.1) ++ (⟨#[32]⟩ : ByteArray)) ++ (strOfNums y248)).size + 1 ≤ 9223372036854775807 then (if ((((S acc ++ bt237.1) ++ (⟨#[32]⟩ : ByteArray)) ++ (strOfNums y248)) ++ (⟨#[32]⟩ : ByteArray)).size + bt240.1.size ≤ 9223372036854775807 then (if (((((S acc ++ bt237.1) ++ (⟨#[32]⟩ : ByteArray)) ++ (strOfNums y248)) ++ (⟨#[32]⟩ : ByteArray)) ++ bt240.1).size + 1 ≤ 9223372036854775807 then (if ((((((S acc ++ bt237.1) ++ (⟨#[32]⟩ : ByteArray)) ++ (strOfNums y248)) ++ (⟨#[32]⟩ : ByteArray)) ++ bt240.1) ++ (⟨#[32]⟩ : ByteArray)).size + bt243.1.size ≤ 9223372036854775807 then (if (((((((S acc ++ bt237.1) ++ (⟨#[32]⟩ : ByteArray)) ++ (strOfNums y248)) ++ (⟨#[32]⟩ : ByteArray)) ++ bt240.1) ++ (⟨#[32]⟩ : ByteArray)) ++ bt243.1).size + 1 ≤ 9223372036854775807 then (guichetref12_TableText.l0 k l ((((((((S acc ++ bt237.1) ++ (⟨#[32]⟩ : ByteArray)) ++ (strOfNums y248)) ++ (⟨#[32]⟩ : ByteArray)) ++ bt240.1) ++ (⟨#[32]⟩ : ByteArray)) ++ bt243.1) ++ (⟨#[10]⟩ : ByteArray)) ((i + 1 : Nat) : Int)) else (none)) else (none)) else (none)) else (none)) else (none)) else (none))) else (none)) else (none)) else (some (⟨#[]⟩ : ByteArray)))) else (some (⟨#[]⟩ : ByteArray))) else (some (⟨#[]⟩ : ByteArray))) else (some (⟨#[]⟩ : ByteArray))))))
    · simp only [guichetref12_TableText.l0]
      rw [if_pos (by omega), if_pos (by omega), rdT_lt hlt, wrap_succ hlt (by omega)]
    · refine Ev.bind (ref_digits _ _ hu0) (Ev.bind (ref_digits _ _ hu2) (Ev.bind (ref_digits _ _ hu3) ?_))
      rw [hdr]
      have hbad : ¬ RightT l[i] → Ev (fun _ => some (⟨#[]⟩ : ByteArray)) (if AllR (l[i] :: l.drop (i + 1)) then S (acc ++ textL (l[i] :: l.drop (i + 1))) else S []) := fun h => by
        rw [if_neg (fun q => h (AllR.cons.mp q).1)]
        exact Ev.now _
      by_cases a : 0 ≤ (l[i]).f0 ∧ (l[i]).f0 ≤ 999
      · rw [digR_3 a.1 a.2]
        refine Ev.ite_pos rfl ?_
        by_cases b : 0 ≤ (l[i]).f2 ∧ (l[i]).f2 ≤ 999
        · rw [digR_3 b.1 b.2]
          refine Ev.ite_pos rfl ?_
          by_cases c : 0 ≤ (l[i]).f3 ∧ (l[i]).f3 ≤ 999
          · rw [digR_3 c.1 c.2]
            refine Ev.ite_pos rfl (Ev.bind (ref_kind hu1) ?_)
            by_cases hk : KindP (l[i]).f1
            · have hR : RightT l[i] := ⟨a, b, c, hk⟩
              rw [decide_eq_true hk]
              refine Ev.ite_pos rfl ?_
              simp only [Option.bind_some, str_one hu1, show (⟨#[32]⟩ : ByteArray) = S [32] from rfl, show (⟨#[10]⟩ : ByteArray) = S [10] from rfl, S_append, S_size]
              have e3 := digN_length 3
              refine Ev.ite_pos ?h1 (Ev.ite_pos ?h2 (Ev.ite_pos ?h3 (Ev.ite_pos ?h4 (Ev.ite_pos ?h5 (Ev.ite_pos ?h6 (Ev.ite_pos ?h7 (Ev.ite_pos ?h8 ?_)))))))
              case h1 => simp only [List.length_append, e3, List.length_cons, List.length_nil]; omega
              case h2 => simp only [List.length_append, e3, List.length_cons, List.length_nil]; omega
              case h3 => simp only [List.length_append, e3, List.length_cons, List.length_nil]; omega
              case h4 => simp only [List.length_append, e3, List.length_cons, List.length_nil]; omega
              case h5 => simp only [List.length_append, e3, List.length_cons, List.length_nil]; omega
              case h6 => simp only [List.length_append, e3, List.length_cons, List.length_nil]; omega
              case h7 => simp only [List.length_append, e3, List.length_cons, List.length_nil]; omega
              case h8 => simp only [List.length_append, e3, List.length_cons, List.length_nil]; omega
              have := ih (i + 1) (acc ++ (lineL l[i] ++ [10])) (by omega) (by omega) (by rw [List.length_append, List.length_append, lineL_len, List.length_singleton]; omega)
              rw [show acc ++ digN 3 (l[i]).f0.toNat ++ [32] ++ [UInt8.ofNat (l[i]).f1.toNat] ++ [32] ++ digN 3 (l[i]).f2.toNat ++ [32] ++ digN 3 (l[i]).f3.toNat ++ [10] = acc ++ (lineL l[i] ++ [10]) from by simp [lineL]]
              by_cases hA : AllR (l.drop (i + 1))
              · rw [if_pos hA] at this
                rw [if_pos (AllR.cons.mpr ⟨hR, hA⟩), textL_cons]
                rw [show acc ++ (lineL l[i] ++ 10 :: textL (l.drop (i + 1))) = acc ++ (lineL l[i] ++ [10]) ++ textL (l.drop (i + 1)) from by simp]
                exact this
              · rw [if_neg hA] at this
                rw [if_neg (fun h => hA (AllR.cons.mp h).2)]
                exact this
            · rw [decide_eq_false hk]
              exact Ev.ite_neg (by simp) (hbad (fun h => hk h.2.2.2))
          · rw [digR_bad c]
            exact Ev.ite_neg (by simp) (hbad (fun h => c h.2.2.1))
        · rw [digR_bad b]
          exact Ev.ite_neg (by simp) (hbad (fun h => b h.2.1))
      · rw [digR_bad a]
        exact Ev.ite_neg (by simp) (hbad (fun h => a h.1))
theorem reftext_ev (l : List S34) (hl : l.length ≤ 1000) (hu : ∀ x ∈ l, Wf x) : Ev (fun k => guichetref12_TableText.f k l) (S (textR l)) := by
  have h := reftext_l0 l hl hu _ 0 [] rfl (by omega) (by simp)
  unfold textR
  rw [List.drop_zero] at h
  by_cases hA : AllR l
  · rw [if_pos hA] at h ⊢; exact h
  · rw [if_neg hA] at h ⊢; exact h
theorem textR_len (l : List S34) : (textR l).length ≤ 14 * l.length := by
  unfold textR
  split
  · rw [textL_len]; omega
  · simp
/-! ### a drawn table -/
def U4 (x : S52) : Prop := U8 x.f0 ∧ U8 x.f1 ∧ U8 x.f2 ∧ U8 x.f3
theorem wf_small {v : Int} (h0 : 0 ≤ v) (h1 : v ≤ 1000) : (Lit.int .i64 v).wf = true := by simp [Lit.wf, IntKind.min, IntKind.max, IntKind.bits, IntKind.signed]; omega
theorem Wf.mk4 {a b c d : Int} (hb : U8 b) (a0 : 0 ≤ a) (a1 : a ≤ 1000) (c0 : 0 ≤ c) (c1 : c ≤ 1000) (d0 : 0 ≤ d) (d1 : d ≤ 1000) : Wf ⟨a, b, c, d⟩ := ⟨hb, wf_small a0 a1, wf_small c0 c1, wf_small d0 d1⟩
theorem bt_kinds {j : Int} (h0 : 0 ≤ j) (h1 : j < 6) : U8 (bt (⟨#[65, 66, 68, 69, 73, 90]⟩ : ByteArray) j) := by
  obtain ⟨n, rfl⟩ := Int.eq_ofNat_of_zero_le h0
  have hn : n < 6 := by omega
  have : ∀ m : Fin 6, U8 (bt (⟨#[65, 66, 68, 69, 73, 90]⟩ : ByteArray) ((m.val : Nat) : Int)) := by unfold U8; decide +kernel
  exact this ⟨n, hn⟩
theorem rd52_lt {l : List S52} {i : Nat} (h : i < l.length) : rd_T52 l (i : Int) = l[i] := by simp [rd_T52, List.getD_eq_getElem?_getD, List.getElem?_eq_getElem h]
theorem tmod_rng {a m : Int} (ha : 0 ≤ a) (hm : 0 < m) : 0 ≤ Int.tmod a m ∧ Int.tmod a m < m := by rw [Int.tmod_eq_emod_of_nonneg ha]; exact ⟨Int.emod_nonneg _ (by omega), Int.emod_lt_of_pos _ hm⟩
theorem seat_l0 (l : List S52) (hl : l.length ≤ 40) (hu : ∀ x ∈ l, U4 x) (x6 : Int) (h6 : 2 ≤ x6) (h7 : x6 ≤ 20) (d : Nat) : ∀ (i : Nat) (out : List S34), l.length - i = d → i ≤ l.length → out.length = i → (∀ x ∈ out, Wf x) → ∃ m : List S34, Ev (fun k => guichetseat_Table.l0 k l out x6 (i : Int)) m ∧ m.length ≤ 40 ∧ ∀ x ∈ m, Wf x := by
  induction d with
  | zero =>
    intro i out hd hi ho hw
    refine ⟨out, Ev.step (f := fun _ => some out) (fun k => by simp only [guichetseat_Table.l0]; rw [if_neg (by omega)]) (Ev.now _), by omega, hw⟩
  | succ d ih =>
    intro i out hd hi ho hw
    have hlt : i < l.length := by omega
    obtain ⟨⟨a0, a1⟩, ⟨b0, b1⟩, ⟨c0, c1⟩, ⟨d0, d1⟩⟩ := hu _ (List.getElem_mem hlt)
    obtain ⟨j0, j1⟩ := tmod_rng b0 (show (0 : Int) < 6 by omega)
    have w2 : wrap64 (l[i]).f2 = (l[i]).f2 := wrap_id (by omega) (by omega)
    have w3 : wrap64 (l[i]).f3 = (l[i]).f3 := wrap_id (by omega) (by omega)
    obtain ⟨e0, e1⟩ := tmod_rng c0 (show (0 : Int) < x6 by omega)
    obtain ⟨g0, g1⟩ := tmod_rng d0 (show (0 : Int) < x6 by omega)
    have f0 : 0 ≤ ((Int.tdiv (l[i]).f0 16) % 256) % x6 := Int.emod_nonneg _ (by omega)
    have f1 : ((Int.tdiv (l[i]).f0 16) % 256) % x6 < x6 := Int.emod_lt_of_pos _ (by omega)
    have hk := bt_kinds j0 j1
    by_cases h15 : Int.tmod (l[i]).f0 16 = 15
    · obtain ⟨m, h1, h2, h3⟩ := ih (i + 1) (out ++ [(⟨((Int.tdiv (l[i]).f0 16) % 256) % x6, bt (⟨#[65, 66, 68, 69, 73, 90]⟩ : ByteArray) (Int.tmod (l[i]).f1 6), Int.tmod (l[i]).f2 x6, Int.tmod (l[i]).f3 x6⟩ : S34)]) (by omega) (by omega) (by simp [ho]) (fun x hx => by
        rcases List.mem_append.mp hx with hx | hx
        · exact hw x hx
        · rw [List.mem_singleton] at hx
          subst hx
          exact Wf.mk4 hk f0 (by omega) e0 (by omega) g0 (by omega))
      refine ⟨m, Ev.step (fun k => ?_) h1, h2, h3⟩
      simp only [guichetseat_Table.l0]
      rw [if_pos (by omega), if_pos (by omega), rd52_lt hlt, if_pos h15, if_neg (by omega), if_pos j0, if_pos j1, if_pos (by omega), w2, w3, wrap_succ hlt (by omega)]
    · obtain ⟨m, h1, h2, h3⟩ := ih (i + 1) (out ++ [(⟨(i : Int), bt (⟨#[65, 66, 68, 69, 73, 90]⟩ : ByteArray) (Int.tmod (l[i]).f1 6), Int.tmod (l[i]).f2 x6, Int.tmod (l[i]).f3 x6⟩ : S34)]) (by omega) (by omega) (by simp [ho]) (fun x hx => by
        rcases List.mem_append.mp hx with hx | hx
        · exact hw x hx
        · rw [List.mem_singleton] at hx
          subst hx
          exact Wf.mk4 hk (by omega) (by omega) e0 (by omega) g0 (by omega))
      refine ⟨m, Ev.step (fun k => ?_) h1, h2, h3⟩
      simp only [guichetseat_Table.l0]
      rw [if_pos (by omega), if_pos (by omega), rd52_lt hlt, if_neg h15, if_pos j0, if_pos j1, if_neg (by omega), if_pos (by omega), w2, w3, wrap_succ hlt (by omega)]
theorem seat_ev (l : List S52) (hl : l.length ≤ 40) (hu : ∀ x ∈ l, U4 x) (few : Int) (hf : U8 few) : ∃ m : List S34, Ev (fun k => guichetseat_Table.f k l few) m ∧ m.length ≤ 40 ∧ ∀ x ∈ m, Wf x := by
  obtain ⟨f0, f1⟩ := tmod_rng hf.1 (show (0 : Int) < 12 by omega)
  have e : wrap64 (wrap64 (Int.tmod few 12) + 2) = Int.tmod few 12 + 2 := by rw [wrap_id (n := Int.tmod few 12) (by omega) (by omega), wrap_id (by omega) (by omega)]
  obtain ⟨m, h1, h2, h3⟩ := seat_l0 l hl hu (Int.tmod few 12 + 2) (by omega) (by omega) _ 0 [] rfl (by omega) rfl (fun x hx => by cases hx)
  refine ⟨m, ?_, h2, h3⟩
  unfold guichetseat_Table.f
  rw [e]
  exact h1
/-! ### the law -/
theorem texts_l0 (ys : List ByteArray) (hy : ∀ y ∈ ys, y.size ≤ 100000) (hl : ys.length ≤ 100) (d : Nat) : ∀ i : Nat, ys.length - i = d → i ≤ ys.length → Ev (fun k => guichetlaw14_TableTexts.l0 k ys (ys.length : Int) (i : Int)) true := by
  induction d with
  | zero =>
    intro i hd hi
    exact Ev.step (f := fun _ => some true) (fun k => by simp only [guichetlaw14_TableTexts.l0]; rw [if_neg (by omega)]) (Ev.now _)
  | succ d ih =>
    intro i hd hi
    have hlt : i < ys.length := by omega
    have hs := hy ys[i] (List.getElem_mem hlt)
    have hr : rdOf ByteArray.empty ys (i : Int) = S (ys[i]).data.toList := by
      rw [S_of]
      simp [rdOf, List.getD_eq_getElem?_getD, List.getElem?_eq_getElem hlt]
    refine Ev.step (f := fun k => ((table_Parse.f k (S (ys[i]).data.toList)).bind fun bt266 => ((guichetref12_TableParse.f k (S (ys[i]).data.toList)).bind fun bt271 => (if bt266.2.1 = bt271.2.1 then (if bt266.2.2 = bt271.2.2 then ((guichethelp_States.f k bt266.1 bt271.1).bind fun t276 => (if t276 = true then (guichetlaw14_TableTexts.l0 k ys (ys.length : Int) ((i + 1 : Nat) : Int)) else (none))) else (none)) else (none))))) (fun k => ?_) ?_
    · simp only [guichetlaw14_TableTexts.l0]
      rw [if_pos (by omega), if_pos (by omega), if_pos (by omega), hr, wrap_succ hlt (by omega)]
    · have hq : (ys[i]).data.toList.length ≤ 1000000 := by rw [← size_list]; omega
      refine Ev.bind (parse_f _ hq) (Ev.bind (refparse_f _ hq) (Ev.ite_pos rfl (Ev.ite_pos rfl (Ev.bind (states_ev _ ?_) (Ev.ite_pos rfl (ih (i + 1) (by omega) (by omega)))))))
      have := parseT_len ((ys[i]).data.toList.length + 1) (ys[i]).data.toList [] (by simp)
      show (parseT ((ys[i]).data.toList.length + 1) (ys[i]).data.toList []).1.length ≤ 1000
      omega
theorem texts_j2 (s t u : ByteArray) (hs : s.size ≤ 100000) (ht : t.size ≤ 100000) (hu : u.size ≤ 100000) : Ev (fun k => guichetlaw14_TableTexts.j2 k s t u) true := by
  refine Ev.step (f := fun k => guichetlaw14_TableTexts.l0 k [t, u, s] (([t, u, s] : List ByteArray).length : Int) 0) (fun k => by simp only [guichetlaw14_TableTexts.j2]; rfl) ?_
  refine texts_l0 [t, u, s] (fun y hy => ?_) (by simp) _ 0 rfl (by omega)
  simp only [List.mem_cons, List.not_mem_nil, or_false] at hy
  rcases hy with rfl | rfl | rfl
  · exact ht
  · exact hu
  · exact hs
theorem texts_j1 (s : ByteArray) (at_ c how : Int) (t : List UInt8) (hs : s.size ≤ 1000) (ht : t.length ≤ 1000) (ha : 0 ≤ at_ ∧ at_ ≤ 65535) (hc : U8 c) (hh : U8 how) : Ev (fun k => guichetlaw14_TableTexts.j1 k s at_ c how (S t) false) true := by
  by_cases h0 : 0 < t.length
  · have hw : wrap64 at_ = at_ := wrap_id (by omega) (by omega)
    obtain ⟨i0, i1⟩ := tmod_rng ha.1 (show (0 : Int) < (t.length : Int) by omega)
    obtain ⟨g0, g1⟩ := tmod_rng hh.1 (show (0 : Int) < 2 by omega)
    obtain ⟨n, hn⟩ := Int.eq_ofNat_of_zero_le i0
    obtain ⟨p, hp⟩ := Int.eq_ofNat_of_zero_le g0
    have hw2 : wrap64 ((n : Int) + wrap64 (Int.tmod how 2)) = ((n + p : Nat) : Int) := by
      rw [wrap_id (n := Int.tmod how 2) (by omega) (by omega), hp, wrap_id (by omega) (by omega)]
      omega
    refine Ev.step (fun k => ?_) (texts_j2 s (S t) (S ((t.take n) ++ [UInt8.ofNat c.toNat] ++ t.drop (n + p))) (by omega) (by rw [S_size]; omega) (by rw [S_size]; simp; omega))
    simp only [guichetlaw14_TableTexts.j1, S_size, hw, Bool.false_eq_true, if_false]
    rw [if_pos (by omega), if_neg (by omega), if_pos i0, if_pos (by omega)]
    simp only [Option.bind_some, str_one hc, hw2, hn, Int.toNat_natCast, S_extract, S_append, S_size]
    rw [if_pos (by simp; omega), if_pos (by omega), if_pos (by omega), if_pos (by simp; omega)]
    simp
  · have hz : t = [] := List.length_eq_zero_iff.mp (by omega)
    subst hz
    refine Ev.step (fun k => ?_) (texts_j2 s (S []) (S []) (by omega) (by rw [S_size]; simp) (by rw [S_size]; simp))
    simp only [guichetlaw14_TableTexts.j1, S_size, Bool.false_eq_true, if_false]
    rw [if_neg (by simp)]
theorem texts_j0 (raw : List S34) (l : List S52) (few : Int) (s : ByteArray) (at_ c how : Int) (stop : Bool) (hr : stop = false → raw.length ≤ 40 ∧ l.length ≤ 40 ∧ s.size ≤ 200) (hw : ∀ x ∈ raw, Wf x) (hu : ∀ x ∈ l, U4 x) (hf : U8 few) (ha : 0 ≤ at_ ∧ at_ ≤ 65535) (hc : U8 c) (hh : U8 how) : Ev (fun k => guichetlaw14_TableTexts.j0 k raw l few s at_ c how stop) true := by
  cases stop with
  | true => exact Ev.step (f := fun _ => some true) (fun k => by simp only [guichetlaw14_TableTexts.j0]; rfl) (Ev.now _)
  | false =>
    obtain ⟨r1, r2, r3⟩ := hr rfl
    obtain ⟨m, h1, h2, h3⟩ := seat_ev l r2 hu few hf
    refine Ev.step (f := fun k => ((guichetseat_Table.f k l few).bind fun t252 => ((table_Text.f k t252).bind fun t255 => ((guichetref12_TableText.f k t252).bind fun t256 => (if t255.toList = t256.toList then ((table_Text.f k raw).bind fun t257 => ((guichetref12_TableText.f k raw).bind fun t258 => (guichetlaw14_TableTexts.j1 k s at_ c how t255 (t257.toList != t258.toList)))) else (guichetlaw14_TableTexts.j1 k s at_ c how t255 true)))))) (fun k => by simp only [guichetlaw14_TableTexts.j0]; rfl) ?_
    refine Ev.bind h1 (Ev.bind (text_ev m (by omega) (fun x hx => (h3 x hx).1)) (Ev.bind (reftext_ev m (by omega) h3) (Ev.ite_pos rfl (Ev.bind (text_ev raw (by omega) (fun x hx => (hw x hx).1)) (Ev.bind (reftext_ev raw (by omega) hw) ?_)))))
    rw [show ((S (textR raw)).toList != (S (textR raw)).toList) = false from by simp]
    exact texts_j1 s at_ c how (textR m) (by omega) (by have := textR_len m; omega) ha hc hh
theorem TableTexts : guichetlaw14_TableTexts.Pure := by
  intro raw l few s at_ c how _ hraw _ hl hf _ hat hc hh
  refine Ev.rounds (g := fun k => guichetlaw14_TableTexts.f k raw l few s at_ c how) ?_
  have hat2 : 0 ≤ at_ ∧ at_ ≤ 65535 := by
    simp [Lit.wf, IntKind.min, IntKind.max, IntKind.bits, IntKind.signed] at hat
    omega
  have hj : ∀ stop, (stop = false → raw.length ≤ 40 ∧ l.length ≤ 40 ∧ s.size ≤ 200) → Ev (fun k => guichetlaw14_TableTexts.j0 k raw l few s at_ c how stop) true := fun stop h =>
    texts_j0 raw l few s at_ c how stop h (fun x hx => by obtain ⟨a, b, c, d⟩ := hraw x hx; exact ⟨U8.of b, a, c, d⟩) (fun x hx => by obtain ⟨a, b, c, d⟩ := hl x hx; exact ⟨U8.of a, U8.of b, U8.of c, U8.of d⟩) (U8.of hf) hat2 (U8.of hc) (U8.of hh)
  unfold guichetlaw14_TableTexts.f
  refine Ev.bind known_true (Ev.ite_pos rfl ?_)
  by_cases h1 : (raw.length : Int) > 40
  · exact Ev.ite_pos h1 (hj true (fun h => by cases h))
  · refine Ev.ite_neg h1 ?_
    by_cases h2 : (l.length : Int) > 40
    · exact Ev.ite_pos h2 (hj true (fun h => by cases h))
    · refine Ev.ite_neg h2 (hj _ (fun h => ⟨by omega, by omega, ?_⟩))
      rw [decide_eq_false_iff_not] at h
      omega
end Go.Proofs.YthajndlkibpncaaDoor.Pure
