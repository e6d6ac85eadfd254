import Derived.Test.YtidjkodejcnolaaDoorQKey
import Derived.Test.YtidjkodejcnolaaDoorQKnown10
import Derived.Test.YtidjkodejcnolaaDoorPAllx5
/- StanTexts: the text of any key, which key any text is, and which is ahead. -/
namespace Go.Proofs.YtidjkodejcnolaaDoor.Pure
open Go.RowKit Go.Proofs.YtidjkodejcnolaaDoorW.PrintWords Go.Proofs.YtidjkodejcnolaaDoorW.PrintMore Go.Proofs.YtidjkodejcnolaaDoor.PAll Go.Proofs.YtidjkodejcnolaaDoor.Q
set_option linter.unusedVariables false

theorem place_ok {m : Nat} (h : m ≤ 255) : ∃ r : Int, guichethelp_Place.f (wrap64 (m : Int)) 3 = some r ∧ r ≥ 0 := by
  have hw : wrap64 (m : Int) = (m : Int) := by unfold wrap64; omega
  have ht : Int.tmod (m : Int) 3 = ((m % 3 : Nat) : Int) := by rw [Int.tmod_eq_emod_of_nonneg (by omega)]; rfl
  unfold guichethelp_Place.f
  rw [hw, ht, if_neg (by omega), if_neg (by omega)]
  exact ⟨_, rfl, by omega⟩
theorem texts_l0 (m : Nat) (hm : m ≤ 255) (xs : List ByteArray) (hx : ∀ x ∈ xs, x.size ≤ 1000) (hl : xs.length ≤ 100) (t s t' s' : Int) (d : Nat) : ∀ i : Nat, xs.length - i = d → i ≤ xs.length → Ev (fun k => guichetlaw10_StanTexts.l0 k (m : Int) xs (xs.length : Int) (i : Int) t s t' s') true := by
  induction d with
  | zero =>
    intro i hd hi
    obtain ⟨r, hr, hr0⟩ := place_ok hm
    refine Ev.step (f := fun k => (stan_Less.f k t s t' s').bind fun a => (guichetref1_Less.f t s t' s').bind fun b => (if (a == b) = true then ((stan_Less.f k t' s' t s).bind fun c => (guichetref1_Less.f t' s' t s).bind fun e => (if (c == e) = true then ((stan_Less.f k t s t s).bind fun g => (if g = true then none else ((guichethelp_Place.f (wrap64 (m : Int)) 3).bind fun u => some (decide (u ≥ 0))))) else none)) else none)) (fun k => ?_) ?_
    · simp only [guichetlaw10_StanTexts.l0]
      rw [if_neg (by omega)]
    refine Ev.bind (less_ev _ _ _ _) (Ev.const_bind (ref_less _ _ _ _) (Ev.ite_pos (by simp) ?_))
    refine Ev.bind (less_ev _ _ _ _) (Ev.const_bind (ref_less _ _ _ _) (Ev.ite_pos (by simp) ?_))
    refine Ev.bind (less_ev _ _ _ _) (Ev.ite_neg (by simp) (Ev.const_bind hr ?_))
    rw [decide_eq_true hr0]
    exact Ev.now _
  | succ d ih =>
    intro i hd hi
    have hlt : i < xs.length := by omega
    have hs := hx xs[i] (List.getElem_mem hlt)
    have hnext := ih (i + 1) (by omega) (by omega)
    have hrd : rdOf ByteArray.empty xs (i : Int) = S xs[i].data.toList := by
      unfold rdOf
      rw [Int.toNat_natCast]
      simp [List.getD_eq_getElem?_getD, List.getElem?_eq_getElem hlt]
    generalize hX : xs[i].data.toList = X at hrd
    have hXl : X.length ≤ 1000 := by rw [← hX, ← size_list]; exact hs
    refine Ev.step (f := fun k => (stan_Parse.f k (S X)).bind fun a => (guichetref1_KeyParse.f k (S X)).bind fun b => (if (!(a.1 == b.1) || (!(a.2.1 == b.2.1))) = true then none else (if (a.2.2 != b.2.2) = true then none else guichetlaw10_StanTexts.l0 k (m : Int) xs (xs.length : Int) ((i + 1 : Nat) : Int) t s t' s'))) (fun k => ?_) ?_
    · simp only [guichetlaw10_StanTexts.l0]
      rw [if_pos (by omega), if_pos (by omega), if_pos (by omega), hrd, wrap_succ hlt (by omega)]
    exact Ev.bind (stan_parse X (by omega)) (Ev.bind (ref_parse X (by omega)) (Ev.ite_neg (by simp) (Ev.ite_neg (by simp) hnext)))
theorem strOfNums_size (l : List Int) : (strOfNums l).size = l.length := by
  unfold strOfNums
  show (l.map _).toArray.size = _
  simp
theorem texts_j1 (x : ByteArray) (hx : x.size ≤ 60) (m : Nat) (hm : m ≤ 255) (c : Int) (T : List UInt8) (hT : T.length ≤ 100) (t s t' s' : Int) : Ev (fun k => guichetlaw10_StanTexts.j1 k x (m : Int) c (S T) false t s t' s') true := by
  have hw : wrap64 (m : Int) = (m : Int) := by unfold wrap64; omega
  have ht : Int.tmod (m : Int) 13 = ((m % 13 : Nat) : Int) := by rw [Int.tmod_eq_emod_of_nonneg (by omega)]; rfl
  refine Ev.step (fun k => ?_) (texts_l0 m hm [x, strOfNums (([45, 48, 48, 48, 49, 50, 45, 48, 48, 48, 51, 52, 53] : List Int).set (m % 13) c), S T ++ (⟨#[48]⟩ : ByteArray), (⟨#[45, 57, 57, 57, 57, 57, 45, 48, 48, 48, 48, 48, 49]⟩ : ByteArray), (⟨#[45, 54, 53, 53, 51, 54, 45, 48, 48, 48, 48, 48, 49]⟩ : ByteArray)] (fun y hy => ?_) (by simp) t s t' s' _ 0 rfl (by omega))
  · simp only [guichetlaw10_StanTexts.j1, Bool.false_eq_true, if_false, hw, ht]
    rw [show convLit.f [45, 48, 48, 48, 49, 50, 45, 48, 48, 48, 51, 52, 53] = some [45, 48, 48, 48, 49, 50, 45, 48, 48, 48, 51, 52, 53] from rfl]
    simp only [Option.bind_some]
    rw [if_pos (by omega), if_pos (by simp; omega), if_pos (by rw [S_size]; omega)]
    rfl
  · simp only [List.mem_cons, List.not_mem_nil, or_false] at hy
    rcases hy with rfl | rfl | rfl | rfl | rfl
    · omega
    · rw [strOfNums_size, List.length_set]; decide
    · rw [ByteArray.size_append, S_size]
      have : (⟨#[48]⟩ : ByteArray).size = 1 := rfl
      omega
    · decide
    · decide
theorem texts_j0 (x : ByteArray) (hx : x.size ≤ 60) (m : Nat) (hm : m ≤ 255) (c : Int) {t s : Nat} (ht : t ≤ 65535) (hs : s ≤ 4294967295) (t' s' : Int) : Ev (fun k => guichetlaw10_StanTexts.j0 k x (m : Int) c (t : Int) (s : Int) t' s') true := by
  have hl : (textK t s).length ≤ 100 := by
    unfold textK
    split
    · rw [keyT_len]; decide
    · simp
  have hj := texts_j1 x hx m hm c (textK t s) hl (t : Int) (s : Int) t' s'
  have hp := stan_parse (textK t s) (by omega)
  rw [keyR_text ht] at hp
  refine Ev.step (f := fun k => (stan_Text.f (t : Int) (s : Int)).bind fun a => (stan_Parse.f k a).bind fun b => (guichetref1_KeyText.f k (t : Int) (s : Int)).bind fun u => (if a.toList = u.toList then (if (b.2.2 != (decide ((s : Int) ≤ 999999))) = true then guichetlaw10_StanTexts.j1 k x (m : Int) c a true (t : Int) (s : Int) t' s' else (if b.2.2 = true then guichetlaw10_StanTexts.j1 k x (m : Int) c a (!(b.1 == (t : Int)) || (!(b.2.1 == (s : Int)))) (t : Int) (s : Int) t' s' else guichetlaw10_StanTexts.j1 k x (m : Int) c a false (t : Int) (s : Int) t' s')) else guichetlaw10_StanTexts.j1 k x (m : Int) c a true (t : Int) (s : Int) t' s')) (fun k => by simp only [guichetlaw10_StanTexts.j0]) ?_
  refine Ev.const_bind (stan_text ht hs) (Ev.bind hp (Ev.bind (ref_text ht hs) (Ev.ite_pos rfl ?_)))
  by_cases h : s ≤ 999999
  · rw [if_pos h, decide_eq_true (by omega)]
    refine Ev.ite_neg (by simp) (Ev.ite_pos rfl ?_)
    simpa using hj
  · rw [if_neg h, decide_eq_false (by omega)]
    exact Ev.ite_neg (by simp) (Ev.ite_neg (by simp) hj)
theorem StanTexts : guichetlaw10_StanTexts.Pure := by
  intro t s t' s' x m c small wt ws wt' ws' hx wm wc
  refine Ev.rounds (g := fun n => guichetlaw10_StanTexts.f n t s t' s' x m c small) ?_
  have hT : 0 ≤ t ∧ t ≤ 65535 := by simp [Lit.wf, IntKind.min, IntKind.max, IntKind.bits, IntKind.signed] at wt; omega
  have hS : 0 ≤ s ∧ s ≤ 4294967295 := by simp [Lit.wf, IntKind.min, IntKind.max, IntKind.bits, IntKind.signed] at ws; omega
  have hM : 0 ≤ m ∧ m ≤ 255 := U8.of wm
  obtain ⟨t, rfl⟩ := nat_of hT.1
  obtain ⟨s, rfl⟩ := nat_of hS.1
  obtain ⟨m, rfl⟩ := nat_of hM.1
  unfold guichetlaw10_StanTexts.f
  refine Ev.bind known10 (Ev.ite_pos rfl ?_)
  by_cases h : x.size > 60
  · exact Ev.ite_pos (by omega) (Ev.now _)
  refine Ev.ite_neg (by omega) ?_
  cases small with
  | true =>
    refine Ev.ite_pos rfl ?_
    rw [show Int.tmod (s : Int) 1000001 = ((s % 1000001 : Nat) : Int) from by rw [Int.tmod_eq_emod_of_nonneg (by omega)]; rfl]
    exact texts_j0 x (by omega) m (by omega) c (by omega) (by omega) _ _
  | false => exact Ev.ite_neg (by simp) (texts_j0 x (by omega) m (by omega) c (by omega) (by omega) _ _)
end Go.Proofs.YtidjkodejcnolaaDoor.Pure
