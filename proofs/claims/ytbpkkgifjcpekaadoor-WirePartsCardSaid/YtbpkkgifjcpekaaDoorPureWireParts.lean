/- Bytes cut at the mark and joined again; parts joined and cut again. -/
import Derived.Test.YtbpkkgifjcpekaaDoorQKnown
import Derived.Test.YtbpkkgifjcpekaaDoorQParts
import Derived.Test.YtbpkkgifjcpekaaDoorPAllx12
namespace Go.Proofs.YtbpkkgifjcpekaaDoor.Pure
open Go.RowKit Go.Proofs.YtbpkkgifjcpekaaDoorW.PrintWords Go.Proofs.YtbpkkgifjcpekaaDoorW.PrintMore Go.Proofs.YtbpkkgifjcpekaaDoor.PAll Go.Proofs.YtbpkkgifjcpekaaDoor.Q

theorem parts_j2 (P : List ByteArray) (hP : P.length ≤ 20) (hs : ∀ s ∈ P, (U s).length ≤ 60) : Ev (fun k => guichetlaw11_WireParts.j2 k P false) true := by
  have hs' : ∀ s ∈ P, (U s).length ≤ 1000 := fun s h => Nat.le_trans (hs s h) (by decide)
  refine Ev.step (f := fun k => (wire_Join.f k P).bind fun a => (guichetref1_Join.f k P).bind fun b => if (strOfNums a.1).toList = (strOfNums b.1).toList then (if (a.2 == b.2) = true then (if a.2 = true then ((wire_Split.f a.1).bind fun t => (guichethelp_Strings.f k t P).bind fun u => some u) else some true) else some false) else some false) (fun k => by simp only [guichetlaw11_WireParts.j2, Bool.false_eq_true, if_false]) ?_
  refine Ev.bind (wire_join P (by omega) hs') (Ev.bind (ref_join P (by omega) hs') (Ev.ite_pos rfl (Ev.ite_pos (by simp) ?_)))
  unfold jn
  by_cases h0 : P.map U = []
  · rw [if_pos h0]
    exact Ev.ite_neg (by simp) (Ev.now _)
  rw [if_neg h0]
  by_cases hb : bad (P.map U) = true
  · rw [if_pos hb]
    exact Ev.ite_neg (by simp) (Ev.now _)
  rw [if_neg hb]
  refine Ev.ite_pos rfl ?_
  have hf := bad_false (Bool.eq_false_iff.2 hb)
  have hl : (Lib.join (P.map U) [28]).length ≤ 100000 ∧ sp (Lib.join (P.map U) [28]) = P.map U := by
    have hM : (P.map U).length = P.length := List.length_map ..
    have hs2 : ∀ x ∈ P.map U, x.length ≤ 60 := fun x hx => by obtain ⟨y, hy, rfl⟩ := List.mem_map.1 hx; exact hs y hy
    cases hq : P.map U with
    | nil => exact absurd hq h0
    | cons s L =>
      rw [hq] at hf hs2 hM
      rw [List.length_cons] at hM
      have h1 := cat_length 60 L (fun x hx => hs2 x (List.mem_cons_of_mem _ hx))
      have h2 := hs2 s List.mem_cons_self
      rw [join_cat]
      exact ⟨by rw [List.length_append]; omega, sp_cat L s (hf s List.mem_cons_self) (fun x hx => hf x (List.mem_cons_of_mem _ hx))⟩
  refine Ev.const_bind (wire_split _ hl.1) ?_
  rw [hl.2, List.map_map, show (S ∘ U) = id from rfl, List.map_id]
  exact Ev.bind (strings_same P (by omega)) (Ev.now _)

theorem parts_l0 (b : List UInt8) (hb : b.length ≤ 200) (P : List ByteArray) (hP : P.length ≤ 20) (d : Nat) : ∀ i : Nat, P.length - i = d → i ≤ P.length → (∀ s ∈ P.take i, (U s).length ≤ 60) → Ev (fun k => guichetlaw11_WireParts.l0 k (ints b) P (i : Int)) true := by
  induction d with
  | zero =>
    intro i hd hi hs
    rw [List.take_of_length_le (by omega)] at hs
    have hM : ((sp b).map S).map U = sp b := by rw [List.map_map, show (U ∘ S) = id from rfl, List.map_id]
    have hL : ((sp b).map S).length ≤ 1000 := by rw [List.length_map]; have := sp_length b; omega
    have hS : ∀ s ∈ (sp b).map S, (U s).length ≤ 1000 := fun s h => by
      obtain ⟨y, hy, rfl⟩ := List.mem_map.1 h
      have := (sp_free b y hy).2
      show y.length ≤ 1000
      omega
    have hj : jn (((sp b).map S).map U) = (ints b, true) := by
      rw [hM, jn, if_neg (sp_ne b), if_neg (by rw [bad_of (fun x hx => (sp_free b x hx).1)]; decide), join_sp]
    have hwj := wire_join ((sp b).map S) (by omega) hS
    rw [hj] at hwj
    refine Ev.step (f := fun k => (wire_Split.f (ints b)).bind fun t423 => ((wire_Join.f k t423).bind fun bt426 => ((guichetref1_Split.f k (ints b)).bind fun t430 => ((guichethelp_Strings.f k t423 t430).bind fun t433 => (if t433 = true then (if bt426.2 = true then (if (strOfNums bt426.1).toList = (strOfNums (ints b)).toList then ((wire_Lrc.f k (ints b)).bind fun t434 => ((guichetref1_Lrc.f k (ints b)).bind fun t435 => (guichetlaw11_WireParts.j2 k P (t434 != t435)))) else (guichetlaw11_WireParts.j2 k P true)) else (guichetlaw11_WireParts.j2 k P true)) else (guichetlaw11_WireParts.j2 k P true)))))) (fun k => by simp only [guichetlaw11_WireParts.l0]; rw [if_neg (by omega)]) ?_
    refine Ev.const_bind (wire_split b (by omega)) ?_
    refine Ev.bind hwj (Ev.bind (ref_split b (by omega)) (Ev.bind (strings_same _ (by omega)) ?_))
    refine Ev.ite_pos rfl (Ev.ite_pos rfl (Ev.ite_pos rfl ?_))
    refine Ev.bind (wire_lrc (ints b) (by rw [List.length_map]; omega)) (Ev.bind (ref_lrc (ints b) (by rw [List.length_map]; omega)) ?_)
    rw [bne_self_eq_false]
    exact parts_j2 P hP hs
  | succ d ih =>
    intro i hd hi hs
    have hlt : i < P.length := by omega
    refine Ev.step (f := fun k => if ((U P[i]).length : Int) > 60 then some true else guichetlaw11_WireParts.l0 k (ints b) P ((i + 1 : Nat) : Int)) (fun k => ?_) ?_
    · simp only [guichetlaw11_WireParts.l0]
      rw [if_pos (by omega), if_pos (by omega), rdOf_lt hlt, U_size, wrap_succ hlt (by omega)]
    · by_cases h : ((U P[i]).length : Int) > 60
      · exact Ev.ite_pos h (Ev.now _)
      · refine Ev.ite_neg h (ih (i + 1) (by omega) (by omega) (fun s hs' => ?_))
        rw [List.take_succ_eq_append_getElem hlt, List.mem_append, List.mem_singleton] at hs'
        rcases hs' with h1 | rfl
        · exact hs s h1
        · omega

theorem WireParts : guichetlaw11_WireParts.Pure := by
  intro l0 P _ _ hw _
  suffices h : Ev (fun k => guichetlaw11_WireParts.f k l0 P) true from h.rounds
  obtain ⟨b, rfl⟩ := ints_of l0 (fun x hx => U8.of (hw x hx))
  unfold guichetlaw11_WireParts.f
  refine Ev.bind known_true (Ev.ite_pos rfl ?_)
  have ht : Ev (fun k => guichetlaw11_WireParts.j0 k (ints b) P true) true := Ev.step (f := fun _ => some true) (fun k => by simp only [guichetlaw11_WireParts.j0, if_true]) (Ev.now _)
  rw [List.length_map]
  by_cases h1 : ((b.length : Nat) : Int) > 200
  · exact Ev.ite_pos h1 ht
  refine Ev.ite_neg h1 ?_
  by_cases h2 : ((P.length : Nat) : Int) > 20
  · rw [decide_eq_true h2]
    exact ht
  rw [decide_eq_false h2]
  refine Ev.step (f := fun k => guichetlaw11_WireParts.l0 k (ints b) P 0) (fun k => by simp only [guichetlaw11_WireParts.j0, Bool.false_eq_true, if_false]) ?_
  exact parts_l0 b (by omega) P (by omega) _ 0 rfl (by omega) (by simp)
end Go.Proofs.YtbpkkgifjcpekaaDoor.Pure
