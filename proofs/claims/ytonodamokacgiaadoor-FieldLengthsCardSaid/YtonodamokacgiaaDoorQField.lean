import Derived.Test.YtonodamokacgiaaDoorQBcdPack
import Derived.Test.YtonodamokacgiaaDoorPAllx1
import Derived.Test.YtonodamokacgiaaDoorPAllx2
import Derived.Test.YtonodamokacgiaaDoorPAllx2
import Derived.Test.YtonodamokacgiaaDoorPAllx3
import Derived.Test.YtonodamokacgiaaDoorPAllx5
import Derived.Test.YtonodamokacgiaaDoorPAllx4
/- Package field: which fields there are, and which values they may have. -/
namespace Go.Proofs.YtonodamokacgiaaDoor.Q
open Go.RowKit Go.Proofs.YtonodamokacgiaaDoorW.PrintWords Go.Proofs.YtonodamokacgiaaDoorW.PrintMore Go.Proofs.YtonodamokacgiaaDoor.PAll
set_option linter.unusedVariables false

/-- A form that is one. -/
def Fits (r : Bool × Int × Int × Bool) : Prop := (r.2.2.2 = true → 1 ≤ r.2.1 ∧ r.2.1 ≤ 999 ∧ (r.1 = true → r.2.1 ≤ 42) ∧ (r.2.2.1 = 0 ∨ r.2.2.1 = 2 ∧ r.2.1 ≤ 99 ∨ r.2.2.1 = 3)) ∧ 0 ≤ r.2.1 ∧ r.2.1 ≤ 999
instance (r : Bool × Int × Int × Bool) : Decidable (Fits r) := by unfold Fits; infer_instance
theorem fits_ite {c : Prop} [Decidable c] {f g : Option (Bool × Int × Int × Bool)} (h1 : ∃ r, f = some r ∧ Fits r) (h2 : ∃ r, g = some r ∧ Fits r) : ∃ r, (if c then f else g) = some r ∧ Fits r := by
  by_cases h : c
  · rw [if_pos h]; exact h1
  · rw [if_neg h]; exact h2
theorem of_some (n : Int) : ∃ r, field_Of.f 5 n = some r ∧ Fits r := by
  simp only [field_Of.f, field_Of.j0, field_Of.j1]
  repeat' first
    | (with_reducible refine fits_ite ?_ ?_)
    | exact ⟨_, rfl, by decide⟩
def formOf (n : Int) : Bool × Int × Int × Bool := (field_Of.f 5 n).getD (false, 0, 0, false)
theorem of_eq (n : Int) : field_Of.f 5 n = some (formOf n) ∧ Fits (formOf n) := by
  obtain ⟨r, h, hf⟩ := of_some n
  unfold formOf
  rw [h]
  exact ⟨rfl, hf⟩
theorem field_of (n : Int) : Ev (fun k => field_Of.f k n) (formOf n) := Ev.of (field_Of.mono n) (of_eq n).1
theorem ref_same (n : Int) : guichetref1_Of.f 5 n = field_Of.f 5 n := by
  simp only [field_Of.f, field_Of.j0, field_Of.j1, guichetref1_Of.f, guichetref1_Of.j0, guichetref1_Of.j1]
theorem ref_of (n : Int) : Ev (fun k => guichetref1_Of.f k n) (formOf n) := Ev.of (guichetref1_Of.mono n) ((ref_same n).trans (of_eq n).1)
theorem known_40 : guichetlaw8_known.f 40 = some true := by decide +kernel
theorem known_true : Ev (fun k => guichetlaw8_known.f k) true := Ev.of guichetlaw8_known.mono known_40

/-- Bytes that may be printed. -/
def IsTxt (c : UInt8) : Prop := 32 ≤ c.toNat ∧ c.toNat ≤ 126
instance (c : UInt8) : Decidable (IsTxt c) := by unfold IsTxt; infer_instance
def AllTxt (l : List UInt8) : Prop := ∀ c ∈ l, IsTxt c
instance (l : List UInt8) : Decidable (AllTxt l) := by unfold AllTxt; infer_instance
theorem AllTxt.cons {c : UInt8} {l : List UInt8} : AllTxt (c :: l) ↔ IsTxt c ∧ AllTxt l := by unfold AllTxt; simp
theorem field_text_l0 (l : List UInt8) (hl : l.length ≤ 140737488355328) (d : Nat) : ∀ i : Nat, l.length - i = d → i ≤ l.length → Ev (fun k => field_text.l0 k (S l) (l.length : Int) (i : Int)) (decide (AllTxt (l.drop i))) := by
  induction d with
  | zero =>
    intro i hd hi
    have e : l.drop i = [] := List.drop_eq_nil_of_le (by omega)
    rw [e]
    exact Ev.step (f := fun _ => some true) (fun k => by simp only [field_text.l0]; rw [if_neg (by omega)]) (Ev.now _)
  | succ d ih =>
    intro i hd hi
    have hlt : i < l.length := by omega
    rw [List.drop_eq_getElem_cons hlt]
    refine Ev.step (f := fun k => if (l[i].toNat : Int) < 32 then some false else if (l[i].toNat : Int) > 126 then some false else field_text.l0 k (S l) (l.length : Int) ((i + 1 : Nat) : Int)) (fun k => ?_) ?_
    · simp only [field_text.l0]
      rw [if_pos (by omega), if_pos (by omega), if_pos (by rw [S_size]; omega), bt_lt hlt, wrap_succ hlt hl]
    by_cases h : IsTxt l[i]
    · have h' := h
      unfold IsTxt at h'
      rw [show decide (AllTxt (l[i] :: l.drop (i + 1))) = decide (AllTxt (l.drop (i + 1))) from by rw [decide_eq_decide, AllTxt.cons]; simp [h]]
      exact Ev.ite_neg (by omega) (Ev.ite_neg (by omega) (ih (i + 1) (by omega) (by omega)))
    · rw [show decide (AllTxt (l[i] :: l.drop (i + 1))) = false from by rw [decide_eq_false_iff_not, AllTxt.cons]; exact fun h' => h h'.1]
      unfold IsTxt at h
      by_cases h1 : (l[i].toNat : Int) < 32
      · exact Ev.ite_pos h1 (Ev.now _)
      · exact Ev.ite_neg h1 (Ev.ite_pos (by omega) (Ev.now _))
theorem field_text_ev (l : List UInt8) (hl : l.length ≤ 140737488355328) : Ev (fun k => field_text.f k (S l)) (decide (AllTxt l)) := field_text_l0 l hl _ 0 rfl (by omega)

/-- May a field of this form have the value? -/
def RightR (f : Bool × Int × Int × Bool) (l : List UInt8) : Prop := f.2.2.2 = true ∧ (l.length : Int) ≤ f.2.1 ∧ 1 ≤ l.length ∧ (f.2.2.1 = 0 → (l.length : Int) = f.2.1) ∧ if f.1 = true then AllDig l else AllTxt l
instance (f : Bool × Int × Int × Bool) (l : List UInt8) : Decidable (RightR f l) := by unfold RightR; infer_instance
theorem pack_not (l : List UInt8) (hl : l.length ≤ 140737488355328) (hd : ¬ AllDig l) : Ev (fun k => bcd_Pack.f k (S l)) ([], false) := by
  unfold bcd_Pack.f
  exact Ev.bind (bcd_digits_ev l hl) (Ev.ite_neg (by simpa using hd) (Ev.now _))
theorem pack_some (l : List UInt8) (hl : l.length ≤ 100) (hd : AllDig l) : ∃ P : List Int, Ev (fun k => bcd_Pack.f k (S l)) (P, true) ∧ P.length ≤ 51 := by
  obtain ⟨m, l', hp, hl', hd', hc⟩ := pack_ev l hd hl
  refine ⟨_, hp, ?_⟩
  rw [pk_length]
  rcases hc with ⟨h, rfl⟩ | ⟨h, rfl⟩
  · omega
  · rw [List.length_cons] at hl'; omega
theorem field_right (n : Int) (l : List UInt8) (hl : l.length ≤ 100000) : Ev (fun k => field_Right.f k n (S l)) (decide (RightR (formOf n) l)) := by
  have hF := (of_eq n).2
  unfold field_Right.f
  refine Ev.bind (field_of n) ?_
  generalize formOf n = f at hF ⊢
  obtain ⟨dig, L, V, ok⟩ := f
  unfold Fits at hF
  simp only at hF
  have ht : ∀ d l' v, ¬ RightR (dig, L, V, ok) l → Ev (fun k => field_Right.j0 k (S l) true d l' v) (decide (RightR (dig, L, V, ok) l)) := fun d l' v h => by
    rw [decide_eq_false h]
    exact Ev.step (f := fun _ => some false) (fun k => by simp only [field_Right.j0, if_true]) (Ev.now _)
  rw [S_size]
  by_cases h0 : ok = true
  · refine Ev.ite_pos h0 ?_
    by_cases h1 : (l.length : Int) > L
    · exact Ev.ite_pos h1 (ht _ _ _ (fun h => by have := h.2.1; simp only at this; omega))
    refine Ev.ite_neg h1 ?_
    by_cases h2 : (l.length : Int) < 1
    · exact Ev.ite_pos h2 (ht _ _ _ (fun h => by have := h.2.2.1; omega))
    refine Ev.ite_neg h2 ?_
    have hgo : (V = 0 → (l.length : Int) = L) → Ev (fun k => field_Right.j0 k (S l) false dig L V) (decide (RightR (dig, L, V, ok) l)) := fun hV => by
      refine Ev.step (f := fun k => if dig = true then ((bcd_Pack.f k (S l)).bind fun t => some t.2) else ((field_text.f k (S l)).bind fun t => some t)) (fun k => by simp only [field_Right.j0, Bool.false_eq_true, if_false]) ?_
      by_cases h3 : dig = true
      · have e : RightR (dig, L, V, ok) l ↔ AllDig l := by
          unfold RightR
          simp only [h3, if_true]
          exact ⟨fun h => h.2.2.2.2, fun h => ⟨h0, by omega, by omega, hV, h⟩⟩
        refine Ev.ite_pos h3 ?_
        by_cases h4 : AllDig l
        · obtain ⟨P, hp, _⟩ := pack_some l (by have := (hF.1 h0).2.2.1 h3; omega) h4
          rw [decide_eq_true (e.2 h4)]
          exact Ev.bind hp (Ev.now _)
        · rw [decide_eq_false (fun h => h4 (e.1 h))]
          exact Ev.bind (pack_not l (by omega) h4) (Ev.now _)
      · have e : RightR (dig, L, V, ok) l ↔ AllTxt l := by
          unfold RightR
          simp only [h3]
          exact ⟨fun h => h.2.2.2.2, fun h => ⟨h0, by omega, by omega, hV, h⟩⟩
        refine Ev.ite_neg h3 ?_
        rw [decide_eq_decide.2 e]
        exact Ev.bind (field_text_ev l (by omega)) (Ev.now _)
    by_cases h5 : V = 0
    · refine Ev.ite_pos h5 ?_
      by_cases h6 : (l.length : Int) = L
      · rw [show ((l.length : Int) != L) = false from by rw [h6]; exact bne_self_eq_false _]
        exact hgo (fun _ => h6)
      · rw [show ((l.length : Int) != L) = true from bne_iff_ne.2 h6]
        exact ht _ _ _ (fun h => h6 (h.2.2.2.1 h5))
    · exact Ev.ite_neg h5 (hgo (fun h => absurd h h5))
  · exact Ev.ite_neg h0 (ht _ _ _ (fun h => h0 h.1))
theorem field_put (n : Int) (l : List UInt8) (hl : l.length ≤ 100000) : ∃ P : List Int, Ev (fun k => field_Put.f k n (S l)) (P, if RightR (formOf n) l then 0 else 27) := by
  have hF := (of_eq n).2
  have hR := field_right n l hl
  have hO := field_of n
  unfold field_Put.f
  generalize formOf n = f at hF hR hO ⊢
  obtain ⟨dig, L, V, ok⟩ := f
  unfold Fits at hF
  simp only at hF
  by_cases h : RightR (dig, L, V, ok) l
  · rw [decide_eq_true h] at hR
    rw [if_pos h]
    obtain ⟨h0, h1, h2, h3, h4⟩ := h
    simp only at h0 h1 h3 h4
    have hF' := hF.1 h0
    -- what stands behind the length
    have hend : ∀ Q : List Int, Q.length ≤ 1000 → ∃ P : List Int, Ev (fun k => if dig = true then ((bcd_Pack.f k (S l)).bind fun t => if Q.length + t.1.length < 140737488355328 then some ((Q ++ t.1, 0) : List Int × Int) else none) else (if Q.length + (S l).size < 140737488355328 then some (Q ++ bytesOf (S l), 0) else none)) (P, 0) := fun Q hQ => by
      by_cases h5 : dig = true
      · rw [if_pos h5] at h4
        obtain ⟨P, hp, hP⟩ := pack_some l (by have := hF'.2.2.1 h5; omega) h4
        exact ⟨_, Ev.ite_pos h5 (Ev.bind hp (Ev.ite_pos (by simp only; omega) (Ev.now _)))⟩
      · exact ⟨_, Ev.ite_neg h5 (Ev.ite_pos (by rw [S_size]; omega) (Ev.now _))⟩
    by_cases h6 : V > 0
    · obtain ⟨m, rfl⟩ := Int.eq_ofNat_of_zero_le (show 0 ≤ V by omega)
      have hm : l.length < 10 ^ m ∧ 1 ≤ m ∧ m ≤ 3 := by
        have h7 : m = 2 ∧ l.length ≤ 99 ∨ m = 3 ∧ l.length ≤ 999 := by omega
        rcases h7 with ⟨rfl, h7⟩ | ⟨rfl, h7⟩
        · exact ⟨by omega, by decide, by decide⟩
        · exact ⟨by omega, by decide, by decide⟩
      have hd : bcd_Digits.f (l.length : Int) (m : Int) = some (S (digN m l.length), true) := by
        rw [bcd_Digits_eq (l.length : Int) (m : Int) (by simp [Lit.wf, IntKind.min, IntKind.max, IntKind.bits, IntKind.signed]; omega)]
        unfold digR
        rw [Int.toNat_natCast, Int.toNat_natCast, if_pos ⟨by omega, by have := hm.2.1; omega, by have := hm.2.2; omega, hm.1⟩]
      obtain ⟨Q, hq, hQ⟩ := pack_some (digN m l.length) (by rw [digN_length]; have := hm.2.2; omega) (digN_dig m l.length)
      obtain ⟨P, hP⟩ := hend Q (by omega)
      refine ⟨P, Ev.bind hR (Ev.ite_pos rfl (Ev.bind hO (Ev.ite_pos h6 ?_)))⟩
      rw [S_size]
      exact Ev.const_bind hd (Ev.bind hq hP)
    · obtain ⟨P, hP⟩ := hend [] (by simp)
      exact ⟨P, Ev.bind hR (Ev.ite_pos rfl (Ev.bind hO (Ev.ite_neg h6 hP)))⟩
  · rw [decide_eq_false h] at hR
    rw [if_neg h]
    exact ⟨[], Ev.bind hR (Ev.ite_neg (by simp) (Ev.now _))⟩
end Go.Proofs.YtonodamokacgiaaDoor.Q
