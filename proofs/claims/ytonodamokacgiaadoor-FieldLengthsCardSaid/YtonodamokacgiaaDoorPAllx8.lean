-- written by xprint.py out of the translation. Not trusted: Lean checks it.
import Derived.Test.YtonodamokacgiaaDoorPAllx0
import Derived.Test.YtonodamokacgiaaDoorPAllx2
import Derived.Test.YtonodamokacgiaaDoorPAllx3
import Derived.Test.YtonodamokacgiaaDoorPAllx4
import Derived.Test.YtonodamokacgiaaDoorPAllx5
import Derived.Test.YtonodamokacgiaaDoorPAllx7
namespace Go.Proofs.YtonodamokacgiaaDoor.PAll
open Go.RowKit Go.Proofs.YtonodamokacgiaaDoorW.PrintWords Go.Proofs.YtonodamokacgiaaDoorW.PrintLast Go.Proofs.YtonodamokacgiaaDoorW.PrintMore
attribute [local go_sem] max2_int min2_int max_two min_two max_three min_three max_four min_four   -- for this text's walks alone
set_option linter.unusedVariables false
set_option linter.unusedSimpArgs false

/-! ### guichetlaw8_FieldLengths: function 4 -/
mutual
def guichetlaw8_FieldLengths.l0 : Nat → Int → Int → List Int → Int → Int → Bool → Int → Int → Option (Bool)
  | 0, _, _, _, _, _, _, _, _ => none
  | k + 1, x2, x7, x41, x42, x43, x226000, x226001, x226002 => if x43 < x42 then (if 0 ≤ x43 then (if x43 < (x41.length : Int) then (if 0 ≤ (mx (rd x41 x43) 0) then (if (mx (rd x41 x43) 0 : Int).toNat ≤ 281474976710656 then (guichetlaw8_FieldLengths.l1 k x2 x7 (rd x41 x43) (List.replicate (mx (rd x41 x43) 0 : Int).toNat 0) 0 x41 x42 x43 x226000 x226001 x226002) else (none)) else (none)) else (none)) else (none)) else (some true)
def guichetlaw8_FieldLengths.l1 : Nat → Int → Int → Int → List Int → Int → List Int → Int → Int → Bool → Int → Int → Option (Bool)
  | 0, _, _, _, _, _, _, _, _, _, _, _ => none
  | k + 1, x2, x7, x11, x12, x13, x41, x42, x43, x226000, x226001, x226002 => if x13 < (x12.length : Int) then (if 0 ≤ x13 then (guichetlaw8_FieldLengths.l1 k x2 x7 x11 (x12.set (x13 : Int).toNat x2) (wrap64 (x13 + 1)) x41 x42 x43 x226000 x226001 x226002) else (none)) else (if x11 = x226001 then (guichetlaw8_FieldLengths.j2 k x2 x7 x11 x12 true x41 x42 x43 x226000 x226001 x226002) else (if x226002 > 0 then (if x11 ≥ 1 then (guichetlaw8_FieldLengths.j2 k x2 x7 x11 x12 (decide (x11 ≤ x226001)) x41 x42 x43 x226000 x226001 x226002) else (guichetlaw8_FieldLengths.j2 k x2 x7 x11 x12 false x41 x42 x43 x226000 x226001 x226002)) else (guichetlaw8_FieldLengths.j2 k x2 x7 x11 x12 false x41 x42 x43 x226000 x226001 x226002)))
def guichetlaw8_FieldLengths.j2 : Nat → Int → Int → Int → List Int → Bool → List Int → Int → Int → Bool → Int → Int → Option (Bool)
  | 0, _, _, _, _, _, _, _, _, _, _, _ => none
  | k + 1, x2, x7, x11, x12, x14, x41, x42, x43, x226000, x226001, x226002 => if x14 = true then (if x226000 = true then (if x2 ≥ 48 then (if x2 ≤ 57 then (guichetlaw8_FieldLengths.j3 k x2 x7 x11 x12 true x41 x42 x43 x226000 x226001 x226002) else (guichetlaw8_FieldLengths.j3 k x2 x7 x11 x12 (x11 == 0) x41 x42 x43 x226000 x226001 x226002)) else (guichetlaw8_FieldLengths.j3 k x2 x7 x11 x12 (x11 == 0) x41 x42 x43 x226000 x226001 x226002)) else (if x2 ≥ 32 then (if x2 ≤ 126 then (guichetlaw8_FieldLengths.j3 k x2 x7 x11 x12 true x41 x42 x43 x226000 x226001 x226002) else (guichetlaw8_FieldLengths.j3 k x2 x7 x11 x12 (x11 == 0) x41 x42 x43 x226000 x226001 x226002)) else (guichetlaw8_FieldLengths.j3 k x2 x7 x11 x12 (x11 == 0) x41 x42 x43 x226000 x226001 x226002))) else (guichetlaw8_FieldLengths.j3 k x2 x7 x11 x12 false x41 x42 x43 x226000 x226001 x226002)
def guichetlaw8_FieldLengths.j3 : Nat → Int → Int → Int → List Int → Bool → List Int → Int → Int → Bool → Int → Int → Option (Bool)
  | 0, _, _, _, _, _, _, _, _, _, _, _ => none
  | k + 1, x2, x7, x11, x12, x14, x41, x42, x43, x226000, x226001, x226002 => if x11 < 0 then (guichetlaw8_FieldLengths.l0 k x2 x7 x41 x42 (wrap64 (x43 + 1)) x226000 x226001 x226002) else ((field_Put.f k x7 (strOfNums x12)).bind fun bt235 => ((field_Right.f k x7 (strOfNums x12)).bind fun t239 => (if (t239 != x14) = true then (some false) else (if ((bt235.2 == 0) != x14) = true then (some false) else (guichetlaw8_FieldLengths.l0 k x2 x7 x41 x42 (wrap64 (x43 + 1)) x226000 x226001 x226002)))))
end
def guichetlaw8_FieldLengths.f (k : Nat) (a0 : Int) (a1 : Int) (a2 : Int) : Option (Bool) := (guichetlaw8_known.f k).bind fun t219 => (if t219 = true then ((guichetlaw8_number.f a0).bind fun t220 => ((guichetref1_Of.f k t220).bind fun bt221 => (if bt221.2.2.2 = true then ((some (([0, 1, wrap64 (bt221.2.1 - 1), bt221.2.1, wrap64 (bt221.2.1 + 1), wrap64 (a1)] : List Int) : List Int)).bind fun y227 => (guichetlaw8_FieldLengths.l0 k a2 t220 y227 (y227.length : Int) 0 bt221.1 bt221.2.1 bt221.2.2.1)) else ((field_Right.f k t220 (⟨#[49]⟩ : ByteArray)).bind fun t226 => (some (!t226)))))) else (some false))
theorem guichetlaw8_FieldLengths.mono_l : ∀ k, (∀ y0 y1 y2 y3 y4 y5 y6 y7, LeO (guichetlaw8_FieldLengths.l0 k y0 y1 y2 y3 y4 y5 y6 y7) (guichetlaw8_FieldLengths.l0 (k + 1) y0 y1 y2 y3 y4 y5 y6 y7)) ∧ (∀ y0 y1 y2 y3 y4 y5 y6 y7 y8 y9 y10, LeO (guichetlaw8_FieldLengths.l1 k y0 y1 y2 y3 y4 y5 y6 y7 y8 y9 y10) (guichetlaw8_FieldLengths.l1 (k + 1) y0 y1 y2 y3 y4 y5 y6 y7 y8 y9 y10)) ∧ (∀ y0 y1 y2 y3 y4 y5 y6 y7 y8 y9 y10, LeO (guichetlaw8_FieldLengths.j2 k y0 y1 y2 y3 y4 y5 y6 y7 y8 y9 y10) (guichetlaw8_FieldLengths.j2 (k + 1) y0 y1 y2 y3 y4 y5 y6 y7 y8 y9 y10)) ∧ (∀ y0 y1 y2 y3 y4 y5 y6 y7 y8 y9 y10, LeO (guichetlaw8_FieldLengths.j3 k y0 y1 y2 y3 y4 y5 y6 y7 y8 y9 y10) (guichetlaw8_FieldLengths.j3 (k + 1) y0 y1 y2 y3 y4 y5 y6 y7 y8 y9 y10))
  | 0 => ⟨fun _ _ _ _ _ _ _ _ r h => by simp [guichetlaw8_FieldLengths.l0] at h, fun _ _ _ _ _ _ _ _ _ _ _ r h => by simp [guichetlaw8_FieldLengths.l1] at h, fun _ _ _ _ _ _ _ _ _ _ _ r h => by simp [guichetlaw8_FieldLengths.j2] at h, fun _ _ _ _ _ _ _ _ _ _ _ r h => by simp [guichetlaw8_FieldLengths.j3] at h⟩
  | k + 1 => by
    obtain ⟨ih0, ih1, ih2, ih3⟩ := guichetlaw8_FieldLengths.mono_l k
    refine ⟨?_, ?_, ?_, ?_⟩
    · intro y0 y1 y2 y3 y4 y5 y6 y7
      unfold guichetlaw8_FieldLengths.l0
      repeat' first
      | (with_reducible exact ih0 _ _ _ _ _ _ _ _)
      | (with_reducible exact ih1 _ _ _ _ _ _ _ _ _ _ _)
      | (with_reducible exact ih2 _ _ _ _ _ _ _ _ _ _ _)
      | (with_reducible exact ih3 _ _ _ _ _ _ _ _ _ _ _)
      | (with_reducible exact field_Put.mono _ _ _)
      | (with_reducible exact field_Right.mono _ _ _)
      | (with_reducible exact guichetlaw8_known.mono _)
      | (with_reducible exact guichetref1_Of.mono _ _)
      | (with_reducible exact LeO.refl _)
      | (with_reducible exact LeO.none _)
      | (with_reducible refine LeO.ite ?_ ?_)
      | (with_reducible refine LeO.bind ?_ (fun _ => ?_))
      | exact ih0 _ _ _ _ _ _ _ _
      | exact ih1 _ _ _ _ _ _ _ _ _ _ _
      | exact ih2 _ _ _ _ _ _ _ _ _ _ _
      | exact ih3 _ _ _ _ _ _ _ _ _ _ _
      | exact field_Put.mono _ _ _
      | exact field_Right.mono _ _ _
      | exact guichetlaw8_known.mono _
      | exact guichetref1_Of.mono _ _
      | exact LeO.none _
      | refine LeO.ite ?_ ?_
      | refine LeO.bind ?_ (fun _ => ?_)
    · intro y0 y1 y2 y3 y4 y5 y6 y7 y8 y9 y10
      unfold guichetlaw8_FieldLengths.l1
      repeat' first
      | (with_reducible exact ih0 _ _ _ _ _ _ _ _)
      | (with_reducible exact ih1 _ _ _ _ _ _ _ _ _ _ _)
      | (with_reducible exact ih2 _ _ _ _ _ _ _ _ _ _ _)
      | (with_reducible exact ih3 _ _ _ _ _ _ _ _ _ _ _)
      | (with_reducible exact field_Put.mono _ _ _)
      | (with_reducible exact field_Right.mono _ _ _)
      | (with_reducible exact guichetlaw8_known.mono _)
      | (with_reducible exact guichetref1_Of.mono _ _)
      | (with_reducible exact LeO.refl _)
      | (with_reducible exact LeO.none _)
      | (with_reducible refine LeO.ite ?_ ?_)
      | (with_reducible refine LeO.bind ?_ (fun _ => ?_))
      | exact ih0 _ _ _ _ _ _ _ _
      | exact ih1 _ _ _ _ _ _ _ _ _ _ _
      | exact ih2 _ _ _ _ _ _ _ _ _ _ _
      | exact ih3 _ _ _ _ _ _ _ _ _ _ _
      | exact field_Put.mono _ _ _
      | exact field_Right.mono _ _ _
      | exact guichetlaw8_known.mono _
      | exact guichetref1_Of.mono _ _
      | exact LeO.none _
      | refine LeO.ite ?_ ?_
      | refine LeO.bind ?_ (fun _ => ?_)
    · intro y0 y1 y2 y3 y4 y5 y6 y7 y8 y9 y10
      unfold guichetlaw8_FieldLengths.j2
      repeat' first
      | (with_reducible exact ih0 _ _ _ _ _ _ _ _)
      | (with_reducible exact ih1 _ _ _ _ _ _ _ _ _ _ _)
      | (with_reducible exact ih2 _ _ _ _ _ _ _ _ _ _ _)
      | (with_reducible exact ih3 _ _ _ _ _ _ _ _ _ _ _)
      | (with_reducible exact field_Put.mono _ _ _)
      | (with_reducible exact field_Right.mono _ _ _)
      | (with_reducible exact guichetlaw8_known.mono _)
      | (with_reducible exact guichetref1_Of.mono _ _)
      | (with_reducible exact LeO.refl _)
      | (with_reducible exact LeO.none _)
      | (with_reducible refine LeO.ite ?_ ?_)
      | (with_reducible refine LeO.bind ?_ (fun _ => ?_))
      | exact ih0 _ _ _ _ _ _ _ _
      | exact ih1 _ _ _ _ _ _ _ _ _ _ _
      | exact ih2 _ _ _ _ _ _ _ _ _ _ _
      | exact ih3 _ _ _ _ _ _ _ _ _ _ _
      | exact field_Put.mono _ _ _
      | exact field_Right.mono _ _ _
      | exact guichetlaw8_known.mono _
      | exact guichetref1_Of.mono _ _
      | exact LeO.none _
      | refine LeO.ite ?_ ?_
      | refine LeO.bind ?_ (fun _ => ?_)
    · intro y0 y1 y2 y3 y4 y5 y6 y7 y8 y9 y10
      unfold guichetlaw8_FieldLengths.j3
      repeat' first
      | (with_reducible exact ih0 _ _ _ _ _ _ _ _)
      | (with_reducible exact ih1 _ _ _ _ _ _ _ _ _ _ _)
      | (with_reducible exact ih2 _ _ _ _ _ _ _ _ _ _ _)
      | (with_reducible exact ih3 _ _ _ _ _ _ _ _ _ _ _)
      | (with_reducible exact field_Put.mono _ _ _)
      | (with_reducible exact field_Right.mono _ _ _)
      | (with_reducible exact guichetlaw8_known.mono _)
      | (with_reducible exact guichetref1_Of.mono _ _)
      | (with_reducible exact LeO.refl _)
      | (with_reducible exact LeO.none _)
      | (with_reducible refine LeO.ite ?_ ?_)
      | (with_reducible refine LeO.bind ?_ (fun _ => ?_))
      | exact ih0 _ _ _ _ _ _ _ _
      | exact ih1 _ _ _ _ _ _ _ _ _ _ _
      | exact ih2 _ _ _ _ _ _ _ _ _ _ _
      | exact ih3 _ _ _ _ _ _ _ _ _ _ _
      | exact field_Put.mono _ _ _
      | exact field_Right.mono _ _ _
      | exact guichetlaw8_known.mono _
      | exact guichetref1_Of.mono _ _
      | exact LeO.none _
      | refine LeO.ite ?_ ?_
      | refine LeO.bind ?_ (fun _ => ?_)
theorem guichetlaw8_FieldLengths.mono : ∀ a0 a1 a2 k, LeO (guichetlaw8_FieldLengths.f k a0 a1 a2) (guichetlaw8_FieldLengths.f (k + 1) a0 a1 a2) := by
  intro a0 a1 a2 k
  obtain ⟨ih0, ih1, ih2, ih3⟩ := guichetlaw8_FieldLengths.mono_l k
  unfold guichetlaw8_FieldLengths.f
  repeat' first
      | (with_reducible exact ih0 _ _ _ _ _ _ _ _)
      | (with_reducible exact ih1 _ _ _ _ _ _ _ _ _ _ _)
      | (with_reducible exact ih2 _ _ _ _ _ _ _ _ _ _ _)
      | (with_reducible exact ih3 _ _ _ _ _ _ _ _ _ _ _)
      | (with_reducible exact field_Put.mono _ _ _)
      | (with_reducible exact field_Right.mono _ _ _)
      | (with_reducible exact guichetlaw8_known.mono _)
      | (with_reducible exact guichetref1_Of.mono _ _)
      | (with_reducible exact LeO.refl _)
      | (with_reducible exact LeO.none _)
      | (with_reducible refine LeO.ite ?_ ?_)
      | (with_reducible refine LeO.bind ?_ (fun _ => ?_))
      | exact ih0 _ _ _ _ _ _ _ _
      | exact ih1 _ _ _ _ _ _ _ _ _ _ _
      | exact ih2 _ _ _ _ _ _ _ _ _ _ _
      | exact ih3 _ _ _ _ _ _ _ _ _ _ _
      | exact field_Put.mono _ _ _
      | exact field_Right.mono _ _ _
      | exact guichetlaw8_known.mono _
      | exact guichetref1_Of.mono _ _
      | exact LeO.none _
      | refine LeO.ite ?_ ?_
      | refine LeO.bind ?_ (fun _ => ?_)
set_option maxHeartbeats 8000000 in
set_option maxRecDepth 100000 in
theorem guichetlaw8_FieldLengths.calls (k : Nat) (a0 : Int) (a1 : Int) (a2 : Int) (r : Bool) (w : World) (hT : TAB w) (h : guichetlaw8_FieldLengths.f k a0 a1 a2 = some r) :
    Calls Tryd.prog 4 #[.int .u8 a0, .int .u8 a1, .int .u8 a2] w fun e w' => e = .returned (.bool r) ∧ Below w.heap.size w w' := by
  have HT := Aside0.mk hT
  clear hT
  have hu28 := Tryd.underlying28
  have HB := Aside0.mk (Below.refl w.heap.size w)
  have H : ((guichetlaw8_known.f k).bind fun t219 => (if t219 = true then ((guichetlaw8_number.f a0).bind fun t220 => ((guichetref1_Of.f k t220).bind fun bt221 => (if bt221.2.2.2 = true then ((some (([0, 1, wrap64 (bt221.2.1 - 1), bt221.2.1, wrap64 (bt221.2.1 + 1), wrap64 (a1)] : List Int) : List Int)).bind fun y227 => (guichetlaw8_FieldLengths.l0 k a2 t220 y227 (y227.length : Int) 0 bt221.1 bt221.2.1 bt221.2.2.1)) else ((field_Right.f k t220 (⟨#[49]⟩ : ByteArray)).bind fun t226 => (some (!t226)))))) else (some false))) = some r := h
  clear h
  replace H := Option.bind_eq_some_iff.mp H
  obtain ⟨t219, A40, H⟩ := H
  replace H : (if t219 = true then ((guichetlaw8_number.f a0).bind fun t220 => ((guichetref1_Of.f k t220).bind fun bt221 => (if bt221.2.2.2 = true then ((some (([0, 1, wrap64 (bt221.2.1 - 1), bt221.2.1, wrap64 (bt221.2.1 + 1), wrap64 (a1)] : List Int) : List Int)).bind fun y227 => (guichetlaw8_FieldLengths.l0 k a2 t220 y227 (y227.length : Int) 0 bt221.1 bt221.2.1 bt221.2.2.1)) else ((field_Right.f k t220 (⟨#[49]⟩ : ByteArray)).bind fun t226 => (some (!t226)))))) else (some false)) = some r := H
  have A4 := Aside0.mk A40
  clear A40
  by_cases c5 : t219 = true
  · subst c5
    have H1 : ((guichetlaw8_number.f a0).bind fun t220 => ((guichetref1_Of.f k t220).bind fun bt221 => (if bt221.2.2.2 = true then ((some (([0, 1, wrap64 (bt221.2.1 - 1), bt221.2.1, wrap64 (bt221.2.1 + 1), wrap64 (a1)] : List Int) : List Int)).bind fun y227 => (guichetlaw8_FieldLengths.l0 k a2 t220 y227 (y227.length : Int) 0 bt221.1 bt221.2.1 bt221.2.2.1)) else ((field_Right.f k t220 (⟨#[49]⟩ : ByteArray)).bind fun t226 => (some (!t226)))))) = some r := by rw [if_pos rfl] at H; exact H
    clear H
    have H := H1
    clear H1
    replace H := Option.bind_eq_some_iff.mp H
    obtain ⟨t220, A60, H⟩ := H
    replace H : ((guichetref1_Of.f k t220).bind fun bt221 => (if bt221.2.2.2 = true then ((some (([0, 1, wrap64 (bt221.2.1 - 1), bt221.2.1, wrap64 (bt221.2.1 + 1), wrap64 (a1)] : List Int) : List Int)).bind fun y227 => (guichetlaw8_FieldLengths.l0 k a2 t220 y227 (y227.length : Int) 0 bt221.1 bt221.2.1 bt221.2.2.1)) else ((field_Right.f k t220 (⟨#[49]⟩ : ByteArray)).bind fun t226 => (some (!t226))))) = some r := H
    have A6 := Aside0.mk A60
    clear A60
    replace H := Option.bind_eq_some_iff.mp H
    obtain ⟨⟨t221, t222, t223, t224⟩, A70, H⟩ := H
    replace H : (if t224 = true then ((some (([0, 1, wrap64 (t222 - 1), t222, wrap64 (t222 + 1), wrap64 (a1)] : List Int) : List Int)).bind fun y227 => (guichetlaw8_FieldLengths.l0 k a2 t220 y227 (y227.length : Int) 0 t221 t222 t223)) else ((field_Right.f k t220 (⟨#[49]⟩ : ByteArray)).bind fun t226 => (some (!t226)))) = some r := H
    have A7 := Aside0.mk A70
    clear A70
    by_cases c8 : t224 = true
    · subst c8
      have H1 : ((some (([0, 1, wrap64 (t222 - 1), t222, wrap64 (t222 + 1), wrap64 (a1)] : List Int) : List Int)).bind fun y227 => (guichetlaw8_FieldLengths.l0 k a2 t220 y227 (y227.length : Int) 0 t221 t222 t223)) = some r := by rw [if_pos rfl] at H; exact H
      clear H
      have H := H1
      clear H1
      obtain ⟨y227, hy227⟩ : ∃ y_ : List Int, y_ = (([0, 1, wrap64 (t222 - 1), t222, wrap64 (t222 + 1), wrap64 (a1)] : List Int)) := ⟨_, rfl⟩
      replace H : (guichetlaw8_FieldLengths.l0 k a2 t220 y227 (y227.length : Int) 0 t221 t222 t223) = some r := by first | (rw [hy227]; with_reducible exact H) | (have H2_ := (Option.bind_some _ _).symm.trans H; rw [hy227]; with_reducible exact H2_) | (have H2_ := (Option.bind_some _ _).symm.trans H; with_reducible exact H2_) | with_reducible exact H | (rw [hy227]; exact H) | exact H
      have Ny227 := Aside0.mk hy227
      clear hy227
      have H' := Aside0.mk H
      clear H
      go_enter Tryd.func4, Tryd.ntmps4
      go_wp2_with (first | ((with_reducible refine gate_callee (f := 5) rfl ?_); refine goesL_ (some 17) rfl rfl Tryd.func5 (by kernel_rfl) rfl #[] rfl (by (try simp only [List.map_toArray, List.map_cons, List.map_nil]); first | done | rfl | (simp only [List.length_drop, List.length_take]; rfl) | (rw [hsame_])) ?_; (with_reducible refine (guichetlaw8_known.calls k  true _ ?side1 A4.out).mono ?_); (case side1 => exact tab_at HT.out (by repeat (first | (with_reducible first | exact HB.out | apply below_alloc | apply pw_below_drewN | apply below_drew1) | exact HB.out))); rintro e w9 ⟨rfl, hb⟩; refine ⟨_, rfl, ?_⟩; have n0_ := Aside0.mk (below_step (by repeat (first | (with_reducible first | exact HB.out | apply below_alloc | apply pw_below_drewN | apply below_drew1) | exact HB.out)) hb); clear HB; have HB := n0_; clear n0_; (try clear hb); (try clear hb2); (try clear hk); (try clear hi)) | ((with_reducible refine gate_callee (f := 8) rfl ?_); refine goesL_ (some 20) rfl rfl Tryd.func8 (by kernel_rfl) rfl #[.int .u8 a0] rfl (by (try simp only [List.map_toArray, List.map_cons, List.map_nil]); first | done | rfl | (simp only [List.length_drop, List.length_take]; rfl) | (rw [hsame_])) ?_; (with_reducible refine (guichetlaw8_number.calls a0 t220 _ A6.out).mono ?_); rintro e w10 ⟨rfl, hb⟩; refine ⟨_, rfl, ?_⟩; have n0_ := Aside0.mk (below_step (by repeat (first | (with_reducible first | exact HB.out | apply below_alloc | apply pw_below_drewN | apply below_drew1) | exact HB.out)) hb); clear HB; have HB := n0_; clear n0_; (try clear hb); (try clear hb2); (try clear hk); (try clear hi)) | ((with_reducible refine gate_callee (f := 7) rfl ?_); refine goesL_ (some 23) rfl rfl Tryd.func7 (by kernel_rfl) rfl #[.int .i64 t220] rfl (by (try simp only [List.map_toArray, List.map_cons, List.map_nil]); first | done | rfl | (simp only [List.length_drop, List.length_take]; rfl) | (rw [hsame_])) ?_; (with_reducible refine (guichetref1_Of.calls k t220 t221 t222 t223 true _ A7.out).mono ?_); rintro e w11 ⟨rfl, hb⟩; refine ⟨_, rfl, ?_⟩; have n0_ := Aside0.mk (below_step (by repeat (first | (with_reducible first | exact HB.out | apply below_alloc | apply pw_below_drewN | apply below_drew1) | exact HB.out)) hb); clear HB; have HB := n0_; clear n0_; (try clear hb); (try clear hb2); (try clear hk); (try clear hi)) | ((with_reducible refine gate_dst (N := 8) rfl ?_); refine box_event ?hg (N := 8) ?hd (cs := #[.bool false, .int .i64 0, .int .i64 0]) (t := 28) ?hr ?_; (case hd => rfl); (case hg => rfl); (case hr => first | (go_simp; done) | (go_simp; rfl)); intro gb225 hg w12 hbox hb; have n0_ := Aside0.mk (below_step (by repeat (first | (with_reducible first | exact HB.out | apply below_alloc | apply pw_below_drewN | apply below_drew1) | exact HB.out)) hb); have n1_ := Aside0.mk (hbox); have n2_ := Aside0.mk ((by rw [hg]; exact (below_size (by repeat (first | (with_reducible first | exact HB.out | apply below_alloc | apply pw_below_drewN | apply below_drew1) | exact HB.out))) : w.heap.size ≤ gb225)); have n3_ := Aside0.mk ((by rw [hg]; exact (below_size (by repeat (first | (with_reducible first | exact HB.out | apply below_alloc | apply pw_below_drewN | apply below_drew1) | exact HB.out))) : w.heap.size ≤ gb225)); clear HB; have HB := n0_; have BK225 := n1_; have GW225 := n2_; have GE225 := n3_; clear n0_ n1_ n2_ n3_; clear hb hbox hg; have hcz13_0 : w12.cell? ⟨gb225, 0, none⟩ = some (.bool false) := (blk_cell BK225.out 0).trans rfl; have hcz13_1 : w12.cell? ⟨gb225, 1, none⟩ = some (.int .i64 0) := (blk_cell BK225.out 1).trans rfl; have hcz13_2 : w12.cell? ⟨gb225, 2, none⟩ = some (.int .i64 0) := (blk_cell BK225.out 2).trans rfl; have hfz13_0 := blk_frozen BK225.out 0; have hfz13_1 := blk_frozen BK225.out 1; have hfz13_2 := blk_frozen BK225.out 2) | ((with_reducible refine gate_dst (N := 41) rfl ?_); refine Kd.R_lit (Kd.int .i64) _ 3 ?hg (N := 41) ?hd (xs := ([0, 1, wrap64 (t222 - 1), t222, wrap64 (t222 + 1), wrap64 (a1)] : List Int)) (inner := [.int .i64 0, .int .i64 1, .int .i64 (wrap64 (t222 - 1)), .int .i64 t222, .int .i64 (wrap64 (t222 + 1)), .int .i64 (wrap64 (a1))]) (ok := fun _ => True) (okp := fun _ => True) ?hr ?hp (fun _ hk => hk) trivial (Below.refl _ _) (Nat.le_refl _) (by simp) ?_; (case hd => rfl); (case hg => rfl); (case hr => first | (go_simp; done) | (go_simp; rfl)); (case hp => exact (Reps.one (show Kd.M (Kd.int .i64) _ _ _ 0 [.int .i64 0] from rfl) (Reps.one (show Kd.M (Kd.int .i64) _ _ _ 1 [.int .i64 1] from rfl) (Reps.one (show Kd.M (Kd.int .i64) _ _ _ (wrap64 (t222 - 1)) [.int .i64 (wrap64 (t222 - 1))] from rfl) (Reps.one (show Kd.M (Kd.int .i64) _ _ _ t222 [.int .i64 t222] from rfl) (Reps.one (show Kd.M (Kd.int .i64) _ _ _ (wrap64 (t222 + 1)) [.int .i64 (wrap64 (t222 + 1))] from rfl) (Reps.one (show Kd.M (Kd.int .i64) _ _ _ (wrap64 (a1)) [.int .i64 (wrap64 (a1))] from rfl) (Reps.none _ _)))))))); intro v228 w14 ho15 hb hg_ hnew_; clear hg_ hnew_; (first | rw [← Ny227.out] at ho15 | (simp only [Int.reduceToNat] at ho15; rw [← Ny227.out] at ho15)); have n0_ := Aside0.mk (Kd.R_lower ho15 (below_size (by repeat (first | (with_reducible first | exact HB.out | apply below_alloc | apply pw_below_drewN | apply below_drew1 | refine below_set ?_ GE225.out) | exact HB.out)))); have n1_ := Aside0.mk (blk_below (g := gb225) (o := .cells #[.bool t221, .int .i64 t222, .int .i64 t223] 28 (0, 0)) (by (with_reducible repeat (first | refine blk_drewN ?_ _ | refine blk_drew ?_ | refine blk_alloc ?_ _)); refine blk_put (cs := #[.bool t221, .int .i64 t222, .int .i64 0]) ?_ 2 _ rfl; (with_reducible repeat (first | refine blk_drewN ?_ _ | refine blk_drew ?_ | refine blk_alloc ?_ _)); refine blk_put (cs := #[.bool t221, .int .i64 0, .int .i64 0]) ?_ 1 _ rfl; (with_reducible repeat (first | refine blk_drewN ?_ _ | refine blk_drew ?_ | refine blk_alloc ?_ _)); refine blk_put (cs := #[.bool false, .int .i64 0, .int .i64 0]) ?_ 0 _ rfl; (with_reducible repeat (first | refine blk_drewN ?_ _ | refine blk_drew ?_ | refine blk_alloc ?_ _)); exact BK225.out) hb); have n2_ := Aside0.mk (below_step (by repeat (first | (with_reducible first | exact HB.out | apply below_alloc | apply pw_below_drewN | apply below_drew1 | refine below_set ?_ GE225.out) | exact HB.out)) hb); clear BK225; clear HB; have HO229 := n0_; have BK225 := n1_; have HB := n2_; clear n0_ n1_ n2_; clear hb ho15; obtain ⟨Ao16, co16, eo16⟩ := Kd.R_slice HO229.out; subst eo16))
      go_loopg [43] k (fun kq v43 w' => ∃ (x43_1 : Int), v43 = .int .i64 x43_1 ∧ Aside0 (guichetlaw8_FieldLengths.l0 kq a2 t220 y227 (y227.length : Int) x43_1 t221 t222 t223 = some r) ∧ Aside0 (kq ≤ k) ∧ Aside0 (Kd.R (Kd.int .i64) 3 w' w.heap.size (fun _ => True) (.slice Ao16 y227.length co16) y227) ∧ Aside0 (w'.heap[gb225]? = some (.cells #[.bool t221, .int .i64 t222, .int .i64 t223] 28 (0, 0))) ∧ Aside0 (Below w.heap.size w w'))
      case atStart => exact ⟨(0), (by first | rfl | (simp; done) | (simp [*]; done)), H', ⟨Nat.le_refl _⟩, ⟨by (with_reducible repeat (first | apply Kd.R_alloc | apply Kd.R_drewN | apply Kd.R_drew)); exact HO229.out⟩, ⟨by (with_reducible repeat (first | refine blk_drewN ?_ _ | refine blk_drew ?_ | refine blk_alloc ?_ _)); exact BK225.out⟩, ⟨by repeat (first | (with_reducible first | exact HB.out | apply below_alloc | apply pw_below_drewN | apply below_drew1 | refine below_set ?_ GE225.out) | exact HB.out)⟩⟩
      case round =>
        clear H'
        try clear p2
        try clear c4
        try clear c5
        try clear p6
        try clear c7
        try clear c8
        try clear hcz13_0
        try clear hcz13_1
        try clear hcz13_2
        try clear hfz13_0
        try clear hfz13_1
        try clear hfz13_2
        obtain ⟨x43_1, rfl, HA, HK1, HO_41, BK225, HB⟩ := hrel
        cases gk with
        | zero => exact absurd HA.out (by simp [guichetlaw8_FieldLengths.l0])
        | succ k1 =>
          have H := HA.out
          clear HA
          simp only [guichetlaw8_FieldLengths.l0] at H
          by_cases c17 : x43_1 < (y227.length : Int)
          · rw [if_pos c17] at H
            have c17b0 : decide (x43_1 < (y227.length : Int)) = true := decide_eq_true c17
            clear c17
            by_cases c18 : 0 ≤ x43_1
            · rw [if_pos c18] at H
              have c18b0 : decide (0 ≤ x43_1) = true := decide_eq_true c18
              clear c18
              by_cases c19 : x43_1 < (y227.length : Int)
              · rw [if_pos c19] at H
                have c19b0 : decide (x43_1 < (y227.length : Int)) = true := decide_eq_true c19
                clear c19
                obtain ⟨ji20, hji20⟩ : ∃ j_ : Int, (mx (rd y227 x43_1) 0) = j_ := ⟨_, rfl⟩
                replace H : (if 0 ≤ (ji20) then (if (ji20 : Int).toNat ≤ 281474976710656 then (guichetlaw8_FieldLengths.l1 k1 a2 t220 (rd y227 x43_1) (List.replicate (ji20 : Int).toNat 0) 0 y227 (y227.length : Int) x43_1 t221 t222 t223) else (none)) else (none)) = some r := by first | (rw [hji20] at H; exact H) | (simp only [hji20] at H ⊢; exact H)
                have hji20_ : (if (rd y227 x43_1) < 0 then 0 else (rd y227 x43_1)) = ji20 := hji20
                by_cases c21 : 0 ≤ (ji20)
                · rw [if_pos c21] at H
                  have c21b0 := eq_true c21
                  have c21b1 : decide (0 ≤ (ji20)) = true := decide_eq_true c21
                  clear c21
                  by_cases c22 : (ji20 : Int).toNat ≤ 281474976710656
                  · rw [if_pos c22] at H
                    have c22b0 := eq_true c22
                    have c22b1 : decide ((ji20 : Int).toNat ≤ 281474976710656) = true := decide_eq_true c22
                    clear c22
                    obtain ⟨y231, hy231⟩ : ∃ y_ : List Int, y_ = (List.replicate (ji20 : Int).toNat 0) := ⟨_, rfl⟩
                    replace H : (guichetlaw8_FieldLengths.l1 k1 a2 t220 (rd y227 x43_1) y231 0 y227 (y227.length : Int) x43_1 t221 t222 t223) = some r := by first | (rw [hy231]; with_reducible exact H) | (have H2_ := (Option.bind_some _ _).symm.trans H; rw [hy231]; with_reducible exact H2_) | (have H2_ := (Option.bind_some _ _).symm.trans H; with_reducible exact H2_) | with_reducible exact H | (rw [hy231]; exact H) | exact H
                    have Ny231 := Aside0.mk hy231
                    clear hy231
                    have H' := Aside0.mk H
                    clear H
                    have p230 : 0 ≤ (x43_1 : Int) := of_decide_eq_true (by first | (with_reducible assumption) | assumption)
                    have q230 : x43_1 < (y227.length : Int) := of_decide_eq_true (by first | (with_reducible assumption) | assumption)
                    obtain ⟨ad230, e230, hx230_0⟩ := Kd.at_int (Kd.R_reads' HO_41.out).2.2 x43_1 p230 q230
                    cases e230
                    replace p230 := eq_true p230
                    replace q230 := eq_true q230
                    go_wp2_with (first | ((with_reducible refine gate_dst (N := 49) rfl ?_); refine Kd.R_make (Kd.int .u8) _ 5 rfl (N := 49) rfl 34 _ _ rfl ji20 rfl rfl Tryd.underlying34 (.int .u8 0) 1 info5 rfl (by decide) (by omega) 0 (ok := fun _ => True) (okp := fun _ => True) rfl (fun _ hk => hk) trivial (of_decide_eq_true (by first | (with_reducible assumption) | assumption)) (Nat.le_trans (Nat.mul_le_mul_right _ (of_decide_eq_true (by first | (with_reducible assumption) | assumption) : ji20.toNat ≤ 281474976710656)) (by omega)) (Below.refl _ _) (Nat.le_refl _) ?_; intro v232 w23 ho24 hb hg_ hnew_; clear hg_ hnew_; (first | rw [← Ny231.out] at ho24 | (simp only [Int.reduceToNat] at ho24; rw [← Ny231.out] at ho24)); have n0_ := Aside0.mk (Kd.R_below (by (with_reducible repeat (first | apply Kd.R_alloc | apply Kd.R_drewN | apply Kd.R_drew)); exact HO_41.out) hb); have n1_ := Aside0.mk (Kd.R_lower ho24 (below_size (by repeat (first | (with_reducible first | exact HB.out | apply below_alloc | apply pw_below_drewN | apply below_drew1 | refine below_set ?_ GE225.out) | exact HB.out)))); have n2_ := Aside0.mk (blk_below (g := gb225) (o := .cells #[.bool t221, .int .i64 t222, .int .i64 t223] 28 (0, 0)) (by (with_reducible repeat (first | refine blk_drewN ?_ _ | refine blk_drew ?_ | refine blk_alloc ?_ _)); exact BK225.out) hb); have n3_ := Aside0.mk (below_step (by repeat (first | (with_reducible first | exact HB.out | apply below_alloc | apply pw_below_drewN | apply below_drew1 | refine below_set ?_ GE225.out) | exact HB.out)) hb); clear HO_41; clear BK225; clear HB; have HO_41 := n0_; have HO233 := n1_; have BK225 := n2_; have HB := n3_; clear n0_ n1_ n2_ n3_; clear hb ho24))
                    go_loopg [13] k1 (fun kq v13 w' => ∃ (x12_2 : List Int) (x13_2 : Int), v13 = .int .i64 x13_2 ∧ Aside0 (guichetlaw8_FieldLengths.l1 kq a2 t220 (rd y227 x43_1) x12_2 x13_2 y227 (y227.length : Int) x43_1 t221 t222 t223 = some r) ∧ Aside0 (kq ≤ k1) ∧ Aside0 (Kd.R (Kd.int .u8) 5 w' w.heap.size (fun _ => True) v232 x12_2) ∧ Aside0 (Kd.R (Kd.int .i64) 3 w' w.heap.size (fun _ => True) (.slice (some ad230) y227.length co16) y227) ∧ Aside0 (w'.heap[gb225]? = some (.cells #[.bool t221, .int .i64 t222, .int .i64 t223] 28 (0, 0))) ∧ Aside0 (Below w.heap.size w w'))
                    case atStart => exact ⟨(y231), (0), (by first | rfl | (simp; done) | (simp [*]; done)), H', ⟨Nat.le_refl _⟩, ⟨by (with_reducible repeat (first | apply Kd.R_alloc | apply Kd.R_drewN | apply Kd.R_drew)); exact HO233.out⟩, ⟨by (with_reducible repeat (first | apply Kd.R_alloc | apply Kd.R_drewN | apply Kd.R_drew)); exact HO_41.out⟩, ⟨by (with_reducible repeat (first | refine blk_drewN ?_ _ | refine blk_drew ?_ | refine blk_alloc ?_ _)); exact BK225.out⟩, ⟨by repeat (first | (with_reducible first | exact HB.out | apply below_alloc | apply pw_below_drewN | apply below_drew1 | refine below_set ?_ GE225.out) | exact HB.out)⟩⟩
                    case round =>
                      clear H'
                      try clear c1
                      try clear c2
                      try clear p2
                      try clear q2
                      try clear hx2
                      try clear c4
                      try clear c5
                      try clear p6
                      try clear c7
                      try clear c8
                      try clear c17
                      try clear c17b0
                      try clear c18
                      try clear c18b0
                      try clear c19
                      try clear c19b0
                      try clear c21
                      try clear c21b0
                      try clear c21b1
                      try clear c22
                      try clear c22b0
                      try clear c22b1
                      try clear p23
                      try clear q23
                      try clear hx23
                      try clear hcz13_0
                      try clear hcz13_1
                      try clear hcz13_2
                      try clear hfz13_0
                      try clear hfz13_1
                      try clear hfz13_2
                      try clear hx230_0
                      try clear p2
                      try clear p230
                      try clear p6
                      try clear q230
                      obtain ⟨x12_2, x13_2, rfl, HA, HK2, HO_12, HO_41, BK225, HB⟩ := hrel
                      cases gk with
                      | zero => exact absurd HA.out (by simp [guichetlaw8_FieldLengths.l1])
                      | succ k2 =>
                        have H := HA.out
                        clear HA
                        simp only [guichetlaw8_FieldLengths.l1] at H
                        by_cases c25 : x13_2 < (x12_2.length : Int)
                        · rw [if_pos c25] at H
                          have c25b0 : decide (x13_2 < (x12_2.length : Int)) = true := decide_eq_true c25
                          clear c25
                          by_cases c26 : 0 ≤ x13_2
                          · rw [if_pos c26] at H
                            have c26b0 : decide (0 ≤ x13_2) = true := decide_eq_true c26
                            clear c26
                            obtain ⟨y234, hy234⟩ : ∃ y_ : List Int, y_ = (x12_2.set (x13_2 : Int).toNat a2) := ⟨_, rfl⟩
                            replace H : (guichetlaw8_FieldLengths.l1 k2 a2 t220 (rd y227 x43_1) y234 (wrap64 (x13_2 + 1)) y227 (y227.length : Int) x43_1 t221 t222 t223) = some r := by first | (rw [hy234]; with_reducible exact H) | (have H2_ := (Option.bind_some _ _).symm.trans H; rw [hy234]; with_reducible exact H2_) | (have H2_ := (Option.bind_some _ _).symm.trans H; with_reducible exact H2_) | with_reducible exact H | (rw [hy234]; exact H) | exact H
                            have Ny234 := Aside0.mk hy234
                            clear hy234
                            have H' := Aside0.mk H
                            clear H
                            obtain ⟨Ao28, co28, eo28⟩ := Kd.R_slice HO_12.out
                            subst eo28
                            have p27 : 0 ≤ (x13_2 : Int) := of_decide_eq_true (by first | (with_reducible assumption) | assumption)
                            have q27 : (x13_2 : Int) < ((x12_2.length : Int) : Int) := of_decide_eq_true (by first | (with_reducible assumption) | assumption)
                            obtain ⟨go27, co27, eo27, gb27, gl27, cl27, HG27⟩ := Kd.R_form HO_12.out (by omega)
                            (first | cases eo27 | (injection eo27 with ea_ en_ ec_; (first | subst ea_ | (injection ea_ with ea_; subst ea_)); subst ec_; clear en_))
                            have GB27 := Aside0.mk gb27
                            have GG27 := Aside0.mk HG27
                            clear gb27 gl27 HG27
                            obtain ⟨hx27_0, hf27_0⟩ := Kd.R_celln 0 HO_12.out (x13_2 : Int) p27 q27
                            replace p27 := eq_true p27
                            replace q27 := eq_true q27
                            have HP29 := Kd.R_putg HO_12.out (x13_2 : Int) a2
                            go_wp2_with (first | ((with_reducible refine gate_store (t := 5) (p := 59) rfl ?_); refine store_event (t := 5) (p := 59) (v := ?vo_w30) (w1 := (wr.setCell ⟨go27, (x13_2 : Int).toNat, none⟩ (.int .u8 a2))) ?hg ?ho ?hn ?hr ?_; (case ho => rfl); (case hg => rfl); (case hn => rfl); (case hr => first | (go_simp; done) | (go_simp; rfl)); intro w30 hw; have hg : wr.grownBy w30 (some go27) := (by rw [hw]; exact HP29.2); have hp_ : Kd.R (Kd.int .u8) 5 w30 w.heap.size (fun _ => True) (.slice (some ⟨go27, 0, none⟩) x12_2.length co28) y234 := (by rw [hw, Ny234.out]; exact HP29.1); clear HP29; have n0_ := Aside0.mk (hp_); have n1_ := Aside0.mk (Kd.R_over' (v := (.slice (some ⟨go27, 0, none⟩) x12_2.length co28)) (by (with_reducible repeat (first | apply Kd.R_alloc | apply Kd.R_drewN | apply Kd.R_drew)); exact HO_41.out) (Kd.R_typed HO_12.out) (by decide) hg); have n2_ := Aside0.mk (blk_grown (g := gb225) (o := .cells #[.bool t221, .int .i64 t222, .int .i64 t223] 28 (0, 0)) (by (with_reducible repeat (first | refine blk_drewN ?_ _ | refine blk_drew ?_ | refine blk_alloc ?_ _)); exact BK225.out) hg (Kd.R_ne HO_12.out BK225.out (by decide))); have n3_ := Aside0.mk ((by rw [hw]; exact below_set (HB.out) GB27.out : Below w.heap.size w w30)); clear HO_12; clear HO_41; clear BK225; clear HB; have HO_12 := n0_; have HO_41 := n1_; have BK225 := n2_; have HB := n3_; clear n0_ n1_ n2_ n3_; clear hg hw hp_))
                            go_roundg k2
                            case measure => have := HK1.out; have := HK2.out; omega
                            case rel => exact ⟨(y234), (wrap64 (x13_2 + 1)), (by first | rfl | (simp; done) | (simp [*]; done)), H', ⟨by have := HK1.out; have := HK2.out; omega⟩, ⟨by (with_reducible repeat (first | apply Kd.R_alloc | apply Kd.R_drewN | apply Kd.R_drew)); exact HO_12.out⟩, ⟨by (with_reducible repeat (first | apply Kd.R_alloc | apply Kd.R_drewN | apply Kd.R_drew)); exact HO_41.out⟩, ⟨by (with_reducible repeat (first | refine blk_drewN ?_ _ | refine blk_drew ?_ | refine blk_alloc ?_ _)); exact BK225.out⟩, ⟨by repeat (first | (with_reducible first | exact HB.out | apply below_alloc | apply pw_below_drewN | apply below_drew1 | refine below_set ?_ GE225.out) | exact HB.out)⟩⟩
                          · rw [if_neg c26] at H
                            exact absurd H (by simp)
                        · rw [if_neg c25] at H
                          have c25b0 : decide (x13_2 < (x12_2.length : Int)) = false := decide_eq_false c25
                          clear c25
                          have HC31 := Aside0.mk H
                          clear H
                          obtain ⟨Ao32, co32, eo32⟩ := Kd.R_slice HO_12.out
                          subst eo32
                          go_upto_region 15 with (fail)
                          go_cut [14] (fun v14 wc => ∃ (kq : Nat) (x14_30 : Bool), v14 = .bool x14_30 ∧ Aside0 (guichetlaw8_FieldLengths.j2 kq a2 t220 (rd y227 x43_1) x12_2 x14_30 y227 (y227.length : Int) x43_1 t221 t222 t223 = some r) ∧ Aside0 (kq ≤ k2) ∧ Aside0 (Kd.R (Kd.int .u8) 5 wc w.heap.size (fun _ => True) (.slice Ao32 x12_2.length co32) x12_2) ∧ Aside0 (Kd.R (Kd.int .i64) 3 wc w.heap.size (fun _ => True) (.slice (some ad230) y227.length co16) y227) ∧ Aside0 (wc.heap[gb225]? = some (.cells #[.bool t221, .int .i64 t222, .int .i64 t223] 28 (0, 0))) ∧ Aside0 (Below w.heap.size w wc))
                          case first =>
                            have H := HC31.out
                            clear HC31
                            by_cases c33 : (rd y227 x43_1) = t222
                            · rw [if_pos c33] at H
                              have c33b0 : ((rd y227 x43_1) == t222) = true := beq_iff_eq.mpr c33
                              have c33b1 : ((rd y227 x43_1) != t222) = false := bne_eq_false_iff_eq.mpr c33
                              clear c33
                              (first | rw [c33b0] | (simp only [i64_w, i32_w]; rw [c33b0]) | skip)
                              have H' := Aside0.mk H
                              clear H
                              have hcz34_0 : wr.cell? ⟨gb225, 0, none⟩ = some (.bool t221) := (blk_cell BK225.out 0).trans rfl
                              have hcz34_1 : wr.cell? ⟨gb225, 1, none⟩ = some (.int .i64 t222) := (blk_cell BK225.out 1).trans rfl
                              have hcz34_2 : wr.cell? ⟨gb225, 2, none⟩ = some (.int .i64 t223) := (blk_cell BK225.out 2).trans rfl
                              have hfz34_0 := blk_frozen BK225.out 0
                              have hfz34_1 := blk_frozen BK225.out 1
                              have hfz34_2 := blk_frozen BK225.out 2
                              go_wp2
                              go_meet
                              case rel => exact ⟨_, (true), (by first | rfl | (simp; done) | (simp [*]; done)), H', ⟨by have := HK1.out; have := HK2.out; first | omega | exact Nat.le_refl _⟩, ⟨by (with_reducible repeat (first | apply Kd.R_alloc | apply Kd.R_drewN | apply Kd.R_drew)); exact HO_12.out⟩, ⟨by (with_reducible repeat (first | apply Kd.R_alloc | apply Kd.R_drewN | apply Kd.R_drew)); exact HO_41.out⟩, ⟨by (with_reducible repeat (first | refine blk_drewN ?_ _ | refine blk_drew ?_ | refine blk_alloc ?_ _)); exact BK225.out⟩, ⟨by repeat (first | (with_reducible first | exact HB.out | apply below_alloc | apply pw_below_drewN | apply below_drew1 | refine below_set ?_ GE225.out) | exact HB.out)⟩⟩
                            · rw [if_neg c33] at H
                              have c33b0 : ((rd y227 x43_1) == t222) = false := beq_eq_false_iff_ne.mpr c33
                              have c33b1 : ((rd y227 x43_1) != t222) = true := bne_iff_ne.mpr c33
                              (first | rw [c33b0] | (simp only [i64_w, i32_w]; rw [c33b0]) | skip)
                              by_cases c35 : t223 > 0
                              · rw [if_pos c35] at H
                                have c35b0 : decide (0 < t223) = true := decide_eq_true c35
                                clear c35
                                by_cases c36 : (rd y227 x43_1) ≥ 1
                                · rw [if_pos c36] at H
                                  have c36b0 : decide (1 ≤ (rd y227 x43_1)) = true := decide_eq_true c36
                                  clear c36
                                  have H' := Aside0.mk H
                                  clear H
                                  have hcz37_0 : wr.cell? ⟨gb225, 0, none⟩ = some (.bool t221) := (blk_cell BK225.out 0).trans rfl
                                  have hcz37_1 : wr.cell? ⟨gb225, 1, none⟩ = some (.int .i64 t222) := (blk_cell BK225.out 1).trans rfl
                                  have hcz37_2 : wr.cell? ⟨gb225, 2, none⟩ = some (.int .i64 t223) := (blk_cell BK225.out 2).trans rfl
                                  have hfz37_0 := blk_frozen BK225.out 0
                                  have hfz37_1 := blk_frozen BK225.out 1
                                  have hfz37_2 := blk_frozen BK225.out 2
                                  go_wp2
                                  go_meet
                                  case rel => exact ⟨_, (decide ((rd y227 x43_1) ≤ t222)), (by first | rfl | (simp; done) | (simp [*]; done)), H', ⟨by have := HK1.out; have := HK2.out; first | omega | exact Nat.le_refl _⟩, ⟨by (with_reducible repeat (first | apply Kd.R_alloc | apply Kd.R_drewN | apply Kd.R_drew)); exact HO_12.out⟩, ⟨by (with_reducible repeat (first | apply Kd.R_alloc | apply Kd.R_drewN | apply Kd.R_drew)); exact HO_41.out⟩, ⟨by (with_reducible repeat (first | refine blk_drewN ?_ _ | refine blk_drew ?_ | refine blk_alloc ?_ _)); exact BK225.out⟩, ⟨by repeat (first | (with_reducible first | exact HB.out | apply below_alloc | apply pw_below_drewN | apply below_drew1 | refine below_set ?_ GE225.out) | exact HB.out)⟩⟩
                                · rw [if_neg c36] at H
                                  have c36b0 : decide (1 ≤ (rd y227 x43_1)) = false := decide_eq_false c36
                                  clear c36
                                  have H' := Aside0.mk H
                                  clear H
                                  have hcz38_0 : wr.cell? ⟨gb225, 0, none⟩ = some (.bool t221) := (blk_cell BK225.out 0).trans rfl
                                  have hcz38_1 : wr.cell? ⟨gb225, 1, none⟩ = some (.int .i64 t222) := (blk_cell BK225.out 1).trans rfl
                                  have hcz38_2 : wr.cell? ⟨gb225, 2, none⟩ = some (.int .i64 t223) := (blk_cell BK225.out 2).trans rfl
                                  have hfz38_0 := blk_frozen BK225.out 0
                                  have hfz38_1 := blk_frozen BK225.out 1
                                  have hfz38_2 := blk_frozen BK225.out 2
                                  go_wp2
                                  go_meet
                                  case rel => exact ⟨_, (false), (by first | rfl | (simp; done) | (simp [*]; done)), H', ⟨by have := HK1.out; have := HK2.out; first | omega | exact Nat.le_refl _⟩, ⟨by (with_reducible repeat (first | apply Kd.R_alloc | apply Kd.R_drewN | apply Kd.R_drew)); exact HO_12.out⟩, ⟨by (with_reducible repeat (first | apply Kd.R_alloc | apply Kd.R_drewN | apply Kd.R_drew)); exact HO_41.out⟩, ⟨by (with_reducible repeat (first | refine blk_drewN ?_ _ | refine blk_drew ?_ | refine blk_alloc ?_ _)); exact BK225.out⟩, ⟨by repeat (first | (with_reducible first | exact HB.out | apply below_alloc | apply pw_below_drewN | apply below_drew1 | refine below_set ?_ GE225.out) | exact HB.out)⟩⟩
                              · rw [if_neg c35] at H
                                have c35b0 : decide (0 < t223) = false := decide_eq_false c35
                                clear c35
                                have H' := Aside0.mk H
                                clear H
                                have hcz39_0 : wr.cell? ⟨gb225, 0, none⟩ = some (.bool t221) := (blk_cell BK225.out 0).trans rfl
                                have hcz39_1 : wr.cell? ⟨gb225, 1, none⟩ = some (.int .i64 t222) := (blk_cell BK225.out 1).trans rfl
                                have hcz39_2 : wr.cell? ⟨gb225, 2, none⟩ = some (.int .i64 t223) := (blk_cell BK225.out 2).trans rfl
                                have hfz39_0 := blk_frozen BK225.out 0
                                have hfz39_1 := blk_frozen BK225.out 1
                                have hfz39_2 := blk_frozen BK225.out 2
                                go_wp2
                                go_meet
                                case rel => exact ⟨_, (false), (by first | rfl | (simp; done) | (simp [*]; done)), H', ⟨by have := HK1.out; have := HK2.out; first | omega | exact Nat.le_refl _⟩, ⟨by (with_reducible repeat (first | apply Kd.R_alloc | apply Kd.R_drewN | apply Kd.R_drew)); exact HO_12.out⟩, ⟨by (with_reducible repeat (first | apply Kd.R_alloc | apply Kd.R_drewN | apply Kd.R_drew)); exact HO_41.out⟩, ⟨by (with_reducible repeat (first | refine blk_drewN ?_ _ | refine blk_drew ?_ | refine blk_alloc ?_ _)); exact BK225.out⟩, ⟨by repeat (first | (with_reducible first | exact HB.out | apply below_alloc | apply pw_below_drewN | apply below_drew1 | refine below_set ?_ GE225.out) | exact HB.out)⟩⟩
                          case rest =>
                            clear HC31
                            try clear c1
                            try clear c2
                            try clear p2
                            try clear q2
                            try clear hx2
                            try clear c3
                            try clear c4
                            try clear c5
                            try clear p6
                            try clear c7
                            try clear c8
                            try clear c17
                            try clear c17b0
                            try clear c18
                            try clear c18b0
                            try clear c19
                            try clear c19b0
                            try clear c21
                            try clear c21b0
                            try clear c21b1
                            try clear c22
                            try clear c22b0
                            try clear c22b1
                            try clear p23
                            try clear q23
                            try clear hx23
                            try clear c25
                            try clear c25b0
                            try clear c26
                            try clear c26b0
                            try clear p27
                            try clear q27
                            try clear hx27
                            try clear hf27
                            try clear c33
                            try clear c33b0
                            try clear c33b1
                            try clear c35
                            try clear c35b0
                            try clear c36
                            try clear c36b0
                            try clear hcz13_0
                            try clear hcz13_1
                            try clear hcz13_2
                            try clear hcz34_0
                            try clear hcz34_1
                            try clear hcz34_2
                            try clear hcz37_0
                            try clear hcz37_1
                            try clear hcz37_2
                            try clear hcz38_0
                            try clear hcz38_1
                            try clear hcz38_2
                            try clear hcz39_0
                            try clear hcz39_1
                            try clear hcz39_2
                            try clear hfz13_0
                            try clear hfz13_1
                            try clear hfz13_2
                            try clear hfz34_0
                            try clear hfz34_1
                            try clear hfz34_2
                            try clear hfz37_0
                            try clear hfz37_1
                            try clear hfz37_2
                            try clear hfz38_0
                            try clear hfz38_1
                            try clear hfz38_2
                            try clear hfz39_0
                            try clear hfz39_1
                            try clear hfz39_2
                            try clear hx230_0
                            try clear hx27_0
                            try clear p2
                            try clear p23
                            try clear p230
                            try clear p27
                            try clear p6
                            try clear q2
                            try clear q23
                            try clear q230
                            try clear q27
                            obtain ⟨kq, x14_30, rfl, HA, HJ30, HO_12, HO_41, BK225, HB⟩ := hcut
                            cases kq with
                            | zero => exact absurd HA.out (by simp [guichetlaw8_FieldLengths.j2])
                            | succ kj30 =>
                              have H := HA.out
                              clear HA
                              simp only [guichetlaw8_FieldLengths.j2] at H
                              have HC40 := Aside0.mk H
                              clear H
                              go_upto_region 16 with (fail)
                              go_cut [14] (fun v14 wc => ∃ (kq : Nat) (x14_39 : Bool), v14 = .bool x14_39 ∧ Aside0 (guichetlaw8_FieldLengths.j3 kq a2 t220 (rd y227 x43_1) x12_2 x14_39 y227 (y227.length : Int) x43_1 t221 t222 t223 = some r) ∧ Aside0 (kq ≤ kj30) ∧ Aside0 (Kd.R (Kd.int .u8) 5 wc w.heap.size (fun _ => True) (.slice Ao32 x12_2.length co32) x12_2) ∧ Aside0 (Kd.R (Kd.int .i64) 3 wc w.heap.size (fun _ => True) (.slice (some ad230) y227.length co16) y227) ∧ Aside0 (wc.heap[gb225]? = some (.cells #[.bool t221, .int .i64 t222, .int .i64 t223] 28 (0, 0))) ∧ Aside0 (Below w.heap.size w wc))
                              case first =>
                                have H := HC40.out
                                clear HC40
                                by_cases c41 : x14_30 = true
                                · subst c41
                                  have H1 : (if t221 = true then (if a2 ≥ 48 then (if a2 ≤ 57 then (guichetlaw8_FieldLengths.j3 kj30 a2 t220 (rd y227 x43_1) x12_2 true y227 (y227.length : Int) x43_1 t221 t222 t223) else (guichetlaw8_FieldLengths.j3 kj30 a2 t220 (rd y227 x43_1) x12_2 ((rd y227 x43_1) == 0) y227 (y227.length : Int) x43_1 t221 t222 t223)) else (guichetlaw8_FieldLengths.j3 kj30 a2 t220 (rd y227 x43_1) x12_2 ((rd y227 x43_1) == 0) y227 (y227.length : Int) x43_1 t221 t222 t223)) else (if a2 ≥ 32 then (if a2 ≤ 126 then (guichetlaw8_FieldLengths.j3 kj30 a2 t220 (rd y227 x43_1) x12_2 true y227 (y227.length : Int) x43_1 t221 t222 t223) else (guichetlaw8_FieldLengths.j3 kj30 a2 t220 (rd y227 x43_1) x12_2 ((rd y227 x43_1) == 0) y227 (y227.length : Int) x43_1 t221 t222 t223)) else (guichetlaw8_FieldLengths.j3 kj30 a2 t220 (rd y227 x43_1) x12_2 ((rd y227 x43_1) == 0) y227 (y227.length : Int) x43_1 t221 t222 t223))) = some r := by rw [if_pos rfl] at H; exact H
                                  clear H
                                  have H := H1
                                  clear H1
                                  by_cases c42 : t221 = true
                                  · subst c42
                                    have H1 : (if a2 ≥ 48 then (if a2 ≤ 57 then (guichetlaw8_FieldLengths.j3 kj30 a2 t220 (rd y227 x43_1) x12_2 true y227 (y227.length : Int) x43_1 true t222 t223) else (guichetlaw8_FieldLengths.j3 kj30 a2 t220 (rd y227 x43_1) x12_2 ((rd y227 x43_1) == 0) y227 (y227.length : Int) x43_1 true t222 t223)) else (guichetlaw8_FieldLengths.j3 kj30 a2 t220 (rd y227 x43_1) x12_2 ((rd y227 x43_1) == 0) y227 (y227.length : Int) x43_1 true t222 t223)) = some r := by rw [if_pos rfl] at H; exact H
                                    clear H
                                    have H := H1
                                    clear H1
                                    by_cases c43 : a2 ≥ 48
                                    · rw [if_pos c43] at H
                                      have c43b0 : decide (48 ≤ a2) = true := decide_eq_true c43
                                      clear c43
                                      (first | rw [c43b0] | (simp only [i64_w, i32_w]; rw [c43b0]) | skip)
                                      by_cases c44 : a2 ≤ 57
                                      · rw [if_pos c44] at H
                                        have c44b0 : decide (a2 ≤ 57) = true := decide_eq_true c44
                                        clear c44
                                        have H' := Aside0.mk H
                                        clear H
                                        have hcz45_0 : wc.cell? ⟨gb225, 0, none⟩ = some (.bool true) := (blk_cell BK225.out 0).trans rfl
                                        have hcz45_1 : wc.cell? ⟨gb225, 1, none⟩ = some (.int .i64 t222) := (blk_cell BK225.out 1).trans rfl
                                        have hcz45_2 : wc.cell? ⟨gb225, 2, none⟩ = some (.int .i64 t223) := (blk_cell BK225.out 2).trans rfl
                                        have hfz45_0 := blk_frozen BK225.out 0
                                        have hfz45_1 := blk_frozen BK225.out 1
                                        have hfz45_2 := blk_frozen BK225.out 2
                                        go_wp2
                                        go_meet
                                        case rel => exact ⟨_, (true), (by first | rfl | (simp; done) | (simp [*]; done)), H', ⟨by have := HK1.out; have := HK2.out; have := HJ30.out; first | omega | exact Nat.le_refl _⟩, ⟨by (with_reducible repeat (first | apply Kd.R_alloc | apply Kd.R_drewN | apply Kd.R_drew)); exact HO_12.out⟩, ⟨by (with_reducible repeat (first | apply Kd.R_alloc | apply Kd.R_drewN | apply Kd.R_drew)); exact HO_41.out⟩, ⟨by (with_reducible repeat (first | refine blk_drewN ?_ _ | refine blk_drew ?_ | refine blk_alloc ?_ _)); exact BK225.out⟩, ⟨by repeat (first | (with_reducible first | exact HB.out | apply below_alloc | apply pw_below_drewN | apply below_drew1 | refine below_set ?_ GE225.out) | exact HB.out)⟩⟩
                                      · rw [if_neg c44] at H
                                        have c44b0 : decide (a2 ≤ 57) = false := decide_eq_false c44
                                        clear c44
                                        have H' := Aside0.mk H
                                        clear H
                                        have hcz46_0 : wc.cell? ⟨gb225, 0, none⟩ = some (.bool true) := (blk_cell BK225.out 0).trans rfl
                                        have hcz46_1 : wc.cell? ⟨gb225, 1, none⟩ = some (.int .i64 t222) := (blk_cell BK225.out 1).trans rfl
                                        have hcz46_2 : wc.cell? ⟨gb225, 2, none⟩ = some (.int .i64 t223) := (blk_cell BK225.out 2).trans rfl
                                        have hfz46_0 := blk_frozen BK225.out 0
                                        have hfz46_1 := blk_frozen BK225.out 1
                                        have hfz46_2 := blk_frozen BK225.out 2
                                        go_wp2
                                        go_meet
                                        case rel => exact ⟨_, (((rd y227 x43_1) == 0)), (by first | rfl | (simp; done) | (simp [*]; done)), H', ⟨by have := HK1.out; have := HK2.out; have := HJ30.out; first | omega | exact Nat.le_refl _⟩, ⟨by (with_reducible repeat (first | apply Kd.R_alloc | apply Kd.R_drewN | apply Kd.R_drew)); exact HO_12.out⟩, ⟨by (with_reducible repeat (first | apply Kd.R_alloc | apply Kd.R_drewN | apply Kd.R_drew)); exact HO_41.out⟩, ⟨by (with_reducible repeat (first | refine blk_drewN ?_ _ | refine blk_drew ?_ | refine blk_alloc ?_ _)); exact BK225.out⟩, ⟨by repeat (first | (with_reducible first | exact HB.out | apply below_alloc | apply pw_below_drewN | apply below_drew1 | refine below_set ?_ GE225.out) | exact HB.out)⟩⟩
                                    · rw [if_neg c43] at H
                                      have c43b0 : decide (48 ≤ a2) = false := decide_eq_false c43
                                      clear c43
                                      (first | rw [c43b0] | (simp only [i64_w, i32_w]; rw [c43b0]) | skip)
                                      have H' := Aside0.mk H
                                      clear H
                                      have hcz47_0 : wc.cell? ⟨gb225, 0, none⟩ = some (.bool true) := (blk_cell BK225.out 0).trans rfl
                                      have hcz47_1 : wc.cell? ⟨gb225, 1, none⟩ = some (.int .i64 t222) := (blk_cell BK225.out 1).trans rfl
                                      have hcz47_2 : wc.cell? ⟨gb225, 2, none⟩ = some (.int .i64 t223) := (blk_cell BK225.out 2).trans rfl
                                      have hfz47_0 := blk_frozen BK225.out 0
                                      have hfz47_1 := blk_frozen BK225.out 1
                                      have hfz47_2 := blk_frozen BK225.out 2
                                      go_wp2
                                      go_meet
                                      case rel => exact ⟨_, (((rd y227 x43_1) == 0)), (by first | rfl | (simp; done) | (simp [*]; done)), H', ⟨by have := HK1.out; have := HK2.out; have := HJ30.out; first | omega | exact Nat.le_refl _⟩, ⟨by (with_reducible repeat (first | apply Kd.R_alloc | apply Kd.R_drewN | apply Kd.R_drew)); exact HO_12.out⟩, ⟨by (with_reducible repeat (first | apply Kd.R_alloc | apply Kd.R_drewN | apply Kd.R_drew)); exact HO_41.out⟩, ⟨by (with_reducible repeat (first | refine blk_drewN ?_ _ | refine blk_drew ?_ | refine blk_alloc ?_ _)); exact BK225.out⟩, ⟨by repeat (first | (with_reducible first | exact HB.out | apply below_alloc | apply pw_below_drewN | apply below_drew1 | refine below_set ?_ GE225.out) | exact HB.out)⟩⟩
                                  · replace c42 := Bool.eq_false_iff.mpr c42
                                    subst c42
                                    have H1 : (if a2 ≥ 32 then (if a2 ≤ 126 then (guichetlaw8_FieldLengths.j3 kj30 a2 t220 (rd y227 x43_1) x12_2 true y227 (y227.length : Int) x43_1 false t222 t223) else (guichetlaw8_FieldLengths.j3 kj30 a2 t220 (rd y227 x43_1) x12_2 ((rd y227 x43_1) == 0) y227 (y227.length : Int) x43_1 false t222 t223)) else (guichetlaw8_FieldLengths.j3 kj30 a2 t220 (rd y227 x43_1) x12_2 ((rd y227 x43_1) == 0) y227 (y227.length : Int) x43_1 false t222 t223)) = some r := by rw [if_neg (show ¬ (false = true) by decide)] at H; exact H
                                    clear H
                                    have H := H1
                                    clear H1
                                    by_cases c48 : a2 ≥ 32
                                    · rw [if_pos c48] at H
                                      have c48b0 : decide (32 ≤ a2) = true := decide_eq_true c48
                                      clear c48
                                      by_cases c49 : a2 ≤ 126
                                      · rw [if_pos c49] at H
                                        have c49b0 : decide (a2 ≤ 126) = true := decide_eq_true c49
                                        clear c49
                                        have H' := Aside0.mk H
                                        clear H
                                        have hcz50_0 : wc.cell? ⟨gb225, 0, none⟩ = some (.bool false) := (blk_cell BK225.out 0).trans rfl
                                        have hcz50_1 : wc.cell? ⟨gb225, 1, none⟩ = some (.int .i64 t222) := (blk_cell BK225.out 1).trans rfl
                                        have hcz50_2 : wc.cell? ⟨gb225, 2, none⟩ = some (.int .i64 t223) := (blk_cell BK225.out 2).trans rfl
                                        have hfz50_0 := blk_frozen BK225.out 0
                                        have hfz50_1 := blk_frozen BK225.out 1
                                        have hfz50_2 := blk_frozen BK225.out 2
                                        go_wp2
                                        go_meet
                                        case rel => exact ⟨_, (true), (by first | rfl | (simp; done) | (simp [*]; done)), H', ⟨by have := HK1.out; have := HK2.out; have := HJ30.out; first | omega | exact Nat.le_refl _⟩, ⟨by (with_reducible repeat (first | apply Kd.R_alloc | apply Kd.R_drewN | apply Kd.R_drew)); exact HO_12.out⟩, ⟨by (with_reducible repeat (first | apply Kd.R_alloc | apply Kd.R_drewN | apply Kd.R_drew)); exact HO_41.out⟩, ⟨by (with_reducible repeat (first | refine blk_drewN ?_ _ | refine blk_drew ?_ | refine blk_alloc ?_ _)); exact BK225.out⟩, ⟨by repeat (first | (with_reducible first | exact HB.out | apply below_alloc | apply pw_below_drewN | apply below_drew1 | refine below_set ?_ GE225.out) | exact HB.out)⟩⟩
                                      · rw [if_neg c49] at H
                                        have c49b0 : decide (a2 ≤ 126) = false := decide_eq_false c49
                                        clear c49
                                        have H' := Aside0.mk H
                                        clear H
                                        have hcz51_0 : wc.cell? ⟨gb225, 0, none⟩ = some (.bool false) := (blk_cell BK225.out 0).trans rfl
                                        have hcz51_1 : wc.cell? ⟨gb225, 1, none⟩ = some (.int .i64 t222) := (blk_cell BK225.out 1).trans rfl
                                        have hcz51_2 : wc.cell? ⟨gb225, 2, none⟩ = some (.int .i64 t223) := (blk_cell BK225.out 2).trans rfl
                                        have hfz51_0 := blk_frozen BK225.out 0
                                        have hfz51_1 := blk_frozen BK225.out 1
                                        have hfz51_2 := blk_frozen BK225.out 2
                                        go_wp2
                                        go_meet
                                        case rel => exact ⟨_, (((rd y227 x43_1) == 0)), (by first | rfl | (simp; done) | (simp [*]; done)), H', ⟨by have := HK1.out; have := HK2.out; have := HJ30.out; first | omega | exact Nat.le_refl _⟩, ⟨by (with_reducible repeat (first | apply Kd.R_alloc | apply Kd.R_drewN | apply Kd.R_drew)); exact HO_12.out⟩, ⟨by (with_reducible repeat (first | apply Kd.R_alloc | apply Kd.R_drewN | apply Kd.R_drew)); exact HO_41.out⟩, ⟨by (with_reducible repeat (first | refine blk_drewN ?_ _ | refine blk_drew ?_ | refine blk_alloc ?_ _)); exact BK225.out⟩, ⟨by repeat (first | (with_reducible first | exact HB.out | apply below_alloc | apply pw_below_drewN | apply below_drew1 | refine below_set ?_ GE225.out) | exact HB.out)⟩⟩
                                    · rw [if_neg c48] at H
                                      have c48b0 : decide (32 ≤ a2) = false := decide_eq_false c48
                                      clear c48
                                      have H' := Aside0.mk H
                                      clear H
                                      have hcz52_0 : wc.cell? ⟨gb225, 0, none⟩ = some (.bool false) := (blk_cell BK225.out 0).trans rfl
                                      have hcz52_1 : wc.cell? ⟨gb225, 1, none⟩ = some (.int .i64 t222) := (blk_cell BK225.out 1).trans rfl
                                      have hcz52_2 : wc.cell? ⟨gb225, 2, none⟩ = some (.int .i64 t223) := (blk_cell BK225.out 2).trans rfl
                                      have hfz52_0 := blk_frozen BK225.out 0
                                      have hfz52_1 := blk_frozen BK225.out 1
                                      have hfz52_2 := blk_frozen BK225.out 2
                                      go_wp2
                                      go_meet
                                      case rel => exact ⟨_, (((rd y227 x43_1) == 0)), (by first | rfl | (simp; done) | (simp [*]; done)), H', ⟨by have := HK1.out; have := HK2.out; have := HJ30.out; first | omega | exact Nat.le_refl _⟩, ⟨by (with_reducible repeat (first | apply Kd.R_alloc | apply Kd.R_drewN | apply Kd.R_drew)); exact HO_12.out⟩, ⟨by (with_reducible repeat (first | apply Kd.R_alloc | apply Kd.R_drewN | apply Kd.R_drew)); exact HO_41.out⟩, ⟨by (with_reducible repeat (first | refine blk_drewN ?_ _ | refine blk_drew ?_ | refine blk_alloc ?_ _)); exact BK225.out⟩, ⟨by repeat (first | (with_reducible first | exact HB.out | apply below_alloc | apply pw_below_drewN | apply below_drew1 | refine below_set ?_ GE225.out) | exact HB.out)⟩⟩
                                · replace c41 := Bool.eq_false_iff.mpr c41
                                  subst c41
                                  have H1 : (guichetlaw8_FieldLengths.j3 kj30 a2 t220 (rd y227 x43_1) x12_2 false y227 (y227.length : Int) x43_1 t221 t222 t223) = some r := by rw [if_neg (show ¬ (false = true) by decide)] at H; exact H
                                  clear H
                                  have H := H1
                                  clear H1
                                  have H' := Aside0.mk H
                                  clear H
                                  go_wp2
                                  go_meet
                                  case rel => exact ⟨_, (false), (by first | rfl | (simp; done) | (simp [*]; done)), H', ⟨by have := HK1.out; have := HK2.out; have := HJ30.out; first | omega | exact Nat.le_refl _⟩, ⟨by (with_reducible repeat (first | apply Kd.R_alloc | apply Kd.R_drewN | apply Kd.R_drew)); exact HO_12.out⟩, ⟨by (with_reducible repeat (first | apply Kd.R_alloc | apply Kd.R_drewN | apply Kd.R_drew)); exact HO_41.out⟩, ⟨by (with_reducible repeat (first | refine blk_drewN ?_ _ | refine blk_drew ?_ | refine blk_alloc ?_ _)); exact BK225.out⟩, ⟨by repeat (first | (with_reducible first | exact HB.out | apply below_alloc | apply pw_below_drewN | apply below_drew1 | refine below_set ?_ GE225.out) | exact HB.out)⟩⟩
                              case rest =>
                                clear HC40
                                try clear c1
                                try clear c2
                                try clear p2
                                try clear q2
                                try clear hx2
                                try clear c3
                                try clear c4
                                try clear c5
                                try clear p6
                                try clear c7
                                try clear c8
                                try clear c17
                                try clear c17b0
                                try clear c18
                                try clear c18b0
                                try clear c19
                                try clear c19b0
                                try clear c21
                                try clear c21b0
                                try clear c21b1
                                try clear c22
                                try clear c22b0
                                try clear c22b1
                                try clear p23
                                try clear q23
                                try clear hx23
                                try clear c25
                                try clear c25b0
                                try clear c26
                                try clear c26b0
                                try clear p27
                                try clear q27
                                try clear hx27
                                try clear hf27
                                try clear c33
                                try clear c33b0
                                try clear c33b1
                                try clear c35
                                try clear c35b0
                                try clear c36
                                try clear c36b0
                                try clear c41
                                try clear c42
                                try clear c43
                                try clear c43b0
                                try clear c44
                                try clear c44b0
                                try clear c48
                                try clear c48b0
                                try clear c49
                                try clear c49b0
                                try clear hcz13_0
                                try clear hcz13_1
                                try clear hcz13_2
                                try clear hcz34_0
                                try clear hcz34_1
                                try clear hcz34_2
                                try clear hcz37_0
                                try clear hcz37_1
                                try clear hcz37_2
                                try clear hcz38_0
                                try clear hcz38_1
                                try clear hcz38_2
                                try clear hcz39_0
                                try clear hcz39_1
                                try clear hcz39_2
                                try clear hcz45_0
                                try clear hcz45_1
                                try clear hcz45_2
                                try clear hcz46_0
                                try clear hcz46_1
                                try clear hcz46_2
                                try clear hcz47_0
                                try clear hcz47_1
                                try clear hcz47_2
                                try clear hcz50_0
                                try clear hcz50_1
                                try clear hcz50_2
                                try clear hcz51_0
                                try clear hcz51_1
                                try clear hcz51_2
                                try clear hcz52_0
                                try clear hcz52_1
                                try clear hcz52_2
                                try clear hfz13_0
                                try clear hfz13_1
                                try clear hfz13_2
                                try clear hfz34_0
                                try clear hfz34_1
                                try clear hfz34_2
                                try clear hfz37_0
                                try clear hfz37_1
                                try clear hfz37_2
                                try clear hfz38_0
                                try clear hfz38_1
                                try clear hfz38_2
                                try clear hfz39_0
                                try clear hfz39_1
                                try clear hfz39_2
                                try clear hfz45_0
                                try clear hfz45_1
                                try clear hfz45_2
                                try clear hfz46_0
                                try clear hfz46_1
                                try clear hfz46_2
                                try clear hfz47_0
                                try clear hfz47_1
                                try clear hfz47_2
                                try clear hfz50_0
                                try clear hfz50_1
                                try clear hfz50_2
                                try clear hfz51_0
                                try clear hfz51_1
                                try clear hfz51_2
                                try clear hfz52_0
                                try clear hfz52_1
                                try clear hfz52_2
                                try clear hx230_0
                                try clear hx27_0
                                try clear p2
                                try clear p23
                                try clear p230
                                try clear p27
                                try clear p6
                                try clear q2
                                try clear q23
                                try clear q230
                                try clear q27
                                obtain ⟨kq, x14_39, rfl, HA, HJ39, HO_12, HO_41, BK225, HB⟩ := hcut
                                cases kq with
                                | zero => exact absurd HA.out (by simp [guichetlaw8_FieldLengths.j3])
                                | succ kj39 =>
                                  have H := HA.out
                                  clear HA
                                  simp only [guichetlaw8_FieldLengths.j3] at H
                                  by_cases c53 : (rd y227 x43_1) < 0
                                  · rw [if_pos c53] at H
                                    have c53b0 : decide ((rd y227 x43_1) < 0) = true := decide_eq_true c53
                                    clear c53
                                    have H' := Aside0.mk H
                                    clear H
                                    go_wp2
                                    go_roundg kj39
                                    case measure => have := HK1.out; have := HK2.out; have := HJ30.out; have := HJ39.out; omega
                                    case rel => exact ⟨(wrap64 (x43_1 + 1)), (by first | rfl | (simp; done) | (simp [*]; done)), H', ⟨by have := HK1.out; have := HK2.out; have := HJ30.out; have := HJ39.out; omega⟩, ⟨by (with_reducible repeat (first | apply Kd.R_alloc | apply Kd.R_drewN | apply Kd.R_drew)); exact HO_41.out⟩, ⟨by (with_reducible repeat (first | refine blk_drewN ?_ _ | refine blk_drew ?_ | refine blk_alloc ?_ _)); exact BK225.out⟩, ⟨by repeat (first | (with_reducible first | exact HB.out | apply below_alloc | apply pw_below_drewN | apply below_drew1 | refine below_set ?_ GE225.out) | exact HB.out)⟩⟩
                                  · rw [if_neg c53] at H
                                    have c53b0 : decide ((rd y227 x43_1) < 0) = false := decide_eq_false c53
                                    clear c53
                                    replace H := Option.bind_eq_some_iff.mp H
                                    obtain ⟨⟨t235, t236⟩, A540, H⟩ := H
                                    replace H : ((field_Right.f kj39 t220 (strOfNums x12_2)).bind fun t239 => (if (t239 != x14_39) = true then (some false) else (if ((t236 == 0) != x14_39) = true then (some false) else (guichetlaw8_FieldLengths.l0 kj39 a2 t220 y227 (y227.length : Int) (wrap64 (x43_1 + 1)) t221 t222 t223)))) = some r := H
                                    have A54 := Aside0.mk A540
                                    clear A540
                                    replace H := Option.bind_eq_some_iff.mp H
                                    obtain ⟨t239, A550, H⟩ := H
                                    replace H : (if (t239 != x14_39) = true then (some false) else (if ((t236 == 0) != x14_39) = true then (some false) else (guichetlaw8_FieldLengths.l0 kj39 a2 t220 y227 (y227.length : Int) (wrap64 (x43_1 + 1)) t221 t222 t223))) = some r := H
                                    have A55 := Aside0.mk A550
                                    clear A550
                                    by_cases c56 : (t239 != x14_39) = true
                                    · rw [if_pos c56] at H
                                      have c56b0 : (t239 != x14_39) = true := c56
                                      (try (have c56b1 : decide (t239 = x14_39) = false := by simpa using c56))
                                      (try (have c56b2 : (t239 == x14_39) = false := by simpa using c56))
                                      (try (have c56b3 : ¬ (t239 = x14_39) := by simpa using c56))
                                      clear c56
                                      obtain rfl := Option.some.inj H
                                      have hcv57 := own_string (P := Tryd.prog) Tryd.underlying34 Tryd.underlying5 Tryd.underlying9 (Kd.own_of_R HO_12.out)
                                      go_wp2_with (first | ((with_reducible refine gate_callee (f := 10) rfl ?_); refine goesL_ (some 115) rfl rfl Tryd.func10 (by kernel_rfl) rfl #[.int .i64 t220, .string (strOfNums x12_2)] rfl (by (try simp only [List.map_toArray, List.map_cons, List.map_nil]); first | done | rfl | (simp only [List.length_drop, List.length_take]; rfl) | (rw [hsame_])) ?_; (with_reducible refine (field_Put.calls kj39 t220 (strOfNums x12_2) t235 t236 _ ?side1 A54.out).mono ?_); (case side1 => exact tab_at HT.out (by repeat (first | (with_reducible first | exact HB.out | apply below_alloc | apply pw_below_drewN | apply below_drew1 | refine below_set ?_ GE225.out) | exact HB.out))); rintro e w58 ⟨v237, rfl, ho0, hb⟩; refine ⟨_, rfl, ?_⟩; have n0_ := Aside0.mk (Kd.R_elder' (by (with_reducible repeat (first | apply Kd.R_alloc | apply Kd.R_drewN | apply Kd.R_drew)); exact HO_12.out) (Kd.R_base ho0) hb); have n1_ := Aside0.mk (Kd.R_below (by (with_reducible repeat (first | apply Kd.R_alloc | apply Kd.R_drewN | apply Kd.R_drew)); exact HO_41.out) hb); have n2_ := Aside0.mk (Kd.R_lower (Kd.R_new' ho0 (Kd.R_lt (by (with_reducible repeat (first | apply Kd.R_alloc | apply Kd.R_drewN | apply Kd.R_drew)); exact HO_12.out))) (below_size (by repeat (first | (with_reducible first | exact HB.out | apply below_alloc | apply pw_below_drewN | apply below_drew1 | refine below_set ?_ GE225.out) | exact HB.out)))); have n3_ := Aside0.mk (blk_below (g := gb225) (o := .cells #[.bool t221, .int .i64 t222, .int .i64 t223] 28 (0, 0)) (by (with_reducible repeat (first | refine blk_drewN ?_ _ | refine blk_drew ?_ | refine blk_alloc ?_ _)); exact BK225.out) hb); have n4_ := Aside0.mk (below_step (by repeat (first | (with_reducible first | exact HB.out | apply below_alloc | apply pw_below_drewN | apply below_drew1 | refine below_set ?_ GE225.out) | exact HB.out)) hb); clear HO_12; clear HO_41; clear BK225; clear HB; have HO_12 := n0_; have HO_41 := n1_; have HO238 := n2_; have BK225 := n3_; have HB := n4_; clear n0_ n1_ n2_ n3_ n4_; (try clear hb); (try clear hb2); (try clear hk); (try clear hi); (try clear ho0); have hcv59 := own_string (P := Tryd.prog) Tryd.underlying34 Tryd.underlying5 Tryd.underlying9 (Kd.own_of_R HO_12.out)) | ((with_reducible refine gate_callee (f := 9) rfl ?_); refine goesL_ (some 121) rfl rfl Tryd.func9 (by kernel_rfl) rfl #[.int .i64 t220, .string (strOfNums x12_2)] rfl (by (try simp only [List.map_toArray, List.map_cons, List.map_nil]); first | done | rfl | (simp only [List.length_drop, List.length_take]; rfl) | (rw [hsame_])) ?_; (with_reducible refine (field_Right.calls kj39 t220 (strOfNums x12_2) t239 _ A55.out).mono ?_); rintro e w60 ⟨rfl, hb⟩; refine ⟨_, rfl, ?_⟩; have n0_ := Aside0.mk (Kd.R_below (by (with_reducible repeat (first | apply Kd.R_alloc | apply Kd.R_drewN | apply Kd.R_drew)); exact HO_12.out) hb); have n1_ := Aside0.mk (Kd.R_below (by (with_reducible repeat (first | apply Kd.R_alloc | apply Kd.R_drewN | apply Kd.R_drew)); exact HO_41.out) hb); have n2_ := Aside0.mk (Kd.R_below (by (with_reducible repeat (first | apply Kd.R_alloc | apply Kd.R_drewN | apply Kd.R_drew)); exact HO238.out) hb); have n3_ := Aside0.mk (blk_below (g := gb225) (o := .cells #[.bool t221, .int .i64 t222, .int .i64 t223] 28 (0, 0)) (by (with_reducible repeat (first | refine blk_drewN ?_ _ | refine blk_drew ?_ | refine blk_alloc ?_ _)); exact BK225.out) hb); have n4_ := Aside0.mk (below_step (by repeat (first | (with_reducible first | exact HB.out | apply below_alloc | apply pw_below_drewN | apply below_drew1 | refine below_set ?_ GE225.out) | exact HB.out)) hb); clear HO_12; clear HO_41; clear HO238; clear BK225; clear HB; have HO_12 := n0_; have HO_41 := n1_; have HO238 := n2_; have BK225 := n3_; have HB := n4_; clear n0_ n1_ n2_ n3_ n4_; (try clear hb); (try clear hb2); (try clear hk); (try clear hi)))
                                      go_ret
                                      exact ⟨by first | rfl | (simp [errW_none, errW_some] <;> rfl) | (simp only [← hji20]; first | rfl | (simp [errW_none, errW_some] <;> rfl)) | (simp [*, errW_none, errW_some] <;> rfl), by repeat (first | (with_reducible first | exact HB.out | apply below_alloc | apply pw_below_drewN | apply below_drew1 | refine below_set ?_ GE225.out) | exact HB.out)⟩
                                    · rw [if_neg c56] at H
                                      have c56b0 : (t239 != x14_39) = false := by simpa using c56
                                      (try (have c56b1 : decide (t239 = x14_39) = true := by simpa using c56))
                                      (try (have c56b2 : (t239 == x14_39) = true := by simpa using c56))
                                      clear c56
                                      by_cases c61 : ((t236 == 0) != x14_39) = true
                                      · rw [if_pos c61] at H
                                        have c61b0 : ((t236 == 0) != x14_39) = true := c61
                                        (try (have c61b1 : decide ((t236 == 0) = x14_39) = false := by simpa using c61))
                                        (try (have c61b2 : ((t236 == 0) == x14_39) = false := by simpa using c61))
                                        (try (have c61b3 : ¬ ((t236 == 0) = x14_39) := by simpa using c61))
                                        clear c61
                                        obtain rfl := Option.some.inj H
                                        have hcv62 := own_string (P := Tryd.prog) Tryd.underlying34 Tryd.underlying5 Tryd.underlying9 (Kd.own_of_R HO_12.out)
                                        go_wp2_with (first | ((with_reducible refine gate_callee (f := 10) rfl ?_); refine goesL_ (some 115) rfl rfl Tryd.func10 (by kernel_rfl) rfl #[.int .i64 t220, .string (strOfNums x12_2)] rfl (by (try simp only [List.map_toArray, List.map_cons, List.map_nil]); first | done | rfl | (simp only [List.length_drop, List.length_take]; rfl) | (rw [hsame_])) ?_; (with_reducible refine (field_Put.calls kj39 t220 (strOfNums x12_2) t235 t236 _ ?side1 A54.out).mono ?_); (case side1 => exact tab_at HT.out (by repeat (first | (with_reducible first | exact HB.out | apply below_alloc | apply pw_below_drewN | apply below_drew1 | refine below_set ?_ GE225.out) | exact HB.out))); rintro e w63 ⟨v237, rfl, ho0, hb⟩; refine ⟨_, rfl, ?_⟩; have n0_ := Aside0.mk (Kd.R_elder' (by (with_reducible repeat (first | apply Kd.R_alloc | apply Kd.R_drewN | apply Kd.R_drew)); exact HO_12.out) (Kd.R_base ho0) hb); have n1_ := Aside0.mk (Kd.R_below (by (with_reducible repeat (first | apply Kd.R_alloc | apply Kd.R_drewN | apply Kd.R_drew)); exact HO_41.out) hb); have n2_ := Aside0.mk (Kd.R_lower (Kd.R_new' ho0 (Kd.R_lt (by (with_reducible repeat (first | apply Kd.R_alloc | apply Kd.R_drewN | apply Kd.R_drew)); exact HO_12.out))) (below_size (by repeat (first | (with_reducible first | exact HB.out | apply below_alloc | apply pw_below_drewN | apply below_drew1 | refine below_set ?_ GE225.out) | exact HB.out)))); have n3_ := Aside0.mk (blk_below (g := gb225) (o := .cells #[.bool t221, .int .i64 t222, .int .i64 t223] 28 (0, 0)) (by (with_reducible repeat (first | refine blk_drewN ?_ _ | refine blk_drew ?_ | refine blk_alloc ?_ _)); exact BK225.out) hb); have n4_ := Aside0.mk (below_step (by repeat (first | (with_reducible first | exact HB.out | apply below_alloc | apply pw_below_drewN | apply below_drew1 | refine below_set ?_ GE225.out) | exact HB.out)) hb); clear HO_12; clear HO_41; clear BK225; clear HB; have HO_12 := n0_; have HO_41 := n1_; have HO238 := n2_; have BK225 := n3_; have HB := n4_; clear n0_ n1_ n2_ n3_ n4_; (try clear hb); (try clear hb2); (try clear hk); (try clear hi); (try clear ho0); have hcv64 := own_string (P := Tryd.prog) Tryd.underlying34 Tryd.underlying5 Tryd.underlying9 (Kd.own_of_R HO_12.out)) | ((with_reducible refine gate_callee (f := 9) rfl ?_); refine goesL_ (some 121) rfl rfl Tryd.func9 (by kernel_rfl) rfl #[.int .i64 t220, .string (strOfNums x12_2)] rfl (by (try simp only [List.map_toArray, List.map_cons, List.map_nil]); first | done | rfl | (simp only [List.length_drop, List.length_take]; rfl) | (rw [hsame_])) ?_; (with_reducible refine (field_Right.calls kj39 t220 (strOfNums x12_2) t239 _ A55.out).mono ?_); rintro e w65 ⟨rfl, hb⟩; refine ⟨_, rfl, ?_⟩; have n0_ := Aside0.mk (Kd.R_below (by (with_reducible repeat (first | apply Kd.R_alloc | apply Kd.R_drewN | apply Kd.R_drew)); exact HO_12.out) hb); have n1_ := Aside0.mk (Kd.R_below (by (with_reducible repeat (first | apply Kd.R_alloc | apply Kd.R_drewN | apply Kd.R_drew)); exact HO_41.out) hb); have n2_ := Aside0.mk (Kd.R_below (by (with_reducible repeat (first | apply Kd.R_alloc | apply Kd.R_drewN | apply Kd.R_drew)); exact HO238.out) hb); have n3_ := Aside0.mk (blk_below (g := gb225) (o := .cells #[.bool t221, .int .i64 t222, .int .i64 t223] 28 (0, 0)) (by (with_reducible repeat (first | refine blk_drewN ?_ _ | refine blk_drew ?_ | refine blk_alloc ?_ _)); exact BK225.out) hb); have n4_ := Aside0.mk (below_step (by repeat (first | (with_reducible first | exact HB.out | apply below_alloc | apply pw_below_drewN | apply below_drew1 | refine below_set ?_ GE225.out) | exact HB.out)) hb); clear HO_12; clear HO_41; clear HO238; clear BK225; clear HB; have HO_12 := n0_; have HO_41 := n1_; have HO238 := n2_; have BK225 := n3_; have HB := n4_; clear n0_ n1_ n2_ n3_ n4_; (try clear hb); (try clear hb2); (try clear hk); (try clear hi)))
                                        go_ret
                                        exact ⟨by first | rfl | (simp [errW_none, errW_some] <;> rfl) | (simp only [← hji20]; first | rfl | (simp [errW_none, errW_some] <;> rfl)) | (simp [*, errW_none, errW_some] <;> rfl), by repeat (first | (with_reducible first | exact HB.out | apply below_alloc | apply pw_below_drewN | apply below_drew1 | refine below_set ?_ GE225.out) | exact HB.out)⟩
                                      · rw [if_neg c61] at H
                                        have c61b0 : ((t236 == 0) != x14_39) = false := by simpa using c61
                                        (try (have c61b1 : decide ((t236 == 0) = x14_39) = true := by simpa using c61))
                                        (try (have c61b2 : ((t236 == 0) == x14_39) = true := by simpa using c61))
                                        clear c61
                                        have H' := Aside0.mk H
                                        clear H
                                        have hcv66 := own_string (P := Tryd.prog) Tryd.underlying34 Tryd.underlying5 Tryd.underlying9 (Kd.own_of_R HO_12.out)
                                        go_wp2_with (first | ((with_reducible refine gate_callee (f := 10) rfl ?_); refine goesL_ (some 115) rfl rfl Tryd.func10 (by kernel_rfl) rfl #[.int .i64 t220, .string (strOfNums x12_2)] rfl (by (try simp only [List.map_toArray, List.map_cons, List.map_nil]); first | done | rfl | (simp only [List.length_drop, List.length_take]; rfl) | (rw [hsame_])) ?_; (with_reducible refine (field_Put.calls kj39 t220 (strOfNums x12_2) t235 t236 _ ?side1 A54.out).mono ?_); (case side1 => exact tab_at HT.out (by repeat (first | (with_reducible first | exact HB.out | apply below_alloc | apply pw_below_drewN | apply below_drew1 | refine below_set ?_ GE225.out) | exact HB.out))); rintro e w67 ⟨v237, rfl, ho0, hb⟩; refine ⟨_, rfl, ?_⟩; have n0_ := Aside0.mk (Kd.R_elder' (by (with_reducible repeat (first | apply Kd.R_alloc | apply Kd.R_drewN | apply Kd.R_drew)); exact HO_12.out) (Kd.R_base ho0) hb); have n1_ := Aside0.mk (Kd.R_below (by (with_reducible repeat (first | apply Kd.R_alloc | apply Kd.R_drewN | apply Kd.R_drew)); exact HO_41.out) hb); have n2_ := Aside0.mk (Kd.R_lower (Kd.R_new' ho0 (Kd.R_lt (by (with_reducible repeat (first | apply Kd.R_alloc | apply Kd.R_drewN | apply Kd.R_drew)); exact HO_12.out))) (below_size (by repeat (first | (with_reducible first | exact HB.out | apply below_alloc | apply pw_below_drewN | apply below_drew1 | refine below_set ?_ GE225.out) | exact HB.out)))); have n3_ := Aside0.mk (blk_below (g := gb225) (o := .cells #[.bool t221, .int .i64 t222, .int .i64 t223] 28 (0, 0)) (by (with_reducible repeat (first | refine blk_drewN ?_ _ | refine blk_drew ?_ | refine blk_alloc ?_ _)); exact BK225.out) hb); have n4_ := Aside0.mk (below_step (by repeat (first | (with_reducible first | exact HB.out | apply below_alloc | apply pw_below_drewN | apply below_drew1 | refine below_set ?_ GE225.out) | exact HB.out)) hb); clear HO_12; clear HO_41; clear BK225; clear HB; have HO_12 := n0_; have HO_41 := n1_; have HO238 := n2_; have BK225 := n3_; have HB := n4_; clear n0_ n1_ n2_ n3_ n4_; (try clear hb); (try clear hb2); (try clear hk); (try clear hi); (try clear ho0); have hcv68 := own_string (P := Tryd.prog) Tryd.underlying34 Tryd.underlying5 Tryd.underlying9 (Kd.own_of_R HO_12.out)) | ((with_reducible refine gate_callee (f := 9) rfl ?_); refine goesL_ (some 121) rfl rfl Tryd.func9 (by kernel_rfl) rfl #[.int .i64 t220, .string (strOfNums x12_2)] rfl (by (try simp only [List.map_toArray, List.map_cons, List.map_nil]); first | done | rfl | (simp only [List.length_drop, List.length_take]; rfl) | (rw [hsame_])) ?_; (with_reducible refine (field_Right.calls kj39 t220 (strOfNums x12_2) t239 _ A55.out).mono ?_); rintro e w69 ⟨rfl, hb⟩; refine ⟨_, rfl, ?_⟩; have n0_ := Aside0.mk (Kd.R_below (by (with_reducible repeat (first | apply Kd.R_alloc | apply Kd.R_drewN | apply Kd.R_drew)); exact HO_12.out) hb); have n1_ := Aside0.mk (Kd.R_below (by (with_reducible repeat (first | apply Kd.R_alloc | apply Kd.R_drewN | apply Kd.R_drew)); exact HO_41.out) hb); have n2_ := Aside0.mk (Kd.R_below (by (with_reducible repeat (first | apply Kd.R_alloc | apply Kd.R_drewN | apply Kd.R_drew)); exact HO238.out) hb); have n3_ := Aside0.mk (blk_below (g := gb225) (o := .cells #[.bool t221, .int .i64 t222, .int .i64 t223] 28 (0, 0)) (by (with_reducible repeat (first | refine blk_drewN ?_ _ | refine blk_drew ?_ | refine blk_alloc ?_ _)); exact BK225.out) hb); have n4_ := Aside0.mk (below_step (by repeat (first | (with_reducible first | exact HB.out | apply below_alloc | apply pw_below_drewN | apply below_drew1 | refine below_set ?_ GE225.out) | exact HB.out)) hb); clear HO_12; clear HO_41; clear HO238; clear BK225; clear HB; have HO_12 := n0_; have HO_41 := n1_; have HO238 := n2_; have BK225 := n3_; have HB := n4_; clear n0_ n1_ n2_ n3_ n4_; (try clear hb); (try clear hb2); (try clear hk); (try clear hi)))
                                        go_roundg kj39
                                        case measure => have := HK1.out; have := HK2.out; have := HJ30.out; have := HJ39.out; omega
                                        case rel => exact ⟨(wrap64 (x43_1 + 1)), (by first | rfl | (simp; done) | (simp [*]; done)), H', ⟨by have := HK1.out; have := HK2.out; have := HJ30.out; have := HJ39.out; omega⟩, ⟨by (with_reducible repeat (first | apply Kd.R_alloc | apply Kd.R_drewN | apply Kd.R_drew)); exact HO_41.out⟩, ⟨by (with_reducible repeat (first | refine blk_drewN ?_ _ | refine blk_drew ?_ | refine blk_alloc ?_ _)); exact BK225.out⟩, ⟨by repeat (first | (with_reducible first | exact HB.out | apply below_alloc | apply pw_below_drewN | apply below_drew1 | refine below_set ?_ GE225.out) | exact HB.out)⟩⟩
                  · rw [if_neg c22] at H
                    exact absurd H (by simp)
                · rw [if_neg c21] at H
                  exact absurd H (by simp)
              · rw [if_neg c19] at H
                exact absurd H (by simp)
            · rw [if_neg c18] at H
              exact absurd H (by simp)
          · rw [if_neg c17] at H
            have c17b0 : decide (x43_1 < (y227.length : Int)) = false := decide_eq_false c17
            clear c17
            obtain rfl := Option.some.inj H
            go_wp2
            go_ret
            exact ⟨by first | rfl | (simp [errW_none, errW_some] <;> rfl) | (simp [*, errW_none, errW_some] <;> rfl), by repeat (first | (with_reducible first | exact HB.out | apply below_alloc | apply pw_below_drewN | apply below_drew1 | refine below_set ?_ GE225.out) | exact HB.out)⟩
    · replace c8 := Bool.eq_false_iff.mpr c8
      subst c8
      have H1 : ((field_Right.f k t220 (⟨#[49]⟩ : ByteArray)).bind fun t226 => (some (!t226))) = some r := by rw [if_neg (show ¬ (false = true) by decide)] at H; exact H
      clear H
      have H := H1
      clear H1
      replace H := Option.bind_eq_some_iff.mp H
      obtain ⟨t226, A700, H⟩ := H
      replace H : (some (!t226)) = some r := H
      have A70 := Aside0.mk A700
      clear A700
      obtain rfl := Option.some.inj H
      go_enter Tryd.func4, Tryd.ntmps4
      go_wp2_with (first | ((with_reducible refine gate_callee (f := 5) rfl ?_); refine goesL_ (some 17) rfl rfl Tryd.func5 (by kernel_rfl) rfl #[] rfl (by (try simp only [List.map_toArray, List.map_cons, List.map_nil]); first | done | rfl | (simp only [List.length_drop, List.length_take]; rfl) | (rw [hsame_])) ?_; (with_reducible refine (guichetlaw8_known.calls k  true _ ?side1 A4.out).mono ?_); (case side1 => exact tab_at HT.out (by repeat (first | (with_reducible first | exact HB.out | apply below_alloc | apply pw_below_drewN | apply below_drew1) | exact HB.out))); rintro e w71 ⟨rfl, hb⟩; refine ⟨_, rfl, ?_⟩; have n0_ := Aside0.mk (below_step (by repeat (first | (with_reducible first | exact HB.out | apply below_alloc | apply pw_below_drewN | apply below_drew1) | exact HB.out)) hb); clear HB; have HB := n0_; clear n0_; (try clear hb); (try clear hb2); (try clear hk); (try clear hi)) | ((with_reducible refine gate_callee (f := 8) rfl ?_); refine goesL_ (some 20) rfl rfl Tryd.func8 (by kernel_rfl) rfl #[.int .u8 a0] rfl (by (try simp only [List.map_toArray, List.map_cons, List.map_nil]); first | done | rfl | (simp only [List.length_drop, List.length_take]; rfl) | (rw [hsame_])) ?_; (with_reducible refine (guichetlaw8_number.calls a0 t220 _ A6.out).mono ?_); rintro e w72 ⟨rfl, hb⟩; refine ⟨_, rfl, ?_⟩; have n0_ := Aside0.mk (below_step (by repeat (first | (with_reducible first | exact HB.out | apply below_alloc | apply pw_below_drewN | apply below_drew1) | exact HB.out)) hb); clear HB; have HB := n0_; clear n0_; (try clear hb); (try clear hb2); (try clear hk); (try clear hi)) | ((with_reducible refine gate_callee (f := 7) rfl ?_); refine goesL_ (some 23) rfl rfl Tryd.func7 (by kernel_rfl) rfl #[.int .i64 t220] rfl (by (try simp only [List.map_toArray, List.map_cons, List.map_nil]); first | done | rfl | (simp only [List.length_drop, List.length_take]; rfl) | (rw [hsame_])) ?_; (with_reducible refine (guichetref1_Of.calls k t220 t221 t222 t223 false _ A7.out).mono ?_); rintro e w73 ⟨rfl, hb⟩; refine ⟨_, rfl, ?_⟩; have n0_ := Aside0.mk (below_step (by repeat (first | (with_reducible first | exact HB.out | apply below_alloc | apply pw_below_drewN | apply below_drew1) | exact HB.out)) hb); clear HB; have HB := n0_; clear n0_; (try clear hb); (try clear hb2); (try clear hk); (try clear hi)) | ((with_reducible refine gate_dst (N := 8) rfl ?_); refine box_event ?hg (N := 8) ?hd (cs := #[.bool false, .int .i64 0, .int .i64 0]) (t := 28) ?hr ?_; (case hd => rfl); (case hg => rfl); (case hr => first | (go_simp; done) | (go_simp; rfl)); intro gb225 hg w74 hbox hb; have n0_ := Aside0.mk (below_step (by repeat (first | (with_reducible first | exact HB.out | apply below_alloc | apply pw_below_drewN | apply below_drew1) | exact HB.out)) hb); have n1_ := Aside0.mk (hbox); have n2_ := Aside0.mk ((by rw [hg]; exact (below_size (by repeat (first | (with_reducible first | exact HB.out | apply below_alloc | apply pw_below_drewN | apply below_drew1) | exact HB.out))) : w.heap.size ≤ gb225)); have n3_ := Aside0.mk ((by rw [hg]; exact (below_size (by repeat (first | (with_reducible first | exact HB.out | apply below_alloc | apply pw_below_drewN | apply below_drew1) | exact HB.out))) : w.heap.size ≤ gb225)); clear HB; have HB := n0_; have BK225 := n1_; have GW225 := n2_; have GE225 := n3_; clear n0_ n1_ n2_ n3_; clear hb hbox hg; have hcz75_0 : w74.cell? ⟨gb225, 0, none⟩ = some (.bool false) := (blk_cell BK225.out 0).trans rfl; have hcz75_1 : w74.cell? ⟨gb225, 1, none⟩ = some (.int .i64 0) := (blk_cell BK225.out 1).trans rfl; have hcz75_2 : w74.cell? ⟨gb225, 2, none⟩ = some (.int .i64 0) := (blk_cell BK225.out 2).trans rfl; have hfz75_0 := blk_frozen BK225.out 0; have hfz75_1 := blk_frozen BK225.out 1; have hfz75_2 := blk_frozen BK225.out 2) | ((with_reducible refine gate_callee (f := 9) rfl ?_); refine goesL_ (some 29) rfl rfl Tryd.func9 (by kernel_rfl) rfl #[.int .i64 t220, .string (⟨#[49]⟩ : ByteArray)] rfl (by (try simp only [List.map_toArray, List.map_cons, List.map_nil]); first | done | rfl | (simp only [List.length_drop, List.length_take]; rfl) | (rw [hsame_])) ?_; (with_reducible refine (field_Right.calls k t220 (⟨#[49]⟩ : ByteArray) t226 _ A70.out).mono ?_); rintro e w76 ⟨rfl, hb⟩; refine ⟨_, rfl, ?_⟩; have n0_ := Aside0.mk (blk_below (g := gb225) (o := .cells #[.bool t221, .int .i64 t222, .int .i64 t223] 28 (0, 0)) (by (with_reducible repeat (first | refine blk_drewN ?_ _ | refine blk_drew ?_ | refine blk_alloc ?_ _)); refine blk_put (cs := #[.bool t221, .int .i64 t222, .int .i64 0]) ?_ 2 _ rfl; (with_reducible repeat (first | refine blk_drewN ?_ _ | refine blk_drew ?_ | refine blk_alloc ?_ _)); refine blk_put (cs := #[.bool t221, .int .i64 0, .int .i64 0]) ?_ 1 _ rfl; (with_reducible repeat (first | refine blk_drewN ?_ _ | refine blk_drew ?_ | refine blk_alloc ?_ _)); refine blk_put (cs := #[.bool false, .int .i64 0, .int .i64 0]) ?_ 0 _ rfl; (with_reducible repeat (first | refine blk_drewN ?_ _ | refine blk_drew ?_ | refine blk_alloc ?_ _)); exact BK225.out) hb); have n1_ := Aside0.mk (below_step (by repeat (first | (with_reducible first | exact HB.out | apply below_alloc | apply pw_below_drewN | apply below_drew1 | refine below_set ?_ GE225.out) | exact HB.out)) hb); clear BK225; clear HB; have BK225 := n0_; have HB := n1_; clear n0_ n1_; (try clear hb); (try clear hb2); (try clear hk); (try clear hi)))
      go_ret
      exact ⟨by first | rfl | (simp [errW_none, errW_some] <;> rfl) | (simp [*, errW_none, errW_some] <;> rfl), by repeat (first | (with_reducible first | exact HB.out | apply below_alloc | apply pw_below_drewN | apply below_drew1 | refine below_set ?_ GE225.out) | exact HB.out)⟩
  · replace c5 := Bool.eq_false_iff.mpr c5
    subst c5
    have H1 : (some false) = some r := by rw [if_neg (show ¬ (false = true) by decide)] at H; exact H
    clear H
    have H := H1
    clear H1
    obtain rfl := Option.some.inj H
    go_enter Tryd.func4, Tryd.ntmps4
    go_wp2_with (first | ((with_reducible refine gate_callee (f := 5) rfl ?_); refine goesL_ (some 17) rfl rfl Tryd.func5 (by kernel_rfl) rfl #[] rfl (by (try simp only [List.map_toArray, List.map_cons, List.map_nil]); first | done | rfl | (simp only [List.length_drop, List.length_take]; rfl) | (rw [hsame_])) ?_; (with_reducible refine (guichetlaw8_known.calls k  false _ ?side1 A4.out).mono ?_); (case side1 => exact tab_at HT.out (by repeat (first | (with_reducible first | exact HB.out | apply below_alloc | apply pw_below_drewN | apply below_drew1) | exact HB.out))); rintro e w77 ⟨rfl, hb⟩; refine ⟨_, rfl, ?_⟩; have n0_ := Aside0.mk (below_step (by repeat (first | (with_reducible first | exact HB.out | apply below_alloc | apply pw_below_drewN | apply below_drew1) | exact HB.out)) hb); clear HB; have HB := n0_; clear n0_; (try clear hb); (try clear hb2); (try clear hk); (try clear hi)))
    go_ret
    exact ⟨by first | rfl | (simp [errW_none, errW_some] <;> rfl) | (simp [*, errW_none, errW_some] <;> rfl), by repeat (first | (with_reducible first | exact HB.out | apply below_alloc | apply pw_below_drewN | apply below_drew1) | exact HB.out)⟩

/-- THE ONE PURE STATEMENT of guichetlaw8_FieldLengths. -/
def guichetlaw8_FieldLengths.Pure : Prop := ∀ (a0 : Int) (a1 : Int) (a2 : Int), (Lit.int .u8 a0).wf = true → (Lit.int .u8 a1).wf = true → (Lit.int .u8 a2).wf = true → ∃ k, guichetlaw8_FieldLengths.f k a0 a1 a2 = some true
theorem guichetlaw8_FieldLengths.walk (P : guichetlaw8_FieldLengths.Pure) (a0 : Int) (a1 : Int) (a2 : Int) (w : World) (hT : TAB w) (w0 : (Lit.int .u8 a0).wf = true) (w1 : (Lit.int .u8 a1).wf = true) (w2 : (Lit.int .u8 a2).wf = true) :
    Calls Tryd.prog 4 #[.int .u8 a0, .int .u8 a1, .int .u8 a2] w fun e w' => e = .returned (.bool true) ∧ Below w.heap.size w w' := by
  obtain ⟨k, h⟩ := P a0 a1 a2 w0 w1 w2
  refine (guichetlaw8_FieldLengths.calls k a0 a1 a2 true w hT h).mono ?_
  rintro e w' ⟨rfl, hd⟩
  exact ⟨rfl, hd⟩

end Go.Proofs.YtonodamokacgiaaDoor.PAll
