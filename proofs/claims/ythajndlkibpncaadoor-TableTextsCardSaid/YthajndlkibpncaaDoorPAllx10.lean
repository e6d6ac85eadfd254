-- written by xprint.py out of the translation. Not trusted: Lean checks it.
import Derived.Test.YthajndlkibpncaaDoorPAllx0
import Derived.Test.YthajndlkibpncaaDoorPAllx3
import Derived.Test.YthajndlkibpncaaDoorPAllx5
import Derived.Test.YthajndlkibpncaaDoorPAllx6
import Derived.Test.YthajndlkibpncaaDoorPAllx8
import Derived.Test.YthajndlkibpncaaDoorPAllx9
namespace Go.Proofs.YthajndlkibpncaaDoor.PAll
open Go.RowKit Go.Proofs.YthajndlkibpncaaDoorW.PrintWords Go.Proofs.YthajndlkibpncaaDoorW.PrintLast Go.Proofs.YthajndlkibpncaaDoorW.PrintMore
attribute [local go_sem] max2_int min2_int max_two min_two max_three min_three max_four min_four   -- for this text's walks alone
set_option linter.unusedVariables false
set_option linter.unusedSimpArgs false

/-! ### guichetlaw14_TableTexts: function 4 -/
mutual
def guichetlaw14_TableTexts.j0 : Nat → List (S34) → List (S52) → Int → ByteArray → Int → Int → Int → Bool → Option (Bool)
 | 0, _, _, _, _, _, _, _, _ => none
 | k + 1, x0, x1, x2, x3, x4, x5, x6, x41 => if x41 = true then (some true) else ((guichetseat_Table.f k x1 x2).bind fun t252 => ((table_Text.f k t252).bind fun t255 => ((guichetref12_TableText.f k t252).bind fun t256 => (if t255.toList = t256.toList then ((table_Text.f k x0).bind fun t257 => ((guichetref12_TableText.f k x0).bind fun t258 => (guichetlaw14_TableTexts.j1 k x3 x4 x5 x6 t255 (t257.toList != t258.toList)))) else (guichetlaw14_TableTexts.j1 k x3 x4 x5 x6 t255 true)))))
def guichetlaw14_TableTexts.j1 : Nat → ByteArray → Int → Int → Int → ByteArray → Bool → Option (Bool)
 | 0, _, _, _, _, _, _ => none
 | k + 1, x3, x4, x5, x6, x16, x57 => if x57 = true then (none) else (if (x16.size : Int) > 0 then (if (x16.size : Int) = 0 then (none) else (if 0 ≤ (Int.tmod (wrap64 (x4)) (x16.size : Int)) then (if (Int.tmod (wrap64 (x4)) (x16.size : Int)) ≤ (x16.size : Int) then ((some (([x5] : List Int) : List Int)).bind fun y259 => (if (x16.extract 0 ((Int.tmod (wrap64 (x4)) (x16.size : Int)) : Int).toNat).size + (strOfNums y259).size ≤ 9223372036854775807 then (if 0 ≤ (wrap64 ((Int.tmod (wrap64 (x4)) (x16.size : Int)) + (wrap64 (Int.tmod x6 2)))) then (if (wrap64 ((Int.tmod (wrap64 (x4)) (x16.size : Int)) + (wrap64 (Int.tmod x6 2)))) ≤ (x16.size : Int) then (if ((x16.extract 0 ((Int.tmod (wrap64 (x4)) (x16.size : Int)) : Int).toNat) ++ (strOfNums y259)).size + (x16.extract ((wrap64 ((Int.tmod (wrap64 (x4)) (x16.size : Int)) + (wrap64 (Int.tmod x6 2)))) : Int).toNat x16.size).size ≤ 9223372036854775807 then (guichetlaw14_TableTexts.j2 k x3 x16 (((x16.extract 0 ((Int.tmod (wrap64 (x4)) (x16.size : Int)) : Int).toNat) ++ (strOfNums y259)) ++ (x16.extract ((wrap64 ((Int.tmod (wrap64 (x4)) (x16.size : Int)) + (wrap64 (Int.tmod x6 2)))) : Int).toNat x16.size))) else (none)) else (none)) else (none)) else (none))) else (none)) else (none))) else (guichetlaw14_TableTexts.j2 k x3 x16 x16))
def guichetlaw14_TableTexts.j2 : Nat → ByteArray → ByteArray → ByteArray → Option (Bool)
 | 0, _, _, _ => none
 | k + 1, x3, x16, x17 => (some (([x16, x17, x3] : List ByteArray) : List ByteArray)).bind fun y262 => (guichetlaw14_TableTexts.l0 k y262 (y262.length : Int) 0)
def guichetlaw14_TableTexts.l0 : Nat → List ByteArray → Int → Int → Option (Bool)
 | 0, _, _, _ => none
 | k + 1, x85, x86, x87 => if x87 < x86 then (if 0 ≤ x87 then (if x87 < (x85.length : Int) then ((table_Parse.f k (rdOf ByteArray.empty x85 x87)).bind fun bt266 => ((guichetref12_TableParse.f k (rdOf ByteArray.empty x85 x87)).bind fun bt271 => (if bt266.2.1 = bt271.2.1 then (if bt266.2.2 = bt271.2.2 then ((guichethelp_States.f k bt266.1 bt271.1).bind fun t276 => (if t276 = true then (guichetlaw14_TableTexts.l0 k x85 x86 (wrap64 (x87 + 1))) else (none))) else (none)) else (none)))) else (none)) else (none)) else (some true)
end
def guichetlaw14_TableTexts.f (k : Nat) (l0 : List (S34)) (l1 : List (S52)) (a2 : Int) (a3 : ByteArray) (a4 : Int) (a5 : Int) (a6 : Int) : Option (Bool) := (guichetlaw14_known.f k).bind fun t251 => (if t251 = true then (if (l0.length : Int) > 40 then (guichetlaw14_TableTexts.j0 k l0 l1 a2 a3 a4 a5 a6 true) else (if (l1.length : Int) > 40 then (guichetlaw14_TableTexts.j0 k l0 l1 a2 a3 a4 a5 a6 true) else (guichetlaw14_TableTexts.j0 k l0 l1 a2 a3 a4 a5 a6 (decide ((a3.size : Int) > 200))))) else (none))
theorem guichetlaw14_TableTexts.mono_l : ∀ k, (∀ y0 y1 y2 y3 y4 y5 y6 y7, LeO (guichetlaw14_TableTexts.j0 k y0 y1 y2 y3 y4 y5 y6 y7) (guichetlaw14_TableTexts.j0 (k + 1) y0 y1 y2 y3 y4 y5 y6 y7)) ∧ (∀ y0 y1 y2 y3 y4 y5, LeO (guichetlaw14_TableTexts.j1 k y0 y1 y2 y3 y4 y5) (guichetlaw14_TableTexts.j1 (k + 1) y0 y1 y2 y3 y4 y5)) ∧ (∀ y0 y1 y2, LeO (guichetlaw14_TableTexts.j2 k y0 y1 y2) (guichetlaw14_TableTexts.j2 (k + 1) y0 y1 y2)) ∧ (∀ y0 y1 y2, LeO (guichetlaw14_TableTexts.l0 k y0 y1 y2) (guichetlaw14_TableTexts.l0 (k + 1) y0 y1 y2))
 | 0 => ⟨fun _ _ _ _ _ _ _ _ r h => by simp [guichetlaw14_TableTexts.j0] at h, fun _ _ _ _ _ _ r h => by simp [guichetlaw14_TableTexts.j1] at h, fun _ _ _ r h => by simp [guichetlaw14_TableTexts.j2] at h, fun _ _ _ r h => by simp [guichetlaw14_TableTexts.l0] at h⟩
 | k + 1 => by
  obtain ⟨ih0, ih1, ih2, ih3⟩ := guichetlaw14_TableTexts.mono_l k
  refine ⟨?_, ?_, ?_, ?_⟩
  ·intro y0 y1 y2 y3 y4 y5 y6 y7
   unfold guichetlaw14_TableTexts.j0
   repeat' first
   | (with_reducible exact ih0 _ _ _ _ _ _ _ _)
   | (with_reducible exact ih1 _ _ _ _ _ _)
   | (with_reducible exact ih2 _ _ _)
   | (with_reducible exact ih3 _ _ _)
   | (with_reducible exact guichethelp_States.mono _ _ _)
   | (with_reducible exact guichetlaw14_known.mono _)
   | (with_reducible exact guichetref12_TableParse.mono _ _)
   | (with_reducible exact guichetref12_TableText.mono _ _)
   | (with_reducible exact guichetseat_Table.mono _ _ _)
   | (with_reducible exact table_Parse.mono _ _)
   | (with_reducible exact table_Text.mono _ _)
   | (with_reducible exact LeO.refl _)
   | (with_reducible exact LeO.none _)
   | (with_reducible refine LeO.ite ?_ ?_)
   | (with_reducible refine LeO.bind ?_ (fun _ => ?_))
   | exact ih0 _ _ _ _ _ _ _ _
   | exact ih1 _ _ _ _ _ _
   | exact ih2 _ _ _
   | exact ih3 _ _ _
   | exact guichethelp_States.mono _ _ _
   | exact guichetlaw14_known.mono _
   | exact guichetref12_TableParse.mono _ _
   | exact guichetref12_TableText.mono _ _
   | exact guichetseat_Table.mono _ _ _
   | exact table_Parse.mono _ _
   | exact table_Text.mono _ _
   | exact LeO.none _
   | refine LeO.ite ?_ ?_
   | refine LeO.bind ?_ (fun _ => ?_)
  ·intro y0 y1 y2 y3 y4 y5
   unfold guichetlaw14_TableTexts.j1
   repeat' first
   | (with_reducible exact ih0 _ _ _ _ _ _ _ _)
   | (with_reducible exact ih1 _ _ _ _ _ _)
   | (with_reducible exact ih2 _ _ _)
   | (with_reducible exact ih3 _ _ _)
   | (with_reducible exact guichethelp_States.mono _ _ _)
   | (with_reducible exact guichetlaw14_known.mono _)
   | (with_reducible exact guichetref12_TableParse.mono _ _)
   | (with_reducible exact guichetref12_TableText.mono _ _)
   | (with_reducible exact guichetseat_Table.mono _ _ _)
   | (with_reducible exact table_Parse.mono _ _)
   | (with_reducible exact table_Text.mono _ _)
   | (with_reducible exact LeO.refl _)
   | (with_reducible exact LeO.none _)
   | (with_reducible refine LeO.ite ?_ ?_)
   | (with_reducible refine LeO.bind ?_ (fun _ => ?_))
   | exact ih0 _ _ _ _ _ _ _ _
   | exact ih1 _ _ _ _ _ _
   | exact ih2 _ _ _
   | exact ih3 _ _ _
   | exact guichethelp_States.mono _ _ _
   | exact guichetlaw14_known.mono _
   | exact guichetref12_TableParse.mono _ _
   | exact guichetref12_TableText.mono _ _
   | exact guichetseat_Table.mono _ _ _
   | exact table_Parse.mono _ _
   | exact table_Text.mono _ _
   | exact LeO.none _
   | refine LeO.ite ?_ ?_
   | refine LeO.bind ?_ (fun _ => ?_)
  ·intro y0 y1 y2
   unfold guichetlaw14_TableTexts.j2
   repeat' first
   | (with_reducible exact ih0 _ _ _ _ _ _ _ _)
   | (with_reducible exact ih1 _ _ _ _ _ _)
   | (with_reducible exact ih2 _ _ _)
   | (with_reducible exact ih3 _ _ _)
   | (with_reducible exact guichethelp_States.mono _ _ _)
   | (with_reducible exact guichetlaw14_known.mono _)
   | (with_reducible exact guichetref12_TableParse.mono _ _)
   | (with_reducible exact guichetref12_TableText.mono _ _)
   | (with_reducible exact guichetseat_Table.mono _ _ _)
   | (with_reducible exact table_Parse.mono _ _)
   | (with_reducible exact table_Text.mono _ _)
   | (with_reducible exact LeO.refl _)
   | (with_reducible exact LeO.none _)
   | (with_reducible refine LeO.ite ?_ ?_)
   | (with_reducible refine LeO.bind ?_ (fun _ => ?_))
   | exact ih0 _ _ _ _ _ _ _ _
   | exact ih1 _ _ _ _ _ _
   | exact ih2 _ _ _
   | exact ih3 _ _ _
   | exact guichethelp_States.mono _ _ _
   | exact guichetlaw14_known.mono _
   | exact guichetref12_TableParse.mono _ _
   | exact guichetref12_TableText.mono _ _
   | exact guichetseat_Table.mono _ _ _
   | exact table_Parse.mono _ _
   | exact table_Text.mono _ _
   | exact LeO.none _
   | refine LeO.ite ?_ ?_
   | refine LeO.bind ?_ (fun _ => ?_)
  ·intro y0 y1 y2
   unfold guichetlaw14_TableTexts.l0
   repeat' first
   | (with_reducible exact ih0 _ _ _ _ _ _ _ _)
   | (with_reducible exact ih1 _ _ _ _ _ _)
   | (with_reducible exact ih2 _ _ _)
   | (with_reducible exact ih3 _ _ _)
   | (with_reducible exact guichethelp_States.mono _ _ _)
   | (with_reducible exact guichetlaw14_known.mono _)
   | (with_reducible exact guichetref12_TableParse.mono _ _)
   | (with_reducible exact guichetref12_TableText.mono _ _)
   | (with_reducible exact guichetseat_Table.mono _ _ _)
   | (with_reducible exact table_Parse.mono _ _)
   | (with_reducible exact table_Text.mono _ _)
   | (with_reducible exact LeO.refl _)
   | (with_reducible exact LeO.none _)
   | (with_reducible refine LeO.ite ?_ ?_)
   | (with_reducible refine LeO.bind ?_ (fun _ => ?_))
   | exact ih0 _ _ _ _ _ _ _ _
   | exact ih1 _ _ _ _ _ _
   | exact ih2 _ _ _
   | exact ih3 _ _ _
   | exact guichethelp_States.mono _ _ _
   | exact guichetlaw14_known.mono _
   | exact guichetref12_TableParse.mono _ _
   | exact guichetref12_TableText.mono _ _
   | exact guichetseat_Table.mono _ _ _
   | exact table_Parse.mono _ _
   | exact table_Text.mono _ _
   | exact LeO.none _
   | refine LeO.ite ?_ ?_
   | refine LeO.bind ?_ (fun _ => ?_)
theorem guichetlaw14_TableTexts.mono : ∀ a0 a1 a2 a3 a4 a5 a6 k, LeO (guichetlaw14_TableTexts.f k a0 a1 a2 a3 a4 a5 a6) (guichetlaw14_TableTexts.f (k + 1) a0 a1 a2 a3 a4 a5 a6) := by
 intro a0 a1 a2 a3 a4 a5 a6 k
 obtain ⟨ih0, ih1, ih2, ih3⟩ := guichetlaw14_TableTexts.mono_l k
 unfold guichetlaw14_TableTexts.f
 repeat' first
   | (with_reducible exact ih0 _ _ _ _ _ _ _ _)
   | (with_reducible exact ih1 _ _ _ _ _ _)
   | (with_reducible exact ih2 _ _ _)
   | (with_reducible exact ih3 _ _ _)
   | (with_reducible exact guichethelp_States.mono _ _ _)
   | (with_reducible exact guichetlaw14_known.mono _)
   | (with_reducible exact guichetref12_TableParse.mono _ _)
   | (with_reducible exact guichetref12_TableText.mono _ _)
   | (with_reducible exact guichetseat_Table.mono _ _ _)
   | (with_reducible exact table_Parse.mono _ _)
   | (with_reducible exact table_Text.mono _ _)
   | (with_reducible exact LeO.refl _)
   | (with_reducible exact LeO.none _)
   | (with_reducible refine LeO.ite ?_ ?_)
   | (with_reducible refine LeO.bind ?_ (fun _ => ?_))
   | exact ih0 _ _ _ _ _ _ _ _
   | exact ih1 _ _ _ _ _ _
   | exact ih2 _ _ _
   | exact ih3 _ _ _
   | exact guichethelp_States.mono _ _ _
   | exact guichetlaw14_known.mono _
   | exact guichetref12_TableParse.mono _ _
   | exact guichetref12_TableText.mono _ _
   | exact guichetseat_Table.mono _ _ _
   | exact table_Parse.mono _ _
   | exact table_Text.mono _ _
   | exact LeO.none _
   | refine LeO.ite ?_ ?_
   | refine LeO.bind ?_ (fun _ => ?_)
def guichetlaw14_TableTexts.T12 : Bool × List (List Nat × List Nat) := (true, [([], []), ([], []), ([0, 1], [0, 1]), ([], []), ([3], [3]), ([4], [4]), ([2, 5], [2, 5]), ([], []), ([], []), ([], []), ([9], [9]), ([10], [10]), ([8, 11], [8, 11]), ([7, 12], [7, 12]), ([6, 13], [6, 13]), ([14, 0, 1, 2, 3, 4, 5, 6, 7, 8, 9, 10, 11, 12, 13, 14], [14])])
def guichetlaw14_TableTexts.B12 : List Nat := [0, 0, 3, 0, 8, 24, 63, 0, 0, 0, 512, 1536, 3840, 8064, 16383, 32767]
theorem guichetlaw14_TableTexts.tab12 : rtab .any (opsOf Tryd.f4 12) = guichetlaw14_TableTexts.T12 := by kernel_rfl
theorem guichetlaw14_TableTexts.bits12 : waitsOk guichetlaw14_TableTexts.T12.2 guichetlaw14_TableTexts.B12 = true := by kernel_rfl
set_option maxHeartbeats 8000000 in
set_option maxRecDepth 100000 in
theorem guichetlaw14_TableTexts.calls (k : Nat) (A0 : Option Addr) (c0 : Nat) (l0 : List (S34)) (A1 : Option Addr) (c1 : Nat) (l1 : List (S52)) (a2 : Int) (a3 : ByteArray) (a4 : Int) (a5 : Int) (a6 : Int) (r : Bool) (w : World) (hT : TAB w) (hr0 : Kd.C k34 w A0 l0.length l0) (hc0 : l0.length ≤ c0) (hr1 : Kd.C k52 w A1 l1.length l1) (hc1 : l1.length ≤ c1) (h : guichetlaw14_TableTexts.f k l0 l1 a2 a3 a4 a5 a6 = some r) :
  Calls Tryd.prog 4 #[.slice A0 l0.length c0, .slice A1 l1.length c1, .int .u8 a2, .string a3, .int .u16 a4, .int .u8 a5, .int .u8 a6] w fun e w' => e = .returned (.bool r) ∧ Below w.heap.size w w' := by
 have HT := Aside0.mk hT
 clear hT
 have HR0 := Aside0.mk hr0
 have HC0 := Aside0.mk hc0
 clear hr0 hc0
 have HR1 := Aside0.mk hr1
 have HC1 := Aside0.mk hc1
 clear hr1 hc1
 have HB := Aside0.mk (Below.refl w.heap.size w)
 have H : ((guichetlaw14_known.f k).bind fun t251 => (if t251 = true then (if (l0.length : Int) > 40 then (guichetlaw14_TableTexts.j0 k l0 l1 a2 a3 a4 a5 a6 true) else (if (l1.length : Int) > 40 then (guichetlaw14_TableTexts.j0 k l0 l1 a2 a3 a4 a5 a6 true) else (guichetlaw14_TableTexts.j0 k l0 l1 a2 a3 a4 a5 a6 (decide ((a3.size : Int) > 200))))) else (none))) = some r := h
 clear h
 replace H := Option.bind_eq_some_iff.mp H
 obtain ⟨t251, A80, H⟩ := H
 replace H : (if t251 = true then (if (l0.length : Int) > 40 then (guichetlaw14_TableTexts.j0 k l0 l1 a2 a3 a4 a5 a6 true) else (if (l1.length : Int) > 40 then (guichetlaw14_TableTexts.j0 k l0 l1 a2 a3 a4 a5 a6 true) else (guichetlaw14_TableTexts.j0 k l0 l1 a2 a3 a4 a5 a6 (decide ((a3.size : Int) > 200))))) else (none)) = some r := H
 have A8 := Aside0.mk A80
 clear A80
 by_cases c9 : t251 = true
 ·subst c9
  have H1 : (if (l0.length : Int) > 40 then (guichetlaw14_TableTexts.j0 k l0 l1 a2 a3 a4 a5 a6 true) else (if (l1.length : Int) > 40 then (guichetlaw14_TableTexts.j0 k l0 l1 a2 a3 a4 a5 a6 true) else (guichetlaw14_TableTexts.j0 k l0 l1 a2 a3 a4 a5 a6 (decide ((a3.size : Int) > 200))))) = some r := by rw [if_pos rfl] at H; exact H
  clear H
  have H := H1
  clear H1
  have HC10 := Aside0.mk H
  clear H
  go_enter Tryd.func4, Tryd.ntmps4
  go_upto_region 3 with (first | ((with_reducible refine gate_callee (f := 7) rfl ?_); refine goesL_ (some 27) rfl rfl Tryd.func7 (by kernel_rfl) rfl #[] rfl (by (try simp only [List.map_toArray, List.map_cons, List.map_nil]); first | done | rfl | (simp only [List.length_drop, List.length_take]; rfl) | (rw [hsame_])) ?_; (with_reducible refine (guichetlaw14_known.calls k  true _ ?side1 A8.out).mono ?_); (case side1 => exact tab_at HT.out (by repeat (first | (with_reducible first | exact HB.out | apply below_alloc | apply pw_below_drewN | apply below_drew1) | exact HB.out))); rintro e w11 ⟨rfl, hb⟩; refine ⟨_, rfl, ?_⟩; have n0_ := Aside0.mk (below_step (by repeat (first | (with_reducible first | exact HB.out | apply below_alloc | apply pw_below_drewN | apply below_drew1) | exact HB.out)) hb); clear HB; have HB := n0_; clear n0_; (try clear hb); (try clear hb2); (try clear hk); (try clear hi)))
  (try simp only [Act.put, List.setIfInBounds_toArray, List.set_cons_zero, List.set_cons_succ])
  go_cut [41] (fun v41 wc => ∃ (kq : Nat) (x41_9 : Bool), v41 = .bool x41_9 ∧ Aside0 (guichetlaw14_TableTexts.j0 kq l0 l1 a2 a3 a4 a5 a6 x41_9 = some r) ∧ Aside0 (kq ≤ k) ∧ Aside0 (Below w.heap.size w wc))
  case first =>
   have H := HC10.out
   clear HC10
   by_cases c12 : (l0.length : Int) > 40
   ·rw [if_pos c12] at H
    have c12b0 : decide (40 < (l0.length : Int)) = true := decide_eq_true c12
    have c12b1 : decide (40 < l0.length) = true := decide_eq_true (by omega)
    clear c12
    (first | rw [c12b0] | rw [c12b1] | (simp only [i64_w, i32_w]; rw [c12b0]) | skip)
    have H' := Aside0.mk H
    clear H
    go_wp2
    go_meet
    case rel => exact ⟨_, (true), (by first | rfl | (simp; done) | (simp [*]; done)), H', ⟨by first | omega | exact Nat.le_refl _⟩, ⟨by repeat (first | (with_reducible first | exact HB.out | apply below_alloc | apply pw_below_drewN | apply below_drew1) | exact HB.out)⟩⟩
   ·rw [if_neg c12] at H
    have c12b0 : decide (40 < (l0.length : Int)) = false := decide_eq_false c12
    have c12b1 : decide (40 < l0.length) = false := decide_eq_false (by omega)
    clear c12
    (first | rw [c12b0] | rw [c12b1] | (simp only [i64_w, i32_w]; rw [c12b0]) | skip)
    by_cases c13 : (l1.length : Int) > 40
    ·rw [if_pos c13] at H
     have c13b0 : decide (40 < (l1.length : Int)) = true := decide_eq_true c13
     have c13b1 : decide (40 < l1.length) = true := decide_eq_true (by omega)
     clear c13
     have H' := Aside0.mk H
     clear H
     go_wp2
     go_meet
     case rel => exact ⟨_, (true), (by first | rfl | (simp; done) | (simp [*]; done)), H', ⟨by first | omega | exact Nat.le_refl _⟩, ⟨by repeat (first | (with_reducible first | exact HB.out | apply below_alloc | apply pw_below_drewN | apply below_drew1) | exact HB.out)⟩⟩
    ·rw [if_neg c13] at H
     have c13b0 : decide (40 < (l1.length : Int)) = false := decide_eq_false c13
     have c13b1 : decide (40 < l1.length) = false := decide_eq_false (by omega)
     clear c13
     have H' := Aside0.mk H
     clear H
     go_wp2
     go_meet
     case rel => exact ⟨_, (decide ((a3.size : Int) > 200)), (by first | rfl | (simp; done) | (simp [*]; done)), H', ⟨by first | omega | exact Nat.le_refl _⟩, ⟨by repeat (first | (with_reducible first | exact HB.out | apply below_alloc | apply pw_below_drewN | apply below_drew1) | exact HB.out)⟩⟩
  case rest =>
   clear HC10
   try clear c1
   try clear p2
   try clear c4
   try clear c7
   try clear c9
   try clear c12
   try clear c12b0
   try clear c12b1
   try clear c13
   try clear c13b0
   try clear c13b1
   obtain ⟨kq, x41_9, rfl, HA, HJ9, HB⟩ := hcut
   cases kq with
   | zero => exact absurd HA.out (by simp [guichetlaw14_TableTexts.j0])
   | succ kj9 =>
    have H := HA.out
    clear HA
    simp only [guichetlaw14_TableTexts.j0] at H
    by_cases c14 : x41_9 = true
    ·subst c14
     have H1 : (some true) = some r := by rw [if_pos rfl] at H; exact H
     clear H
     have H := H1
     clear H1
     obtain rfl := Option.some.inj H
     go_wp2
     go_ret
     exact ⟨by first | rfl | (simp [errW_none, errW_some] <;> rfl) | (simp [*, errW_none, errW_some] <;> rfl), by repeat (first | (with_reducible first | exact HB.out | apply below_alloc | apply pw_below_drewN | apply below_drew1) | exact HB.out)⟩
    ·replace c14 := Bool.eq_false_iff.mpr c14
     subst c14
     have H1 : ((guichetseat_Table.f kj9 l1 a2).bind fun t252 => ((table_Text.f kj9 t252).bind fun t255 => ((guichetref12_TableText.f kj9 t252).bind fun t256 => (if t255.toList = t256.toList then ((table_Text.f kj9 l0).bind fun t257 => ((guichetref12_TableText.f kj9 l0).bind fun t258 => (guichetlaw14_TableTexts.j1 kj9 a3 a4 a5 a6 t255 (t257.toList != t258.toList)))) else (guichetlaw14_TableTexts.j1 kj9 a3 a4 a5 a6 t255 true))))) = some r := by rw [if_neg (show ¬ (false = true) by decide)] at H; exact H
     clear H
     have H := H1
     clear H1
     replace H := Option.bind_eq_some_iff.mp H
     obtain ⟨t252, A150, H⟩ := H
     replace H : ((table_Text.f kj9 t252).bind fun t255 => ((guichetref12_TableText.f kj9 t252).bind fun t256 => (if t255.toList = t256.toList then ((table_Text.f kj9 l0).bind fun t257 => ((guichetref12_TableText.f kj9 l0).bind fun t258 => (guichetlaw14_TableTexts.j1 kj9 a3 a4 a5 a6 t255 (t257.toList != t258.toList)))) else (guichetlaw14_TableTexts.j1 kj9 a3 a4 a5 a6 t255 true)))) = some r := H
     have A15 := Aside0.mk A150
     clear A150
     replace H := Option.bind_eq_some_iff.mp H
     obtain ⟨t255, A160, H⟩ := H
     replace H : ((guichetref12_TableText.f kj9 t252).bind fun t256 => (if t255.toList = t256.toList then ((table_Text.f kj9 l0).bind fun t257 => ((guichetref12_TableText.f kj9 l0).bind fun t258 => (guichetlaw14_TableTexts.j1 kj9 a3 a4 a5 a6 t255 (t257.toList != t258.toList)))) else (guichetlaw14_TableTexts.j1 kj9 a3 a4 a5 a6 t255 true))) = some r := H
     have A16 := Aside0.mk A160
     clear A160
     have HC17 := Aside0.mk H
     clear H
     go_upto_region 7 with (first | ((with_reducible refine gate_callee (f := 8) rfl ?_); refine goesL_ (some 44) rfl rfl Tryd.func8 (by kernel_rfl) rfl #[.slice A1 l1.length c1, .int .u8 a2] rfl (by (try simp only [List.map_toArray, List.map_cons, List.map_nil]); first | done | rfl | (simp only [List.length_drop, List.length_take]; rfl) | (rw [hsame_])) ?_; (with_reducible refine (guichetseat_Table.calls kj9 _ _ l1 a2 t252 _ ?side1 ?side2 A15.out).mono ?_); (case side1 => repeat (first | exact (Kd.C_below HR1.out HB.out) | (with_reducible refine Kd.C_alloc ?_ _) | (with_reducible refine Kd.C_drewN ?_ _) | (with_reducible refine Kd.C_drew ?_))); (case side2 => exact HC1.out); rintro e w18 ⟨v253, rfl, ho0, hb⟩; refine ⟨_, rfl, ?_⟩; have n0_ := Aside0.mk (Kd.R_lower ho0 (below_size (by repeat (first | (with_reducible first | exact HB.out | apply below_alloc | apply pw_below_drewN | apply below_drew1) | exact HB.out)))); have n1_ := Aside0.mk (below_step (by repeat (first | (with_reducible first | exact HB.out | apply below_alloc | apply pw_below_drewN | apply below_drew1) | exact HB.out)) hb); clear HB; have HO254 := n0_; have HB := n1_; clear n0_ n1_; (try clear hb); (try clear hb2); (try clear hk); (try clear hi); (try clear ho0); obtain ⟨Ao19, co19, eo19⟩ := Kd.R_slice HO254.out; subst eo19) | ((with_reducible refine gate_callee (f := 13) rfl ?_); refine goesL_ (some 46) rfl rfl Tryd.func13 (by kernel_rfl) rfl #[.slice Ao19 t252.length co19] rfl (by (try simp only [List.map_toArray, List.map_cons, List.map_nil]); first | done | rfl | (simp only [List.length_drop, List.length_take]; rfl) | (rw [hsame_])) ?_; (with_reducible refine (table_Text.calls kj9 _ _ t252 t255 _ ?side1 ?side2 ?side3 A16.out).mono ?_); (case side1 => exact tab_at HT.out (by repeat (first | (with_reducible first | exact HB.out | apply below_alloc | apply pw_below_drewN | apply below_drew1) | exact HB.out))); (case side2 => repeat (first | exact (Kd.R_reads' HO254.out).2.2 | (with_reducible refine Kd.C_alloc ?_ _) | (with_reducible refine Kd.C_drewN ?_ _) | (with_reducible refine Kd.C_drew ?_))); (case side3 => exact (Kd.R_reads' HO254.out).2.1); rintro e w20 ⟨rfl, hb⟩; refine ⟨_, rfl, ?_⟩; have n0_ := Aside0.mk (Kd.R_below (by (with_reducible repeat (first | apply Kd.R_alloc | apply Kd.R_drewN | apply Kd.R_drew)); exact HO254.out) hb); have n1_ := Aside0.mk (below_step (by repeat (first | (with_reducible first | exact HB.out | apply below_alloc | apply pw_below_drewN | apply below_drew1) | exact HB.out)) hb); clear HO254; clear HB; have HO254 := n0_; have HB := n1_; clear n0_ n1_; (try clear hb); (try clear hb2); (try clear hk); (try clear hi)))
     (try simp only [Act.put, List.setIfInBounds_toArray, List.set_cons_zero, List.set_cons_succ])
     go_cut [57] (fun v57 wc => ∃ (kq : Nat) (x57_16 : Bool), v57 = .bool x57_16 ∧ Aside0 (guichetlaw14_TableTexts.j1 kq a3 a4 a5 a6 t255 x57_16 = some r) ∧ Aside0 (kq ≤ kj9) ∧ Aside0 (Below w.heap.size w wc))
     case first =>
      have H := HC17.out
      clear HC17
      replace H := Option.bind_eq_some_iff.mp H
      obtain ⟨t256, A210, H⟩ := H
      replace H : (if t255.toList = t256.toList then ((table_Text.f kj9 l0).bind fun t257 => ((guichetref12_TableText.f kj9 l0).bind fun t258 => (guichetlaw14_TableTexts.j1 kj9 a3 a4 a5 a6 t255 (t257.toList != t258.toList)))) else (guichetlaw14_TableTexts.j1 kj9 a3 a4 a5 a6 t255 true)) = some r := H
      have A21 := Aside0.mk A210
      clear A210
      by_cases c22 : t255.toList = t256.toList
      ·rw [if_pos c22] at H
       have c22b0 : (t255.toList == t256.toList) = true := beq_iff_eq.mpr c22
       have c22b1 : (t255.toList != t256.toList) = false := bne_eq_false_iff_eq.mpr c22
       clear c22
       (first | rw [c22b0] | rw [c22b1] | (simp only [i64_w, i32_w]; rw [c22b0]) | skip)
       replace H := Option.bind_eq_some_iff.mp H
       obtain ⟨t257, A230, H⟩ := H
       replace H : ((guichetref12_TableText.f kj9 l0).bind fun t258 => (guichetlaw14_TableTexts.j1 kj9 a3 a4 a5 a6 t255 (t257.toList != t258.toList))) = some r := H
       have A23 := Aside0.mk A230
       clear A230
       replace H := Option.bind_eq_some_iff.mp H
       obtain ⟨t258, A240, H⟩ := H
       replace H : (guichetlaw14_TableTexts.j1 kj9 a3 a4 a5 a6 t255 (t257.toList != t258.toList)) = some r := H
       have A24 := Aside0.mk A240
       clear A240
       have H' := Aside0.mk H
       clear H
       go_wp2_with (first | ((with_reducible refine gate_callee (f := 14) rfl ?_); refine goesL_ (some 49) rfl rfl Tryd.func14 (by kernel_rfl) rfl #[.slice Ao19 t252.length co19] rfl (by (try simp only [List.map_toArray, List.map_cons, List.map_nil]); first | done | rfl | (simp only [List.length_drop, List.length_take]; rfl) | (rw [hsame_])) ?_; (with_reducible refine (guichetref12_TableText.calls kj9 _ _ t252 t256 _ ?side1 ?side2 A21.out).mono ?_); (case side1 => repeat (first | exact (Kd.R_reads' HO254.out).2.2 | (with_reducible refine Kd.C_alloc ?_ _) | (with_reducible refine Kd.C_drewN ?_ _) | (with_reducible refine Kd.C_drew ?_))); (case side2 => exact (Kd.R_reads' HO254.out).2.1); rintro e w25 ⟨rfl, hb⟩; refine ⟨_, rfl, ?_⟩; have n0_ := Aside0.mk (Kd.R_below (by (with_reducible repeat (first | apply Kd.R_alloc | apply Kd.R_drewN | apply Kd.R_drew)); exact HO254.out) hb); have n1_ := Aside0.mk (below_step (by repeat (first | (with_reducible first | exact HB.out | apply below_alloc | apply pw_below_drewN | apply below_drew1) | exact HB.out)) hb); clear HO254; clear HB; have HO254 := n0_; have HB := n1_; clear n0_ n1_; (try clear hb); (try clear hb2); (try clear hk); (try clear hi)) | (go_at_call 13; (with_reducible refine (table_Text.calls kj9 _ _ l0 t257 _ ?side1 ?side2 ?side3 A23.out).mono ?_); (case side1 => exact tab_at HT.out (by repeat (first | (with_reducible first | exact HB.out | apply below_alloc | apply pw_below_drewN | apply below_drew1) | exact HB.out))); (case side2 => repeat (first | exact (Kd.C_below HR0.out HB.out) | (with_reducible refine Kd.C_alloc ?_ _) | (with_reducible refine Kd.C_drewN ?_ _) | (with_reducible refine Kd.C_drew ?_))); (case side3 => exact HC0.out); rintro e w26 ⟨rfl, hb⟩; have n0_ := Aside0.mk (Kd.R_below (by (with_reducible repeat (first | apply Kd.R_alloc | apply Kd.R_drewN | apply Kd.R_drew)); exact HO254.out) hb); have n1_ := Aside0.mk (below_step (by repeat (first | (with_reducible first | exact HB.out | apply below_alloc | apply pw_below_drewN | apply below_drew1) | exact HB.out)) hb); clear HO254; clear HB; have HO254 := n0_; have HB := n1_; clear n0_ n1_; (try clear hb); (try clear hb2); (try clear hk); (try clear hi)) | (go_at_call 14; (with_reducible refine (guichetref12_TableText.calls kj9 _ _ l0 t258 _ ?side1 ?side2 A24.out).mono ?_); (case side1 => repeat (first | exact (Kd.C_below HR0.out HB.out) | (with_reducible refine Kd.C_alloc ?_ _) | (with_reducible refine Kd.C_drewN ?_ _) | (with_reducible refine Kd.C_drew ?_))); (case side2 => exact HC0.out); rintro e w27 ⟨rfl, hb⟩; have n0_ := Aside0.mk (Kd.R_below (by (with_reducible repeat (first | apply Kd.R_alloc | apply Kd.R_drewN | apply Kd.R_drew)); exact HO254.out) hb); have n1_ := Aside0.mk (below_step (by repeat (first | (with_reducible first | exact HB.out | apply below_alloc | apply pw_below_drewN | apply below_drew1) | exact HB.out)) hb); clear HO254; clear HB; have HO254 := n0_; have HB := n1_; clear n0_ n1_; (try clear hb); (try clear hb2); (try clear hk); (try clear hi)))
       go_meet
       case rel => exact ⟨_, ((t257.toList != t258.toList)), (by first | rfl | (simp; done) | (simp [*]; done)), H', ⟨by have := HJ9.out; first | omega | exact Nat.le_refl _⟩, ⟨by repeat (first | (with_reducible first | exact HB.out | apply below_alloc | apply pw_below_drewN | apply below_drew1) | exact HB.out)⟩⟩
      ·rw [if_neg c22] at H
       have c22b0 : (t255.toList == t256.toList) = false := beq_eq_false_iff_ne.mpr c22
       have c22b1 : (t255.toList != t256.toList) = true := bne_iff_ne.mpr c22
       (first | rw [c22b0] | rw [c22b1] | (simp only [i64_w, i32_w]; rw [c22b0]) | skip)
       have H' := Aside0.mk H
       clear H
       go_wp2_with (first | ((with_reducible refine gate_callee (f := 14) rfl ?_); refine goesL_ (some 49) rfl rfl Tryd.func14 (by kernel_rfl) rfl #[.slice Ao19 t252.length co19] rfl (by (try simp only [List.map_toArray, List.map_cons, List.map_nil]); first | done | rfl | (simp only [List.length_drop, List.length_take]; rfl) | (rw [hsame_])) ?_; (with_reducible refine (guichetref12_TableText.calls kj9 _ _ t252 t256 _ ?side1 ?side2 A21.out).mono ?_); (case side1 => repeat (first | exact (Kd.R_reads' HO254.out).2.2 | (with_reducible refine Kd.C_alloc ?_ _) | (with_reducible refine Kd.C_drewN ?_ _) | (with_reducible refine Kd.C_drew ?_))); (case side2 => exact (Kd.R_reads' HO254.out).2.1); rintro e w28 ⟨rfl, hb⟩; refine ⟨_, rfl, ?_⟩; have n0_ := Aside0.mk (Kd.R_below (by (with_reducible repeat (first | apply Kd.R_alloc | apply Kd.R_drewN | apply Kd.R_drew)); exact HO254.out) hb); have n1_ := Aside0.mk (below_step (by repeat (first | (with_reducible first | exact HB.out | apply below_alloc | apply pw_below_drewN | apply below_drew1) | exact HB.out)) hb); clear HO254; clear HB; have HO254 := n0_; have HB := n1_; clear n0_ n1_; (try clear hb); (try clear hb2); (try clear hk); (try clear hi)))
       go_meet
       case rel => exact ⟨_, (true), (by first | rfl | (simp; done) | (simp [*]; done)), H', ⟨by have := HJ9.out; first | omega | exact Nat.le_refl _⟩, ⟨by repeat (first | (with_reducible first | exact HB.out | apply below_alloc | apply pw_below_drewN | apply below_drew1) | exact HB.out)⟩⟩
     case rest =>
      clear HC17
      try clear c1
      try clear c2
      try clear p2
      try clear c4
      try clear c7
      try clear c8
      try clear c9
      try clear c12
      try clear c12b0
      try clear c12b1
      try clear c13
      try clear c13b0
      try clear c13b1
      try clear c14
      try clear c22
      try clear c22b0
      try clear c22b1
      try clear p2
      obtain ⟨kq, x57_16, rfl, HA, HJ16, HB⟩ := hcut
      cases kq with
      | zero => exact absurd HA.out (by simp [guichetlaw14_TableTexts.j1])
      | succ kj16 =>
       have H := HA.out
       clear HA
       simp only [guichetlaw14_TableTexts.j1] at H
       by_cases c29 : x57_16 = true
       ·subst c29
        have H1 : (none) = some r := by rw [if_pos rfl] at H; exact H
        clear H
        have H := H1
        clear H1
        exact absurd H (by simp)
       ·replace c29 := Bool.eq_false_iff.mpr c29
        subst c29
        have H1 : (if (t255.size : Int) > 0 then (if (t255.size : Int) = 0 then (none) else (if 0 ≤ (Int.tmod (wrap64 (a4)) (t255.size : Int)) then (if (Int.tmod (wrap64 (a4)) (t255.size : Int)) ≤ (t255.size : Int) then ((some (([a5] : List Int) : List Int)).bind fun y259 => (if (t255.extract 0 ((Int.tmod (wrap64 (a4)) (t255.size : Int)) : Int).toNat).size + (strOfNums y259).size ≤ 9223372036854775807 then (if 0 ≤ (wrap64 ((Int.tmod (wrap64 (a4)) (t255.size : Int)) + (wrap64 (Int.tmod a6 2)))) then (if (wrap64 ((Int.tmod (wrap64 (a4)) (t255.size : Int)) + (wrap64 (Int.tmod a6 2)))) ≤ (t255.size : Int) then (if ((t255.extract 0 ((Int.tmod (wrap64 (a4)) (t255.size : Int)) : Int).toNat) ++ (strOfNums y259)).size + (t255.extract ((wrap64 ((Int.tmod (wrap64 (a4)) (t255.size : Int)) + (wrap64 (Int.tmod a6 2)))) : Int).toNat t255.size).size ≤ 9223372036854775807 then (guichetlaw14_TableTexts.j2 kj16 a3 t255 (((t255.extract 0 ((Int.tmod (wrap64 (a4)) (t255.size : Int)) : Int).toNat) ++ (strOfNums y259)) ++ (t255.extract ((wrap64 ((Int.tmod (wrap64 (a4)) (t255.size : Int)) + (wrap64 (Int.tmod a6 2)))) : Int).toNat t255.size))) else (none)) else (none)) else (none)) else (none))) else (none)) else (none))) else (guichetlaw14_TableTexts.j2 kj16 a3 t255 t255)) = some r := by rw [if_neg (show ¬ (false = true) by decide)] at H; exact H
        clear H
        have H := H1
        clear H1
        have HC30 := Aside0.mk H
        clear H
        go_upto_if 61 with (fail)
        go_cut [17] (fun v17 wc => ∃ (kq : Nat) (x17_29 : ByteArray), v17 = .string x17_29 ∧ Aside0 (guichetlaw14_TableTexts.j2 kq a3 t255 x17_29 = some r) ∧ Aside0 (kq ≤ kj16) ∧ Aside0 (Below w.heap.size w wc))
        case first =>
         have H := HC30.out
         clear HC30
         by_cases c31 : (t255.size : Int) > 0
         ·rw [if_pos c31] at H
          have c31b0 : decide (0 < (t255.size : Int)) = true := decide_eq_true c31
          have c31b1 : decide (0 < t255.size) = true := decide_eq_true (by omega)
          clear c31
          (first | rw [c31b0] | rw [c31b1] | (simp only [i64_w, i32_w]; rw [c31b0]) | skip)
          by_cases c32 : (t255.size : Int) = 0
          ·rw [if_pos c32] at H
           exact absurd H (by simp)
          ·rw [if_neg c32] at H
           have c32b0 : ((t255.size : Int) == 0) = false := beq_eq_false_iff_ne.mpr c32
           have c32b1 : ((t255.size : Int) != 0) = true := bne_iff_ne.mpr c32
           obtain ⟨ji33, hji33⟩ : ∃ j_ : Int, (Int.tmod (wrap64 (a4)) (t255.size : Int)) = j_ := ⟨_, rfl⟩
           replace H : (if 0 ≤ (ji33) then (if (ji33) ≤ (t255.size : Int) then ((some (([a5] : List Int) : List Int)).bind fun y259 => (if (t255.extract 0 ((ji33) : Int).toNat).size + (strOfNums y259).size ≤ 9223372036854775807 then (if 0 ≤ (wrap64 ((ji33) + (wrap64 (Int.tmod a6 2)))) then (if (wrap64 ((ji33) + (wrap64 (Int.tmod a6 2)))) ≤ (t255.size : Int) then (if ((t255.extract 0 ((ji33) : Int).toNat) ++ (strOfNums y259)).size + (t255.extract ((wrap64 ((ji33) + (wrap64 (Int.tmod a6 2)))) : Int).toNat t255.size).size ≤ 9223372036854775807 then (guichetlaw14_TableTexts.j2 kj16 a3 t255 (((t255.extract 0 ((ji33) : Int).toNat) ++ (strOfNums y259)) ++ (t255.extract ((wrap64 ((ji33) + (wrap64 (Int.tmod a6 2)))) : Int).toNat t255.size))) else (none)) else (none)) else (none)) else (none))) else (none)) else (none)) = some r := by first | (rw [hji33] at H; exact H) | (simp only [hji33] at H ⊢; exact H)
           by_cases c34 : 0 ≤ (ji33)
           ·rw [if_pos c34] at H
            have c34b0 := eq_true c34
            have c34b1 : decide (0 ≤ (ji33)) = true := decide_eq_true c34
            clear c34
            by_cases c35 : (ji33) ≤ (t255.size : Int)
            ·rw [if_pos c35] at H
             have c35b0 := eq_true c35
             have c35b1 : decide ((ji33) ≤ (t255.size : Int)) = true := decide_eq_true c35
             clear c35
             obtain ⟨y259, hy259⟩ : ∃ y_ : List Int, y_ = (([a5] : List Int)) := ⟨_, rfl⟩
             replace H : (if (t255.extract 0 ((ji33) : Int).toNat).size + (strOfNums y259).size ≤ 9223372036854775807 then (if 0 ≤ (wrap64 ((ji33) + (wrap64 (Int.tmod a6 2)))) then (if (wrap64 ((ji33) + (wrap64 (Int.tmod a6 2)))) ≤ (t255.size : Int) then (if ((t255.extract 0 ((ji33) : Int).toNat) ++ (strOfNums y259)).size + (t255.extract ((wrap64 ((ji33) + (wrap64 (Int.tmod a6 2)))) : Int).toNat t255.size).size ≤ 9223372036854775807 then (guichetlaw14_TableTexts.j2 kj16 a3 t255 (((t255.extract 0 ((ji33) : Int).toNat) ++ (strOfNums y259)) ++ (t255.extract ((wrap64 ((ji33) + (wrap64 (Int.tmod a6 2)))) : Int).toNat t255.size))) else (none)) else (none)) else (none)) else (none)) = some r := by first | (rw [hy259]; with_reducible exact H) | (have H2_ := (Option.bind_some _ _).symm.trans H; rw [hy259]; with_reducible exact H2_) | (have H2_ := (Option.bind_some _ _).symm.trans H; with_reducible exact H2_) | with_reducible exact H | (rw [hy259]; exact H) | exact H
             have Ny259 := Aside0.mk hy259
             clear hy259
             by_cases c36 : (t255.extract 0 ((ji33) : Int).toNat).size + (strOfNums y259).size ≤ 9223372036854775807
             ·rw [if_pos c36] at H
              have c36b0 := eq_true c36
              have c36b1 : decide ((t255.extract 0 ((ji33) : Int).toNat).size + (strOfNums y259).size ≤ 9223372036854775807) = true := decide_eq_true c36
              (try have c36b5 : (9223372036854775807 < ji33.toNat + (strOfNums y259).size) = False := eq_false (by have h_ := c36; (try have hb0_ : (ji33 : Int) ≤ (t255.size : Int) := of_decide_eq_true (by first | (with_reducible assumption) | assumption)); simp only [ByteArray.size_append, ByteArray.size_extract] at h_; omega))
              try have c36b2 : (9223372036854775807 < (t255.extract 0 ((ji33) : Int).toNat).size + (strOfNums y259).size) = False := eq_false (Nat.not_lt.2 c36)
              obtain ⟨ji37, hji37⟩ : ∃ j_ : Int, (wrap64 ((ji33) + (wrap64 (Int.tmod a6 2)))) = j_ := ⟨_, rfl⟩
              replace H : (if 0 ≤ (ji37) then (if (ji37) ≤ (t255.size : Int) then (if ((t255.extract 0 ((ji33) : Int).toNat) ++ (strOfNums y259)).size + (t255.extract ((ji37) : Int).toNat t255.size).size ≤ 9223372036854775807 then (guichetlaw14_TableTexts.j2 kj16 a3 t255 (((t255.extract 0 ((ji33) : Int).toNat) ++ (strOfNums y259)) ++ (t255.extract ((ji37) : Int).toNat t255.size))) else (none)) else (none)) else (none)) = some r := by first | (rw [hji37] at H; exact H) | (simp only [hji37] at H ⊢; exact H)
              have hji37w : (IntKind.i64.wrap ((ji33) + (wrap64 (Int.tmod a6 2)))) = ji37 := (i64_w _).trans hji37
              by_cases c38 : 0 ≤ (ji37)
              ·rw [if_pos c38] at H
               have c38b0 := eq_true c38
               have c38b1 : decide (0 ≤ (ji37)) = true := decide_eq_true c38
               clear c38
               by_cases c39 : (ji37) ≤ (t255.size : Int)
               ·rw [if_pos c39] at H
                have c39b0 := eq_true c39
                have c39b1 : decide ((ji37) ≤ (t255.size : Int)) = true := decide_eq_true c39
                clear c39
                by_cases c40 : ((t255.extract 0 ((ji33) : Int).toNat) ++ (strOfNums y259)).size + (t255.extract ((ji37) : Int).toNat t255.size).size ≤ 9223372036854775807
                ·rw [if_pos c40] at H
                 have c40b0 := eq_true c40
                 have c40b1 : decide (((t255.extract 0 ((ji33) : Int).toNat) ++ (strOfNums y259)).size + (t255.extract ((ji37) : Int).toNat t255.size).size ≤ 9223372036854775807) = true := decide_eq_true c40
                 (try have c40b5 : (9223372036854775807 < ji33.toNat + (strOfNums y259).size + (t255.size - ji37.toNat)) = False := eq_false (by have h_ := c40; (try have hb0_ : (ji33 : Int) ≤ (t255.size : Int) := of_decide_eq_true (by first | (with_reducible assumption) | assumption)); simp only [ByteArray.size_append, ByteArray.size_extract] at h_; omega))
                 try have c40b2 : (9223372036854775807 < ((t255.extract 0 ((ji33) : Int).toNat) ++ (strOfNums y259)).size + (t255.extract ((ji37) : Int).toNat t255.size).size) = False := eq_false (Nat.not_lt.2 c40)
                 have H' := Aside0.mk H
                 clear H
                 try go_wp2
                 have n0_ := Aside0.mk (below_drew1 HB.out)
                 clear HB
                 have HB := n0_
                 clear n0_
                 refine start_ (n := 16) (S := fun w' => True) (ds := []) #[false, false, false, false, false, false, false, false, false, false, false, false, false, false, false, false] (by kernel_rfl) rfl rfl trivial (fun hHeld => ?_); refine with_tabW guichetlaw14_TableTexts.tab12 guichetlaw14_TableTexts.bits12 (fun HT_ HW_ => ?_)
                 generalize wc.drew = w41 at HB hHeld ⊢
                 refine pure_ (i := 0) (N := some 67) (v := ?_) (a' := ?_) #[true, false, false, false, false, false, false, false, false, false, false, false, false, false, false, false] rfl rfl (any_of HT_.out (by kernel_rfl)) (fun _ _ _ h => h) (Or.inl ⟨by rfl, ?_⟩) ?_ ?_
                 rotate_left
                 ·intro w'
                  go_simp
                  with_reducible rfl
                 rotate_left
                 ·simp only [Act.put, List.setIfInBounds_toArray, List.set_cons_zero, List.set_cons_succ, i64_w, i32_w]
                  rfl
                 refine pure_ (i := 1) (N := some 68) (v := ?_) (a' := ?_) #[true, true, false, false, false, false, false, false, false, false, false, false, false, false, false, false] rfl rfl (any_of HT_.out (by kernel_rfl)) (fun _ _ _ h => h) (Or.inl ⟨by rfl, ?_⟩) ?_ ?_
                 rotate_left
                 ·intro w'
                  go_simp
                  with_reducible rfl
                 rotate_left
                 ·simp only [Act.put, List.setIfInBounds_toArray, List.set_cons_zero, List.set_cons_succ, i64_w, i32_w]
                  rfl
                 refine pure_ (i := 2) (N := some 69) (v := ?_) (a' := ?_) #[true, true, true, false, false, false, false, false, false, false, false, false, false, false, false, false] rfl rfl (any_of HT_.out (by kernel_rfl)) (fun _ _ _ h => h) (Or.inl ⟨by rfl, ?_⟩) ?_ ?_
                 rotate_left
                 ·intro w'
                  go_simp
                  with_reducible rfl
                 rotate_left
                 ·simp only [Act.put, List.setIfInBounds_toArray, List.set_cons_zero, List.set_cons_succ, i64_w, i32_w]
                  rfl
                 refine pure_ (i := 3) (N := some 70) (v := ?_) (a' := ?_) #[true, true, true, true, false, false, false, false, false, false, false, false, false, false, false, false] rfl rfl (any_of HT_.out (by kernel_rfl)) (fun _ _ _ h => h) (Or.inl ⟨by rfl, ?_⟩) ?_ ?_
                 rotate_left
                 ·intro w'
                  go_simp
                  with_reducible rfl
                 rotate_left
                 ·simp only [Act.put, List.setIfInBounds_toArray, List.set_cons_zero, List.set_cons_succ, i64_w, i32_w]
                  rfl
                 refine pure_ (i := 7) (N := some 74) (v := ?_) (a' := ?_) #[true, true, true, true, false, false, false, true, false, false, false, false, false, false, false, false] rfl rfl (any_of HT_.out (by kernel_rfl)) (fun _ _ _ h => h) (Or.inl ⟨by rfl, ?_⟩) ?_ ?_
                 rotate_left
                 ·intro w'
                  go_simp
                  with_reducible rfl
                 rotate_left
                 ·simp only [Act.put, List.setIfInBounds_toArray, List.set_cons_zero, List.set_cons_succ, i64_w, i32_w]
                  rfl
                 refine pure_ (i := 8) (N := some 75) (v := ?_) (a' := ?_) #[true, true, true, true, false, false, false, true, true, false, false, false, false, false, false, false] rfl rfl (any_of HT_.out (by kernel_rfl)) (fun _ _ _ h => h) (Or.inl ⟨by rfl, ?_⟩) ?_ ?_
                 rotate_left
                 ·intro w'
                  go_simp
                  with_reducible rfl
                 rotate_left
                 ·simp only [Act.put, List.setIfInBounds_toArray, List.set_cons_zero, List.set_cons_succ, i64_w, i32_w]
                  rfl
                 refine pure_ (i := 9) (N := some 76) (v := ?_) (a' := ?_) #[true, true, true, true, false, false, false, true, true, true, false, false, false, false, false, false] rfl rfl (any_of HT_.out (by kernel_rfl)) (fun _ _ _ h => h) (Or.inl ⟨by rfl, ?_⟩) ?_ ?_
                 rotate_left
                 ·intro w'
                  go_simp
                  with_reducible rfl
                 rotate_left
                 ·simp only [Act.put, List.setIfInBounds_toArray, List.set_cons_zero, List.set_cons_succ, i64_w, i32_w]
                  rfl
                 refine pure_ (i := 10) (N := some 77) (v := ?_) (a' := ?_) #[true, true, true, true, false, false, false, true, true, true, true, false, false, false, false, false] rfl rfl (any_of HT_.out (by kernel_rfl)) (fun _ _ _ h => h) (Or.inl ⟨by rfl, ?_⟩) ?_ ?_
                 rotate_left
                 ·intro w'
                  go_simp
                  with_reducible rfl
                 rotate_left
                 ·simp only [Act.put, List.setIfInBounds_toArray, List.set_cons_zero, List.set_cons_succ, i64_w, i32_w]
                  rfl
                 refine pure_ (i := 11) (N := some 78) (v := ?_) (a' := ?_) #[true, true, true, true, false, false, false, true, true, true, true, true, false, false, false, false] rfl rfl (any_of HT_.out (by kernel_rfl)) (fun _ _ _ h => h) (Or.inl ⟨by rfl, ?_⟩) ?_ ?_
                 rotate_left
                 ·intro w'
                  go_simp
                  with_reducible rfl
                 rotate_left
                 ·simp only [Act.put, List.setIfInBounds_toArray, List.set_cons_zero, List.set_cons_succ, i64_w, i32_w]
                  rfl
                 refine pure_ (i := 12) (N := some 79) (v := ?_) (a' := ?_) #[true, true, true, true, false, false, false, true, true, true, true, true, true, false, false, false] rfl rfl (any_of HT_.out (by kernel_rfl)) (fun _ _ _ h => h) (Or.inl ⟨by rfl, ?_⟩) ?_ ?_
                 rotate_left
                 ·intro w'
                  go_simp
                  with_reducible rfl
                 rotate_left
                 ·simp only [Act.put, List.setIfInBounds_toArray, List.set_cons_zero, List.set_cons_succ, i64_w, i32_w]
                  rfl
                 refine pure_ (i := 13) (N := some 80) (v := ?_) (a' := ?_) #[true, true, true, true, false, false, false, true, true, true, true, true, true, true, false, false] rfl rfl (any_of HT_.out (by kernel_rfl)) (fun _ _ _ h => h) (Or.inl ⟨by rfl, ?_⟩) ?_ ?_
                 rotate_left
                 ·intro w'
                  go_simp
                  with_reducible rfl
                 rotate_left
                 ·simp only [Act.put, List.setIfInBounds_toArray, List.set_cons_zero, List.set_cons_succ, i64_w, i32_w]
                  rfl
                 refine one_ (i := 4) (N := some 71) #[true, true, true, true, true, false, false, true, true, true, true, true, true, true, false, false] rfl rfl (one_of HT_.out (by kernel_rfl)) (by decide) (fun K hK => ?_)
                 refine Kd.R_lit_step (Kd.int .u8) _ 5 ?hg (N := 71) ?hd (xs := ([a5] : List Int)) (inner := [.int .u8 a5]) (ok := fun _ => True) (okp := fun _ => True) ?hr ?hp (fun _ hk => hk) trivial (Below.refl _ _) (Nat.le_refl _) (by simp) ?_; (case hd => rfl); (case hg => rfl); (case hr => first | (go_simp; done) | (go_simp; rfl)); (case hp => exact (Reps.one (show Kd.M (Kd.int .u8) _ _ _ a5 [.int .u8 a5] from rfl) (Reps.none _ _)))
                 intro v260 w42 ho43 hb hg_ hnew_
                 clear hg_ hnew_
                 (first | rw [← Ny259.out] at ho43 | (simp only [Int.reduceToNat] at ho43; rw [← Ny259.out] at ho43))
                 have n0_ := Aside0.mk (Kd.R_lower ho43 (below_size (by repeat (first | (with_reducible first | exact HB.out | apply below_alloc | apply pw_below_drewN | apply below_drew1) | exact HB.out))))
                 have n1_ := Aside0.mk (below_step (by repeat (first | (with_reducible first | exact HB.out | apply below_alloc | apply pw_below_drewN | apply below_drew1) | exact HB.out)) hb)
                 clear HB
                 have HO261 := n0_
                 have HB := n1_
                 clear n0_ n1_
                 clear hb ho43
                 refine hK.out _ _ trivial (fun hHeld => ?_)
                 clear hK K
                 refine norm_ (a' := ?_) ?_ ?_
                 rotate_left
                 ·show Act.put _ (some 71) _ = _
                  simp only [Act.put, List.setIfInBounds_toArray, List.set_cons_zero, List.set_cons_succ, i64_w, i32_w]
                  rfl
                 refine one_ (i := 5) (N := some 72) #[true, true, true, true, true, true, false, true, true, true, true, true, true, true, false, false] rfl rfl (one_of HT_.out (by kernel_rfl)) (by decide) (fun K hK => ?_)
                 have hcv44 := own_string (P := Tryd.prog) Tryd.underlying40 Tryd.underlying5 Tryd.underlying9 (Kd.own_of_R HO261.out)
                 refine value_ (w1 := ?_) (v := ?_) (by rfl) rfl ?_ ?_
                 rotate_left 2
                 ·go_simp
                  constructor
                  ·rfl
                  ·rfl
                 clear hcv44
                 refine hK.out _ _ trivial (fun hHeld => ?_)
                 clear hK K
                 refine norm_ (a' := ?_) ?_ ?_
                 rotate_left
                 ·show Act.put _ (some 72) _ = _
                  simp only [Act.put, List.setIfInBounds_toArray, List.set_cons_zero, List.set_cons_succ, i64_w, i32_w]
                  rfl
                 refine pure_ (i := 6) (N := some 73) (v := ?_) (a' := ?_) #[true, true, true, true, true, true, true, true, true, true, true, true, true, true, false, false] rfl rfl (any_of HT_.out (by kernel_rfl)) (fun _ _ _ h => h) (Or.inl ⟨by rfl, ?_⟩) ?_ ?_
                 rotate_left
                 ·intro w'
                  go_simp
                  with_reducible rfl
                 rotate_left
                 ·simp only [Act.put, List.setIfInBounds_toArray, List.set_cons_zero, List.set_cons_succ, i64_w, i32_w]
                  rfl
                 refine pure_ (i := 14) (N := some 81) (v := ?_) (a' := ?_) #[true, true, true, true, true, true, true, true, true, true, true, true, true, true, true, false] rfl rfl (any_of HT_.out (by kernel_rfl)) (fun _ _ _ h => h) (Or.inl ⟨by rfl, ?_⟩) ?_ ?_
                 rotate_left
                 ·intro w'
                  go_simp
                  with_reducible rfl
                 rotate_left
                 ·simp only [Act.put, List.setIfInBounds_toArray, List.set_cons_zero, List.set_cons_succ, i64_w, i32_w]
                  rfl
                 refine pure_ (i := 15) (N := some 17) (v := ?_) (a' := ?_) #[true, true, true, true, true, true, true, true, true, true, true, true, true, true, true, true] rfl rfl (any_of HT_.out (by kernel_rfl)) (fun _ _ _ h => h) (Or.inl ⟨by rfl, ?_⟩) ?_ ?_
                 rotate_left
                 ·intro w'
                  go_simp
                  with_reducible rfl
                 rotate_left
                 ·simp only [Act.put, List.setIfInBounds_toArray, List.set_cons_zero, List.set_cons_succ, i64_w, i32_w]
                  rfl
                 refine done_ (done_of HT_.out (by kernel_rfl)) ?_
                 try go_wp2
                 go_meet
                 case rel => exact ⟨_, (((t255.extract 0 ((ji33) : Int).toNat) ++ (strOfNums y259)) ++ (t255.extract ((ji37) : Int).toNat t255.size)), (by first | rfl | (simp; done) | (simp only [← hji33, ← hji37] <;> (first | rfl | simp)) | (simp [*]; done)), H', ⟨by have := HJ9.out; have := HJ16.out; first | omega | exact Nat.le_refl _⟩, ⟨by repeat (first | (with_reducible first | exact HB.out | apply below_alloc | apply pw_below_drewN | apply below_drew1) | exact HB.out)⟩⟩
                ·rw [if_neg c40] at H
                 exact absurd H (by simp)
               ·rw [if_neg c39] at H
                exact absurd H (by simp)
              ·rw [if_neg c38] at H
               exact absurd H (by simp)
             ·rw [if_neg c36] at H
              exact absurd H (by simp)
            ·rw [if_neg c35] at H
             exact absurd H (by simp)
           ·rw [if_neg c34] at H
            exact absurd H (by simp)
         ·rw [if_neg c31] at H
          have c31b0 : decide (0 < (t255.size : Int)) = false := decide_eq_false c31
          have c31b1 : decide (0 < t255.size) = false := decide_eq_false (by omega)
          clear c31
          (first | rw [c31b0] | rw [c31b1] | (simp only [i64_w, i32_w]; rw [c31b0]) | skip)
          have H' := Aside0.mk H
          clear H
          go_wp2
          go_meet
          case rel => exact ⟨_, (t255), (by first | rfl | (simp; done) | (simp [*]; done)), H', ⟨by have := HJ9.out; have := HJ16.out; first | omega | exact Nat.le_refl _⟩, ⟨by repeat (first | (with_reducible first | exact HB.out | apply below_alloc | apply pw_below_drewN | apply below_drew1) | exact HB.out)⟩⟩
        case rest =>
         clear HC30
         try clear c1
         try clear c2
         try clear p2
         try clear c3
         try clear c4
         try clear hcv4
         try clear p6
         try clear c7
         try clear c8
         try clear c9
         try clear c12
         try clear c12b0
         try clear c12b1
         try clear c13
         try clear c13b0
         try clear c13b1
         try clear c14
         try clear c22
         try clear c22b0
         try clear c22b1
         try clear c29
         try clear c31
         try clear c31b0
         try clear c31b1
         try clear c32
         try clear c32b0
         try clear c32b1
         try clear c34
         try clear c34b0
         try clear c34b1
         try clear c35
         try clear c35b0
         try clear c35b1
         try clear c36
         try clear c36b0
         try clear c36b1
         try clear c36b2
         try clear c38
         try clear c38b0
         try clear c38b1
         try clear c39
         try clear c39b0
         try clear c39b1
         try clear c40
         try clear c40b0
         try clear c40b1
         try clear c40b2
         try clear hcv44
         try clear p2
         obtain ⟨kq, x17_29, rfl, HA, HJ29, HB⟩ := hcut
         cases kq with
         | zero => exact absurd HA.out (by simp [guichetlaw14_TableTexts.j2])
         | succ kj29 =>
          have H := HA.out
          clear HA
          simp only [guichetlaw14_TableTexts.j2] at H
          obtain ⟨y262, hy262⟩ : ∃ y_ : List ByteArray, y_ = (([t255, x17_29, a3] : List ByteArray)) := ⟨_, rfl⟩
          replace H : (guichetlaw14_TableTexts.l0 kj29 y262 (y262.length : Int) 0) = some r := by first | (rw [hy262]; with_reducible exact H) | (have H2_ := (Option.bind_some _ _).symm.trans H; rw [hy262]; with_reducible exact H2_) | (have H2_ := (Option.bind_some _ _).symm.trans H; with_reducible exact H2_) | with_reducible exact H | (rw [hy262]; exact H) | exact H
          have Ny262 := Aside0.mk hy262
          clear hy262
          have H' := Aside0.mk H
          clear H
          go_wp2_with (first | ((with_reducible refine gate_dst (N := 85) rfl ?_); (try (refine gate_guard (by rfl) ?_; dsimp only)); refine Kd.R_lit Kd.string _ 9 ?hg (N := 85) ?hd (xs := ([t255, x17_29, a3] : List ByteArray)) (inner := [.string t255, .string x17_29, .string a3]) (ok := fun _ => True) (okp := fun _ => True) ?hr ?hp (fun _ hk => hk) trivial (Below.refl _ _) (Nat.le_refl _) (by simp) ?_; (case hd => rfl); (case hg => rfl); (case hr => first | (go_simp; done) | (go_simp; rfl)); (case hp => exact (Reps.one (show Kd.M Kd.string _ _ _ t255 [.string t255] from rfl) (Reps.one (show Kd.M Kd.string _ _ _ x17_29 [.string x17_29] from rfl) (Reps.one (show Kd.M Kd.string _ _ _ a3 [.string a3] from rfl) (Reps.none _ _))))); intro v263 w45 ho46 hb hg_ hnew_; clear hg_ hnew_; (first | rw [← Ny262.out] at ho46 | (simp only [Int.reduceToNat] at ho46; rw [← Ny262.out] at ho46)); have n0_ := Aside0.mk (Kd.R_lower ho46 (below_size (by repeat (first | (with_reducible first | exact HB.out | apply below_alloc | apply pw_below_drewN | apply below_drew1) | exact HB.out)))); have n1_ := Aside0.mk (below_step (by repeat (first | (with_reducible first | exact HB.out | apply below_alloc | apply pw_below_drewN | apply below_drew1) | exact HB.out)) hb); clear HB; have HO264 := n0_; have HB := n1_; clear n0_ n1_; clear hb ho46; obtain ⟨Ao47, co47, eo47⟩ := Kd.R_slice HO264.out; subst eo47))
          go_loopg [87] kj29 (fun kq v87 w' => ∃ (x87_4 : Int), v87 = .int .i64 x87_4 ∧ Aside0 (guichetlaw14_TableTexts.l0 kq y262 (y262.length : Int) x87_4 = some r) ∧ Aside0 (kq ≤ kj29) ∧ Aside0 (Kd.R Kd.string 9 w' w.heap.size (fun _ => True) (.slice Ao47 y262.length co47) y262) ∧ Aside0 (Below w.heap.size w w'))
          case atStart => exact ⟨(0), (by first | rfl | (simp; done) | (simp [*]; done)), H', ⟨Nat.le_refl _⟩, ⟨by (with_reducible repeat (first | apply Kd.R_alloc | apply Kd.R_drewN | apply Kd.R_drew)); first | exact HO264.out | exact Kd.R_mono HO264.out (fun _ hk_ => by omega)⟩, ⟨by repeat (first | (with_reducible first | exact HB.out | apply below_alloc | apply pw_below_drewN | apply below_drew1) | exact HB.out)⟩⟩
          case round =>
           clear H'
           try clear c1
           try clear c2
           try clear p2
           try clear c3
           try clear c4
           try clear hcv4
           try clear p6
           try clear c7
           try clear c8
           try clear c9
           try clear c12
           try clear c12b0
           try clear c12b1
           try clear c13
           try clear c13b0
           try clear c13b1
           try clear c14
           try clear c22
           try clear c22b0
           try clear c22b1
           try clear c29
           try clear c31
           try clear c31b0
           try clear c31b1
           try clear c32
           try clear c32b0
           try clear c32b1
           try clear c34
           try clear c34b0
           try clear c34b1
           try clear c35
           try clear c35b0
           try clear c35b1
           try clear c36
           try clear c36b0
           try clear c36b1
           try clear c36b2
           try clear c38
           try clear c38b0
           try clear c38b1
           try clear c39
           try clear c39b0
           try clear c39b1
           try clear c40
           try clear c40b0
           try clear c40b1
           try clear c40b2
           try clear hcv44
           try clear p2
           try clear p6
           obtain ⟨x87_4, rfl, HA, HK4, HO_85, HB⟩ := hrel
           cases gk with
           | zero => exact absurd HA.out (by simp [guichetlaw14_TableTexts.l0])
           | succ k4 =>
            have H := HA.out
            clear HA
            simp only [guichetlaw14_TableTexts.l0] at H
            by_cases c48 : x87_4 < (y262.length : Int)
            ·rw [if_pos c48] at H
             have c48b0 : decide (x87_4 < (y262.length : Int)) = true := decide_eq_true c48
             clear c48
             by_cases c49 : 0 ≤ x87_4
             ·rw [if_pos c49] at H
              have c49b0 : decide (0 ≤ x87_4) = true := decide_eq_true c49
              clear c49
              by_cases c50 : x87_4 < (y262.length : Int)
              ·rw [if_pos c50] at H
               have c50b0 : decide (x87_4 < (y262.length : Int)) = true := decide_eq_true c50
               clear c50
               replace H := Option.bind_eq_some_iff.mp H
               obtain ⟨⟨t266, t267, t268⟩, A510, H⟩ := H
               replace H : ((guichetref12_TableParse.f k4 (rdOf ByteArray.empty y262 x87_4)).bind fun bt271 => (if t267 = bt271.2.1 then (if t268 = bt271.2.2 then ((guichethelp_States.f k4 t266 bt271.1).bind fun t276 => (if t276 = true then (guichetlaw14_TableTexts.l0 k4 y262 (y262.length : Int) (wrap64 (x87_4 + 1))) else (none))) else (none)) else (none))) = some r := H
               have A51 := Aside0.mk A510
               clear A510
               replace H := Option.bind_eq_some_iff.mp H
               obtain ⟨⟨t271, t272, t273⟩, A520, H⟩ := H
               replace H : (if t267 = t272 then (if t268 = t273 then ((guichethelp_States.f k4 t266 t271).bind fun t276 => (if t276 = true then (guichetlaw14_TableTexts.l0 k4 y262 (y262.length : Int) (wrap64 (x87_4 + 1))) else (none))) else (none)) else (none)) = some r := H
               have A52 := Aside0.mk A520
               clear A520
               by_cases c53 : t267 = t272
               ·rw [if_pos c53] at H
                have c53b0 : (t267 == t272) = true := beq_iff_eq.mpr c53
                have c53b1 : (t267 != t272) = false := bne_eq_false_iff_eq.mpr c53
                clear c53
                by_cases c54 : t268 = t273
                ·rw [if_pos c54] at H
                 have c54b0 : (t268 == t273) = true := beq_iff_eq.mpr c54
                 have c54b1 : (t268 != t273) = false := bne_eq_false_iff_eq.mpr c54
                 clear c54
                 replace H := Option.bind_eq_some_iff.mp H
                 obtain ⟨t276, A550, H⟩ := H
                 replace H : (if t276 = true then (guichetlaw14_TableTexts.l0 k4 y262 (y262.length : Int) (wrap64 (x87_4 + 1))) else (none)) = some r := H
                 have A55 := Aside0.mk A550
                 clear A550
                 by_cases c56 : t276 = true
                 ·subst c56
                  have H1 : (guichetlaw14_TableTexts.l0 k4 y262 (y262.length : Int) (wrap64 (x87_4 + 1))) = some r := by rw [if_pos rfl] at H; exact H
                  clear H
                  have H := H1
                  clear H1
                  have H' := Aside0.mk H
                  clear H
                  have p265 : 0 ≤ (x87_4 : Int) := of_decide_eq_true (by first | (with_reducible assumption) | assumption)
                  have q265 : x87_4 < (y262.length : Int) := of_decide_eq_true (by first | (with_reducible assumption) | assumption)
                  obtain ⟨ad265, e265, hx265_0⟩ := Kd.at_string (Kd.R_reads' HO_85.out).2.2 x87_4 p265 q265
                  cases e265
                  replace p265 := eq_true p265
                  replace q265 := eq_true q265
                  go_wp2_with (first | ((with_reducible refine gate_callee (f := 15) rfl ?_); refine goesL_ (some 93) rfl rfl Tryd.func15 (by kernel_rfl) rfl #[.string (rdOf ByteArray.empty y262 x87_4)] rfl (by (try simp only [List.map_toArray, List.map_cons, List.map_nil]); first | done | rfl | (simp only [List.length_drop, List.length_take]; rfl) | (rw [hsame_])) ?_; (with_reducible refine (table_Parse.calls k4 (rdOf ByteArray.empty y262 x87_4) t266 t267 t268 _ ?side1 A51.out).mono ?_); (case side1 => exact tab_at HT.out (by repeat (first | (with_reducible first | exact HB.out | apply below_alloc | apply pw_below_drewN | apply below_drew1) | exact HB.out))); rintro e w57 ⟨v269, rfl, ho0, hb⟩; refine ⟨_, rfl, ?_⟩; have n0_ := Aside0.mk (Kd.R_below (by (with_reducible repeat (first | apply Kd.R_alloc | apply Kd.R_drewN | apply Kd.R_drew)); exact HO_85.out) hb); have n1_ := Aside0.mk (Kd.R_lower ho0 (below_size (by repeat (first | (with_reducible first | exact HB.out | apply below_alloc | apply pw_below_drewN | apply below_drew1) | exact HB.out)))); have n2_ := Aside0.mk (below_step (by repeat (first | (with_reducible first | exact HB.out | apply below_alloc | apply pw_below_drewN | apply below_drew1) | exact HB.out)) hb); clear HO_85; clear HB; have HO_85 := n0_; have HO270 := n1_; have HB := n2_; clear n0_ n1_ n2_; (try clear hb); (try clear hb2); (try clear hk); (try clear hi); (try clear ho0)) | ((with_reducible refine gate_callee (f := 16) rfl ?_); refine goesL_ (some 99) rfl rfl Tryd.func16 (by kernel_rfl) rfl #[.string (rdOf ByteArray.empty y262 x87_4)] rfl (by (try simp only [List.map_toArray, List.map_cons, List.map_nil]); first | done | rfl | (simp only [List.length_drop, List.length_take]; rfl) | (rw [hsame_])) ?_; (with_reducible refine (guichetref12_TableParse.calls k4 (rdOf ByteArray.empty y262 x87_4) t271 t272 t273 _ A52.out).mono ?_); rintro e w58 ⟨v274, rfl, ho0, hb⟩; refine ⟨_, rfl, ?_⟩; have n0_ := Aside0.mk (Kd.R_below (by (with_reducible repeat (first | apply Kd.R_alloc | apply Kd.R_drewN | apply Kd.R_drew)); exact HO_85.out) hb); have n1_ := Aside0.mk (Kd.R_elder' (by (with_reducible repeat (first | apply Kd.R_alloc | apply Kd.R_drewN | apply Kd.R_drew)); exact HO270.out) (Kd.R_base ho0) hb); have n2_ := Aside0.mk (Kd.R_lower (Kd.R_new' ho0 (Kd.R_lt (by (with_reducible repeat (first | apply Kd.R_alloc | apply Kd.R_drewN | apply Kd.R_drew)); exact HO270.out))) (below_size (by repeat (first | (with_reducible first | exact HB.out | apply below_alloc | apply pw_below_drewN | apply below_drew1) | exact HB.out)))); have n3_ := Aside0.mk (below_step (by repeat (first | (with_reducible first | exact HB.out | apply below_alloc | apply pw_below_drewN | apply below_drew1) | exact HB.out)) hb); clear HO_85; clear HO270; clear HB; have HO_85 := n0_; have HO270 := n1_; have HO275 := n2_; have HB := n3_; clear n0_ n1_ n2_ n3_; (try clear hb); (try clear hb2); (try clear hk); (try clear hi); (try clear ho0); obtain ⟨Ao59, co59, eo59⟩ := Kd.R_slice HO270.out; subst eo59; obtain ⟨Ao60, co60, eo60⟩ := Kd.R_slice HO275.out; subst eo60) | (go_at_call 17; (with_reducible refine (guichethelp_States.calls k4 _ _ t266 _ _ t271 true _ ?side1 ?side2 ?side3 ?side4 A55.out).mono ?_); (case side1 => repeat (first | exact (Kd.R_reads' HO270.out).2.2 | (with_reducible refine Kd.C_alloc ?_ _) | (with_reducible refine Kd.C_drewN ?_ _) | (with_reducible refine Kd.C_drew ?_))); (case side2 => exact (Kd.R_reads' HO270.out).2.1); (case side3 => repeat (first | exact (Kd.R_reads' HO275.out).2.2 | (with_reducible refine Kd.C_alloc ?_ _) | (with_reducible refine Kd.C_drewN ?_ _) | (with_reducible refine Kd.C_drew ?_))); (case side4 => exact (Kd.R_reads' HO275.out).2.1); rintro e w' ⟨rfl, ⟨nd, rfl⟩⟩))
                  go_roundg k4
                  case measure => have := HJ9.out; have := HJ16.out; have := HJ29.out; have := HK4.out; omega
                  case rel => exact ⟨(wrap64 (x87_4 + 1)), (by first | rfl | (simp; done) | (simp [*]; done)), H', ⟨by have := HJ9.out; have := HJ16.out; have := HJ29.out; have := HK4.out; omega⟩, ⟨by (with_reducible repeat (first | apply Kd.R_alloc | apply Kd.R_drewN | apply Kd.R_drew)); first | exact HO_85.out | exact Kd.R_mono HO_85.out (fun _ hk_ => by omega)⟩, ⟨by repeat (first | (with_reducible first | exact HB.out | apply below_alloc | apply pw_below_drewN | apply below_drew1) | exact HB.out)⟩⟩
                 ·replace c56 := Bool.eq_false_iff.mpr c56
                  subst c56
                  have H1 : (none) = some r := by rw [if_neg (show ¬ (false = true) by decide)] at H; exact H
                  clear H
                  have H := H1
                  clear H1
                  exact absurd H (by simp)
                ·rw [if_neg c54] at H
                 exact absurd H (by simp)
               ·rw [if_neg c53] at H
                exact absurd H (by simp)
              ·rw [if_neg c50] at H
               exact absurd H (by simp)
             ·rw [if_neg c49] at H
              exact absurd H (by simp)
            ·rw [if_neg c48] at H
             have c48b0 : decide (x87_4 < (y262.length : Int)) = false := decide_eq_false c48
             clear c48
             obtain rfl := Option.some.inj H
             go_wp2
             go_ret
             exact ⟨by first | rfl | (simp [errW_none, errW_some] <;> rfl) | (simp [*, errW_none, errW_some] <;> rfl), by repeat (first | (with_reducible first | exact HB.out | apply below_alloc | apply pw_below_drewN | apply below_drew1) | exact HB.out)⟩
 ·replace c9 := Bool.eq_false_iff.mpr c9
  subst c9
  have H1 : (none) = some r := by rw [if_neg (show ¬ (false = true) by decide)] at H; exact H
  clear H
  have H := H1
  clear H1
  exact absurd H (by simp)

/-- THE ONE PURE STATEMENT of guichetlaw14_TableTexts. -/
def guichetlaw14_TableTexts.Pure : Prop := ∀ (l0 : List (S34)) (l1 : List (S52)) (a2 : Int) (a3 : ByteArray) (a4 : Int) (a5 : Int) (a6 : Int), l0.length ≤ maxLen → (∀ x ∈ l0, (Lit.int .i64 x.f0).wf = true ∧ (Lit.int .u8 x.f1).wf = true ∧ (Lit.int .i64 x.f2).wf = true ∧ (Lit.int .i64 x.f3).wf = true) → l1.length ≤ maxLen → (∀ x ∈ l1, (Lit.int .u8 x.f0).wf = true ∧ (Lit.int .u8 x.f1).wf = true ∧ (Lit.int .u8 x.f2).wf = true ∧ (Lit.int .u8 x.f3).wf = true) → (Lit.int .u8 a2).wf = true → a3.size ≤ 140737488351232 → (Lit.int .u16 a4).wf = true → (Lit.int .u8 a5).wf = true → (Lit.int .u8 a6).wf = true → ∃ k, guichetlaw14_TableTexts.f k l0 l1 a2 a3 a4 a5 a6 = some true
theorem guichetlaw14_TableTexts.walk (P : guichetlaw14_TableTexts.Pure) (a0 : Option Addr) (cap0 : Nat) (l0 : List (S34)) (a1 : Option Addr) (cap1 : Nat) (l1 : List (S52)) (a2 : Int) (a3 : ByteArray) (a4 : Int) (a5 : Int) (a6 : Int) (w : World) (hT : TAB w) (hr0 : Kd.C k34 w a0 l0.length l0) (hc0 : l0.length ≤ cap0) (hm0 : l0.length ≤ maxLen) (hw0 : ∀ x ∈ l0, (Lit.int .i64 x.f0).wf = true ∧ (Lit.int .u8 x.f1).wf = true ∧ (Lit.int .i64 x.f2).wf = true ∧ (Lit.int .i64 x.f3).wf = true) (hr1 : Kd.C k52 w a1 l1.length l1) (hc1 : l1.length ≤ cap1) (hm1 : l1.length ≤ maxLen) (hw1 : ∀ x ∈ l1, (Lit.int .u8 x.f0).wf = true ∧ (Lit.int .u8 x.f1).wf = true ∧ (Lit.int .u8 x.f2).wf = true ∧ (Lit.int .u8 x.f3).wf = true) (w2 : (Lit.int .u8 a2).wf = true) (w3 : a3.size ≤ 140737488351232) (w4 : (Lit.int .u16 a4).wf = true) (w5 : (Lit.int .u8 a5).wf = true) (w6 : (Lit.int .u8 a6).wf = true) :
  Calls Tryd.prog 4 #[.slice a0 l0.length cap0, .slice a1 l1.length cap1, .int .u8 a2, .string a3, .int .u16 a4, .int .u8 a5, .int .u8 a6] w fun e w' => e = .returned (.bool true) ∧ Below w.heap.size w w' := by
 obtain ⟨k, h⟩ := P l0 l1 a2 a3 a4 a5 a6 hm0 hw0 hm1 hw1 w2 w3 w4 w5 w6
 refine (guichetlaw14_TableTexts.calls k _ _ l0 _ _ l1 a2 a3 a4 a5 a6 true w hT hr0 hc0 hr1 hc1 h).mono ?_
 rintro e w' ⟨rfl, hd⟩
 exact ⟨rfl, hd⟩

end Go.Proofs.YthajndlkibpncaaDoor.PAll
