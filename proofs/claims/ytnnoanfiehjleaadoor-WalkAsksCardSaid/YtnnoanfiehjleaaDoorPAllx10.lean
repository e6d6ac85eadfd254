-- written by xprint.py out of the translation. Not trusted: Lean checks it.
import Derived.Test.YtnnoanfiehjleaaDoorPAllx0
import Derived.Test.YtnnoanfiehjleaaDoorPAllx3
import Derived.Test.YtnnoanfiehjleaaDoorPAllx9
namespace Go.Proofs.YtnnoanfiehjleaaDoor.PAll
open Go.RowKit Go.Proofs.YtnnoanfiehjleaaDoorW.PrintWords Go.Proofs.YtnnoanfiehjleaaDoorW.PrintLast Go.Proofs.YtnnoanfiehjleaaDoorW.PrintMore
attribute [local go_sem] max2_int min2_int max_two min_two max_three min_three max_four min_four   -- for this text's walks alone
set_option linter.unusedVariables false
set_option linter.unusedSimpArgs false

/-! ### guichetlaw15_WalkAsks: function 5 -/
mutual
def guichetlaw15_WalkAsks.j0 : Nat → List Int → List Int → Bool → Bool → Option (Bool)
 | 0, _, _, _, _ => none
 | k + 1, x0, x1, x2, x24 => if x24 = true then (some true) else ((some (([(⟨0, 69, 1, 2⟩ : S34), (⟨1, 65, 0, 0⟩ : S34), (⟨2, 69, 3, 4⟩ : S34), (⟨3, 68, 2, 2⟩ : S34), (⟨4, 73, 5, 0⟩ : S34), (⟨5, 90, 0, 0⟩ : S34)] : List (S34)) : List (S34))).bind fun y270 => (if x2 = true then (if 5 < (y270.length : Int) then ((some (y270.set (5 : Int).toNat (⟨5, 73, 6, 0⟩ : S34) : List (S34))).bind fun y273 => (if y273.length < 4398046511104 then (guichetlaw15_WalkAsks.j1 k x0 x1 x2 (y273 ++ [(⟨6, 90, 0, 0⟩ : S34)])) else (none))) else (none)) else (guichetlaw15_WalkAsks.j1 k x0 x1 x2 y270)))
def guichetlaw15_WalkAsks.j1 : Nat → List Int → List Int → Bool → List (S34) → Option (Bool)
 | 0, _, _, _, _ => none
 | k + 1, x0, x1, x2, x7 => guichetlaw15_WalkAsks.l0 k x0 x1 x2 x7 ([] : List ByteArray) (⟨#[]⟩ : ByteArray) 0 0
def guichetlaw15_WalkAsks.l0 : Nat → List Int → List Int → Bool → List (S34) → List ByteArray → ByteArray → Int → Int → Option (Bool)
 | 0, _, _, _, _, _, _, _, _ => none
 | k + 1, x0, x1, x2, x7, x8, x9, x10, x11 => if x11 < (x0.length : Int) then (if 0 ≤ x11 then ((guichetseat_Pan.f (rd x0 x11)).bind fun t278 => ((some (([(⟨#[49]⟩ : ByteArray), t278] : List ByteArray) : List ByteArray)).bind fun y279 => (if x8.length + y279.length < 8796093022208 then (guichetlaw15_WalkAsks.l0 k x0 x1 x2 x7 (x8 ++ y279) t278 x10 (wrap64 (x11 + 1))) else (none)))) else (none)) else (if x8.length < 8796093022208 then (guichetlaw15_WalkAsks.l1 k x1 x2 x7 (x8 ++ [(⟨#[50]⟩ : ByteArray)]) x9 x10 0) else (none))
def guichetlaw15_WalkAsks.l1 : Nat → List Int → Bool → List (S34) → List ByteArray → ByteArray → Int → Int → Option (Bool)
 | 0, _, _, _, _, _, _, _ => none
 | k + 1, x1, x2, x7, x8, x9, x10, x12 => if x12 < (x1.length : Int) then (if 0 ≤ x12 then ((guichetseat_Decimals.f k (wrap64 (rd x1 x12))).bind fun t289 => ((some (([(⟨#[49]⟩ : ByteArray), t289] : List ByteArray) : List ByteArray)).bind fun y290 => (if x8.length + y290.length < 8796093022208 then (guichetlaw15_WalkAsks.l1 k x1 x2 x7 (x8 ++ y290) x9 (wrap64 (rd x1 x12)) (wrap64 (x12 + 1))) else (none)))) else (none)) else (if x8.length < 8796093022208 then ((interp_Run.f k x7 0 (x8 ++ [(⟨#[50]⟩ : ByteArray)])).bind fun bt299 => (if x9.toList = ([] : List UInt8) then (if (bt299.2.2.1 == false) = true then (if bt299.2.2.2.1.toList = ([] : List UInt8) then (if bt299.2.2.2.2 = 0 then (if bt299.1 = 5 then (if x2 = true then (if bt299.1 = 6 then (some x2) else (some false)) else (some true)) else (if bt299.1 = 6 then (some x2) else (some false))) else (some false)) else (some false)) else (some false)) else (if x10 = 0 then (if (bt299.2.2.1 == (x10 != 0)) = true then (if bt299.2.2.2.1.toList = ([] : List UInt8) then (if bt299.2.2.2.2 = 0 then (if bt299.1 = 5 then (if x2 = true then (if bt299.1 = 6 then (some x2) else (some false)) else (some true)) else (if bt299.1 = 6 then (some x2) else (some false))) else (some false)) else (some false)) else (some false)) else (if (bt299.2.2.1 == (x10 != 0)) = true then (if bt299.2.2.2.1.toList = x9.toList then (if bt299.2.2.2.2 = x10 then (if bt299.1 = 5 then (if x2 = true then (if bt299.1 = 6 then (some x2) else (some false)) else (some true)) else (if bt299.1 = 6 then (some x2) else (some false))) else (some false)) else (some false)) else (some false))))) else (none))
end
def guichetlaw15_WalkAsks.f (k : Nat) (l0 : List Int) (l1 : List Int) (a2 : Bool) : Option (Bool) := (guichetlaw15_known.f k).bind fun t269 => (if t269 = true then (if (l0.length : Int) > 8 then (guichetlaw15_WalkAsks.j0 k l0 l1 a2 true) else (guichetlaw15_WalkAsks.j0 k l0 l1 a2 (decide ((l1.length : Int) > 8)))) else (some false))
theorem guichetlaw15_WalkAsks.mono_l : ∀ k, (∀ y0 y1 y2 y3, LeO (guichetlaw15_WalkAsks.j0 k y0 y1 y2 y3) (guichetlaw15_WalkAsks.j0 (k + 1) y0 y1 y2 y3)) ∧ (∀ y0 y1 y2 y3, LeO (guichetlaw15_WalkAsks.j1 k y0 y1 y2 y3) (guichetlaw15_WalkAsks.j1 (k + 1) y0 y1 y2 y3)) ∧ (∀ y0 y1 y2 y3 y4 y5 y6 y7, LeO (guichetlaw15_WalkAsks.l0 k y0 y1 y2 y3 y4 y5 y6 y7) (guichetlaw15_WalkAsks.l0 (k + 1) y0 y1 y2 y3 y4 y5 y6 y7)) ∧ (∀ y0 y1 y2 y3 y4 y5 y6, LeO (guichetlaw15_WalkAsks.l1 k y0 y1 y2 y3 y4 y5 y6) (guichetlaw15_WalkAsks.l1 (k + 1) y0 y1 y2 y3 y4 y5 y6))
 | 0 => ⟨fun _ _ _ _ r h => by simp [guichetlaw15_WalkAsks.j0] at h, fun _ _ _ _ r h => by simp [guichetlaw15_WalkAsks.j1] at h, fun _ _ _ _ _ _ _ _ r h => by simp [guichetlaw15_WalkAsks.l0] at h, fun _ _ _ _ _ _ _ r h => by simp [guichetlaw15_WalkAsks.l1] at h⟩
 | k + 1 => by
  obtain ⟨ih0, ih1, ih2, ih3⟩ := guichetlaw15_WalkAsks.mono_l k
  refine ⟨?_, ?_, ?_, ?_⟩
  ·intro y0 y1 y2 y3
   unfold guichetlaw15_WalkAsks.j0
   repeat' first
   | (with_reducible exact ih0 _ _ _ _)
   | (with_reducible exact ih1 _ _ _ _)
   | (with_reducible exact ih2 _ _ _ _ _ _ _ _)
   | (with_reducible exact ih3 _ _ _ _ _ _ _)
   | (with_reducible exact guichetlaw15_known.mono _)
   | (with_reducible exact guichetseat_Decimals.mono _ _)
   | (with_reducible exact interp_Run.mono _ _ _ _)
   | (with_reducible exact LeO.refl _)
   | (with_reducible exact LeO.none _)
   | (with_reducible refine LeO.ite ?_ ?_)
   | (with_reducible refine LeO.bind ?_ (fun _ => ?_))
   | exact ih0 _ _ _ _
   | exact ih1 _ _ _ _
   | exact ih2 _ _ _ _ _ _ _ _
   | exact ih3 _ _ _ _ _ _ _
   | exact guichetlaw15_known.mono _
   | exact guichetseat_Decimals.mono _ _
   | exact interp_Run.mono _ _ _ _
   | exact LeO.none _
   | refine LeO.ite ?_ ?_
   | refine LeO.bind ?_ (fun _ => ?_)
  ·intro y0 y1 y2 y3
   unfold guichetlaw15_WalkAsks.j1
   repeat' first
   | (with_reducible exact ih0 _ _ _ _)
   | (with_reducible exact ih1 _ _ _ _)
   | (with_reducible exact ih2 _ _ _ _ _ _ _ _)
   | (with_reducible exact ih3 _ _ _ _ _ _ _)
   | (with_reducible exact guichetlaw15_known.mono _)
   | (with_reducible exact guichetseat_Decimals.mono _ _)
   | (with_reducible exact interp_Run.mono _ _ _ _)
   | (with_reducible exact LeO.refl _)
   | (with_reducible exact LeO.none _)
   | (with_reducible refine LeO.ite ?_ ?_)
   | (with_reducible refine LeO.bind ?_ (fun _ => ?_))
   | exact ih0 _ _ _ _
   | exact ih1 _ _ _ _
   | exact ih2 _ _ _ _ _ _ _ _
   | exact ih3 _ _ _ _ _ _ _
   | exact guichetlaw15_known.mono _
   | exact guichetseat_Decimals.mono _ _
   | exact interp_Run.mono _ _ _ _
   | exact LeO.none _
   | refine LeO.ite ?_ ?_
   | refine LeO.bind ?_ (fun _ => ?_)
  ·intro y0 y1 y2 y3 y4 y5 y6 y7
   unfold guichetlaw15_WalkAsks.l0
   repeat' first
   | (with_reducible exact ih0 _ _ _ _)
   | (with_reducible exact ih1 _ _ _ _)
   | (with_reducible exact ih2 _ _ _ _ _ _ _ _)
   | (with_reducible exact ih3 _ _ _ _ _ _ _)
   | (with_reducible exact guichetlaw15_known.mono _)
   | (with_reducible exact guichetseat_Decimals.mono _ _)
   | (with_reducible exact interp_Run.mono _ _ _ _)
   | (with_reducible exact LeO.refl _)
   | (with_reducible exact LeO.none _)
   | (with_reducible refine LeO.ite ?_ ?_)
   | (with_reducible refine LeO.bind ?_ (fun _ => ?_))
   | exact ih0 _ _ _ _
   | exact ih1 _ _ _ _
   | exact ih2 _ _ _ _ _ _ _ _
   | exact ih3 _ _ _ _ _ _ _
   | exact guichetlaw15_known.mono _
   | exact guichetseat_Decimals.mono _ _
   | exact interp_Run.mono _ _ _ _
   | exact LeO.none _
   | refine LeO.ite ?_ ?_
   | refine LeO.bind ?_ (fun _ => ?_)
  ·intro y0 y1 y2 y3 y4 y5 y6
   unfold guichetlaw15_WalkAsks.l1
   repeat' first
   | (with_reducible exact ih0 _ _ _ _)
   | (with_reducible exact ih1 _ _ _ _)
   | (with_reducible exact ih2 _ _ _ _ _ _ _ _)
   | (with_reducible exact ih3 _ _ _ _ _ _ _)
   | (with_reducible exact guichetlaw15_known.mono _)
   | (with_reducible exact guichetseat_Decimals.mono _ _)
   | (with_reducible exact interp_Run.mono _ _ _ _)
   | (with_reducible exact LeO.refl _)
   | (with_reducible exact LeO.none _)
   | (with_reducible refine LeO.ite ?_ ?_)
   | (with_reducible refine LeO.bind ?_ (fun _ => ?_))
   | exact ih0 _ _ _ _
   | exact ih1 _ _ _ _
   | exact ih2 _ _ _ _ _ _ _ _
   | exact ih3 _ _ _ _ _ _ _
   | exact guichetlaw15_known.mono _
   | exact guichetseat_Decimals.mono _ _
   | exact interp_Run.mono _ _ _ _
   | exact LeO.none _
   | refine LeO.ite ?_ ?_
   | refine LeO.bind ?_ (fun _ => ?_)
theorem guichetlaw15_WalkAsks.mono : ∀ a0 a1 a2 k, LeO (guichetlaw15_WalkAsks.f k a0 a1 a2) (guichetlaw15_WalkAsks.f (k + 1) a0 a1 a2) := by
 intro a0 a1 a2 k
 obtain ⟨ih0, ih1, ih2, ih3⟩ := guichetlaw15_WalkAsks.mono_l k
 unfold guichetlaw15_WalkAsks.f
 repeat' first
   | (with_reducible exact ih0 _ _ _ _)
   | (with_reducible exact ih1 _ _ _ _)
   | (with_reducible exact ih2 _ _ _ _ _ _ _ _)
   | (with_reducible exact ih3 _ _ _ _ _ _ _)
   | (with_reducible exact guichetlaw15_known.mono _)
   | (with_reducible exact guichetseat_Decimals.mono _ _)
   | (with_reducible exact interp_Run.mono _ _ _ _)
   | (with_reducible exact LeO.refl _)
   | (with_reducible exact LeO.none _)
   | (with_reducible refine LeO.ite ?_ ?_)
   | (with_reducible refine LeO.bind ?_ (fun _ => ?_))
   | exact ih0 _ _ _ _
   | exact ih1 _ _ _ _
   | exact ih2 _ _ _ _ _ _ _ _
   | exact ih3 _ _ _ _ _ _ _
   | exact guichetlaw15_known.mono _
   | exact guichetseat_Decimals.mono _ _
   | exact interp_Run.mono _ _ _ _
   | exact LeO.none _
   | refine LeO.ite ?_ ?_
   | refine LeO.bind ?_ (fun _ => ?_)
set_option maxHeartbeats 8000000 in
set_option maxRecDepth 100000 in
theorem guichetlaw15_WalkAsks.calls (k : Nat) (A0 : Option Addr) (c0 : Nat) (l0 : List Int) (A1 : Option Addr) (c1 : Nat) (l1 : List Int) (a2 : Bool) (r : Bool) (w : World) (hr0 : Kd.C (Kd.int .u8) w A0 l0.length l0) (hc0 : l0.length ≤ c0) (hr1 : Kd.C (Kd.int .u8) w A1 l1.length l1) (hc1 : l1.length ≤ c1) (h : guichetlaw15_WalkAsks.f k l0 l1 a2 = some r) :
  Calls Tryd.prog 5 #[.slice A0 l0.length c0, .slice A1 l1.length c1, .bool a2] w fun e w' => e = .returned (.bool r) ∧ Below w.heap.size w w' := by
 have hu34 := Tryd.underlying34
 have hu30 := Tryd.underlying30
 have HR0 := Aside0.mk hr0
 have HC0 := Aside0.mk hc0
 clear hr0 hc0
 have HR1 := Aside0.mk hr1
 have HC1 := Aside0.mk hc1
 clear hr1 hc1
 have HB := Aside0.mk (Below.refl w.heap.size w)
 have H : ((guichetlaw15_known.f k).bind fun t269 => (if t269 = true then (if (l0.length : Int) > 8 then (guichetlaw15_WalkAsks.j0 k l0 l1 a2 true) else (guichetlaw15_WalkAsks.j0 k l0 l1 a2 (decide ((l1.length : Int) > 8)))) else (some false))) = some r := h
 clear h
 replace H := Option.bind_eq_some_iff.mp H
 obtain ⟨t269, A40, H⟩ := H
 replace H : (if t269 = true then (if (l0.length : Int) > 8 then (guichetlaw15_WalkAsks.j0 k l0 l1 a2 true) else (guichetlaw15_WalkAsks.j0 k l0 l1 a2 (decide ((l1.length : Int) > 8)))) else (some false)) = some r := H
 have A4 := Aside0.mk A40
 clear A40
 by_cases c5 : t269 = true
 ·subst c5
  have H1 : (if (l0.length : Int) > 8 then (guichetlaw15_WalkAsks.j0 k l0 l1 a2 true) else (guichetlaw15_WalkAsks.j0 k l0 l1 a2 (decide ((l1.length : Int) > 8)))) = some r := by rw [if_pos rfl] at H; exact H
  clear H
  have H := H1
  clear H1
  have HC6 := Aside0.mk H
  clear H
  go_enter Tryd.func5, Tryd.ntmps5
  go_upto_region 3 with (first | ((with_reducible refine gate_callee (f := 7) rfl ?_); refine goesL_ (some 15) rfl rfl Tryd.func7 (by kernel_rfl) rfl #[] rfl (by (try simp only [List.map_toArray, List.map_cons, List.map_nil]); first | done | rfl | (simp only [List.length_drop, List.length_take]; rfl) | (rw [hsame_])) ?_; (with_reducible refine (guichetlaw15_known.calls k  true _ A4.out).mono ?_); rintro e w7 ⟨rfl, hb⟩; refine ⟨_, rfl, ?_⟩; have n0_ := Aside0.mk (below_step (by repeat (first | (with_reducible first | exact HB.out | apply below_alloc | apply pw_below_drewN | apply below_drew1) | exact HB.out)) hb); clear HB; have HB := n0_; clear n0_; (try clear hb); (try clear hb2); (try clear hk); (try clear hi)))
  (try simp only [Act.put, List.setIfInBounds_toArray, List.set_cons_zero, List.set_cons_succ])
  go_cut [24] (fun v24 wc => ∃ (kq : Nat) (x24_5 : Bool), v24 = .bool x24_5 ∧ Aside0 (guichetlaw15_WalkAsks.j0 kq l0 l1 a2 x24_5 = some r) ∧ Aside0 (kq ≤ k) ∧ Aside0 (Below w.heap.size w wc))
  case first =>
   have H := HC6.out
   clear HC6
   by_cases c8 : (l0.length : Int) > 8
   ·rw [if_pos c8] at H
    have c8b0 : decide (8 < (l0.length : Int)) = true := decide_eq_true c8
    have c8b1 : decide (8 < l0.length) = true := decide_eq_true (by omega)
    clear c8
    (first | rw [c8b0] | (simp only [i64_w, i32_w]; rw [c8b0]) | skip)
    have H' := Aside0.mk H
    clear H
    go_wp2
    go_meet
    case rel => exact ⟨_, (true), (by first | rfl | (simp; done) | (simp [*]; done)), H', ⟨by first | omega | exact Nat.le_refl _⟩, ⟨by repeat (first | (with_reducible first | exact HB.out | apply below_alloc | apply pw_below_drewN | apply below_drew1) | exact HB.out)⟩⟩
   ·rw [if_neg c8] at H
    have c8b0 : decide (8 < (l0.length : Int)) = false := decide_eq_false c8
    have c8b1 : decide (8 < l0.length) = false := decide_eq_false (by omega)
    clear c8
    (first | rw [c8b0] | (simp only [i64_w, i32_w]; rw [c8b0]) | skip)
    have H' := Aside0.mk H
    clear H
    go_wp2
    go_meet
    case rel => exact ⟨_, (decide ((l1.length : Int) > 8)), (by first | rfl | (simp; done) | (simp [*]; done)), H', ⟨by first | omega | exact Nat.le_refl _⟩, ⟨by repeat (first | (with_reducible first | exact HB.out | apply below_alloc | apply pw_below_drewN | apply below_drew1) | exact HB.out)⟩⟩
  case rest =>
   clear HC6
   try clear c1
   try clear p2
   try clear c5
   try clear c7
   try clear c8
   try clear c8b0
   try clear c8b1
   obtain ⟨kq, x24_5, rfl, HA, HJ5, HB⟩ := hcut
   cases kq with
   | zero => exact absurd HA.out (by simp [guichetlaw15_WalkAsks.j0])
   | succ kj5 =>
    have H := HA.out
    clear HA
    simp only [guichetlaw15_WalkAsks.j0] at H
    by_cases c9 : x24_5 = true
    ·subst c9
     have H1 : (some true) = some r := by rw [if_pos rfl] at H; exact H
     clear H
     have H := H1
     clear H1
     obtain rfl := Option.some.inj H
     go_wp2
     go_ret
     exact ⟨by first | rfl | (simp [errW_none, errW_some] <;> rfl) | (simp [*, errW_none, errW_some] <;> rfl), by repeat (first | (with_reducible first | exact HB.out | apply below_alloc | apply pw_below_drewN | apply below_drew1) | exact HB.out)⟩
    ·replace c9 := Bool.eq_false_iff.mpr c9
     subst c9
     have H1 : ((some (([(⟨0, 69, 1, 2⟩ : S34), (⟨1, 65, 0, 0⟩ : S34), (⟨2, 69, 3, 4⟩ : S34), (⟨3, 68, 2, 2⟩ : S34), (⟨4, 73, 5, 0⟩ : S34), (⟨5, 90, 0, 0⟩ : S34)] : List (S34)) : List (S34))).bind fun y270 => (if a2 = true then (if 5 < (y270.length : Int) then ((some (y270.set (5 : Int).toNat (⟨5, 73, 6, 0⟩ : S34) : List (S34))).bind fun y273 => (if y273.length < 4398046511104 then (guichetlaw15_WalkAsks.j1 kj5 l0 l1 a2 (y273 ++ [(⟨6, 90, 0, 0⟩ : S34)])) else (none))) else (none)) else (guichetlaw15_WalkAsks.j1 kj5 l0 l1 a2 y270))) = some r := by rw [if_neg (show ¬ (false = true) by decide)] at H; exact H
     clear H
     have H := H1
     clear H1
     obtain ⟨y270, hy270⟩ : ∃ y_ : List (S34), y_ = (([(⟨0, 69, 1, 2⟩ : S34), (⟨1, 65, 0, 0⟩ : S34), (⟨2, 69, 3, 4⟩ : S34), (⟨3, 68, 2, 2⟩ : S34), (⟨4, 73, 5, 0⟩ : S34), (⟨5, 90, 0, 0⟩ : S34)] : List (S34))) := ⟨_, rfl⟩
     replace H : (if a2 = true then (if 5 < (y270.length : Int) then ((some (y270.set (5 : Int).toNat (⟨5, 73, 6, 0⟩ : S34) : List (S34))).bind fun y273 => (if y273.length < 4398046511104 then (guichetlaw15_WalkAsks.j1 kj5 l0 l1 a2 (y273 ++ [(⟨6, 90, 0, 0⟩ : S34)])) else (none))) else (none)) else (guichetlaw15_WalkAsks.j1 kj5 l0 l1 a2 y270)) = some r := by first | (rw [hy270]; with_reducible exact H) | (have H2_ := (Option.bind_some _ _).symm.trans H; rw [hy270]; with_reducible exact H2_) | (have H2_ := (Option.bind_some _ _).symm.trans H; with_reducible exact H2_) | with_reducible exact H | (rw [hy270]; exact H) | exact H
     have Ny270 := Aside0.mk hy270
     clear hy270
     have HC10 := Aside0.mk H
     clear H
     go_upto_if 32 with (first | ((with_reducible refine gate_dst (N := 31) rfl ?_); (try (refine gate_guard (by rfl) ?_; dsimp only)); refine Kd.R_lit k34 _ 34 ?hg (N := 31) ?hd (xs := ([(⟨0, 69, 1, 2⟩ : S34), (⟨1, 65, 0, 0⟩ : S34), (⟨2, 69, 3, 4⟩ : S34), (⟨3, 68, 2, 2⟩ : S34), (⟨4, 73, 5, 0⟩ : S34), (⟨5, 90, 0, 0⟩ : S34)] : List (S34))) (inner := [.int .i64 0, .int .u8 69, .int .i64 1, .int .i64 2, .int .i64 1, .int .u8 65, .int .i64 0, .int .i64 0, .int .i64 2, .int .u8 69, .int .i64 3, .int .i64 4, .int .i64 3, .int .u8 68, .int .i64 2, .int .i64 2, .int .i64 4, .int .u8 73, .int .i64 5, .int .i64 0, .int .i64 5, .int .u8 90, .int .i64 0, .int .i64 0]) (ok := fun _ => True) (okp := fun _ => True) ?hr ?hp (fun _ hk => hk) trivial (Below.refl _ _) (Nat.le_refl _) (by simp) ?_; (case hd => rfl); (case hg => rfl); (case hr => first | (go_simp; done) | (go_simp; rfl)); (case hp => exact (Reps.c4 (show Kd.M k34 _ _ _ (⟨0, 69, 1, 2⟩ : S34) [.int .i64 0, .int .u8 69, .int .i64 1, .int .i64 2] from (k34_mkM _ _ _ (⟨0, 69, 1, 2⟩ : S34) )) (Reps.c4 (show Kd.M k34 _ _ _ (⟨1, 65, 0, 0⟩ : S34) [.int .i64 1, .int .u8 65, .int .i64 0, .int .i64 0] from (k34_mkM _ _ _ (⟨1, 65, 0, 0⟩ : S34) )) (Reps.c4 (show Kd.M k34 _ _ _ (⟨2, 69, 3, 4⟩ : S34) [.int .i64 2, .int .u8 69, .int .i64 3, .int .i64 4] from (k34_mkM _ _ _ (⟨2, 69, 3, 4⟩ : S34) )) (Reps.c4 (show Kd.M k34 _ _ _ (⟨3, 68, 2, 2⟩ : S34) [.int .i64 3, .int .u8 68, .int .i64 2, .int .i64 2] from (k34_mkM _ _ _ (⟨3, 68, 2, 2⟩ : S34) )) (Reps.c4 (show Kd.M k34 _ _ _ (⟨4, 73, 5, 0⟩ : S34) [.int .i64 4, .int .u8 73, .int .i64 5, .int .i64 0] from (k34_mkM _ _ _ (⟨4, 73, 5, 0⟩ : S34) )) (Reps.c4 (show Kd.M k34 _ _ _ (⟨5, 90, 0, 0⟩ : S34) [.int .i64 5, .int .u8 90, .int .i64 0, .int .i64 0] from (k34_mkM _ _ _ (⟨5, 90, 0, 0⟩ : S34) )) (Reps.none _ _)))))))); intro v271 w11 ho12 hb hg_ hnew_; clear hg_ hnew_; (first | rw [← Ny270.out] at ho12 | (simp only [Int.reduceToNat] at ho12; rw [← Ny270.out] at ho12)); have n0_ := Aside0.mk (Kd.R_lower ho12 (below_size (by repeat (first | (with_reducible first | exact HB.out | apply below_alloc | apply pw_below_drewN | apply below_drew1) | exact HB.out)))); have n1_ := Aside0.mk (below_step (by repeat (first | (with_reducible first | exact HB.out | apply below_alloc | apply pw_below_drewN | apply below_drew1) | exact HB.out)) hb); clear HB; have HO272 := n0_; have HB := n1_; clear n0_ n1_; clear hb ho12))
     (try simp only [Act.put, List.setIfInBounds_toArray, List.set_cons_zero, List.set_cons_succ])
     go_cut [7] (fun v7 wc => ∃ (kq : Nat) (x7_9 : List (S34)), Aside0 (guichetlaw15_WalkAsks.j1 kq l0 l1 a2 x7_9 = some r) ∧ Aside0 (kq ≤ kj5) ∧ Aside0 (Kd.R k34 34 wc w.heap.size (fun _ => True) v7 x7_9) ∧ Aside0 (Below w.heap.size w wc))
     case first =>
      have H := HC10.out
      clear HC10
      by_cases c13 : a2 = true
      ·subst c13
       have H1 : (if 5 < (y270.length : Int) then ((some (y270.set (5 : Int).toNat (⟨5, 73, 6, 0⟩ : S34) : List (S34))).bind fun y273 => (if y273.length < 4398046511104 then (guichetlaw15_WalkAsks.j1 kj5 l0 l1 true (y273 ++ [(⟨6, 90, 0, 0⟩ : S34)])) else (none))) else (none)) = some r := by rw [if_pos rfl] at H; exact H
       clear H
       have H := H1
       clear H1
       by_cases c14 : 5 < (y270.length : Int)
       ·rw [if_pos c14] at H
        have c14b0 : decide (5 < (y270.length : Int)) = true := decide_eq_true c14
        have c14b1 : decide (5 < y270.length) = true := decide_eq_true (by omega)
        clear c14
        (first | rw [c14b0] | (simp only [i64_w, i32_w]; rw [c14b0]) | skip)
        obtain ⟨y273, hy273⟩ : ∃ y_ : List (S34), y_ = (y270.set (5 : Int).toNat (⟨5, 73, 6, 0⟩ : S34)) := ⟨_, rfl⟩
        replace H : (if y273.length < 4398046511104 then (guichetlaw15_WalkAsks.j1 kj5 l0 l1 true (y273 ++ [(⟨6, 90, 0, 0⟩ : S34)])) else (none)) = some r := by first | (rw [hy273]; with_reducible exact H) | (have H2_ := (Option.bind_some _ _).symm.trans H; rw [hy273]; with_reducible exact H2_) | (have H2_ := (Option.bind_some _ _).symm.trans H; with_reducible exact H2_) | with_reducible exact H | (rw [hy273]; exact H) | exact H
        have Ny273 := Aside0.mk hy273
        clear hy273
        by_cases c16 : y273.length < 4398046511104
        ·rw [if_pos c16] at H
         have LMc16 := Aside0.mk c16
         clear c16
         obtain ⟨y274, hy274⟩ : ∃ y_ : List (S34), y_ = (y273 ++ [(⟨6, 90, 0, 0⟩ : S34)]) := ⟨_, rfl⟩
         replace H : (guichetlaw15_WalkAsks.j1 kj5 l0 l1 true y274) = some r := by first | (rw [hy274]; with_reducible exact H) | (have H2_ := (Option.bind_some _ _).symm.trans H; rw [hy274]; with_reducible exact H2_) | (have H2_ := (Option.bind_some _ _).symm.trans H; with_reducible exact H2_) | with_reducible exact H | (rw [hy274]; exact H) | exact H
         have Ny274 := Aside0.mk hy274
         clear hy274
         have H' := Aside0.mk H
         clear H
         have p15 : 0 ≤ (5 : Int) := (by omega)
         have q15 : (5 : Int) < ((y270.length : Int) : Int) := of_decide_eq_true (by first | (with_reducible assumption) | assumption)
         have qi15 : (5 < y270.length) = True := eq_true (by omega)
         obtain ⟨go15, co15, eo15, gb15, gl15, cl15, HG15⟩ := Kd.R_form HO272.out (by omega)
         (first | cases eo15 | (injection eo15 with ea_ en_ ec_; (first | subst ea_ | (injection ea_ with ea_; subst ea_)); subst ec_; clear en_))
         have GB15 := Aside0.mk gb15
         have GG15 := Aside0.mk HG15
         clear gb15 gl15 HG15
         obtain ⟨ce15, hcl15, hM15, hcc15, hfr15⟩ := Kd.R_elem HO272.out z34 (5 : Int) p15 q15
         obtain rfl := k34_openM hM15
         have hx15_0 : w11.cell? ⟨go15, (5 : Int).toNat * 4, none⟩ = some (.int .i64 ((rd_T34 y270 5).f0)) := hcc15 0 _ rfl
         have hx15_1 : w11.cell? ⟨go15, (5 : Int).toNat * 4 + 1, none⟩ = some (.int .u8 ((rd_T34 y270 5).f1)) := hcc15 1 _ rfl
         have hx15_2 : w11.cell? ⟨go15, (5 : Int).toNat * 4 + 2, none⟩ = some (.int .i64 ((rd_T34 y270 5).f2)) := hcc15 2 _ rfl
         have hx15_3 : w11.cell? ⟨go15, (5 : Int).toNat * 4 + 3, none⟩ = some (.int .i64 ((rd_T34 y270 5).f3)) := hcc15 3 _ rfl
         have hf15_0 : w11.frozen? ⟨go15, (5 : Int).toNat * 4, none⟩ = false := hfr15 0
         have hf15_1 : w11.frozen? ⟨go15, (5 : Int).toNat * 4 + 1, none⟩ = false := hfr15 1
         have hf15_2 : w11.frozen? ⟨go15, (5 : Int).toNat * 4 + 2, none⟩ = false := hfr15 2
         have hf15_3 : w11.frozen? ⟨go15, (5 : Int).toNat * 4 + 3, none⟩ = false := hfr15 3
         clear hcl15 hcc15 hfr15 hM15
         (try rw [show ((5 : Int)).toNat = 5 from rfl] at hx15_0)
         (try simp only [Nat.reduceMul, Nat.zero_mul, Nat.zero_add, Nat.reduceAdd] at hx15_0)
         (try rw [show ((5 : Int)).toNat = 5 from rfl] at hf15_0)
         (try simp only [Nat.reduceMul, Nat.zero_mul, Nat.zero_add, Nat.reduceAdd] at hf15_0)
         (try rw [show ((5 : Int)).toNat = 5 from rfl] at hx15_1)
         (try simp only [Nat.reduceMul, Nat.zero_mul, Nat.zero_add, Nat.reduceAdd] at hx15_1)
         (try rw [show ((5 : Int)).toNat = 5 from rfl] at hf15_1)
         (try simp only [Nat.reduceMul, Nat.zero_mul, Nat.zero_add, Nat.reduceAdd] at hf15_1)
         (try rw [show ((5 : Int)).toNat = 5 from rfl] at hx15_2)
         (try simp only [Nat.reduceMul, Nat.zero_mul, Nat.zero_add, Nat.reduceAdd] at hx15_2)
         (try rw [show ((5 : Int)).toNat = 5 from rfl] at hf15_2)
         (try simp only [Nat.reduceMul, Nat.zero_mul, Nat.zero_add, Nat.reduceAdd] at hf15_2)
         (try rw [show ((5 : Int)).toNat = 5 from rfl] at hx15_3)
         (try simp only [Nat.reduceMul, Nat.zero_mul, Nat.zero_add, Nat.reduceAdd] at hx15_3)
         (try rw [show ((5 : Int)).toNat = 5 from rfl] at hf15_3)
         (try simp only [Nat.reduceMul, Nat.zero_mul, Nat.zero_add, Nat.reduceAdd] at hf15_3)
         replace p15 := eq_true p15
         replace q15 := eq_true q15
         have HX17 := Aside0.mk (show Kd.R k34 34 w11 w.heap.size (fun _ => True) (.slice (some ⟨go15, 0, none⟩) y270.length co15) y270 from (by (with_reducible repeat (first | apply Kd.R_alloc | apply Kd.R_drewN | apply Kd.R_drew)); exact HO272.out))
         obtain ⟨ce17, hcl17, hM17, hcc17, hfr17⟩ := Kd.R_elem HX17.out z34 (5 : Int) (by omega) (by have h_ : (5 : Int) < ((y270.length : Int) : Int) := of_decide_eq_true (by first | (with_reducible assumption) | assumption); first | exact h_ | (have e_ := (Kd.R_reads' HO272.out).1; omega) | simpa using h_)
         obtain rfl := k34_openM hM17
         have HP17 := Kd.R_seg HX17.out (5 : Int) (by omega) (by have h_ : (5 : Int) < ((y270.length : Int) : Int) := of_decide_eq_true (by first | (with_reducible assumption) | assumption); first | exact h_ | (have e_ := (Kd.R_reads' HO272.out).1; omega) | simpa using h_) (seg := [.int .i64 5, .int .u8 73, .int .i64 6, .int .i64 0]) (j := 0) hcl17 hcc17 (show 4 ≤ 4 from by decide) (x' := (⟨5, 73, 6, 0⟩ : S34)) (k34_mkM _ _ _ (⟨5, 73, 6, 0⟩ : S34) ) (fun _ hk => hk)
         have hx17_0 := hcc17 0 _ rfl
         (try simp only [show (k34).sz = 4 from rfl, Nat.mul_one, Nat.add_zero] at hx17_0)
         (try rw [show ((5 : Int)).toNat = 5 from rfl] at hx17_0)
         (try simp only [Nat.reduceMul, Nat.zero_mul, Nat.zero_add, Nat.reduceAdd] at hx17_0)
         have hf17_0 := hfr17 0
         (try simp only [show (k34).sz = 4 from rfl, Nat.mul_one, Nat.add_zero] at hf17_0)
         (try rw [show ((5 : Int)).toNat = 5 from rfl] at hf17_0)
         (try simp only [Nat.reduceMul, Nat.zero_mul, Nat.zero_add, Nat.reduceAdd] at hf17_0)
         have hx17_1 := hcc17 1 _ rfl
         (try simp only [show (k34).sz = 4 from rfl, Nat.mul_one, Nat.add_zero] at hx17_1)
         (try rw [show ((5 : Int)).toNat = 5 from rfl] at hx17_1)
         (try simp only [Nat.reduceMul, Nat.zero_mul, Nat.zero_add, Nat.reduceAdd] at hx17_1)
         have hf17_1 := hfr17 1
         (try simp only [show (k34).sz = 4 from rfl, Nat.mul_one, Nat.add_zero] at hf17_1)
         (try rw [show ((5 : Int)).toNat = 5 from rfl] at hf17_1)
         (try simp only [Nat.reduceMul, Nat.zero_mul, Nat.zero_add, Nat.reduceAdd] at hf17_1)
         have hx17_2 := hcc17 2 _ rfl
         (try simp only [show (k34).sz = 4 from rfl, Nat.mul_one, Nat.add_zero] at hx17_2)
         (try rw [show ((5 : Int)).toNat = 5 from rfl] at hx17_2)
         (try simp only [Nat.reduceMul, Nat.zero_mul, Nat.zero_add, Nat.reduceAdd] at hx17_2)
         have hf17_2 := hfr17 2
         (try simp only [show (k34).sz = 4 from rfl, Nat.mul_one, Nat.add_zero] at hf17_2)
         (try rw [show ((5 : Int)).toNat = 5 from rfl] at hf17_2)
         (try simp only [Nat.reduceMul, Nat.zero_mul, Nat.zero_add, Nat.reduceAdd] at hf17_2)
         have hx17_3 := hcc17 3 _ rfl
         (try simp only [show (k34).sz = 4 from rfl, Nat.mul_one, Nat.add_zero] at hx17_3)
         (try rw [show ((5 : Int)).toNat = 5 from rfl] at hx17_3)
         (try simp only [Nat.reduceMul, Nat.zero_mul, Nat.zero_add, Nat.reduceAdd] at hx17_3)
         have hf17_3 := hfr17 3
         (try simp only [show (k34).sz = 4 from rfl, Nat.mul_one, Nat.add_zero] at hf17_3)
         (try rw [show ((5 : Int)).toNat = 5 from rfl] at hf17_3)
         (try simp only [Nat.reduceMul, Nat.zero_mul, Nat.zero_add, Nat.reduceAdd] at hf17_3)
         clear hcl17 hcc17 hfr17 hM17
         go_wp2_with (first | ((with_reducible refine gate_store (t := 34) (p := 35) rfl ?_); refine store_event (t := 34) (p := 35) (v := ?vo_w18) (w1 := ((((w11.setCell ⟨go15, 20, none⟩ (.int .i64 5)).setCell ⟨go15, 21, none⟩ (.int .u8 73)).setCell ⟨go15, 22, none⟩ (.int .i64 6)).setCell ⟨go15, 23, none⟩ (.int .i64 0))) ?hg ?ho ?hn ?hr ?_; (case ho => rfl); (case hg => rfl); (case hn => rfl); (case hr => first | (go_simp; done) | (go_simp; rfl)); intro w18 hw; have hg : w11.grownBy w18 (some go15) := (by rw [hw]; exact HP17.2); have hp_ : Kd.R k34 34 w18 w.heap.size (fun _ => True) (.slice (some ⟨go15, 0, none⟩) y270.length co15) y273 := (by rw [hw, Ny273.out]; exact HP17.1); clear HP17; have n0_ := Aside0.mk (hp_); have n1_ := Aside0.mk ((by rw [hw]; exact below_set (below_set (below_set (below_set (HB.out) GB15.out) GB15.out) GB15.out) GB15.out : Below w.heap.size w w18)); clear HO272; clear HB; have HO272 := n0_; have HB := n1_; clear n0_ n1_; clear hg hw hp_) | ((with_reducible refine gate_builtin (b := .append) (xs := #[.tmp 36, .tmp 38]) rfl ?_); (try (refine gate_guard (by rfl) ?_; dsimp only)); at_builtin; refine Kd.R_append k34 (w0 := w) w.heap.size rfl (.tmp 36) (.tmp 38) 22 34 (.agg #[(.int .i64 0), (.int .u8 0), (.int .i64 0), (.int .i64 0)]) 32 rfl Tryd.underlying22 info34 rfl (by decide) (by omega) (.slice (some ⟨go15, 0, none⟩) y270.length co15) y273 (⟨6, 90, 0, 0⟩ : S34) [.int .i64 6, .int .u8 90, .int .i64 0, .int .i64 0] (fun _ => True) (fun _ => False) rfl rfl ?aP (fun _ hk => hk.elim) ?aF ?aO ?aB ?aS ?aL ?_; (case aP => exact k34_mkM _ _ _ (⟨6, 90, 0, 0⟩ : S34)); (case aB => exact (by repeat (first | (with_reducible first | exact HB.out | apply below_alloc | apply pw_below_drewN | apply below_drew1) | exact HB.out))); (case aF => exact (fun _ _ => trivial)); (case aO => exact (by (with_reducible repeat (first | apply Kd.R_alloc | apply Kd.R_drewN | apply Kd.R_drew)); exact HO272.out)); (case aS => exact (below_size (by repeat (first | (with_reducible first | exact HB.out | apply below_alloc | apply pw_below_drewN | apply below_drew1) | exact HB.out)))); (case aL => have := LMc16.out; omega); intro v275 w19 ho hb hg hat; rw [← Ny274.out] at ho; have n0_ := Aside0.mk (hb); have n1_ := Aside0.mk (ho); clear HB; clear HO272; have HB := n0_; have HO276 := n1_; clear n0_ n1_; clear ho hb hg hat))
         go_meet
         case rel => exact ⟨_, (y274), H', ⟨by have := HJ5.out; first | omega | exact Nat.le_refl _⟩, ⟨by (with_reducible repeat (first | apply Kd.R_alloc | apply Kd.R_drewN | apply Kd.R_drew)); exact HO276.out⟩, ⟨by repeat (first | (with_reducible first | exact HB.out | apply below_alloc | apply pw_below_drewN | apply below_drew1) | exact HB.out)⟩⟩
        ·rw [if_neg c16] at H
         exact absurd H (by simp)
       ·rw [if_neg c14] at H
        exact absurd H (by simp)
      ·replace c13 := Bool.eq_false_iff.mpr c13
       subst c13
       have H1 : (guichetlaw15_WalkAsks.j1 kj5 l0 l1 false y270) = some r := by rw [if_neg (show ¬ (false = true) by decide)] at H; exact H
       clear H
       have H := H1
       clear H1
       have H' := Aside0.mk H
       clear H
       go_wp2
       go_meet
       case rel => exact ⟨_, (y270), H', ⟨by have := HJ5.out; first | omega | exact Nat.le_refl _⟩, ⟨by (with_reducible repeat (first | apply Kd.R_alloc | apply Kd.R_drewN | apply Kd.R_drew)); exact HO272.out⟩, ⟨by repeat (first | (with_reducible first | exact HB.out | apply below_alloc | apply pw_below_drewN | apply below_drew1) | exact HB.out)⟩⟩
     case rest =>
      clear HC10
      try clear c1
      try clear p1
      try clear q1
      try clear hx1
      try clear qi1
      try clear p2
      try clear c4
      try clear c5
      try clear c7
      try clear c8
      try clear c8b0
      try clear c8b1
      try clear c9
      try clear c13
      try clear c14
      try clear c14b0
      try clear c14b1
      try clear c15
      try clear p15
      try clear q15
      try clear hx15
      try clear qi15
      try clear hf15
      try clear c16
      try clear c17
      try clear hx17
      try clear hf17
      try clear hx15_0
      try clear hx15_1
      try clear hx15_2
      try clear hx15_3
      try clear hx17_0
      try clear hx17_1
      try clear hx17_2
      try clear hx17_3
      try clear p15
      try clear p2
      try clear q15
      obtain ⟨kq, x7_9, HA, HJ9, HO_7, HB⟩ := hcut
      cases kq with
      | zero => exact absurd HA.out (by simp [guichetlaw15_WalkAsks.j1])
      | succ kj9 =>
       have H := HA.out
       clear HA
       simp only [guichetlaw15_WalkAsks.j1] at H
       have H' := Aside0.mk H
       clear H
       go_wp2
       go_loopg [8, 9, 11] kj9 (fun kq v8 v9 v11 w' => ∃ (x8_3 : List ByteArray) (x9_3 : ByteArray) (x11_3 : Int), v9 = .string x9_3 ∧ v11 = .int .i64 x11_3 ∧ Aside0 (guichetlaw15_WalkAsks.l0 kq l0 l1 a2 x7_9 x8_3 x9_3 0 x11_3 = some r) ∧ Aside0 (kq ≤ kj9) ∧ Aside0 (Kd.R k34 34 w' w.heap.size (fun _ => True) u7 x7_9) ∧ Aside0 (Kd.R Kd.string 9 w' w.heap.size (fun _ => True) v8 x8_3) ∧ Aside0 (Below w.heap.size w w'))
       case atStart => exact ⟨(([] : List ByteArray)), ((⟨#[]⟩ : ByteArray)), (0), (by first | rfl | (simp; done) | (simp [*]; done)), (by first | rfl | (simp; done) | (simp [*]; done)), H', ⟨Nat.le_refl _⟩, ⟨by (with_reducible repeat (first | apply Kd.R_alloc | apply Kd.R_drewN | apply Kd.R_drew)); exact HO_7.out⟩, ⟨by first | exact Kd.R_nil _ _ _ _ _ | exact Kd.N_nil _ _ _ _ _ | exact Kd.V_nil _ _ _ _ _ | exact Kd.Q_nil _ _ _ _ _ | exact Kd.S_nil _ _ _ _ _⟩, ⟨by repeat (first | (with_reducible first | exact HB.out | apply below_alloc | apply pw_below_drewN | apply below_drew1) | exact HB.out)⟩⟩
       case round =>
        clear H'
        try clear c1
        try clear p1
        try clear q1
        try clear hx1
        try clear qi1
        try clear p2
        try clear c4
        try clear c5
        try clear c7
        try clear c8
        try clear c8b0
        try clear c8b1
        try clear c9
        try clear c13
        try clear c14
        try clear c14b0
        try clear c14b1
        try clear c15
        try clear p15
        try clear q15
        try clear hx15
        try clear qi15
        try clear hf15
        try clear c16
        try clear c17
        try clear hx17
        try clear hf17
        try clear hx15_0
        try clear hx15_1
        try clear hx15_2
        try clear hx15_3
        try clear hx17_0
        try clear hx17_1
        try clear hx17_2
        try clear hx17_3
        try clear p1
        try clear p15
        try clear p2
        try clear q1
        try clear q15
        obtain ⟨x8_3, x9_3, x11_3, rfl, rfl, HA, HK3, HO_7, HO_8, HB⟩ := hrel
        cases gk with
        | zero => exact absurd HA.out (by simp [guichetlaw15_WalkAsks.l0])
        | succ k3 =>
         have H := HA.out
         clear HA
         simp only [guichetlaw15_WalkAsks.l0] at H
         by_cases c20 : x11_3 < (l0.length : Int)
         ·rw [if_pos c20] at H
          have c20b0 : decide (x11_3 < (l0.length : Int)) = true := decide_eq_true c20
          clear c20
          by_cases c21 : 0 ≤ x11_3
          ·rw [if_pos c21] at H
           have c21b0 : decide (0 ≤ x11_3) = true := decide_eq_true c21
           clear c21
           replace H := Option.bind_eq_some_iff.mp H
           obtain ⟨t278, A220, H⟩ := H
           replace H : ((some (([(⟨#[49]⟩ : ByteArray), t278] : List ByteArray) : List ByteArray)).bind fun y279 => (if x8_3.length + y279.length < 8796093022208 then (guichetlaw15_WalkAsks.l0 k3 l0 l1 a2 x7_9 (x8_3 ++ y279) t278 0 (wrap64 (x11_3 + 1))) else (none))) = some r := H
           have A22 := Aside0.mk A220
           clear A220
           obtain ⟨y279, hy279⟩ : ∃ y_ : List ByteArray, y_ = (([(⟨#[49]⟩ : ByteArray), t278] : List ByteArray)) := ⟨_, rfl⟩
           replace H : (if x8_3.length + y279.length < 8796093022208 then (guichetlaw15_WalkAsks.l0 k3 l0 l1 a2 x7_9 (x8_3 ++ y279) t278 0 (wrap64 (x11_3 + 1))) else (none)) = some r := by first | (rw [hy279]; with_reducible exact H) | (have H2_ := (Option.bind_some _ _).symm.trans H; rw [hy279]; with_reducible exact H2_) | (have H2_ := (Option.bind_some _ _).symm.trans H; with_reducible exact H2_) | with_reducible exact H | (rw [hy279]; exact H) | exact H
           have Ny279 := Aside0.mk hy279
           clear hy279
           by_cases c23 : x8_3.length + y279.length < 8796093022208
           ·rw [if_pos c23] at H
            have LMc23 := Aside0.mk c23
            clear c23
            obtain ⟨y282, hy282⟩ : ∃ y_ : List ByteArray, y_ = (x8_3 ++ y279) := ⟨_, rfl⟩
            replace H : (guichetlaw15_WalkAsks.l0 k3 l0 l1 a2 x7_9 y282 t278 0 (wrap64 (x11_3 + 1))) = some r := by first | (rw [hy282]; with_reducible exact H) | (have H2_ := (Option.bind_some _ _).symm.trans H; rw [hy282]; with_reducible exact H2_) | (have H2_ := (Option.bind_some _ _).symm.trans H; with_reducible exact H2_) | with_reducible exact H | (rw [hy282]; exact H) | exact H
            have Ny282 := Aside0.mk hy282
            clear hy282
            have H' := Aside0.mk H
            clear H
            have p277 : 0 ≤ (x11_3 : Int) := of_decide_eq_true (by first | (with_reducible assumption) | assumption)
            have q277 : x11_3 < (l0.length : Int) := of_decide_eq_true (by first | (with_reducible assumption) | assumption)
            obtain ⟨ad277, e277, hx277_0⟩ := Kd.at_int HR0.out x11_3 p277 q277
            cases e277
            replace hx277_0 := (HB.out.cell (World.block_lt_of_cell? w _ hx277_0)).trans hx277_0
            replace p277 := eq_true p277
            replace q277 := eq_true q277
            go_wp2_with (first | ((with_reducible refine gate_callee (f := 12) rfl ?_); refine goesL_ (some 50) rfl rfl Tryd.func12 (by kernel_rfl) rfl #[.int .u8 (rd l0 x11_3)] rfl (by (try simp only [List.map_toArray, List.map_cons, List.map_nil]); first | done | rfl | (simp only [List.length_drop, List.length_take]; rfl) | (rw [hsame_])) ?_; (with_reducible refine (guichetseat_Pan.calls (rd l0 x11_3) t278 _ A22.out).mono ?_); rintro e w24 ⟨rfl, hb⟩; refine ⟨_, rfl, ?_⟩; have n0_ := Aside0.mk (Kd.R_below (by (with_reducible repeat (first | apply Kd.R_alloc | apply Kd.R_drewN | apply Kd.R_drew)); exact HO_7.out) hb); have n1_ := Aside0.mk (Kd.R_below (by (with_reducible repeat (first | apply Kd.R_alloc | apply Kd.R_drewN | apply Kd.R_drew)); exact HO_8.out) hb); have n2_ := Aside0.mk (below_step (by repeat (first | (with_reducible first | exact HB.out | apply below_alloc | apply pw_below_drewN | apply below_drew1) | exact HB.out)) hb); clear HO_7; clear HO_8; clear HB; have HO_7 := n0_; have HO_8 := n1_; have HB := n2_; clear n0_ n1_ n2_; (try clear hb); (try clear hb2); (try clear hk); (try clear hi)) | ((with_reducible refine gate_dst (N := 53) rfl ?_); (try (refine gate_guard (by rfl) ?_; dsimp only)); refine Kd.R_lit Kd.string _ 9 ?hg (N := 53) ?hd (xs := ([(⟨#[49]⟩ : ByteArray), t278] : List ByteArray)) (inner := [.string (⟨#[49]⟩ : ByteArray), .string t278]) (ok := fun _ => True) (okp := fun _ => True) ?hr ?hp (fun _ hk => hk) trivial (Below.refl _ _) (Nat.le_refl _) (by simp) ?_; (case hd => rfl); (case hg => rfl); (case hr => first | (go_simp; done) | (go_simp; rfl)); (case hp => exact (Reps.one (show Kd.M Kd.string _ _ _ (⟨#[49]⟩ : ByteArray) [.string (⟨#[49]⟩ : ByteArray)] from rfl) (Reps.one (show Kd.M Kd.string _ _ _ t278 [.string t278] from rfl) (Reps.none _ _)))); intro v280 w25 ho26 hb hg_ hnew_; clear hg_ hnew_; (first | rw [← Ny279.out] at ho26 | (simp only [Int.reduceToNat] at ho26; rw [← Ny279.out] at ho26)); have n0_ := Aside0.mk (Kd.R_below (by (with_reducible repeat (first | apply Kd.R_alloc | apply Kd.R_drewN | apply Kd.R_drew)); exact HO_7.out) hb); have n1_ := Aside0.mk (Kd.R_elder' (by (with_reducible repeat (first | apply Kd.R_alloc | apply Kd.R_drewN | apply Kd.R_drew)); exact HO_8.out) (Kd.R_base ho26) hb); have n2_ := Aside0.mk (Kd.R_lower (Kd.R_new' ho26 (Kd.R_lt (by (with_reducible repeat (first | apply Kd.R_alloc | apply Kd.R_drewN | apply Kd.R_drew)); exact HO_8.out))) (below_size (by repeat (first | (with_reducible first | exact HB.out | apply below_alloc | apply pw_below_drewN | apply below_drew1) | exact HB.out)))); have n3_ := Aside0.mk (below_step (by repeat (first | (with_reducible first | exact HB.out | apply below_alloc | apply pw_below_drewN | apply below_drew1) | exact HB.out)) hb); clear HO_7; clear HO_8; clear HB; have HO_7 := n0_; have HO_8 := n1_; have HO281 := n2_; have HB := n3_; clear n0_ n1_ n2_ n3_; clear hb ho26; obtain ⟨Ao28, co28, eo28⟩ := Kd.R_slice HO281.out; subst eo28) | ((with_reducible refine gate_builtin (b := .append) (xs := #[.tmp 51, .tmp 53]) rfl ?_); (try (refine gate_guard (by rfl) ?_; dsimp only)); at_builtin; refine Kd.R_append_rows Kd.string (w0 := w) w.heap.size rfl (.tmp 51) (.tmp 53) 26 9 (.string ⟨#[]⟩) 16 rfl Tryd.underlying26 info9 rfl (by decide) (by omega) u8 x8_3 y279 _ _ _ (fun k_ => some k_ ≠ (.slice Ao28 y279.length co28 : Value).ownBlock) (fun _ => False) rfl rfl ?aO ?aR (fun _ _ h => h) (fun _ h => h.elim) ?aF ?aB ?aS ?aL ?_; (case aR => repeat (first | exact (Kd.R_reads' HO281.out).2.2 | (with_reducible refine Kd.C_alloc ?_ _) | (with_reducible refine Kd.C_drewN ?_ _) | (with_reducible refine Kd.C_drew ?_))); (case aB => exact (by repeat (first | (with_reducible first | exact HB.out | apply below_alloc | apply pw_below_drewN | apply below_drew1) | exact HB.out))); (case aF => exact (fun k_ hk => Kd.fresh' (Kd.R_lt (by (with_reducible repeat (first | apply Kd.R_alloc | apply Kd.R_drewN | apply Kd.R_drew)); exact HO281.out)) k_ hk)); (case aO => exact (by (with_reducible repeat (first | apply Kd.R_alloc | apply Kd.R_drewN | apply Kd.R_drew)); exact Kd.R_mono HO_8.out (fun _ hk => hk.2))); (case aS => exact (below_size (by repeat (first | (with_reducible first | exact HB.out | apply below_alloc | apply pw_below_drewN | apply below_drew1) | exact HB.out)))); (case aL => have := LMc23.out; omega); intro v283 w27 ho hb hg hat; rw [← Ny282.out] at ho; have n0_ := Aside0.mk (Kd.R_over' (by (with_reducible repeat (first | apply Kd.R_alloc | apply Kd.R_drewN | apply Kd.R_drew)); exact HO_7.out) (Kd.R_typed (by (with_reducible repeat (first | apply Kd.R_alloc | apply Kd.R_drewN | apply Kd.R_drew)); exact HO_8.out)) (by decide) hg); have n1_ := Aside0.mk (Kd.R_after (ok := (fun _ => True)) (by (with_reducible repeat (first | apply Kd.R_alloc | apply Kd.R_drewN | apply Kd.R_drew)); exact HO281.out) hg hat); have n2_ := Aside0.mk (hb); have n3_ := Aside0.mk (ho); clear HO_7; clear HO281; clear HB; clear HO_8; have HO_7 := n0_; have HO281 := n1_; have HB := n2_; have HO284 := n3_; clear n0_ n1_ n2_ n3_; clear ho hb hg hat))
            go_roundg k3
            case measure => have := HJ5.out; have := HJ9.out; have := HK3.out; omega
            case rel => exact ⟨(y282), (t278), (wrap64 (x11_3 + 1)), (by first | rfl | (simp; done) | (simp [*]; done)), (by first | rfl | (simp; done) | (simp [*]; done)), H', ⟨by have := HJ5.out; have := HJ9.out; have := HK3.out; omega⟩, ⟨by (with_reducible repeat (first | apply Kd.R_alloc | apply Kd.R_drewN | apply Kd.R_drew)); exact HO_7.out⟩, ⟨by (with_reducible repeat (first | apply Kd.R_alloc | apply Kd.R_drewN | apply Kd.R_drew)); exact Kd.R_mono HO284.out (fun _ hk => trivial)⟩, ⟨by repeat (first | (with_reducible first | exact HB.out | apply below_alloc | apply pw_below_drewN | apply below_drew1) | exact HB.out)⟩⟩
           ·rw [if_neg c23] at H
            exact absurd H (by simp)
          ·rw [if_neg c21] at H
           exact absurd H (by simp)
         ·rw [if_neg c20] at H
          have c20b0 : decide (x11_3 < (l0.length : Int)) = false := decide_eq_false c20
          clear c20
          by_cases c29 : x8_3.length < 8796093022208
          ·rw [if_pos c29] at H
           have LMc29 := Aside0.mk c29
           clear c29
           obtain ⟨y285, hy285⟩ : ∃ y_ : List ByteArray, y_ = (x8_3 ++ [(⟨#[50]⟩ : ByteArray)]) := ⟨_, rfl⟩
           replace H : (guichetlaw15_WalkAsks.l1 k3 l1 a2 x7_9 y285 x9_3 0 0) = some r := by first | (rw [hy285]; with_reducible exact H) | (have H2_ := (Option.bind_some _ _).symm.trans H; rw [hy285]; with_reducible exact H2_) | (have H2_ := (Option.bind_some _ _).symm.trans H; with_reducible exact H2_) | with_reducible exact H | (rw [hy285]; exact H) | exact H
           have Ny285 := Aside0.mk hy285
           clear hy285
           have H' := Aside0.mk H
           clear H
           go_wp2_with (first | ((with_reducible refine gate_builtin (b := .append) (xs := #[.tmp 55, .tmp 56]) rfl ?_); (try (refine gate_guard (by rfl) ?_; dsimp only)); at_builtin; refine Kd.R_append Kd.string (w0 := w) w.heap.size rfl (.tmp 55) (.tmp 56) 26 9 (.string ⟨#[]⟩) 16 rfl Tryd.underlying26 info9 rfl (by decide) (by omega) u8 x8_3 (⟨#[50]⟩ : ByteArray) [.string (⟨#[50]⟩ : ByteArray)] (fun _ => True) (fun _ => False) rfl rfl ?aP (fun _ hk => hk.elim) ?aF ?aO ?aB ?aS ?aL ?_; (case aP => exact rfl); (case aB => exact (by repeat (first | (with_reducible first | exact HB.out | apply below_alloc | apply pw_below_drewN | apply below_drew1) | exact HB.out))); (case aF => exact (fun _ _ => trivial)); (case aO => exact (by (with_reducible repeat (first | apply Kd.R_alloc | apply Kd.R_drewN | apply Kd.R_drew)); exact HO_8.out)); (case aS => exact (below_size (by repeat (first | (with_reducible first | exact HB.out | apply below_alloc | apply pw_below_drewN | apply below_drew1) | exact HB.out)))); (case aL => have := LMc29.out; omega); intro v286 w30 ho hb hg hat; rw [← Ny285.out] at ho; have n0_ := Aside0.mk (Kd.R_over' (by (with_reducible repeat (first | apply Kd.R_alloc | apply Kd.R_drewN | apply Kd.R_drew)); exact HO_7.out) (Kd.R_typed (by (with_reducible repeat (first | apply Kd.R_alloc | apply Kd.R_drewN | apply Kd.R_drew)); exact HO_8.out)) (by decide) hg); have n1_ := Aside0.mk (hb); have n2_ := Aside0.mk (ho); clear HO_7; clear HB; clear HO_8; have HO_7 := n0_; have HB := n1_; have HO287 := n2_; clear n0_ n1_ n2_; clear ho hb hg hat))
           go_loopg [8, 10, 12] k3 (fun kq v8 v10 v12 w' => ∃ (x8_4 : List ByteArray) (x10_4 : Int) (x12_4 : Int), v10 = .int .i64 x10_4 ∧ v12 = .int .i64 x12_4 ∧ Aside0 (guichetlaw15_WalkAsks.l1 kq l1 a2 x7_9 x8_4 x9_3 x10_4 x12_4 = some r) ∧ Aside0 (kq ≤ k3) ∧ Aside0 (Kd.R k34 34 w' w.heap.size (fun _ => True) u7 x7_9) ∧ Aside0 (Kd.R Kd.string 9 w' w.heap.size (fun _ => True) v8 x8_4) ∧ Aside0 (Below w.heap.size w w'))
           case atStart => exact ⟨(y285), (0), (0), (by first | rfl | (simp; done) | (simp [*]; done)), (by first | rfl | (simp; done) | (simp [*]; done)), H', ⟨Nat.le_refl _⟩, ⟨by (with_reducible repeat (first | apply Kd.R_alloc | apply Kd.R_drewN | apply Kd.R_drew)); exact HO_7.out⟩, ⟨by (with_reducible repeat (first | apply Kd.R_alloc | apply Kd.R_drewN | apply Kd.R_drew)); exact HO287.out⟩, ⟨by repeat (first | (with_reducible first | exact HB.out | apply below_alloc | apply pw_below_drewN | apply below_drew1) | exact HB.out)⟩⟩
           case round =>
            clear H'
            try clear c1
            try clear p1
            try clear q1
            try clear hx1
            try clear qi1
            try clear c2
            try clear p2
            try clear q2
            try clear hx2
            try clear c4
            try clear c5
            try clear p6
            try clear c7
            try clear c8
            try clear c8b0
            try clear c8b1
            try clear c9
            try clear c12
            try clear c13
            try clear c14
            try clear c14b0
            try clear c14b1
            try clear c15
            try clear p15
            try clear q15
            try clear hx15
            try clear qi15
            try clear hf15
            try clear c16
            try clear c17
            try clear hx17
            try clear hf17
            try clear c20
            try clear c20b0
            try clear c21
            try clear c21b0
            try clear c23
            try clear p27
            try clear q27
            try clear hx27
            try clear c29
            try clear hx15_0
            try clear hx15_1
            try clear hx15_2
            try clear hx15_3
            try clear hx17_0
            try clear hx17_1
            try clear hx17_2
            try clear hx17_3
            try clear hx277_0
            try clear p1
            try clear p15
            try clear p2
            try clear p277
            try clear q1
            try clear q15
            try clear q277
            obtain ⟨x8_4, x10_4, x12_4, rfl, rfl, HA, HK4, HO_7, HO_8, HB⟩ := hrel
            cases gk with
            | zero => exact absurd HA.out (by simp [guichetlaw15_WalkAsks.l1])
            | succ k4 =>
             have H := HA.out
             clear HA
             simp only [guichetlaw15_WalkAsks.l1] at H
             by_cases c31 : x12_4 < (l1.length : Int)
             ·rw [if_pos c31] at H
              have c31b0 : decide (x12_4 < (l1.length : Int)) = true := decide_eq_true c31
              clear c31
              by_cases c32 : 0 ≤ x12_4
              ·rw [if_pos c32] at H
               have c32b0 : decide (0 ≤ x12_4) = true := decide_eq_true c32
               clear c32
               replace H := Option.bind_eq_some_iff.mp H
               obtain ⟨t289, A330, H⟩ := H
               replace H : ((some (([(⟨#[49]⟩ : ByteArray), t289] : List ByteArray) : List ByteArray)).bind fun y290 => (if x8_4.length + y290.length < 8796093022208 then (guichetlaw15_WalkAsks.l1 k4 l1 a2 x7_9 (x8_4 ++ y290) x9_3 (wrap64 (rd l1 x12_4)) (wrap64 (x12_4 + 1))) else (none))) = some r := H
               have A33 := Aside0.mk A330
               clear A330
               obtain ⟨y290, hy290⟩ : ∃ y_ : List ByteArray, y_ = (([(⟨#[49]⟩ : ByteArray), t289] : List ByteArray)) := ⟨_, rfl⟩
               replace H : (if x8_4.length + y290.length < 8796093022208 then (guichetlaw15_WalkAsks.l1 k4 l1 a2 x7_9 (x8_4 ++ y290) x9_3 (wrap64 (rd l1 x12_4)) (wrap64 (x12_4 + 1))) else (none)) = some r := by first | (rw [hy290]; with_reducible exact H) | (have H2_ := (Option.bind_some _ _).symm.trans H; rw [hy290]; with_reducible exact H2_) | (have H2_ := (Option.bind_some _ _).symm.trans H; with_reducible exact H2_) | with_reducible exact H | (rw [hy290]; exact H) | exact H
               have Ny290 := Aside0.mk hy290
               clear hy290
               by_cases c34 : x8_4.length + y290.length < 8796093022208
               ·rw [if_pos c34] at H
                have LMc34 := Aside0.mk c34
                clear c34
                obtain ⟨y293, hy293⟩ : ∃ y_ : List ByteArray, y_ = (x8_4 ++ y290) := ⟨_, rfl⟩
                replace H : (guichetlaw15_WalkAsks.l1 k4 l1 a2 x7_9 y293 x9_3 (wrap64 (rd l1 x12_4)) (wrap64 (x12_4 + 1))) = some r := by first | (rw [hy293]; with_reducible exact H) | (have H2_ := (Option.bind_some _ _).symm.trans H; rw [hy293]; with_reducible exact H2_) | (have H2_ := (Option.bind_some _ _).symm.trans H; with_reducible exact H2_) | with_reducible exact H | (rw [hy293]; exact H) | exact H
                have Ny293 := Aside0.mk hy293
                clear hy293
                have H' := Aside0.mk H
                clear H
                have p288 : 0 ≤ (x12_4 : Int) := of_decide_eq_true (by first | (with_reducible assumption) | assumption)
                have q288 : x12_4 < (l1.length : Int) := of_decide_eq_true (by first | (with_reducible assumption) | assumption)
                obtain ⟨ad288, e288, hx288_0⟩ := Kd.at_int HR1.out x12_4 p288 q288
                cases e288
                replace hx288_0 := (HB.out.cell (World.block_lt_of_cell? w _ hx288_0)).trans hx288_0
                replace p288 := eq_true p288
                replace q288 := eq_true q288
                go_wp2_with (first | ((with_reducible refine gate_callee (f := 13) rfl ?_); refine goesL_ (some 71) rfl rfl Tryd.func13 (by kernel_rfl) rfl #[.int .i64 (wrap64 (rd l1 x12_4))] rfl (by (try simp only [List.map_toArray, List.map_cons, List.map_nil]); first | done | rfl | (simp only [List.length_drop, List.length_take]; rfl) | (rw [hsame_])) ?_; (with_reducible refine (guichetseat_Decimals.calls k4 (wrap64 (rd l1 x12_4)) t289 _ A33.out).mono ?_); rintro e w35 ⟨rfl, hb⟩; refine ⟨_, rfl, ?_⟩; have n0_ := Aside0.mk (Kd.R_below (by (with_reducible repeat (first | apply Kd.R_alloc | apply Kd.R_drewN | apply Kd.R_drew)); exact HO_7.out) hb); have n1_ := Aside0.mk (Kd.R_below (by (with_reducible repeat (first | apply Kd.R_alloc | apply Kd.R_drewN | apply Kd.R_drew)); exact HO_8.out) hb); have n2_ := Aside0.mk (below_step (by repeat (first | (with_reducible first | exact HB.out | apply below_alloc | apply pw_below_drewN | apply below_drew1) | exact HB.out)) hb); clear HO_7; clear HO_8; clear HB; have HO_7 := n0_; have HO_8 := n1_; have HB := n2_; clear n0_ n1_ n2_; (try clear hb); (try clear hb2); (try clear hk); (try clear hi)) | ((with_reducible refine gate_dst (N := 72) rfl ?_); (try (refine gate_guard (by rfl) ?_; dsimp only)); refine Kd.R_lit Kd.string _ 9 ?hg (N := 72) ?hd (xs := ([(⟨#[49]⟩ : ByteArray), t289] : List ByteArray)) (inner := [.string (⟨#[49]⟩ : ByteArray), .string t289]) (ok := fun _ => True) (okp := fun _ => True) ?hr ?hp (fun _ hk => hk) trivial (Below.refl _ _) (Nat.le_refl _) (by simp) ?_; (case hd => rfl); (case hg => rfl); (case hr => first | (go_simp; done) | (go_simp; rfl)); (case hp => exact (Reps.one (show Kd.M Kd.string _ _ _ (⟨#[49]⟩ : ByteArray) [.string (⟨#[49]⟩ : ByteArray)] from rfl) (Reps.one (show Kd.M Kd.string _ _ _ t289 [.string t289] from rfl) (Reps.none _ _)))); intro v291 w36 ho37 hb hg_ hnew_; clear hg_ hnew_; (first | rw [← Ny290.out] at ho37 | (simp only [Int.reduceToNat] at ho37; rw [← Ny290.out] at ho37)); have n0_ := Aside0.mk (Kd.R_below (by (with_reducible repeat (first | apply Kd.R_alloc | apply Kd.R_drewN | apply Kd.R_drew)); exact HO_7.out) hb); have n1_ := Aside0.mk (Kd.R_elder' (by (with_reducible repeat (first | apply Kd.R_alloc | apply Kd.R_drewN | apply Kd.R_drew)); exact HO_8.out) (Kd.R_base ho37) hb); have n2_ := Aside0.mk (Kd.R_lower (Kd.R_new' ho37 (Kd.R_lt (by (with_reducible repeat (first | apply Kd.R_alloc | apply Kd.R_drewN | apply Kd.R_drew)); exact HO_8.out))) (below_size (by repeat (first | (with_reducible first | exact HB.out | apply below_alloc | apply pw_below_drewN | apply below_drew1) | exact HB.out)))); have n3_ := Aside0.mk (below_step (by repeat (first | (with_reducible first | exact HB.out | apply below_alloc | apply pw_below_drewN | apply below_drew1) | exact HB.out)) hb); clear HO_7; clear HO_8; clear HB; have HO_7 := n0_; have HO_8 := n1_; have HO292 := n2_; have HB := n3_; clear n0_ n1_ n2_ n3_; clear hb ho37; obtain ⟨Ao39, co39, eo39⟩ := Kd.R_slice HO292.out; subst eo39) | ((with_reducible refine gate_builtin (b := .append) (xs := #[.tmp 69, .tmp 72]) rfl ?_); (try (refine gate_guard (by rfl) ?_; dsimp only)); at_builtin; refine Kd.R_append_rows Kd.string (w0 := w) w.heap.size rfl (.tmp 69) (.tmp 72) 26 9 (.string ⟨#[]⟩) 16 rfl Tryd.underlying26 info9 rfl (by decide) (by omega) u8 x8_4 y290 _ _ _ (fun k_ => some k_ ≠ (.slice Ao39 y290.length co39 : Value).ownBlock) (fun _ => False) rfl rfl ?aO ?aR (fun _ _ h => h) (fun _ h => h.elim) ?aF ?aB ?aS ?aL ?_; (case aR => repeat (first | exact (Kd.R_reads' HO292.out).2.2 | (with_reducible refine Kd.C_alloc ?_ _) | (with_reducible refine Kd.C_drewN ?_ _) | (with_reducible refine Kd.C_drew ?_))); (case aB => exact (by repeat (first | (with_reducible first | exact HB.out | apply below_alloc | apply pw_below_drewN | apply below_drew1) | exact HB.out))); (case aF => exact (fun k_ hk => Kd.fresh' (Kd.R_lt (by (with_reducible repeat (first | apply Kd.R_alloc | apply Kd.R_drewN | apply Kd.R_drew)); exact HO292.out)) k_ hk)); (case aO => exact (by (with_reducible repeat (first | apply Kd.R_alloc | apply Kd.R_drewN | apply Kd.R_drew)); exact Kd.R_mono HO_8.out (fun _ hk => hk.2))); (case aS => exact (below_size (by repeat (first | (with_reducible first | exact HB.out | apply below_alloc | apply pw_below_drewN | apply below_drew1) | exact HB.out)))); (case aL => have := LMc34.out; omega); intro v294 w38 ho hb hg hat; rw [← Ny293.out] at ho; have n0_ := Aside0.mk (Kd.R_over' (by (with_reducible repeat (first | apply Kd.R_alloc | apply Kd.R_drewN | apply Kd.R_drew)); exact HO_7.out) (Kd.R_typed (by (with_reducible repeat (first | apply Kd.R_alloc | apply Kd.R_drewN | apply Kd.R_drew)); exact HO_8.out)) (by decide) hg); have n1_ := Aside0.mk (Kd.R_after (ok := (fun _ => True)) (by (with_reducible repeat (first | apply Kd.R_alloc | apply Kd.R_drewN | apply Kd.R_drew)); exact HO292.out) hg hat); have n2_ := Aside0.mk (hb); have n3_ := Aside0.mk (ho); clear HO_7; clear HO292; clear HB; clear HO_8; have HO_7 := n0_; have HO292 := n1_; have HB := n2_; have HO295 := n3_; clear n0_ n1_ n2_ n3_; clear ho hb hg hat))
                go_roundg k4
                case measure => have := HJ5.out; have := HJ9.out; have := HK3.out; have := HK4.out; omega
                case rel => exact ⟨(y293), (wrap64 (rd l1 x12_4)), (wrap64 (x12_4 + 1)), (by first | rfl | (simp; done) | (simp [*]; done)), (by first | rfl | (simp; done) | (simp [*]; done)), H', ⟨by have := HJ5.out; have := HJ9.out; have := HK3.out; have := HK4.out; omega⟩, ⟨by (with_reducible repeat (first | apply Kd.R_alloc | apply Kd.R_drewN | apply Kd.R_drew)); exact HO_7.out⟩, ⟨by (with_reducible repeat (first | apply Kd.R_alloc | apply Kd.R_drewN | apply Kd.R_drew)); exact Kd.R_mono HO295.out (fun _ hk => trivial)⟩, ⟨by repeat (first | (with_reducible first | exact HB.out | apply below_alloc | apply pw_below_drewN | apply below_drew1) | exact HB.out)⟩⟩
               ·rw [if_neg c34] at H
                exact absurd H (by simp)
              ·rw [if_neg c32] at H
               exact absurd H (by simp)
             ·rw [if_neg c31] at H
              have c31b0 : decide (x12_4 < (l1.length : Int)) = false := decide_eq_false c31
              clear c31
              by_cases c40 : x8_4.length < 8796093022208
              ·rw [if_pos c40] at H
               have LMc40 := Aside0.mk c40
               clear c40
               obtain ⟨y296, hy296⟩ : ∃ y_ : List ByteArray, y_ = (x8_4 ++ [(⟨#[50]⟩ : ByteArray)]) := ⟨_, rfl⟩
               replace H : ((interp_Run.f k4 x7_9 0 y296).bind fun bt299 => (if x9_3.toList = ([] : List UInt8) then (if (bt299.2.2.1 == false) = true then (if bt299.2.2.2.1.toList = ([] : List UInt8) then (if bt299.2.2.2.2 = 0 then (if bt299.1 = 5 then (if a2 = true then (if bt299.1 = 6 then (some a2) else (some false)) else (some true)) else (if bt299.1 = 6 then (some a2) else (some false))) else (some false)) else (some false)) else (some false)) else (if x10_4 = 0 then (if (bt299.2.2.1 == (x10_4 != 0)) = true then (if bt299.2.2.2.1.toList = ([] : List UInt8) then (if bt299.2.2.2.2 = 0 then (if bt299.1 = 5 then (if a2 = true then (if bt299.1 = 6 then (some a2) else (some false)) else (some true)) else (if bt299.1 = 6 then (some a2) else (some false))) else (some false)) else (some false)) else (some false)) else (if (bt299.2.2.1 == (x10_4 != 0)) = true then (if bt299.2.2.2.1.toList = x9_3.toList then (if bt299.2.2.2.2 = x10_4 then (if bt299.1 = 5 then (if a2 = true then (if bt299.1 = 6 then (some a2) else (some false)) else (some true)) else (if bt299.1 = 6 then (some a2) else (some false))) else (some false)) else (some false)) else (some false))))) = some r := by first | (rw [hy296]; with_reducible exact H) | (have H2_ := (Option.bind_some _ _).symm.trans H; rw [hy296]; with_reducible exact H2_) | (have H2_ := (Option.bind_some _ _).symm.trans H; with_reducible exact H2_) | with_reducible exact H | (rw [hy296]; exact H) | exact H
               have Ny296 := Aside0.mk hy296
               clear hy296
               replace H := Option.bind_eq_some_iff.mp H
               obtain ⟨⟨t299, t300, t301, t302, t303⟩, A410, H⟩ := H
               replace H : (if x9_3.toList = ([] : List UInt8) then (if (t301 == false) = true then (if t302.toList = ([] : List UInt8) then (if t303 = 0 then (if t299 = 5 then (if a2 = true then (if t299 = 6 then (some a2) else (some false)) else (some true)) else (if t299 = 6 then (some a2) else (some false))) else (some false)) else (some false)) else (some false)) else (if x10_4 = 0 then (if (t301 == (x10_4 != 0)) = true then (if t302.toList = ([] : List UInt8) then (if t303 = 0 then (if t299 = 5 then (if a2 = true then (if t299 = 6 then (some a2) else (some false)) else (some true)) else (if t299 = 6 then (some a2) else (some false))) else (some false)) else (some false)) else (some false)) else (if (t301 == (x10_4 != 0)) = true then (if t302.toList = x9_3.toList then (if t303 = x10_4 then (if t299 = 5 then (if a2 = true then (if t299 = 6 then (some a2) else (some false)) else (some true)) else (if t299 = 6 then (some a2) else (some false))) else (some false)) else (some false)) else (some false)))) = some r := H
               have A41 := Aside0.mk A410
               clear A410
               by_cases c42 : x9_3.toList = ([] : List UInt8)
               ·rw [if_pos c42] at H
                have c42b0 : (x9_3.toList == ([] : List UInt8)) = true := beq_iff_eq.mpr c42
                have c42b1 : (x9_3.toList != ([] : List UInt8)) = false := bne_eq_false_iff_eq.mpr c42
                clear c42
                by_cases c43 : (t301 == false) = true
                ·rw [if_pos c43] at H
                 have c43b0 : (t301 == false) = true := c43
                 (try (have c43b1 : decide (t301 = false) = true := by simpa using c43))
                 (try (have c43b2 : (t301 == false) = true := by simpa using c43))
                 clear c43
                 by_cases c44 : t302.toList = ([] : List UInt8)
                 ·rw [if_pos c44] at H
                  have c44b0 : (t302.toList == ([] : List UInt8)) = true := beq_iff_eq.mpr c44
                  have c44b1 : (t302.toList != ([] : List UInt8)) = false := bne_eq_false_iff_eq.mpr c44
                  clear c44
                  by_cases c45 : t303 = 0
                  ·rw [if_pos c45] at H
                   have c45b0 : (t303 == 0) = true := beq_iff_eq.mpr c45
                   have c45b1 : (t303 != 0) = false := bne_eq_false_iff_eq.mpr c45
                   clear c45
                   by_cases c46 : t299 = 5
                   ·rw [if_pos c46] at H
                    have c46b0 : (t299 == 5) = true := beq_iff_eq.mpr c46
                    have c46b1 : (t299 != 5) = false := bne_eq_false_iff_eq.mpr c46
                    clear c46
                    by_cases c47 : a2 = true
                    ·subst c47
                     have H1 : (if t299 = 6 then (some true) else (some false)) = some r := by rw [if_pos rfl] at H; exact H
                     clear H
                     have H := H1
                     clear H1
                     by_cases c48 : t299 = 6
                     ·rw [if_pos c48] at H
                      have c48b0 : (t299 == 6) = true := beq_iff_eq.mpr c48
                      have c48b1 : (t299 != 6) = false := bne_eq_false_iff_eq.mpr c48
                      clear c48
                      obtain rfl := Option.some.inj H
                      (try rw [c20b0] at c43b0)
                      (try rw [c31b0] at c43b0)
                      (try rw [c42b0] at c43b0)
                      (try rw [c42b1] at c43b0)
                      (try rw [c44b0] at c43b0)
                      (try rw [c44b1] at c43b0)
                      (try rw [c45b0] at c43b0)
                      (try rw [c45b1] at c43b0)
                      (try rw [c46b0] at c43b0)
                      (try rw [c46b1] at c43b0)
                      (try rw [c48b0] at c43b0)
                      (try rw [c48b1] at c43b0)
                      (try simp at c43b0)
                      go_wp2_with (first | ((with_reducible refine gate_builtin (b := .append) (xs := #[.tmp 74, .tmp 75]) rfl ?_); (try (refine gate_guard (by rfl) ?_; dsimp only)); at_builtin; refine Kd.R_append Kd.string (w0 := w) w.heap.size rfl (.tmp 74) (.tmp 75) 26 9 (.string ⟨#[]⟩) 16 rfl Tryd.underlying26 info9 rfl (by decide) (by omega) u8 x8_4 (⟨#[50]⟩ : ByteArray) [.string (⟨#[50]⟩ : ByteArray)] (fun _ => True) (fun _ => False) rfl rfl ?aP (fun _ hk => hk.elim) ?aF ?aO ?aB ?aS ?aL ?_; (case aP => exact rfl); (case aB => exact (by repeat (first | (with_reducible first | exact HB.out | apply below_alloc | apply pw_below_drewN | apply below_drew1) | exact HB.out))); (case aF => exact (fun _ _ => trivial)); (case aO => exact (by (with_reducible repeat (first | apply Kd.R_alloc | apply Kd.R_drewN | apply Kd.R_drew)); exact HO_8.out)); (case aS => exact (below_size (by repeat (first | (with_reducible first | exact HB.out | apply below_alloc | apply pw_below_drewN | apply below_drew1) | exact HB.out)))); (case aL => have := LMc40.out; omega); intro v297 w49 ho hb hg hat; rw [← Ny296.out] at ho; have n0_ := Aside0.mk (Kd.R_over' (by (with_reducible repeat (first | apply Kd.R_alloc | apply Kd.R_drewN | apply Kd.R_drew)); exact HO_7.out) (Kd.R_typed (by (with_reducible repeat (first | apply Kd.R_alloc | apply Kd.R_drewN | apply Kd.R_drew)); exact HO_8.out)) (by decide) hg); have n1_ := Aside0.mk (hb); have n2_ := Aside0.mk (ho); clear HO_7; clear HB; clear HO_8; have HO_7 := n0_; have HB := n1_; have HO298 := n2_; clear n0_ n1_ n2_; clear ho hb hg hat; obtain ⟨Ao50, co50, eo50⟩ := Kd.R_slice HO_7.out; subst eo50; obtain ⟨Ao51, co51, eo51⟩ := Kd.R_slice HO298.out; subst eo51) | ((with_reducible refine gate_callee (f := 10) rfl ?_); refine goesL_ (some 79) rfl rfl Tryd.func10 (by kernel_rfl) rfl #[.slice Ao50 x7_9.length co50, .int .i64 0, .slice Ao51 y296.length co51] rfl (by (try simp only [List.map_toArray, List.map_cons, List.map_nil]); first | done | rfl | (simp only [List.length_drop, List.length_take]; rfl) | (rw [hsame_])) ?_; (with_reducible refine (interp_Run.calls k4 _ _ x7_9 0 _ _ y296 t299 t300 t301 t302 t303 _ ?side1 ?side2 ?side3 ?side4 A41.out).mono ?_); (case side1 => repeat (first | exact (Kd.R_reads' HO_7.out).2.2 | (with_reducible refine Kd.C_alloc ?_ _) | (with_reducible refine Kd.C_drewN ?_ _) | (with_reducible refine Kd.C_drew ?_))); (case side2 => exact (Kd.R_reads' HO_7.out).2.1); (case side3 => repeat (first | exact (Kd.R_reads' HO298.out).2.2 | (with_reducible refine Kd.C_alloc ?_ _) | (with_reducible refine Kd.C_drewN ?_ _) | (with_reducible refine Kd.C_drew ?_))); (case side4 => exact (Kd.R_reads' HO298.out).2.1); rintro e w52 ⟨rfl, hb⟩; refine ⟨_, rfl, ?_⟩; have n0_ := Aside0.mk (Kd.R_below (by (with_reducible repeat (first | apply Kd.R_alloc | apply Kd.R_drewN | apply Kd.R_drew)); exact HO_7.out) hb); have n1_ := Aside0.mk (Kd.R_below (by (with_reducible repeat (first | apply Kd.R_alloc | apply Kd.R_drewN | apply Kd.R_drew)); exact HO298.out) hb); have n2_ := Aside0.mk (below_step (by repeat (first | (with_reducible first | exact HB.out | apply below_alloc | apply pw_below_drewN | apply below_drew1) | exact HB.out)) hb); clear HO_7; clear HO298; clear HB; have HO_7 := n0_; have HO298 := n1_; have HB := n2_; clear n0_ n1_ n2_; (try clear hb); (try clear hb2); (try clear hk); (try clear hi)) | ((with_reducible refine gate_dst (N := 13) rfl ?_); (try (refine gate_guard (by rfl) ?_; dsimp only)); refine box_event ?hg (N := 13) ?hd (cs := #[.int .i64 0, .int .i64 0, .bool false, .string (⟨#[]⟩ : ByteArray), .int .i64 0]) (t := 30) ?hr ?_; (case hd => rfl); (case hg => rfl); (case hr => first | (go_simp; done) | (go_simp; rfl)); intro gb304 hg w53 hbox hb; have n0_ := Aside0.mk (Kd.R_below (by (with_reducible repeat (first | apply Kd.R_alloc | apply Kd.R_drewN | apply Kd.R_drew)); exact HO_7.out) hb); have n1_ := Aside0.mk (Kd.R_below (by (with_reducible repeat (first | apply Kd.R_alloc | apply Kd.R_drewN | apply Kd.R_drew)); exact HO298.out) hb); have n2_ := Aside0.mk (below_step (by repeat (first | (with_reducible first | exact HB.out | apply below_alloc | apply pw_below_drewN | apply below_drew1) | exact HB.out)) hb); have n3_ := Aside0.mk (hbox); have n4_ := Aside0.mk ((by rw [hg]; exact (below_size (by repeat (first | (with_reducible first | exact HB.out | apply below_alloc | apply pw_below_drewN | apply below_drew1) | exact HB.out))) : w.heap.size ≤ gb304)); have n5_ := Aside0.mk ((by rw [hg]; exact (below_size (by repeat (first | (with_reducible first | exact HB.out | apply below_alloc | apply pw_below_drewN | apply below_drew1) | exact HB.out))) : w.heap.size ≤ gb304)); clear HO_7; clear HO298; clear HB; have HO_7 := n0_; have HO298 := n1_; have HB := n2_; have BK304 := n3_; have GW304 := n4_; have GE304 := n5_; clear n0_ n1_ n2_ n3_ n4_ n5_; clear hb hbox hg; have hcz54_0 : w53.cell? ⟨gb304, 0, none⟩ = some (.int .i64 0) := (blk_cell BK304.out 0).trans rfl; have hcz54_1 : w53.cell? ⟨gb304, 1, none⟩ = some (.int .i64 0) := (blk_cell BK304.out 1).trans rfl; have hcz54_2 : w53.cell? ⟨gb304, 2, none⟩ = some (.bool false) := (blk_cell BK304.out 2).trans rfl; have hcz54_3 : w53.cell? ⟨gb304, 3, none⟩ = some (.string (⟨#[]⟩ : ByteArray)) := (blk_cell BK304.out 3).trans rfl; have hcz54_4 : w53.cell? ⟨gb304, 4, none⟩ = some (.int .i64 0) := (blk_cell BK304.out 4).trans rfl; have hfz54_0 := blk_frozen BK304.out 0; have hfz54_1 := blk_frozen BK304.out 1; have hfz54_2 := blk_frozen BK304.out 2; have hfz54_3 := blk_frozen BK304.out 3; have hfz54_4 := blk_frozen BK304.out 4))
                      go_ret
                      exact ⟨by first | rfl | (simp [errW_none, errW_some] <;> rfl) | (simp [*, errW_none, errW_some] <;> rfl), by repeat (first | (with_reducible first | exact HB.out | apply below_alloc | apply pw_below_drewN | apply below_drew1 | refine below_set ?_ GE304.out) | exact HB.out)⟩
                     ·rw [if_neg c48] at H
                      have c48b0 : (t299 == 6) = false := beq_eq_false_iff_ne.mpr c48
                      have c48b1 : (t299 != 6) = true := bne_iff_ne.mpr c48
                      obtain rfl := Option.some.inj H
                      (try rw [c20b0] at c43b0)
                      (try rw [c31b0] at c43b0)
                      (try rw [c42b0] at c43b0)
                      (try rw [c42b1] at c43b0)
                      (try rw [c44b0] at c43b0)
                      (try rw [c44b1] at c43b0)
                      (try rw [c45b0] at c43b0)
                      (try rw [c45b1] at c43b0)
                      (try rw [c46b0] at c43b0)
                      (try rw [c46b1] at c43b0)
                      (try rw [c48b0] at c43b0)
                      (try rw [c48b1] at c43b0)
                      (try simp at c43b0)
                      go_wp2_with (first | ((with_reducible refine gate_builtin (b := .append) (xs := #[.tmp 74, .tmp 75]) rfl ?_); (try (refine gate_guard (by rfl) ?_; dsimp only)); at_builtin; refine Kd.R_append Kd.string (w0 := w) w.heap.size rfl (.tmp 74) (.tmp 75) 26 9 (.string ⟨#[]⟩) 16 rfl Tryd.underlying26 info9 rfl (by decide) (by omega) u8 x8_4 (⟨#[50]⟩ : ByteArray) [.string (⟨#[50]⟩ : ByteArray)] (fun _ => True) (fun _ => False) rfl rfl ?aP (fun _ hk => hk.elim) ?aF ?aO ?aB ?aS ?aL ?_; (case aP => exact rfl); (case aB => exact (by repeat (first | (with_reducible first | exact HB.out | apply below_alloc | apply pw_below_drewN | apply below_drew1) | exact HB.out))); (case aF => exact (fun _ _ => trivial)); (case aO => exact (by (with_reducible repeat (first | apply Kd.R_alloc | apply Kd.R_drewN | apply Kd.R_drew)); exact HO_8.out)); (case aS => exact (below_size (by repeat (first | (with_reducible first | exact HB.out | apply below_alloc | apply pw_below_drewN | apply below_drew1) | exact HB.out)))); (case aL => have := LMc40.out; omega); intro v297 w55 ho hb hg hat; rw [← Ny296.out] at ho; have n0_ := Aside0.mk (Kd.R_over' (by (with_reducible repeat (first | apply Kd.R_alloc | apply Kd.R_drewN | apply Kd.R_drew)); exact HO_7.out) (Kd.R_typed (by (with_reducible repeat (first | apply Kd.R_alloc | apply Kd.R_drewN | apply Kd.R_drew)); exact HO_8.out)) (by decide) hg); have n1_ := Aside0.mk (hb); have n2_ := Aside0.mk (ho); clear HO_7; clear HB; clear HO_8; have HO_7 := n0_; have HB := n1_; have HO298 := n2_; clear n0_ n1_ n2_; clear ho hb hg hat; obtain ⟨Ao56, co56, eo56⟩ := Kd.R_slice HO_7.out; subst eo56; obtain ⟨Ao57, co57, eo57⟩ := Kd.R_slice HO298.out; subst eo57) | ((with_reducible refine gate_callee (f := 10) rfl ?_); refine goesL_ (some 79) rfl rfl Tryd.func10 (by kernel_rfl) rfl #[.slice Ao56 x7_9.length co56, .int .i64 0, .slice Ao57 y296.length co57] rfl (by (try simp only [List.map_toArray, List.map_cons, List.map_nil]); first | done | rfl | (simp only [List.length_drop, List.length_take]; rfl) | (rw [hsame_])) ?_; (with_reducible refine (interp_Run.calls k4 _ _ x7_9 0 _ _ y296 t299 t300 t301 t302 t303 _ ?side1 ?side2 ?side3 ?side4 A41.out).mono ?_); (case side1 => repeat (first | exact (Kd.R_reads' HO_7.out).2.2 | (with_reducible refine Kd.C_alloc ?_ _) | (with_reducible refine Kd.C_drewN ?_ _) | (with_reducible refine Kd.C_drew ?_))); (case side2 => exact (Kd.R_reads' HO_7.out).2.1); (case side3 => repeat (first | exact (Kd.R_reads' HO298.out).2.2 | (with_reducible refine Kd.C_alloc ?_ _) | (with_reducible refine Kd.C_drewN ?_ _) | (with_reducible refine Kd.C_drew ?_))); (case side4 => exact (Kd.R_reads' HO298.out).2.1); rintro e w58 ⟨rfl, hb⟩; refine ⟨_, rfl, ?_⟩; have n0_ := Aside0.mk (Kd.R_below (by (with_reducible repeat (first | apply Kd.R_alloc | apply Kd.R_drewN | apply Kd.R_drew)); exact HO_7.out) hb); have n1_ := Aside0.mk (Kd.R_below (by (with_reducible repeat (first | apply Kd.R_alloc | apply Kd.R_drewN | apply Kd.R_drew)); exact HO298.out) hb); have n2_ := Aside0.mk (below_step (by repeat (first | (with_reducible first | exact HB.out | apply below_alloc | apply pw_below_drewN | apply below_drew1) | exact HB.out)) hb); clear HO_7; clear HO298; clear HB; have HO_7 := n0_; have HO298 := n1_; have HB := n2_; clear n0_ n1_ n2_; (try clear hb); (try clear hb2); (try clear hk); (try clear hi)) | ((with_reducible refine gate_dst (N := 13) rfl ?_); (try (refine gate_guard (by rfl) ?_; dsimp only)); refine box_event ?hg (N := 13) ?hd (cs := #[.int .i64 0, .int .i64 0, .bool false, .string (⟨#[]⟩ : ByteArray), .int .i64 0]) (t := 30) ?hr ?_; (case hd => rfl); (case hg => rfl); (case hr => first | (go_simp; done) | (go_simp; rfl)); intro gb304 hg w59 hbox hb; have n0_ := Aside0.mk (Kd.R_below (by (with_reducible repeat (first | apply Kd.R_alloc | apply Kd.R_drewN | apply Kd.R_drew)); exact HO_7.out) hb); have n1_ := Aside0.mk (Kd.R_below (by (with_reducible repeat (first | apply Kd.R_alloc | apply Kd.R_drewN | apply Kd.R_drew)); exact HO298.out) hb); have n2_ := Aside0.mk (below_step (by repeat (first | (with_reducible first | exact HB.out | apply below_alloc | apply pw_below_drewN | apply below_drew1) | exact HB.out)) hb); have n3_ := Aside0.mk (hbox); have n4_ := Aside0.mk ((by rw [hg]; exact (below_size (by repeat (first | (with_reducible first | exact HB.out | apply below_alloc | apply pw_below_drewN | apply below_drew1) | exact HB.out))) : w.heap.size ≤ gb304)); have n5_ := Aside0.mk ((by rw [hg]; exact (below_size (by repeat (first | (with_reducible first | exact HB.out | apply below_alloc | apply pw_below_drewN | apply below_drew1) | exact HB.out))) : w.heap.size ≤ gb304)); clear HO_7; clear HO298; clear HB; have HO_7 := n0_; have HO298 := n1_; have HB := n2_; have BK304 := n3_; have GW304 := n4_; have GE304 := n5_; clear n0_ n1_ n2_ n3_ n4_ n5_; clear hb hbox hg; have hcz60_0 : w59.cell? ⟨gb304, 0, none⟩ = some (.int .i64 0) := (blk_cell BK304.out 0).trans rfl; have hcz60_1 : w59.cell? ⟨gb304, 1, none⟩ = some (.int .i64 0) := (blk_cell BK304.out 1).trans rfl; have hcz60_2 : w59.cell? ⟨gb304, 2, none⟩ = some (.bool false) := (blk_cell BK304.out 2).trans rfl; have hcz60_3 : w59.cell? ⟨gb304, 3, none⟩ = some (.string (⟨#[]⟩ : ByteArray)) := (blk_cell BK304.out 3).trans rfl; have hcz60_4 : w59.cell? ⟨gb304, 4, none⟩ = some (.int .i64 0) := (blk_cell BK304.out 4).trans rfl; have hfz60_0 := blk_frozen BK304.out 0; have hfz60_1 := blk_frozen BK304.out 1; have hfz60_2 := blk_frozen BK304.out 2; have hfz60_3 := blk_frozen BK304.out 3; have hfz60_4 := blk_frozen BK304.out 4))
                      go_ret
                      exact ⟨by first | rfl | (simp [errW_none, errW_some] <;> rfl) | (simp [*, errW_none, errW_some] <;> rfl), by repeat (first | (with_reducible first | exact HB.out | apply below_alloc | apply pw_below_drewN | apply below_drew1 | refine below_set ?_ GE304.out) | exact HB.out)⟩
                    ·replace c47 := Bool.eq_false_iff.mpr c47
                     subst c47
                     have H1 : (some true) = some r := by rw [if_neg (show ¬ (false = true) by decide)] at H; exact H
                     clear H
                     have H := H1
                     clear H1
                     obtain rfl := Option.some.inj H
                     (try rw [c20b0] at c43b0)
                     (try rw [c31b0] at c43b0)
                     (try rw [c42b0] at c43b0)
                     (try rw [c42b1] at c43b0)
                     (try rw [c44b0] at c43b0)
                     (try rw [c44b1] at c43b0)
                     (try rw [c45b0] at c43b0)
                     (try rw [c45b1] at c43b0)
                     (try rw [c46b0] at c43b0)
                     (try rw [c46b1] at c43b0)
                     (try simp at c43b0)
                     go_wp2_with (first | ((with_reducible refine gate_builtin (b := .append) (xs := #[.tmp 74, .tmp 75]) rfl ?_); (try (refine gate_guard (by rfl) ?_; dsimp only)); at_builtin; refine Kd.R_append Kd.string (w0 := w) w.heap.size rfl (.tmp 74) (.tmp 75) 26 9 (.string ⟨#[]⟩) 16 rfl Tryd.underlying26 info9 rfl (by decide) (by omega) u8 x8_4 (⟨#[50]⟩ : ByteArray) [.string (⟨#[50]⟩ : ByteArray)] (fun _ => True) (fun _ => False) rfl rfl ?aP (fun _ hk => hk.elim) ?aF ?aO ?aB ?aS ?aL ?_; (case aP => exact rfl); (case aB => exact (by repeat (first | (with_reducible first | exact HB.out | apply below_alloc | apply pw_below_drewN | apply below_drew1) | exact HB.out))); (case aF => exact (fun _ _ => trivial)); (case aO => exact (by (with_reducible repeat (first | apply Kd.R_alloc | apply Kd.R_drewN | apply Kd.R_drew)); exact HO_8.out)); (case aS => exact (below_size (by repeat (first | (with_reducible first | exact HB.out | apply below_alloc | apply pw_below_drewN | apply below_drew1) | exact HB.out)))); (case aL => have := LMc40.out; omega); intro v297 w61 ho hb hg hat; rw [← Ny296.out] at ho; have n0_ := Aside0.mk (Kd.R_over' (by (with_reducible repeat (first | apply Kd.R_alloc | apply Kd.R_drewN | apply Kd.R_drew)); exact HO_7.out) (Kd.R_typed (by (with_reducible repeat (first | apply Kd.R_alloc | apply Kd.R_drewN | apply Kd.R_drew)); exact HO_8.out)) (by decide) hg); have n1_ := Aside0.mk (hb); have n2_ := Aside0.mk (ho); clear HO_7; clear HB; clear HO_8; have HO_7 := n0_; have HB := n1_; have HO298 := n2_; clear n0_ n1_ n2_; clear ho hb hg hat; obtain ⟨Ao62, co62, eo62⟩ := Kd.R_slice HO_7.out; subst eo62; obtain ⟨Ao63, co63, eo63⟩ := Kd.R_slice HO298.out; subst eo63) | ((with_reducible refine gate_callee (f := 10) rfl ?_); refine goesL_ (some 79) rfl rfl Tryd.func10 (by kernel_rfl) rfl #[.slice Ao62 x7_9.length co62, .int .i64 0, .slice Ao63 y296.length co63] rfl (by (try simp only [List.map_toArray, List.map_cons, List.map_nil]); first | done | rfl | (simp only [List.length_drop, List.length_take]; rfl) | (rw [hsame_])) ?_; (with_reducible refine (interp_Run.calls k4 _ _ x7_9 0 _ _ y296 t299 t300 t301 t302 t303 _ ?side1 ?side2 ?side3 ?side4 A41.out).mono ?_); (case side1 => repeat (first | exact (Kd.R_reads' HO_7.out).2.2 | (with_reducible refine Kd.C_alloc ?_ _) | (with_reducible refine Kd.C_drewN ?_ _) | (with_reducible refine Kd.C_drew ?_))); (case side2 => exact (Kd.R_reads' HO_7.out).2.1); (case side3 => repeat (first | exact (Kd.R_reads' HO298.out).2.2 | (with_reducible refine Kd.C_alloc ?_ _) | (with_reducible refine Kd.C_drewN ?_ _) | (with_reducible refine Kd.C_drew ?_))); (case side4 => exact (Kd.R_reads' HO298.out).2.1); rintro e w64 ⟨rfl, hb⟩; refine ⟨_, rfl, ?_⟩; have n0_ := Aside0.mk (Kd.R_below (by (with_reducible repeat (first | apply Kd.R_alloc | apply Kd.R_drewN | apply Kd.R_drew)); exact HO_7.out) hb); have n1_ := Aside0.mk (Kd.R_below (by (with_reducible repeat (first | apply Kd.R_alloc | apply Kd.R_drewN | apply Kd.R_drew)); exact HO298.out) hb); have n2_ := Aside0.mk (below_step (by repeat (first | (with_reducible first | exact HB.out | apply below_alloc | apply pw_below_drewN | apply below_drew1) | exact HB.out)) hb); clear HO_7; clear HO298; clear HB; have HO_7 := n0_; have HO298 := n1_; have HB := n2_; clear n0_ n1_ n2_; (try clear hb); (try clear hb2); (try clear hk); (try clear hi)) | ((with_reducible refine gate_dst (N := 13) rfl ?_); (try (refine gate_guard (by rfl) ?_; dsimp only)); refine box_event ?hg (N := 13) ?hd (cs := #[.int .i64 0, .int .i64 0, .bool false, .string (⟨#[]⟩ : ByteArray), .int .i64 0]) (t := 30) ?hr ?_; (case hd => rfl); (case hg => rfl); (case hr => first | (go_simp; done) | (go_simp; rfl)); intro gb304 hg w65 hbox hb; have n0_ := Aside0.mk (Kd.R_below (by (with_reducible repeat (first | apply Kd.R_alloc | apply Kd.R_drewN | apply Kd.R_drew)); exact HO_7.out) hb); have n1_ := Aside0.mk (Kd.R_below (by (with_reducible repeat (first | apply Kd.R_alloc | apply Kd.R_drewN | apply Kd.R_drew)); exact HO298.out) hb); have n2_ := Aside0.mk (below_step (by repeat (first | (with_reducible first | exact HB.out | apply below_alloc | apply pw_below_drewN | apply below_drew1) | exact HB.out)) hb); have n3_ := Aside0.mk (hbox); have n4_ := Aside0.mk ((by rw [hg]; exact (below_size (by repeat (first | (with_reducible first | exact HB.out | apply below_alloc | apply pw_below_drewN | apply below_drew1) | exact HB.out))) : w.heap.size ≤ gb304)); have n5_ := Aside0.mk ((by rw [hg]; exact (below_size (by repeat (first | (with_reducible first | exact HB.out | apply below_alloc | apply pw_below_drewN | apply below_drew1) | exact HB.out))) : w.heap.size ≤ gb304)); clear HO_7; clear HO298; clear HB; have HO_7 := n0_; have HO298 := n1_; have HB := n2_; have BK304 := n3_; have GW304 := n4_; have GE304 := n5_; clear n0_ n1_ n2_ n3_ n4_ n5_; clear hb hbox hg; have hcz66_0 : w65.cell? ⟨gb304, 0, none⟩ = some (.int .i64 0) := (blk_cell BK304.out 0).trans rfl; have hcz66_1 : w65.cell? ⟨gb304, 1, none⟩ = some (.int .i64 0) := (blk_cell BK304.out 1).trans rfl; have hcz66_2 : w65.cell? ⟨gb304, 2, none⟩ = some (.bool false) := (blk_cell BK304.out 2).trans rfl; have hcz66_3 : w65.cell? ⟨gb304, 3, none⟩ = some (.string (⟨#[]⟩ : ByteArray)) := (blk_cell BK304.out 3).trans rfl; have hcz66_4 : w65.cell? ⟨gb304, 4, none⟩ = some (.int .i64 0) := (blk_cell BK304.out 4).trans rfl; have hfz66_0 := blk_frozen BK304.out 0; have hfz66_1 := blk_frozen BK304.out 1; have hfz66_2 := blk_frozen BK304.out 2; have hfz66_3 := blk_frozen BK304.out 3; have hfz66_4 := blk_frozen BK304.out 4))
                     go_ret
                     exact ⟨by first | rfl | (simp [errW_none, errW_some] <;> rfl) | (simp [*, errW_none, errW_some] <;> rfl), by repeat (first | (with_reducible first | exact HB.out | apply below_alloc | apply pw_below_drewN | apply below_drew1 | refine below_set ?_ GE304.out) | exact HB.out)⟩
                   ·rw [if_neg c46] at H
                    have c46b0 : (t299 == 5) = false := beq_eq_false_iff_ne.mpr c46
                    have c46b1 : (t299 != 5) = true := bne_iff_ne.mpr c46
                    by_cases c67 : t299 = 6
                    ·rw [if_pos c67] at H
                     have c67b0 : (t299 == 6) = true := beq_iff_eq.mpr c67
                     have c67b1 : (t299 != 6) = false := bne_eq_false_iff_eq.mpr c67
                     clear c67
                     obtain rfl := Option.some.inj H
                     (try rw [c20b0] at c43b0)
                     (try rw [c31b0] at c43b0)
                     (try rw [c42b0] at c43b0)
                     (try rw [c42b1] at c43b0)
                     (try rw [c44b0] at c43b0)
                     (try rw [c44b1] at c43b0)
                     (try rw [c45b0] at c43b0)
                     (try rw [c45b1] at c43b0)
                     (try rw [c46b0] at c43b0)
                     (try rw [c46b1] at c43b0)
                     (try rw [c67b0] at c43b0)
                     (try rw [c67b1] at c43b0)
                     (try simp at c43b0)
                     go_wp2_with (first | ((with_reducible refine gate_builtin (b := .append) (xs := #[.tmp 74, .tmp 75]) rfl ?_); (try (refine gate_guard (by rfl) ?_; dsimp only)); at_builtin; refine Kd.R_append Kd.string (w0 := w) w.heap.size rfl (.tmp 74) (.tmp 75) 26 9 (.string ⟨#[]⟩) 16 rfl Tryd.underlying26 info9 rfl (by decide) (by omega) u8 x8_4 (⟨#[50]⟩ : ByteArray) [.string (⟨#[50]⟩ : ByteArray)] (fun _ => True) (fun _ => False) rfl rfl ?aP (fun _ hk => hk.elim) ?aF ?aO ?aB ?aS ?aL ?_; (case aP => exact rfl); (case aB => exact (by repeat (first | (with_reducible first | exact HB.out | apply below_alloc | apply pw_below_drewN | apply below_drew1) | exact HB.out))); (case aF => exact (fun _ _ => trivial)); (case aO => exact (by (with_reducible repeat (first | apply Kd.R_alloc | apply Kd.R_drewN | apply Kd.R_drew)); exact HO_8.out)); (case aS => exact (below_size (by repeat (first | (with_reducible first | exact HB.out | apply below_alloc | apply pw_below_drewN | apply below_drew1) | exact HB.out)))); (case aL => have := LMc40.out; omega); intro v297 w68 ho hb hg hat; rw [← Ny296.out] at ho; have n0_ := Aside0.mk (Kd.R_over' (by (with_reducible repeat (first | apply Kd.R_alloc | apply Kd.R_drewN | apply Kd.R_drew)); exact HO_7.out) (Kd.R_typed (by (with_reducible repeat (first | apply Kd.R_alloc | apply Kd.R_drewN | apply Kd.R_drew)); exact HO_8.out)) (by decide) hg); have n1_ := Aside0.mk (hb); have n2_ := Aside0.mk (ho); clear HO_7; clear HB; clear HO_8; have HO_7 := n0_; have HB := n1_; have HO298 := n2_; clear n0_ n1_ n2_; clear ho hb hg hat; obtain ⟨Ao69, co69, eo69⟩ := Kd.R_slice HO_7.out; subst eo69; obtain ⟨Ao70, co70, eo70⟩ := Kd.R_slice HO298.out; subst eo70) | ((with_reducible refine gate_callee (f := 10) rfl ?_); refine goesL_ (some 79) rfl rfl Tryd.func10 (by kernel_rfl) rfl #[.slice Ao69 x7_9.length co69, .int .i64 0, .slice Ao70 y296.length co70] rfl (by (try simp only [List.map_toArray, List.map_cons, List.map_nil]); first | done | rfl | (simp only [List.length_drop, List.length_take]; rfl) | (rw [hsame_])) ?_; (with_reducible refine (interp_Run.calls k4 _ _ x7_9 0 _ _ y296 t299 t300 t301 t302 t303 _ ?side1 ?side2 ?side3 ?side4 A41.out).mono ?_); (case side1 => repeat (first | exact (Kd.R_reads' HO_7.out).2.2 | (with_reducible refine Kd.C_alloc ?_ _) | (with_reducible refine Kd.C_drewN ?_ _) | (with_reducible refine Kd.C_drew ?_))); (case side2 => exact (Kd.R_reads' HO_7.out).2.1); (case side3 => repeat (first | exact (Kd.R_reads' HO298.out).2.2 | (with_reducible refine Kd.C_alloc ?_ _) | (with_reducible refine Kd.C_drewN ?_ _) | (with_reducible refine Kd.C_drew ?_))); (case side4 => exact (Kd.R_reads' HO298.out).2.1); rintro e w71 ⟨rfl, hb⟩; refine ⟨_, rfl, ?_⟩; have n0_ := Aside0.mk (Kd.R_below (by (with_reducible repeat (first | apply Kd.R_alloc | apply Kd.R_drewN | apply Kd.R_drew)); exact HO_7.out) hb); have n1_ := Aside0.mk (Kd.R_below (by (with_reducible repeat (first | apply Kd.R_alloc | apply Kd.R_drewN | apply Kd.R_drew)); exact HO298.out) hb); have n2_ := Aside0.mk (below_step (by repeat (first | (with_reducible first | exact HB.out | apply below_alloc | apply pw_below_drewN | apply below_drew1) | exact HB.out)) hb); clear HO_7; clear HO298; clear HB; have HO_7 := n0_; have HO298 := n1_; have HB := n2_; clear n0_ n1_ n2_; (try clear hb); (try clear hb2); (try clear hk); (try clear hi)) | ((with_reducible refine gate_dst (N := 13) rfl ?_); (try (refine gate_guard (by rfl) ?_; dsimp only)); refine box_event ?hg (N := 13) ?hd (cs := #[.int .i64 0, .int .i64 0, .bool false, .string (⟨#[]⟩ : ByteArray), .int .i64 0]) (t := 30) ?hr ?_; (case hd => rfl); (case hg => rfl); (case hr => first | (go_simp; done) | (go_simp; rfl)); intro gb304 hg w72 hbox hb; have n0_ := Aside0.mk (Kd.R_below (by (with_reducible repeat (first | apply Kd.R_alloc | apply Kd.R_drewN | apply Kd.R_drew)); exact HO_7.out) hb); have n1_ := Aside0.mk (Kd.R_below (by (with_reducible repeat (first | apply Kd.R_alloc | apply Kd.R_drewN | apply Kd.R_drew)); exact HO298.out) hb); have n2_ := Aside0.mk (below_step (by repeat (first | (with_reducible first | exact HB.out | apply below_alloc | apply pw_below_drewN | apply below_drew1) | exact HB.out)) hb); have n3_ := Aside0.mk (hbox); have n4_ := Aside0.mk ((by rw [hg]; exact (below_size (by repeat (first | (with_reducible first | exact HB.out | apply below_alloc | apply pw_below_drewN | apply below_drew1) | exact HB.out))) : w.heap.size ≤ gb304)); have n5_ := Aside0.mk ((by rw [hg]; exact (below_size (by repeat (first | (with_reducible first | exact HB.out | apply below_alloc | apply pw_below_drewN | apply below_drew1) | exact HB.out))) : w.heap.size ≤ gb304)); clear HO_7; clear HO298; clear HB; have HO_7 := n0_; have HO298 := n1_; have HB := n2_; have BK304 := n3_; have GW304 := n4_; have GE304 := n5_; clear n0_ n1_ n2_ n3_ n4_ n5_; clear hb hbox hg; have hcz73_0 : w72.cell? ⟨gb304, 0, none⟩ = some (.int .i64 0) := (blk_cell BK304.out 0).trans rfl; have hcz73_1 : w72.cell? ⟨gb304, 1, none⟩ = some (.int .i64 0) := (blk_cell BK304.out 1).trans rfl; have hcz73_2 : w72.cell? ⟨gb304, 2, none⟩ = some (.bool false) := (blk_cell BK304.out 2).trans rfl; have hcz73_3 : w72.cell? ⟨gb304, 3, none⟩ = some (.string (⟨#[]⟩ : ByteArray)) := (blk_cell BK304.out 3).trans rfl; have hcz73_4 : w72.cell? ⟨gb304, 4, none⟩ = some (.int .i64 0) := (blk_cell BK304.out 4).trans rfl; have hfz73_0 := blk_frozen BK304.out 0; have hfz73_1 := blk_frozen BK304.out 1; have hfz73_2 := blk_frozen BK304.out 2; have hfz73_3 := blk_frozen BK304.out 3; have hfz73_4 := blk_frozen BK304.out 4))
                     go_ret
                     exact ⟨by first | rfl | (simp [errW_none, errW_some] <;> rfl) | (simp [*, errW_none, errW_some] <;> rfl), by repeat (first | (with_reducible first | exact HB.out | apply below_alloc | apply pw_below_drewN | apply below_drew1 | refine below_set ?_ GE304.out) | exact HB.out)⟩
                    ·rw [if_neg c67] at H
                     have c67b0 : (t299 == 6) = false := beq_eq_false_iff_ne.mpr c67
                     have c67b1 : (t299 != 6) = true := bne_iff_ne.mpr c67
                     obtain rfl := Option.some.inj H
                     (try rw [c20b0] at c43b0)
                     (try rw [c31b0] at c43b0)
                     (try rw [c42b0] at c43b0)
                     (try rw [c42b1] at c43b0)
                     (try rw [c44b0] at c43b0)
                     (try rw [c44b1] at c43b0)
                     (try rw [c45b0] at c43b0)
                     (try rw [c45b1] at c43b0)
                     (try rw [c46b0] at c43b0)
                     (try rw [c46b1] at c43b0)
                     (try rw [c67b0] at c43b0)
                     (try rw [c67b1] at c43b0)
                     (try simp at c43b0)
                     go_wp2_with (first | ((with_reducible refine gate_builtin (b := .append) (xs := #[.tmp 74, .tmp 75]) rfl ?_); (try (refine gate_guard (by rfl) ?_; dsimp only)); at_builtin; refine Kd.R_append Kd.string (w0 := w) w.heap.size rfl (.tmp 74) (.tmp 75) 26 9 (.string ⟨#[]⟩) 16 rfl Tryd.underlying26 info9 rfl (by decide) (by omega) u8 x8_4 (⟨#[50]⟩ : ByteArray) [.string (⟨#[50]⟩ : ByteArray)] (fun _ => True) (fun _ => False) rfl rfl ?aP (fun _ hk => hk.elim) ?aF ?aO ?aB ?aS ?aL ?_; (case aP => exact rfl); (case aB => exact (by repeat (first | (with_reducible first | exact HB.out | apply below_alloc | apply pw_below_drewN | apply below_drew1) | exact HB.out))); (case aF => exact (fun _ _ => trivial)); (case aO => exact (by (with_reducible repeat (first | apply Kd.R_alloc | apply Kd.R_drewN | apply Kd.R_drew)); exact HO_8.out)); (case aS => exact (below_size (by repeat (first | (with_reducible first | exact HB.out | apply below_alloc | apply pw_below_drewN | apply below_drew1) | exact HB.out)))); (case aL => have := LMc40.out; omega); intro v297 w74 ho hb hg hat; rw [← Ny296.out] at ho; have n0_ := Aside0.mk (Kd.R_over' (by (with_reducible repeat (first | apply Kd.R_alloc | apply Kd.R_drewN | apply Kd.R_drew)); exact HO_7.out) (Kd.R_typed (by (with_reducible repeat (first | apply Kd.R_alloc | apply Kd.R_drewN | apply Kd.R_drew)); exact HO_8.out)) (by decide) hg); have n1_ := Aside0.mk (hb); have n2_ := Aside0.mk (ho); clear HO_7; clear HB; clear HO_8; have HO_7 := n0_; have HB := n1_; have HO298 := n2_; clear n0_ n1_ n2_; clear ho hb hg hat; obtain ⟨Ao75, co75, eo75⟩ := Kd.R_slice HO_7.out; subst eo75; obtain ⟨Ao76, co76, eo76⟩ := Kd.R_slice HO298.out; subst eo76) | ((with_reducible refine gate_callee (f := 10) rfl ?_); refine goesL_ (some 79) rfl rfl Tryd.func10 (by kernel_rfl) rfl #[.slice Ao75 x7_9.length co75, .int .i64 0, .slice Ao76 y296.length co76] rfl (by (try simp only [List.map_toArray, List.map_cons, List.map_nil]); first | done | rfl | (simp only [List.length_drop, List.length_take]; rfl) | (rw [hsame_])) ?_; (with_reducible refine (interp_Run.calls k4 _ _ x7_9 0 _ _ y296 t299 t300 t301 t302 t303 _ ?side1 ?side2 ?side3 ?side4 A41.out).mono ?_); (case side1 => repeat (first | exact (Kd.R_reads' HO_7.out).2.2 | (with_reducible refine Kd.C_alloc ?_ _) | (with_reducible refine Kd.C_drewN ?_ _) | (with_reducible refine Kd.C_drew ?_))); (case side2 => exact (Kd.R_reads' HO_7.out).2.1); (case side3 => repeat (first | exact (Kd.R_reads' HO298.out).2.2 | (with_reducible refine Kd.C_alloc ?_ _) | (with_reducible refine Kd.C_drewN ?_ _) | (with_reducible refine Kd.C_drew ?_))); (case side4 => exact (Kd.R_reads' HO298.out).2.1); rintro e w77 ⟨rfl, hb⟩; refine ⟨_, rfl, ?_⟩; have n0_ := Aside0.mk (Kd.R_below (by (with_reducible repeat (first | apply Kd.R_alloc | apply Kd.R_drewN | apply Kd.R_drew)); exact HO_7.out) hb); have n1_ := Aside0.mk (Kd.R_below (by (with_reducible repeat (first | apply Kd.R_alloc | apply Kd.R_drewN | apply Kd.R_drew)); exact HO298.out) hb); have n2_ := Aside0.mk (below_step (by repeat (first | (with_reducible first | exact HB.out | apply below_alloc | apply pw_below_drewN | apply below_drew1) | exact HB.out)) hb); clear HO_7; clear HO298; clear HB; have HO_7 := n0_; have HO298 := n1_; have HB := n2_; clear n0_ n1_ n2_; (try clear hb); (try clear hb2); (try clear hk); (try clear hi)) | ((with_reducible refine gate_dst (N := 13) rfl ?_); (try (refine gate_guard (by rfl) ?_; dsimp only)); refine box_event ?hg (N := 13) ?hd (cs := #[.int .i64 0, .int .i64 0, .bool false, .string (⟨#[]⟩ : ByteArray), .int .i64 0]) (t := 30) ?hr ?_; (case hd => rfl); (case hg => rfl); (case hr => first | (go_simp; done) | (go_simp; rfl)); intro gb304 hg w78 hbox hb; have n0_ := Aside0.mk (Kd.R_below (by (with_reducible repeat (first | apply Kd.R_alloc | apply Kd.R_drewN | apply Kd.R_drew)); exact HO_7.out) hb); have n1_ := Aside0.mk (Kd.R_below (by (with_reducible repeat (first | apply Kd.R_alloc | apply Kd.R_drewN | apply Kd.R_drew)); exact HO298.out) hb); have n2_ := Aside0.mk (below_step (by repeat (first | (with_reducible first | exact HB.out | apply below_alloc | apply pw_below_drewN | apply below_drew1) | exact HB.out)) hb); have n3_ := Aside0.mk (hbox); have n4_ := Aside0.mk ((by rw [hg]; exact (below_size (by repeat (first | (with_reducible first | exact HB.out | apply below_alloc | apply pw_below_drewN | apply below_drew1) | exact HB.out))) : w.heap.size ≤ gb304)); have n5_ := Aside0.mk ((by rw [hg]; exact (below_size (by repeat (first | (with_reducible first | exact HB.out | apply below_alloc | apply pw_below_drewN | apply below_drew1) | exact HB.out))) : w.heap.size ≤ gb304)); clear HO_7; clear HO298; clear HB; have HO_7 := n0_; have HO298 := n1_; have HB := n2_; have BK304 := n3_; have GW304 := n4_; have GE304 := n5_; clear n0_ n1_ n2_ n3_ n4_ n5_; clear hb hbox hg; have hcz79_0 : w78.cell? ⟨gb304, 0, none⟩ = some (.int .i64 0) := (blk_cell BK304.out 0).trans rfl; have hcz79_1 : w78.cell? ⟨gb304, 1, none⟩ = some (.int .i64 0) := (blk_cell BK304.out 1).trans rfl; have hcz79_2 : w78.cell? ⟨gb304, 2, none⟩ = some (.bool false) := (blk_cell BK304.out 2).trans rfl; have hcz79_3 : w78.cell? ⟨gb304, 3, none⟩ = some (.string (⟨#[]⟩ : ByteArray)) := (blk_cell BK304.out 3).trans rfl; have hcz79_4 : w78.cell? ⟨gb304, 4, none⟩ = some (.int .i64 0) := (blk_cell BK304.out 4).trans rfl; have hfz79_0 := blk_frozen BK304.out 0; have hfz79_1 := blk_frozen BK304.out 1; have hfz79_2 := blk_frozen BK304.out 2; have hfz79_3 := blk_frozen BK304.out 3; have hfz79_4 := blk_frozen BK304.out 4))
                     go_ret
                     exact ⟨by first | rfl | (simp [errW_none, errW_some] <;> rfl) | (simp [*, errW_none, errW_some] <;> rfl), by repeat (first | (with_reducible first | exact HB.out | apply below_alloc | apply pw_below_drewN | apply below_drew1 | refine below_set ?_ GE304.out) | exact HB.out)⟩
                  ·rw [if_neg c45] at H
                   have c45b0 : (t303 == 0) = false := beq_eq_false_iff_ne.mpr c45
                   have c45b1 : (t303 != 0) = true := bne_iff_ne.mpr c45
                   obtain rfl := Option.some.inj H
                   (try rw [c20b0] at c43b0)
                   (try rw [c31b0] at c43b0)
                   (try rw [c42b0] at c43b0)
                   (try rw [c42b1] at c43b0)
                   (try rw [c44b0] at c43b0)
                   (try rw [c44b1] at c43b0)
                   (try rw [c45b0] at c43b0)
                   (try rw [c45b1] at c43b0)
                   (try simp at c43b0)
                   go_wp2_with (first | ((with_reducible refine gate_builtin (b := .append) (xs := #[.tmp 74, .tmp 75]) rfl ?_); (try (refine gate_guard (by rfl) ?_; dsimp only)); at_builtin; refine Kd.R_append Kd.string (w0 := w) w.heap.size rfl (.tmp 74) (.tmp 75) 26 9 (.string ⟨#[]⟩) 16 rfl Tryd.underlying26 info9 rfl (by decide) (by omega) u8 x8_4 (⟨#[50]⟩ : ByteArray) [.string (⟨#[50]⟩ : ByteArray)] (fun _ => True) (fun _ => False) rfl rfl ?aP (fun _ hk => hk.elim) ?aF ?aO ?aB ?aS ?aL ?_; (case aP => exact rfl); (case aB => exact (by repeat (first | (with_reducible first | exact HB.out | apply below_alloc | apply pw_below_drewN | apply below_drew1) | exact HB.out))); (case aF => exact (fun _ _ => trivial)); (case aO => exact (by (with_reducible repeat (first | apply Kd.R_alloc | apply Kd.R_drewN | apply Kd.R_drew)); exact HO_8.out)); (case aS => exact (below_size (by repeat (first | (with_reducible first | exact HB.out | apply below_alloc | apply pw_below_drewN | apply below_drew1) | exact HB.out)))); (case aL => have := LMc40.out; omega); intro v297 w80 ho hb hg hat; rw [← Ny296.out] at ho; have n0_ := Aside0.mk (Kd.R_over' (by (with_reducible repeat (first | apply Kd.R_alloc | apply Kd.R_drewN | apply Kd.R_drew)); exact HO_7.out) (Kd.R_typed (by (with_reducible repeat (first | apply Kd.R_alloc | apply Kd.R_drewN | apply Kd.R_drew)); exact HO_8.out)) (by decide) hg); have n1_ := Aside0.mk (hb); have n2_ := Aside0.mk (ho); clear HO_7; clear HB; clear HO_8; have HO_7 := n0_; have HB := n1_; have HO298 := n2_; clear n0_ n1_ n2_; clear ho hb hg hat; obtain ⟨Ao81, co81, eo81⟩ := Kd.R_slice HO_7.out; subst eo81; obtain ⟨Ao82, co82, eo82⟩ := Kd.R_slice HO298.out; subst eo82) | ((with_reducible refine gate_callee (f := 10) rfl ?_); refine goesL_ (some 79) rfl rfl Tryd.func10 (by kernel_rfl) rfl #[.slice Ao81 x7_9.length co81, .int .i64 0, .slice Ao82 y296.length co82] rfl (by (try simp only [List.map_toArray, List.map_cons, List.map_nil]); first | done | rfl | (simp only [List.length_drop, List.length_take]; rfl) | (rw [hsame_])) ?_; (with_reducible refine (interp_Run.calls k4 _ _ x7_9 0 _ _ y296 t299 t300 t301 t302 t303 _ ?side1 ?side2 ?side3 ?side4 A41.out).mono ?_); (case side1 => repeat (first | exact (Kd.R_reads' HO_7.out).2.2 | (with_reducible refine Kd.C_alloc ?_ _) | (with_reducible refine Kd.C_drewN ?_ _) | (with_reducible refine Kd.C_drew ?_))); (case side2 => exact (Kd.R_reads' HO_7.out).2.1); (case side3 => repeat (first | exact (Kd.R_reads' HO298.out).2.2 | (with_reducible refine Kd.C_alloc ?_ _) | (with_reducible refine Kd.C_drewN ?_ _) | (with_reducible refine Kd.C_drew ?_))); (case side4 => exact (Kd.R_reads' HO298.out).2.1); rintro e w83 ⟨rfl, hb⟩; refine ⟨_, rfl, ?_⟩; have n0_ := Aside0.mk (Kd.R_below (by (with_reducible repeat (first | apply Kd.R_alloc | apply Kd.R_drewN | apply Kd.R_drew)); exact HO_7.out) hb); have n1_ := Aside0.mk (Kd.R_below (by (with_reducible repeat (first | apply Kd.R_alloc | apply Kd.R_drewN | apply Kd.R_drew)); exact HO298.out) hb); have n2_ := Aside0.mk (below_step (by repeat (first | (with_reducible first | exact HB.out | apply below_alloc | apply pw_below_drewN | apply below_drew1) | exact HB.out)) hb); clear HO_7; clear HO298; clear HB; have HO_7 := n0_; have HO298 := n1_; have HB := n2_; clear n0_ n1_ n2_; (try clear hb); (try clear hb2); (try clear hk); (try clear hi)) | ((with_reducible refine gate_dst (N := 13) rfl ?_); (try (refine gate_guard (by rfl) ?_; dsimp only)); refine box_event ?hg (N := 13) ?hd (cs := #[.int .i64 0, .int .i64 0, .bool false, .string (⟨#[]⟩ : ByteArray), .int .i64 0]) (t := 30) ?hr ?_; (case hd => rfl); (case hg => rfl); (case hr => first | (go_simp; done) | (go_simp; rfl)); intro gb304 hg w84 hbox hb; have n0_ := Aside0.mk (Kd.R_below (by (with_reducible repeat (first | apply Kd.R_alloc | apply Kd.R_drewN | apply Kd.R_drew)); exact HO_7.out) hb); have n1_ := Aside0.mk (Kd.R_below (by (with_reducible repeat (first | apply Kd.R_alloc | apply Kd.R_drewN | apply Kd.R_drew)); exact HO298.out) hb); have n2_ := Aside0.mk (below_step (by repeat (first | (with_reducible first | exact HB.out | apply below_alloc | apply pw_below_drewN | apply below_drew1) | exact HB.out)) hb); have n3_ := Aside0.mk (hbox); have n4_ := Aside0.mk ((by rw [hg]; exact (below_size (by repeat (first | (with_reducible first | exact HB.out | apply below_alloc | apply pw_below_drewN | apply below_drew1) | exact HB.out))) : w.heap.size ≤ gb304)); have n5_ := Aside0.mk ((by rw [hg]; exact (below_size (by repeat (first | (with_reducible first | exact HB.out | apply below_alloc | apply pw_below_drewN | apply below_drew1) | exact HB.out))) : w.heap.size ≤ gb304)); clear HO_7; clear HO298; clear HB; have HO_7 := n0_; have HO298 := n1_; have HB := n2_; have BK304 := n3_; have GW304 := n4_; have GE304 := n5_; clear n0_ n1_ n2_ n3_ n4_ n5_; clear hb hbox hg; have hcz85_0 : w84.cell? ⟨gb304, 0, none⟩ = some (.int .i64 0) := (blk_cell BK304.out 0).trans rfl; have hcz85_1 : w84.cell? ⟨gb304, 1, none⟩ = some (.int .i64 0) := (blk_cell BK304.out 1).trans rfl; have hcz85_2 : w84.cell? ⟨gb304, 2, none⟩ = some (.bool false) := (blk_cell BK304.out 2).trans rfl; have hcz85_3 : w84.cell? ⟨gb304, 3, none⟩ = some (.string (⟨#[]⟩ : ByteArray)) := (blk_cell BK304.out 3).trans rfl; have hcz85_4 : w84.cell? ⟨gb304, 4, none⟩ = some (.int .i64 0) := (blk_cell BK304.out 4).trans rfl; have hfz85_0 := blk_frozen BK304.out 0; have hfz85_1 := blk_frozen BK304.out 1; have hfz85_2 := blk_frozen BK304.out 2; have hfz85_3 := blk_frozen BK304.out 3; have hfz85_4 := blk_frozen BK304.out 4))
                   go_ret
                   exact ⟨by first | rfl | (simp [errW_none, errW_some] <;> rfl) | (simp [*, errW_none, errW_some] <;> rfl), by repeat (first | (with_reducible first | exact HB.out | apply below_alloc | apply pw_below_drewN | apply below_drew1 | refine below_set ?_ GE304.out) | exact HB.out)⟩
                 ·rw [if_neg c44] at H
                  have c44b0 : (t302.toList == ([] : List UInt8)) = false := beq_eq_false_iff_ne.mpr c44
                  have c44b1 : (t302.toList != ([] : List UInt8)) = true := bne_iff_ne.mpr c44
                  obtain rfl := Option.some.inj H
                  (try rw [c20b0] at c43b0)
                  (try rw [c31b0] at c43b0)
                  (try rw [c42b0] at c43b0)
                  (try rw [c42b1] at c43b0)
                  (try rw [c44b0] at c43b0)
                  (try rw [c44b1] at c43b0)
                  (try simp at c43b0)
                  go_wp2_with (first | ((with_reducible refine gate_builtin (b := .append) (xs := #[.tmp 74, .tmp 75]) rfl ?_); (try (refine gate_guard (by rfl) ?_; dsimp only)); at_builtin; refine Kd.R_append Kd.string (w0 := w) w.heap.size rfl (.tmp 74) (.tmp 75) 26 9 (.string ⟨#[]⟩) 16 rfl Tryd.underlying26 info9 rfl (by decide) (by omega) u8 x8_4 (⟨#[50]⟩ : ByteArray) [.string (⟨#[50]⟩ : ByteArray)] (fun _ => True) (fun _ => False) rfl rfl ?aP (fun _ hk => hk.elim) ?aF ?aO ?aB ?aS ?aL ?_; (case aP => exact rfl); (case aB => exact (by repeat (first | (with_reducible first | exact HB.out | apply below_alloc | apply pw_below_drewN | apply below_drew1) | exact HB.out))); (case aF => exact (fun _ _ => trivial)); (case aO => exact (by (with_reducible repeat (first | apply Kd.R_alloc | apply Kd.R_drewN | apply Kd.R_drew)); exact HO_8.out)); (case aS => exact (below_size (by repeat (first | (with_reducible first | exact HB.out | apply below_alloc | apply pw_below_drewN | apply below_drew1) | exact HB.out)))); (case aL => have := LMc40.out; omega); intro v297 w86 ho hb hg hat; rw [← Ny296.out] at ho; have n0_ := Aside0.mk (Kd.R_over' (by (with_reducible repeat (first | apply Kd.R_alloc | apply Kd.R_drewN | apply Kd.R_drew)); exact HO_7.out) (Kd.R_typed (by (with_reducible repeat (first | apply Kd.R_alloc | apply Kd.R_drewN | apply Kd.R_drew)); exact HO_8.out)) (by decide) hg); have n1_ := Aside0.mk (hb); have n2_ := Aside0.mk (ho); clear HO_7; clear HB; clear HO_8; have HO_7 := n0_; have HB := n1_; have HO298 := n2_; clear n0_ n1_ n2_; clear ho hb hg hat; obtain ⟨Ao87, co87, eo87⟩ := Kd.R_slice HO_7.out; subst eo87; obtain ⟨Ao88, co88, eo88⟩ := Kd.R_slice HO298.out; subst eo88) | ((with_reducible refine gate_callee (f := 10) rfl ?_); refine goesL_ (some 79) rfl rfl Tryd.func10 (by kernel_rfl) rfl #[.slice Ao87 x7_9.length co87, .int .i64 0, .slice Ao88 y296.length co88] rfl (by (try simp only [List.map_toArray, List.map_cons, List.map_nil]); first | done | rfl | (simp only [List.length_drop, List.length_take]; rfl) | (rw [hsame_])) ?_; (with_reducible refine (interp_Run.calls k4 _ _ x7_9 0 _ _ y296 t299 t300 t301 t302 t303 _ ?side1 ?side2 ?side3 ?side4 A41.out).mono ?_); (case side1 => repeat (first | exact (Kd.R_reads' HO_7.out).2.2 | (with_reducible refine Kd.C_alloc ?_ _) | (with_reducible refine Kd.C_drewN ?_ _) | (with_reducible refine Kd.C_drew ?_))); (case side2 => exact (Kd.R_reads' HO_7.out).2.1); (case side3 => repeat (first | exact (Kd.R_reads' HO298.out).2.2 | (with_reducible refine Kd.C_alloc ?_ _) | (with_reducible refine Kd.C_drewN ?_ _) | (with_reducible refine Kd.C_drew ?_))); (case side4 => exact (Kd.R_reads' HO298.out).2.1); rintro e w89 ⟨rfl, hb⟩; refine ⟨_, rfl, ?_⟩; have n0_ := Aside0.mk (Kd.R_below (by (with_reducible repeat (first | apply Kd.R_alloc | apply Kd.R_drewN | apply Kd.R_drew)); exact HO_7.out) hb); have n1_ := Aside0.mk (Kd.R_below (by (with_reducible repeat (first | apply Kd.R_alloc | apply Kd.R_drewN | apply Kd.R_drew)); exact HO298.out) hb); have n2_ := Aside0.mk (below_step (by repeat (first | (with_reducible first | exact HB.out | apply below_alloc | apply pw_below_drewN | apply below_drew1) | exact HB.out)) hb); clear HO_7; clear HO298; clear HB; have HO_7 := n0_; have HO298 := n1_; have HB := n2_; clear n0_ n1_ n2_; (try clear hb); (try clear hb2); (try clear hk); (try clear hi)) | ((with_reducible refine gate_dst (N := 13) rfl ?_); (try (refine gate_guard (by rfl) ?_; dsimp only)); refine box_event ?hg (N := 13) ?hd (cs := #[.int .i64 0, .int .i64 0, .bool false, .string (⟨#[]⟩ : ByteArray), .int .i64 0]) (t := 30) ?hr ?_; (case hd => rfl); (case hg => rfl); (case hr => first | (go_simp; done) | (go_simp; rfl)); intro gb304 hg w90 hbox hb; have n0_ := Aside0.mk (Kd.R_below (by (with_reducible repeat (first | apply Kd.R_alloc | apply Kd.R_drewN | apply Kd.R_drew)); exact HO_7.out) hb); have n1_ := Aside0.mk (Kd.R_below (by (with_reducible repeat (first | apply Kd.R_alloc | apply Kd.R_drewN | apply Kd.R_drew)); exact HO298.out) hb); have n2_ := Aside0.mk (below_step (by repeat (first | (with_reducible first | exact HB.out | apply below_alloc | apply pw_below_drewN | apply below_drew1) | exact HB.out)) hb); have n3_ := Aside0.mk (hbox); have n4_ := Aside0.mk ((by rw [hg]; exact (below_size (by repeat (first | (with_reducible first | exact HB.out | apply below_alloc | apply pw_below_drewN | apply below_drew1) | exact HB.out))) : w.heap.size ≤ gb304)); have n5_ := Aside0.mk ((by rw [hg]; exact (below_size (by repeat (first | (with_reducible first | exact HB.out | apply below_alloc | apply pw_below_drewN | apply below_drew1) | exact HB.out))) : w.heap.size ≤ gb304)); clear HO_7; clear HO298; clear HB; have HO_7 := n0_; have HO298 := n1_; have HB := n2_; have BK304 := n3_; have GW304 := n4_; have GE304 := n5_; clear n0_ n1_ n2_ n3_ n4_ n5_; clear hb hbox hg; have hcz91_0 : w90.cell? ⟨gb304, 0, none⟩ = some (.int .i64 0) := (blk_cell BK304.out 0).trans rfl; have hcz91_1 : w90.cell? ⟨gb304, 1, none⟩ = some (.int .i64 0) := (blk_cell BK304.out 1).trans rfl; have hcz91_2 : w90.cell? ⟨gb304, 2, none⟩ = some (.bool false) := (blk_cell BK304.out 2).trans rfl; have hcz91_3 : w90.cell? ⟨gb304, 3, none⟩ = some (.string (⟨#[]⟩ : ByteArray)) := (blk_cell BK304.out 3).trans rfl; have hcz91_4 : w90.cell? ⟨gb304, 4, none⟩ = some (.int .i64 0) := (blk_cell BK304.out 4).trans rfl; have hfz91_0 := blk_frozen BK304.out 0; have hfz91_1 := blk_frozen BK304.out 1; have hfz91_2 := blk_frozen BK304.out 2; have hfz91_3 := blk_frozen BK304.out 3; have hfz91_4 := blk_frozen BK304.out 4))
                  go_ret
                  exact ⟨by first | rfl | (simp [errW_none, errW_some] <;> rfl) | (simp [*, errW_none, errW_some] <;> rfl), by repeat (first | (with_reducible first | exact HB.out | apply below_alloc | apply pw_below_drewN | apply below_drew1 | refine below_set ?_ GE304.out) | exact HB.out)⟩
                ·rw [if_neg c43] at H
                 have c43b0 : (t301 == false) = false := by simpa using c43
                 (try (have c43b1 : decide (t301 = false) = false := by simpa using c43))
                 (try (have c43b2 : (t301 == false) = false := by simpa using c43))
                 (try (have c43b3 : ¬ (t301 = false) := by simpa using c43))
                 clear c43
                 obtain rfl := Option.some.inj H
                 (try rw [c20b0] at c43b0)
                 (try rw [c31b0] at c43b0)
                 (try rw [c42b0] at c43b0)
                 (try rw [c42b1] at c43b0)
                 (try simp at c43b0)
                 go_wp2_with (first | ((with_reducible refine gate_builtin (b := .append) (xs := #[.tmp 74, .tmp 75]) rfl ?_); (try (refine gate_guard (by rfl) ?_; dsimp only)); at_builtin; refine Kd.R_append Kd.string (w0 := w) w.heap.size rfl (.tmp 74) (.tmp 75) 26 9 (.string ⟨#[]⟩) 16 rfl Tryd.underlying26 info9 rfl (by decide) (by omega) u8 x8_4 (⟨#[50]⟩ : ByteArray) [.string (⟨#[50]⟩ : ByteArray)] (fun _ => True) (fun _ => False) rfl rfl ?aP (fun _ hk => hk.elim) ?aF ?aO ?aB ?aS ?aL ?_; (case aP => exact rfl); (case aB => exact (by repeat (first | (with_reducible first | exact HB.out | apply below_alloc | apply pw_below_drewN | apply below_drew1) | exact HB.out))); (case aF => exact (fun _ _ => trivial)); (case aO => exact (by (with_reducible repeat (first | apply Kd.R_alloc | apply Kd.R_drewN | apply Kd.R_drew)); exact HO_8.out)); (case aS => exact (below_size (by repeat (first | (with_reducible first | exact HB.out | apply below_alloc | apply pw_below_drewN | apply below_drew1) | exact HB.out)))); (case aL => have := LMc40.out; omega); intro v297 w92 ho hb hg hat; rw [← Ny296.out] at ho; have n0_ := Aside0.mk (Kd.R_over' (by (with_reducible repeat (first | apply Kd.R_alloc | apply Kd.R_drewN | apply Kd.R_drew)); exact HO_7.out) (Kd.R_typed (by (with_reducible repeat (first | apply Kd.R_alloc | apply Kd.R_drewN | apply Kd.R_drew)); exact HO_8.out)) (by decide) hg); have n1_ := Aside0.mk (hb); have n2_ := Aside0.mk (ho); clear HO_7; clear HB; clear HO_8; have HO_7 := n0_; have HB := n1_; have HO298 := n2_; clear n0_ n1_ n2_; clear ho hb hg hat; obtain ⟨Ao93, co93, eo93⟩ := Kd.R_slice HO_7.out; subst eo93; obtain ⟨Ao94, co94, eo94⟩ := Kd.R_slice HO298.out; subst eo94) | ((with_reducible refine gate_callee (f := 10) rfl ?_); refine goesL_ (some 79) rfl rfl Tryd.func10 (by kernel_rfl) rfl #[.slice Ao93 x7_9.length co93, .int .i64 0, .slice Ao94 y296.length co94] rfl (by (try simp only [List.map_toArray, List.map_cons, List.map_nil]); first | done | rfl | (simp only [List.length_drop, List.length_take]; rfl) | (rw [hsame_])) ?_; (with_reducible refine (interp_Run.calls k4 _ _ x7_9 0 _ _ y296 t299 t300 t301 t302 t303 _ ?side1 ?side2 ?side3 ?side4 A41.out).mono ?_); (case side1 => repeat (first | exact (Kd.R_reads' HO_7.out).2.2 | (with_reducible refine Kd.C_alloc ?_ _) | (with_reducible refine Kd.C_drewN ?_ _) | (with_reducible refine Kd.C_drew ?_))); (case side2 => exact (Kd.R_reads' HO_7.out).2.1); (case side3 => repeat (first | exact (Kd.R_reads' HO298.out).2.2 | (with_reducible refine Kd.C_alloc ?_ _) | (with_reducible refine Kd.C_drewN ?_ _) | (with_reducible refine Kd.C_drew ?_))); (case side4 => exact (Kd.R_reads' HO298.out).2.1); rintro e w95 ⟨rfl, hb⟩; refine ⟨_, rfl, ?_⟩; have n0_ := Aside0.mk (Kd.R_below (by (with_reducible repeat (first | apply Kd.R_alloc | apply Kd.R_drewN | apply Kd.R_drew)); exact HO_7.out) hb); have n1_ := Aside0.mk (Kd.R_below (by (with_reducible repeat (first | apply Kd.R_alloc | apply Kd.R_drewN | apply Kd.R_drew)); exact HO298.out) hb); have n2_ := Aside0.mk (below_step (by repeat (first | (with_reducible first | exact HB.out | apply below_alloc | apply pw_below_drewN | apply below_drew1) | exact HB.out)) hb); clear HO_7; clear HO298; clear HB; have HO_7 := n0_; have HO298 := n1_; have HB := n2_; clear n0_ n1_ n2_; (try clear hb); (try clear hb2); (try clear hk); (try clear hi)) | ((with_reducible refine gate_dst (N := 13) rfl ?_); (try (refine gate_guard (by rfl) ?_; dsimp only)); refine box_event ?hg (N := 13) ?hd (cs := #[.int .i64 0, .int .i64 0, .bool false, .string (⟨#[]⟩ : ByteArray), .int .i64 0]) (t := 30) ?hr ?_; (case hd => rfl); (case hg => rfl); (case hr => first | (go_simp; done) | (go_simp; rfl)); intro gb304 hg w96 hbox hb; have n0_ := Aside0.mk (Kd.R_below (by (with_reducible repeat (first | apply Kd.R_alloc | apply Kd.R_drewN | apply Kd.R_drew)); exact HO_7.out) hb); have n1_ := Aside0.mk (Kd.R_below (by (with_reducible repeat (first | apply Kd.R_alloc | apply Kd.R_drewN | apply Kd.R_drew)); exact HO298.out) hb); have n2_ := Aside0.mk (below_step (by repeat (first | (with_reducible first | exact HB.out | apply below_alloc | apply pw_below_drewN | apply below_drew1) | exact HB.out)) hb); have n3_ := Aside0.mk (hbox); have n4_ := Aside0.mk ((by rw [hg]; exact (below_size (by repeat (first | (with_reducible first | exact HB.out | apply below_alloc | apply pw_below_drewN | apply below_drew1) | exact HB.out))) : w.heap.size ≤ gb304)); have n5_ := Aside0.mk ((by rw [hg]; exact (below_size (by repeat (first | (with_reducible first | exact HB.out | apply below_alloc | apply pw_below_drewN | apply below_drew1) | exact HB.out))) : w.heap.size ≤ gb304)); clear HO_7; clear HO298; clear HB; have HO_7 := n0_; have HO298 := n1_; have HB := n2_; have BK304 := n3_; have GW304 := n4_; have GE304 := n5_; clear n0_ n1_ n2_ n3_ n4_ n5_; clear hb hbox hg; have hcz97_0 : w96.cell? ⟨gb304, 0, none⟩ = some (.int .i64 0) := (blk_cell BK304.out 0).trans rfl; have hcz97_1 : w96.cell? ⟨gb304, 1, none⟩ = some (.int .i64 0) := (blk_cell BK304.out 1).trans rfl; have hcz97_2 : w96.cell? ⟨gb304, 2, none⟩ = some (.bool false) := (blk_cell BK304.out 2).trans rfl; have hcz97_3 : w96.cell? ⟨gb304, 3, none⟩ = some (.string (⟨#[]⟩ : ByteArray)) := (blk_cell BK304.out 3).trans rfl; have hcz97_4 : w96.cell? ⟨gb304, 4, none⟩ = some (.int .i64 0) := (blk_cell BK304.out 4).trans rfl; have hfz97_0 := blk_frozen BK304.out 0; have hfz97_1 := blk_frozen BK304.out 1; have hfz97_2 := blk_frozen BK304.out 2; have hfz97_3 := blk_frozen BK304.out 3; have hfz97_4 := blk_frozen BK304.out 4))
                 go_ret
                 exact ⟨by first | rfl | (simp [errW_none, errW_some] <;> rfl) | (simp [*, errW_none, errW_some] <;> rfl), by repeat (first | (with_reducible first | exact HB.out | apply below_alloc | apply pw_below_drewN | apply below_drew1 | refine below_set ?_ GE304.out) | exact HB.out)⟩
               ·rw [if_neg c42] at H
                have c42b0 : (x9_3.toList == ([] : List UInt8)) = false := beq_eq_false_iff_ne.mpr c42
                have c42b1 : (x9_3.toList != ([] : List UInt8)) = true := bne_iff_ne.mpr c42
                by_cases c98 : x10_4 = 0
                ·rw [if_pos c98] at H
                 have c98b0 : (x10_4 == 0) = true := beq_iff_eq.mpr c98
                 have c98b1 : (x10_4 != 0) = false := bne_eq_false_iff_eq.mpr c98
                 clear c98
                 by_cases c99 : (t301 == (x10_4 != 0)) = true
                 ·rw [if_pos c99] at H
                  have c99b0 : (t301 == (x10_4 != 0)) = true := c99
                  (try (have c99b1 : decide (t301 = (x10_4 != 0)) = true := by simpa using c99))
                  (try (have c99b2 : (t301 == (x10_4 != 0)) = true := by simpa using c99))
                  clear c99
                  by_cases c100 : t302.toList = ([] : List UInt8)
                  ·rw [if_pos c100] at H
                   have c100b0 : (t302.toList == ([] : List UInt8)) = true := beq_iff_eq.mpr c100
                   have c100b1 : (t302.toList != ([] : List UInt8)) = false := bne_eq_false_iff_eq.mpr c100
                   clear c100
                   by_cases c101 : t303 = 0
                   ·rw [if_pos c101] at H
                    have c101b0 : (t303 == 0) = true := beq_iff_eq.mpr c101
                    have c101b1 : (t303 != 0) = false := bne_eq_false_iff_eq.mpr c101
                    clear c101
                    by_cases c102 : t299 = 5
                    ·rw [if_pos c102] at H
                     have c102b0 : (t299 == 5) = true := beq_iff_eq.mpr c102
                     have c102b1 : (t299 != 5) = false := bne_eq_false_iff_eq.mpr c102
                     clear c102
                     by_cases c103 : a2 = true
                     ·subst c103
                      have H1 : (if t299 = 6 then (some true) else (some false)) = some r := by rw [if_pos rfl] at H; exact H
                      clear H
                      have H := H1
                      clear H1
                      by_cases c104 : t299 = 6
                      ·rw [if_pos c104] at H
                       have c104b0 : (t299 == 6) = true := beq_iff_eq.mpr c104
                       have c104b1 : (t299 != 6) = false := bne_eq_false_iff_eq.mpr c104
                       clear c104
                       obtain rfl := Option.some.inj H
                       (try rw [c20b0] at c99b0)
                       (try rw [c31b0] at c99b0)
                       (try rw [c42b0] at c99b0)
                       (try rw [c42b1] at c99b0)
                       (try rw [c98b0] at c99b0)
                       (try rw [c98b1] at c99b0)
                       (try rw [c100b0] at c99b0)
                       (try rw [c100b1] at c99b0)
                       (try rw [c101b0] at c99b0)
                       (try rw [c101b1] at c99b0)
                       (try rw [c102b0] at c99b0)
                       (try rw [c102b1] at c99b0)
                       (try rw [c104b0] at c99b0)
                       (try rw [c104b1] at c99b0)
                       (try simp at c99b0)
                       go_wp2_with (first | ((with_reducible refine gate_builtin (b := .append) (xs := #[.tmp 74, .tmp 75]) rfl ?_); (try (refine gate_guard (by rfl) ?_; dsimp only)); at_builtin; refine Kd.R_append Kd.string (w0 := w) w.heap.size rfl (.tmp 74) (.tmp 75) 26 9 (.string ⟨#[]⟩) 16 rfl Tryd.underlying26 info9 rfl (by decide) (by omega) u8 x8_4 (⟨#[50]⟩ : ByteArray) [.string (⟨#[50]⟩ : ByteArray)] (fun _ => True) (fun _ => False) rfl rfl ?aP (fun _ hk => hk.elim) ?aF ?aO ?aB ?aS ?aL ?_; (case aP => exact rfl); (case aB => exact (by repeat (first | (with_reducible first | exact HB.out | apply below_alloc | apply pw_below_drewN | apply below_drew1) | exact HB.out))); (case aF => exact (fun _ _ => trivial)); (case aO => exact (by (with_reducible repeat (first | apply Kd.R_alloc | apply Kd.R_drewN | apply Kd.R_drew)); exact HO_8.out)); (case aS => exact (below_size (by repeat (first | (with_reducible first | exact HB.out | apply below_alloc | apply pw_below_drewN | apply below_drew1) | exact HB.out)))); (case aL => have := LMc40.out; omega); intro v297 w105 ho hb hg hat; rw [← Ny296.out] at ho; have n0_ := Aside0.mk (Kd.R_over' (by (with_reducible repeat (first | apply Kd.R_alloc | apply Kd.R_drewN | apply Kd.R_drew)); exact HO_7.out) (Kd.R_typed (by (with_reducible repeat (first | apply Kd.R_alloc | apply Kd.R_drewN | apply Kd.R_drew)); exact HO_8.out)) (by decide) hg); have n1_ := Aside0.mk (hb); have n2_ := Aside0.mk (ho); clear HO_7; clear HB; clear HO_8; have HO_7 := n0_; have HB := n1_; have HO298 := n2_; clear n0_ n1_ n2_; clear ho hb hg hat; obtain ⟨Ao106, co106, eo106⟩ := Kd.R_slice HO_7.out; subst eo106; obtain ⟨Ao107, co107, eo107⟩ := Kd.R_slice HO298.out; subst eo107) | ((with_reducible refine gate_callee (f := 10) rfl ?_); refine goesL_ (some 79) rfl rfl Tryd.func10 (by kernel_rfl) rfl #[.slice Ao106 x7_9.length co106, .int .i64 0, .slice Ao107 y296.length co107] rfl (by (try simp only [List.map_toArray, List.map_cons, List.map_nil]); first | done | rfl | (simp only [List.length_drop, List.length_take]; rfl) | (rw [hsame_])) ?_; (with_reducible refine (interp_Run.calls k4 _ _ x7_9 0 _ _ y296 t299 t300 t301 t302 t303 _ ?side1 ?side2 ?side3 ?side4 A41.out).mono ?_); (case side1 => repeat (first | exact (Kd.R_reads' HO_7.out).2.2 | (with_reducible refine Kd.C_alloc ?_ _) | (with_reducible refine Kd.C_drewN ?_ _) | (with_reducible refine Kd.C_drew ?_))); (case side2 => exact (Kd.R_reads' HO_7.out).2.1); (case side3 => repeat (first | exact (Kd.R_reads' HO298.out).2.2 | (with_reducible refine Kd.C_alloc ?_ _) | (with_reducible refine Kd.C_drewN ?_ _) | (with_reducible refine Kd.C_drew ?_))); (case side4 => exact (Kd.R_reads' HO298.out).2.1); rintro e w108 ⟨rfl, hb⟩; refine ⟨_, rfl, ?_⟩; have n0_ := Aside0.mk (Kd.R_below (by (with_reducible repeat (first | apply Kd.R_alloc | apply Kd.R_drewN | apply Kd.R_drew)); exact HO_7.out) hb); have n1_ := Aside0.mk (Kd.R_below (by (with_reducible repeat (first | apply Kd.R_alloc | apply Kd.R_drewN | apply Kd.R_drew)); exact HO298.out) hb); have n2_ := Aside0.mk (below_step (by repeat (first | (with_reducible first | exact HB.out | apply below_alloc | apply pw_below_drewN | apply below_drew1) | exact HB.out)) hb); clear HO_7; clear HO298; clear HB; have HO_7 := n0_; have HO298 := n1_; have HB := n2_; clear n0_ n1_ n2_; (try clear hb); (try clear hb2); (try clear hk); (try clear hi)) | ((with_reducible refine gate_dst (N := 13) rfl ?_); (try (refine gate_guard (by rfl) ?_; dsimp only)); refine box_event ?hg (N := 13) ?hd (cs := #[.int .i64 0, .int .i64 0, .bool false, .string (⟨#[]⟩ : ByteArray), .int .i64 0]) (t := 30) ?hr ?_; (case hd => rfl); (case hg => rfl); (case hr => first | (go_simp; done) | (go_simp; rfl)); intro gb304 hg w109 hbox hb; have n0_ := Aside0.mk (Kd.R_below (by (with_reducible repeat (first | apply Kd.R_alloc | apply Kd.R_drewN | apply Kd.R_drew)); exact HO_7.out) hb); have n1_ := Aside0.mk (Kd.R_below (by (with_reducible repeat (first | apply Kd.R_alloc | apply Kd.R_drewN | apply Kd.R_drew)); exact HO298.out) hb); have n2_ := Aside0.mk (below_step (by repeat (first | (with_reducible first | exact HB.out | apply below_alloc | apply pw_below_drewN | apply below_drew1) | exact HB.out)) hb); have n3_ := Aside0.mk (hbox); have n4_ := Aside0.mk ((by rw [hg]; exact (below_size (by repeat (first | (with_reducible first | exact HB.out | apply below_alloc | apply pw_below_drewN | apply below_drew1) | exact HB.out))) : w.heap.size ≤ gb304)); have n5_ := Aside0.mk ((by rw [hg]; exact (below_size (by repeat (first | (with_reducible first | exact HB.out | apply below_alloc | apply pw_below_drewN | apply below_drew1) | exact HB.out))) : w.heap.size ≤ gb304)); clear HO_7; clear HO298; clear HB; have HO_7 := n0_; have HO298 := n1_; have HB := n2_; have BK304 := n3_; have GW304 := n4_; have GE304 := n5_; clear n0_ n1_ n2_ n3_ n4_ n5_; clear hb hbox hg; have hcz110_0 : w109.cell? ⟨gb304, 0, none⟩ = some (.int .i64 0) := (blk_cell BK304.out 0).trans rfl; have hcz110_1 : w109.cell? ⟨gb304, 1, none⟩ = some (.int .i64 0) := (blk_cell BK304.out 1).trans rfl; have hcz110_2 : w109.cell? ⟨gb304, 2, none⟩ = some (.bool false) := (blk_cell BK304.out 2).trans rfl; have hcz110_3 : w109.cell? ⟨gb304, 3, none⟩ = some (.string (⟨#[]⟩ : ByteArray)) := (blk_cell BK304.out 3).trans rfl; have hcz110_4 : w109.cell? ⟨gb304, 4, none⟩ = some (.int .i64 0) := (blk_cell BK304.out 4).trans rfl; have hfz110_0 := blk_frozen BK304.out 0; have hfz110_1 := blk_frozen BK304.out 1; have hfz110_2 := blk_frozen BK304.out 2; have hfz110_3 := blk_frozen BK304.out 3; have hfz110_4 := blk_frozen BK304.out 4))
                       go_ret
                       exact ⟨by first | rfl | (simp [errW_none, errW_some] <;> rfl) | (simp [*, errW_none, errW_some] <;> rfl), by repeat (first | (with_reducible first | exact HB.out | apply below_alloc | apply pw_below_drewN | apply below_drew1 | refine below_set ?_ GE304.out) | exact HB.out)⟩
                      ·rw [if_neg c104] at H
                       have c104b0 : (t299 == 6) = false := beq_eq_false_iff_ne.mpr c104
                       have c104b1 : (t299 != 6) = true := bne_iff_ne.mpr c104
                       obtain rfl := Option.some.inj H
                       (try rw [c20b0] at c99b0)
                       (try rw [c31b0] at c99b0)
                       (try rw [c42b0] at c99b0)
                       (try rw [c42b1] at c99b0)
                       (try rw [c98b0] at c99b0)
                       (try rw [c98b1] at c99b0)
                       (try rw [c100b0] at c99b0)
                       (try rw [c100b1] at c99b0)
                       (try rw [c101b0] at c99b0)
                       (try rw [c101b1] at c99b0)
                       (try rw [c102b0] at c99b0)
                       (try rw [c102b1] at c99b0)
                       (try rw [c104b0] at c99b0)
                       (try rw [c104b1] at c99b0)
                       (try simp at c99b0)
                       go_wp2_with (first | ((with_reducible refine gate_builtin (b := .append) (xs := #[.tmp 74, .tmp 75]) rfl ?_); (try (refine gate_guard (by rfl) ?_; dsimp only)); at_builtin; refine Kd.R_append Kd.string (w0 := w) w.heap.size rfl (.tmp 74) (.tmp 75) 26 9 (.string ⟨#[]⟩) 16 rfl Tryd.underlying26 info9 rfl (by decide) (by omega) u8 x8_4 (⟨#[50]⟩ : ByteArray) [.string (⟨#[50]⟩ : ByteArray)] (fun _ => True) (fun _ => False) rfl rfl ?aP (fun _ hk => hk.elim) ?aF ?aO ?aB ?aS ?aL ?_; (case aP => exact rfl); (case aB => exact (by repeat (first | (with_reducible first | exact HB.out | apply below_alloc | apply pw_below_drewN | apply below_drew1) | exact HB.out))); (case aF => exact (fun _ _ => trivial)); (case aO => exact (by (with_reducible repeat (first | apply Kd.R_alloc | apply Kd.R_drewN | apply Kd.R_drew)); exact HO_8.out)); (case aS => exact (below_size (by repeat (first | (with_reducible first | exact HB.out | apply below_alloc | apply pw_below_drewN | apply below_drew1) | exact HB.out)))); (case aL => have := LMc40.out; omega); intro v297 w111 ho hb hg hat; rw [← Ny296.out] at ho; have n0_ := Aside0.mk (Kd.R_over' (by (with_reducible repeat (first | apply Kd.R_alloc | apply Kd.R_drewN | apply Kd.R_drew)); exact HO_7.out) (Kd.R_typed (by (with_reducible repeat (first | apply Kd.R_alloc | apply Kd.R_drewN | apply Kd.R_drew)); exact HO_8.out)) (by decide) hg); have n1_ := Aside0.mk (hb); have n2_ := Aside0.mk (ho); clear HO_7; clear HB; clear HO_8; have HO_7 := n0_; have HB := n1_; have HO298 := n2_; clear n0_ n1_ n2_; clear ho hb hg hat; obtain ⟨Ao112, co112, eo112⟩ := Kd.R_slice HO_7.out; subst eo112; obtain ⟨Ao113, co113, eo113⟩ := Kd.R_slice HO298.out; subst eo113) | ((with_reducible refine gate_callee (f := 10) rfl ?_); refine goesL_ (some 79) rfl rfl Tryd.func10 (by kernel_rfl) rfl #[.slice Ao112 x7_9.length co112, .int .i64 0, .slice Ao113 y296.length co113] rfl (by (try simp only [List.map_toArray, List.map_cons, List.map_nil]); first | done | rfl | (simp only [List.length_drop, List.length_take]; rfl) | (rw [hsame_])) ?_; (with_reducible refine (interp_Run.calls k4 _ _ x7_9 0 _ _ y296 t299 t300 t301 t302 t303 _ ?side1 ?side2 ?side3 ?side4 A41.out).mono ?_); (case side1 => repeat (first | exact (Kd.R_reads' HO_7.out).2.2 | (with_reducible refine Kd.C_alloc ?_ _) | (with_reducible refine Kd.C_drewN ?_ _) | (with_reducible refine Kd.C_drew ?_))); (case side2 => exact (Kd.R_reads' HO_7.out).2.1); (case side3 => repeat (first | exact (Kd.R_reads' HO298.out).2.2 | (with_reducible refine Kd.C_alloc ?_ _) | (with_reducible refine Kd.C_drewN ?_ _) | (with_reducible refine Kd.C_drew ?_))); (case side4 => exact (Kd.R_reads' HO298.out).2.1); rintro e w114 ⟨rfl, hb⟩; refine ⟨_, rfl, ?_⟩; have n0_ := Aside0.mk (Kd.R_below (by (with_reducible repeat (first | apply Kd.R_alloc | apply Kd.R_drewN | apply Kd.R_drew)); exact HO_7.out) hb); have n1_ := Aside0.mk (Kd.R_below (by (with_reducible repeat (first | apply Kd.R_alloc | apply Kd.R_drewN | apply Kd.R_drew)); exact HO298.out) hb); have n2_ := Aside0.mk (below_step (by repeat (first | (with_reducible first | exact HB.out | apply below_alloc | apply pw_below_drewN | apply below_drew1) | exact HB.out)) hb); clear HO_7; clear HO298; clear HB; have HO_7 := n0_; have HO298 := n1_; have HB := n2_; clear n0_ n1_ n2_; (try clear hb); (try clear hb2); (try clear hk); (try clear hi)) | ((with_reducible refine gate_dst (N := 13) rfl ?_); (try (refine gate_guard (by rfl) ?_; dsimp only)); refine box_event ?hg (N := 13) ?hd (cs := #[.int .i64 0, .int .i64 0, .bool false, .string (⟨#[]⟩ : ByteArray), .int .i64 0]) (t := 30) ?hr ?_; (case hd => rfl); (case hg => rfl); (case hr => first | (go_simp; done) | (go_simp; rfl)); intro gb304 hg w115 hbox hb; have n0_ := Aside0.mk (Kd.R_below (by (with_reducible repeat (first | apply Kd.R_alloc | apply Kd.R_drewN | apply Kd.R_drew)); exact HO_7.out) hb); have n1_ := Aside0.mk (Kd.R_below (by (with_reducible repeat (first | apply Kd.R_alloc | apply Kd.R_drewN | apply Kd.R_drew)); exact HO298.out) hb); have n2_ := Aside0.mk (below_step (by repeat (first | (with_reducible first | exact HB.out | apply below_alloc | apply pw_below_drewN | apply below_drew1) | exact HB.out)) hb); have n3_ := Aside0.mk (hbox); have n4_ := Aside0.mk ((by rw [hg]; exact (below_size (by repeat (first | (with_reducible first | exact HB.out | apply below_alloc | apply pw_below_drewN | apply below_drew1) | exact HB.out))) : w.heap.size ≤ gb304)); have n5_ := Aside0.mk ((by rw [hg]; exact (below_size (by repeat (first | (with_reducible first | exact HB.out | apply below_alloc | apply pw_below_drewN | apply below_drew1) | exact HB.out))) : w.heap.size ≤ gb304)); clear HO_7; clear HO298; clear HB; have HO_7 := n0_; have HO298 := n1_; have HB := n2_; have BK304 := n3_; have GW304 := n4_; have GE304 := n5_; clear n0_ n1_ n2_ n3_ n4_ n5_; clear hb hbox hg; have hcz116_0 : w115.cell? ⟨gb304, 0, none⟩ = some (.int .i64 0) := (blk_cell BK304.out 0).trans rfl; have hcz116_1 : w115.cell? ⟨gb304, 1, none⟩ = some (.int .i64 0) := (blk_cell BK304.out 1).trans rfl; have hcz116_2 : w115.cell? ⟨gb304, 2, none⟩ = some (.bool false) := (blk_cell BK304.out 2).trans rfl; have hcz116_3 : w115.cell? ⟨gb304, 3, none⟩ = some (.string (⟨#[]⟩ : ByteArray)) := (blk_cell BK304.out 3).trans rfl; have hcz116_4 : w115.cell? ⟨gb304, 4, none⟩ = some (.int .i64 0) := (blk_cell BK304.out 4).trans rfl; have hfz116_0 := blk_frozen BK304.out 0; have hfz116_1 := blk_frozen BK304.out 1; have hfz116_2 := blk_frozen BK304.out 2; have hfz116_3 := blk_frozen BK304.out 3; have hfz116_4 := blk_frozen BK304.out 4))
                       go_ret
                       exact ⟨by first | rfl | (simp [errW_none, errW_some] <;> rfl) | (simp [*, errW_none, errW_some] <;> rfl), by repeat (first | (with_reducible first | exact HB.out | apply below_alloc | apply pw_below_drewN | apply below_drew1 | refine below_set ?_ GE304.out) | exact HB.out)⟩
                     ·replace c103 := Bool.eq_false_iff.mpr c103
                      subst c103
                      have H1 : (some true) = some r := by rw [if_neg (show ¬ (false = true) by decide)] at H; exact H
                      clear H
                      have H := H1
                      clear H1
                      obtain rfl := Option.some.inj H
                      (try rw [c20b0] at c99b0)
                      (try rw [c31b0] at c99b0)
                      (try rw [c42b0] at c99b0)
                      (try rw [c42b1] at c99b0)
                      (try rw [c98b0] at c99b0)
                      (try rw [c98b1] at c99b0)
                      (try rw [c100b0] at c99b0)
                      (try rw [c100b1] at c99b0)
                      (try rw [c101b0] at c99b0)
                      (try rw [c101b1] at c99b0)
                      (try rw [c102b0] at c99b0)
                      (try rw [c102b1] at c99b0)
                      (try simp at c99b0)
                      go_wp2_with (first | ((with_reducible refine gate_builtin (b := .append) (xs := #[.tmp 74, .tmp 75]) rfl ?_); (try (refine gate_guard (by rfl) ?_; dsimp only)); at_builtin; refine Kd.R_append Kd.string (w0 := w) w.heap.size rfl (.tmp 74) (.tmp 75) 26 9 (.string ⟨#[]⟩) 16 rfl Tryd.underlying26 info9 rfl (by decide) (by omega) u8 x8_4 (⟨#[50]⟩ : ByteArray) [.string (⟨#[50]⟩ : ByteArray)] (fun _ => True) (fun _ => False) rfl rfl ?aP (fun _ hk => hk.elim) ?aF ?aO ?aB ?aS ?aL ?_; (case aP => exact rfl); (case aB => exact (by repeat (first | (with_reducible first | exact HB.out | apply below_alloc | apply pw_below_drewN | apply below_drew1) | exact HB.out))); (case aF => exact (fun _ _ => trivial)); (case aO => exact (by (with_reducible repeat (first | apply Kd.R_alloc | apply Kd.R_drewN | apply Kd.R_drew)); exact HO_8.out)); (case aS => exact (below_size (by repeat (first | (with_reducible first | exact HB.out | apply below_alloc | apply pw_below_drewN | apply below_drew1) | exact HB.out)))); (case aL => have := LMc40.out; omega); intro v297 w117 ho hb hg hat; rw [← Ny296.out] at ho; have n0_ := Aside0.mk (Kd.R_over' (by (with_reducible repeat (first | apply Kd.R_alloc | apply Kd.R_drewN | apply Kd.R_drew)); exact HO_7.out) (Kd.R_typed (by (with_reducible repeat (first | apply Kd.R_alloc | apply Kd.R_drewN | apply Kd.R_drew)); exact HO_8.out)) (by decide) hg); have n1_ := Aside0.mk (hb); have n2_ := Aside0.mk (ho); clear HO_7; clear HB; clear HO_8; have HO_7 := n0_; have HB := n1_; have HO298 := n2_; clear n0_ n1_ n2_; clear ho hb hg hat; obtain ⟨Ao118, co118, eo118⟩ := Kd.R_slice HO_7.out; subst eo118; obtain ⟨Ao119, co119, eo119⟩ := Kd.R_slice HO298.out; subst eo119) | ((with_reducible refine gate_callee (f := 10) rfl ?_); refine goesL_ (some 79) rfl rfl Tryd.func10 (by kernel_rfl) rfl #[.slice Ao118 x7_9.length co118, .int .i64 0, .slice Ao119 y296.length co119] rfl (by (try simp only [List.map_toArray, List.map_cons, List.map_nil]); first | done | rfl | (simp only [List.length_drop, List.length_take]; rfl) | (rw [hsame_])) ?_; (with_reducible refine (interp_Run.calls k4 _ _ x7_9 0 _ _ y296 t299 t300 t301 t302 t303 _ ?side1 ?side2 ?side3 ?side4 A41.out).mono ?_); (case side1 => repeat (first | exact (Kd.R_reads' HO_7.out).2.2 | (with_reducible refine Kd.C_alloc ?_ _) | (with_reducible refine Kd.C_drewN ?_ _) | (with_reducible refine Kd.C_drew ?_))); (case side2 => exact (Kd.R_reads' HO_7.out).2.1); (case side3 => repeat (first | exact (Kd.R_reads' HO298.out).2.2 | (with_reducible refine Kd.C_alloc ?_ _) | (with_reducible refine Kd.C_drewN ?_ _) | (with_reducible refine Kd.C_drew ?_))); (case side4 => exact (Kd.R_reads' HO298.out).2.1); rintro e w120 ⟨rfl, hb⟩; refine ⟨_, rfl, ?_⟩; have n0_ := Aside0.mk (Kd.R_below (by (with_reducible repeat (first | apply Kd.R_alloc | apply Kd.R_drewN | apply Kd.R_drew)); exact HO_7.out) hb); have n1_ := Aside0.mk (Kd.R_below (by (with_reducible repeat (first | apply Kd.R_alloc | apply Kd.R_drewN | apply Kd.R_drew)); exact HO298.out) hb); have n2_ := Aside0.mk (below_step (by repeat (first | (with_reducible first | exact HB.out | apply below_alloc | apply pw_below_drewN | apply below_drew1) | exact HB.out)) hb); clear HO_7; clear HO298; clear HB; have HO_7 := n0_; have HO298 := n1_; have HB := n2_; clear n0_ n1_ n2_; (try clear hb); (try clear hb2); (try clear hk); (try clear hi)) | ((with_reducible refine gate_dst (N := 13) rfl ?_); (try (refine gate_guard (by rfl) ?_; dsimp only)); refine box_event ?hg (N := 13) ?hd (cs := #[.int .i64 0, .int .i64 0, .bool false, .string (⟨#[]⟩ : ByteArray), .int .i64 0]) (t := 30) ?hr ?_; (case hd => rfl); (case hg => rfl); (case hr => first | (go_simp; done) | (go_simp; rfl)); intro gb304 hg w121 hbox hb; have n0_ := Aside0.mk (Kd.R_below (by (with_reducible repeat (first | apply Kd.R_alloc | apply Kd.R_drewN | apply Kd.R_drew)); exact HO_7.out) hb); have n1_ := Aside0.mk (Kd.R_below (by (with_reducible repeat (first | apply Kd.R_alloc | apply Kd.R_drewN | apply Kd.R_drew)); exact HO298.out) hb); have n2_ := Aside0.mk (below_step (by repeat (first | (with_reducible first | exact HB.out | apply below_alloc | apply pw_below_drewN | apply below_drew1) | exact HB.out)) hb); have n3_ := Aside0.mk (hbox); have n4_ := Aside0.mk ((by rw [hg]; exact (below_size (by repeat (first | (with_reducible first | exact HB.out | apply below_alloc | apply pw_below_drewN | apply below_drew1) | exact HB.out))) : w.heap.size ≤ gb304)); have n5_ := Aside0.mk ((by rw [hg]; exact (below_size (by repeat (first | (with_reducible first | exact HB.out | apply below_alloc | apply pw_below_drewN | apply below_drew1) | exact HB.out))) : w.heap.size ≤ gb304)); clear HO_7; clear HO298; clear HB; have HO_7 := n0_; have HO298 := n1_; have HB := n2_; have BK304 := n3_; have GW304 := n4_; have GE304 := n5_; clear n0_ n1_ n2_ n3_ n4_ n5_; clear hb hbox hg; have hcz122_0 : w121.cell? ⟨gb304, 0, none⟩ = some (.int .i64 0) := (blk_cell BK304.out 0).trans rfl; have hcz122_1 : w121.cell? ⟨gb304, 1, none⟩ = some (.int .i64 0) := (blk_cell BK304.out 1).trans rfl; have hcz122_2 : w121.cell? ⟨gb304, 2, none⟩ = some (.bool false) := (blk_cell BK304.out 2).trans rfl; have hcz122_3 : w121.cell? ⟨gb304, 3, none⟩ = some (.string (⟨#[]⟩ : ByteArray)) := (blk_cell BK304.out 3).trans rfl; have hcz122_4 : w121.cell? ⟨gb304, 4, none⟩ = some (.int .i64 0) := (blk_cell BK304.out 4).trans rfl; have hfz122_0 := blk_frozen BK304.out 0; have hfz122_1 := blk_frozen BK304.out 1; have hfz122_2 := blk_frozen BK304.out 2; have hfz122_3 := blk_frozen BK304.out 3; have hfz122_4 := blk_frozen BK304.out 4))
                      go_ret
                      exact ⟨by first | rfl | (simp [errW_none, errW_some] <;> rfl) | (simp [*, errW_none, errW_some] <;> rfl), by repeat (first | (with_reducible first | exact HB.out | apply below_alloc | apply pw_below_drewN | apply below_drew1 | refine below_set ?_ GE304.out) | exact HB.out)⟩
                    ·rw [if_neg c102] at H
                     have c102b0 : (t299 == 5) = false := beq_eq_false_iff_ne.mpr c102
                     have c102b1 : (t299 != 5) = true := bne_iff_ne.mpr c102
                     by_cases c123 : t299 = 6
                     ·rw [if_pos c123] at H
                      have c123b0 : (t299 == 6) = true := beq_iff_eq.mpr c123
                      have c123b1 : (t299 != 6) = false := bne_eq_false_iff_eq.mpr c123
                      clear c123
                      obtain rfl := Option.some.inj H
                      (try rw [c20b0] at c99b0)
                      (try rw [c31b0] at c99b0)
                      (try rw [c42b0] at c99b0)
                      (try rw [c42b1] at c99b0)
                      (try rw [c98b0] at c99b0)
                      (try rw [c98b1] at c99b0)
                      (try rw [c100b0] at c99b0)
                      (try rw [c100b1] at c99b0)
                      (try rw [c101b0] at c99b0)
                      (try rw [c101b1] at c99b0)
                      (try rw [c102b0] at c99b0)
                      (try rw [c102b1] at c99b0)
                      (try rw [c123b0] at c99b0)
                      (try rw [c123b1] at c99b0)
                      (try simp at c99b0)
                      go_wp2_with (first | ((with_reducible refine gate_builtin (b := .append) (xs := #[.tmp 74, .tmp 75]) rfl ?_); (try (refine gate_guard (by rfl) ?_; dsimp only)); at_builtin; refine Kd.R_append Kd.string (w0 := w) w.heap.size rfl (.tmp 74) (.tmp 75) 26 9 (.string ⟨#[]⟩) 16 rfl Tryd.underlying26 info9 rfl (by decide) (by omega) u8 x8_4 (⟨#[50]⟩ : ByteArray) [.string (⟨#[50]⟩ : ByteArray)] (fun _ => True) (fun _ => False) rfl rfl ?aP (fun _ hk => hk.elim) ?aF ?aO ?aB ?aS ?aL ?_; (case aP => exact rfl); (case aB => exact (by repeat (first | (with_reducible first | exact HB.out | apply below_alloc | apply pw_below_drewN | apply below_drew1) | exact HB.out))); (case aF => exact (fun _ _ => trivial)); (case aO => exact (by (with_reducible repeat (first | apply Kd.R_alloc | apply Kd.R_drewN | apply Kd.R_drew)); exact HO_8.out)); (case aS => exact (below_size (by repeat (first | (with_reducible first | exact HB.out | apply below_alloc | apply pw_below_drewN | apply below_drew1) | exact HB.out)))); (case aL => have := LMc40.out; omega); intro v297 w124 ho hb hg hat; rw [← Ny296.out] at ho; have n0_ := Aside0.mk (Kd.R_over' (by (with_reducible repeat (first | apply Kd.R_alloc | apply Kd.R_drewN | apply Kd.R_drew)); exact HO_7.out) (Kd.R_typed (by (with_reducible repeat (first | apply Kd.R_alloc | apply Kd.R_drewN | apply Kd.R_drew)); exact HO_8.out)) (by decide) hg); have n1_ := Aside0.mk (hb); have n2_ := Aside0.mk (ho); clear HO_7; clear HB; clear HO_8; have HO_7 := n0_; have HB := n1_; have HO298 := n2_; clear n0_ n1_ n2_; clear ho hb hg hat; obtain ⟨Ao125, co125, eo125⟩ := Kd.R_slice HO_7.out; subst eo125; obtain ⟨Ao126, co126, eo126⟩ := Kd.R_slice HO298.out; subst eo126) | ((with_reducible refine gate_callee (f := 10) rfl ?_); refine goesL_ (some 79) rfl rfl Tryd.func10 (by kernel_rfl) rfl #[.slice Ao125 x7_9.length co125, .int .i64 0, .slice Ao126 y296.length co126] rfl (by (try simp only [List.map_toArray, List.map_cons, List.map_nil]); first | done | rfl | (simp only [List.length_drop, List.length_take]; rfl) | (rw [hsame_])) ?_; (with_reducible refine (interp_Run.calls k4 _ _ x7_9 0 _ _ y296 t299 t300 t301 t302 t303 _ ?side1 ?side2 ?side3 ?side4 A41.out).mono ?_); (case side1 => repeat (first | exact (Kd.R_reads' HO_7.out).2.2 | (with_reducible refine Kd.C_alloc ?_ _) | (with_reducible refine Kd.C_drewN ?_ _) | (with_reducible refine Kd.C_drew ?_))); (case side2 => exact (Kd.R_reads' HO_7.out).2.1); (case side3 => repeat (first | exact (Kd.R_reads' HO298.out).2.2 | (with_reducible refine Kd.C_alloc ?_ _) | (with_reducible refine Kd.C_drewN ?_ _) | (with_reducible refine Kd.C_drew ?_))); (case side4 => exact (Kd.R_reads' HO298.out).2.1); rintro e w127 ⟨rfl, hb⟩; refine ⟨_, rfl, ?_⟩; have n0_ := Aside0.mk (Kd.R_below (by (with_reducible repeat (first | apply Kd.R_alloc | apply Kd.R_drewN | apply Kd.R_drew)); exact HO_7.out) hb); have n1_ := Aside0.mk (Kd.R_below (by (with_reducible repeat (first | apply Kd.R_alloc | apply Kd.R_drewN | apply Kd.R_drew)); exact HO298.out) hb); have n2_ := Aside0.mk (below_step (by repeat (first | (with_reducible first | exact HB.out | apply below_alloc | apply pw_below_drewN | apply below_drew1) | exact HB.out)) hb); clear HO_7; clear HO298; clear HB; have HO_7 := n0_; have HO298 := n1_; have HB := n2_; clear n0_ n1_ n2_; (try clear hb); (try clear hb2); (try clear hk); (try clear hi)) | ((with_reducible refine gate_dst (N := 13) rfl ?_); (try (refine gate_guard (by rfl) ?_; dsimp only)); refine box_event ?hg (N := 13) ?hd (cs := #[.int .i64 0, .int .i64 0, .bool false, .string (⟨#[]⟩ : ByteArray), .int .i64 0]) (t := 30) ?hr ?_; (case hd => rfl); (case hg => rfl); (case hr => first | (go_simp; done) | (go_simp; rfl)); intro gb304 hg w128 hbox hb; have n0_ := Aside0.mk (Kd.R_below (by (with_reducible repeat (first | apply Kd.R_alloc | apply Kd.R_drewN | apply Kd.R_drew)); exact HO_7.out) hb); have n1_ := Aside0.mk (Kd.R_below (by (with_reducible repeat (first | apply Kd.R_alloc | apply Kd.R_drewN | apply Kd.R_drew)); exact HO298.out) hb); have n2_ := Aside0.mk (below_step (by repeat (first | (with_reducible first | exact HB.out | apply below_alloc | apply pw_below_drewN | apply below_drew1) | exact HB.out)) hb); have n3_ := Aside0.mk (hbox); have n4_ := Aside0.mk ((by rw [hg]; exact (below_size (by repeat (first | (with_reducible first | exact HB.out | apply below_alloc | apply pw_below_drewN | apply below_drew1) | exact HB.out))) : w.heap.size ≤ gb304)); have n5_ := Aside0.mk ((by rw [hg]; exact (below_size (by repeat (first | (with_reducible first | exact HB.out | apply below_alloc | apply pw_below_drewN | apply below_drew1) | exact HB.out))) : w.heap.size ≤ gb304)); clear HO_7; clear HO298; clear HB; have HO_7 := n0_; have HO298 := n1_; have HB := n2_; have BK304 := n3_; have GW304 := n4_; have GE304 := n5_; clear n0_ n1_ n2_ n3_ n4_ n5_; clear hb hbox hg; have hcz129_0 : w128.cell? ⟨gb304, 0, none⟩ = some (.int .i64 0) := (blk_cell BK304.out 0).trans rfl; have hcz129_1 : w128.cell? ⟨gb304, 1, none⟩ = some (.int .i64 0) := (blk_cell BK304.out 1).trans rfl; have hcz129_2 : w128.cell? ⟨gb304, 2, none⟩ = some (.bool false) := (blk_cell BK304.out 2).trans rfl; have hcz129_3 : w128.cell? ⟨gb304, 3, none⟩ = some (.string (⟨#[]⟩ : ByteArray)) := (blk_cell BK304.out 3).trans rfl; have hcz129_4 : w128.cell? ⟨gb304, 4, none⟩ = some (.int .i64 0) := (blk_cell BK304.out 4).trans rfl; have hfz129_0 := blk_frozen BK304.out 0; have hfz129_1 := blk_frozen BK304.out 1; have hfz129_2 := blk_frozen BK304.out 2; have hfz129_3 := blk_frozen BK304.out 3; have hfz129_4 := blk_frozen BK304.out 4))
                      go_ret
                      exact ⟨by first | rfl | (simp [errW_none, errW_some] <;> rfl) | (simp [*, errW_none, errW_some] <;> rfl), by repeat (first | (with_reducible first | exact HB.out | apply below_alloc | apply pw_below_drewN | apply below_drew1 | refine below_set ?_ GE304.out) | exact HB.out)⟩
                     ·rw [if_neg c123] at H
                      have c123b0 : (t299 == 6) = false := beq_eq_false_iff_ne.mpr c123
                      have c123b1 : (t299 != 6) = true := bne_iff_ne.mpr c123
                      obtain rfl := Option.some.inj H
                      (try rw [c20b0] at c99b0)
                      (try rw [c31b0] at c99b0)
                      (try rw [c42b0] at c99b0)
                      (try rw [c42b1] at c99b0)
                      (try rw [c98b0] at c99b0)
                      (try rw [c98b1] at c99b0)
                      (try rw [c100b0] at c99b0)
                      (try rw [c100b1] at c99b0)
                      (try rw [c101b0] at c99b0)
                      (try rw [c101b1] at c99b0)
                      (try rw [c102b0] at c99b0)
                      (try rw [c102b1] at c99b0)
                      (try rw [c123b0] at c99b0)
                      (try rw [c123b1] at c99b0)
                      (try simp at c99b0)
                      go_wp2_with (first | ((with_reducible refine gate_builtin (b := .append) (xs := #[.tmp 74, .tmp 75]) rfl ?_); (try (refine gate_guard (by rfl) ?_; dsimp only)); at_builtin; refine Kd.R_append Kd.string (w0 := w) w.heap.size rfl (.tmp 74) (.tmp 75) 26 9 (.string ⟨#[]⟩) 16 rfl Tryd.underlying26 info9 rfl (by decide) (by omega) u8 x8_4 (⟨#[50]⟩ : ByteArray) [.string (⟨#[50]⟩ : ByteArray)] (fun _ => True) (fun _ => False) rfl rfl ?aP (fun _ hk => hk.elim) ?aF ?aO ?aB ?aS ?aL ?_; (case aP => exact rfl); (case aB => exact (by repeat (first | (with_reducible first | exact HB.out | apply below_alloc | apply pw_below_drewN | apply below_drew1) | exact HB.out))); (case aF => exact (fun _ _ => trivial)); (case aO => exact (by (with_reducible repeat (first | apply Kd.R_alloc | apply Kd.R_drewN | apply Kd.R_drew)); exact HO_8.out)); (case aS => exact (below_size (by repeat (first | (with_reducible first | exact HB.out | apply below_alloc | apply pw_below_drewN | apply below_drew1) | exact HB.out)))); (case aL => have := LMc40.out; omega); intro v297 w130 ho hb hg hat; rw [← Ny296.out] at ho; have n0_ := Aside0.mk (Kd.R_over' (by (with_reducible repeat (first | apply Kd.R_alloc | apply Kd.R_drewN | apply Kd.R_drew)); exact HO_7.out) (Kd.R_typed (by (with_reducible repeat (first | apply Kd.R_alloc | apply Kd.R_drewN | apply Kd.R_drew)); exact HO_8.out)) (by decide) hg); have n1_ := Aside0.mk (hb); have n2_ := Aside0.mk (ho); clear HO_7; clear HB; clear HO_8; have HO_7 := n0_; have HB := n1_; have HO298 := n2_; clear n0_ n1_ n2_; clear ho hb hg hat; obtain ⟨Ao131, co131, eo131⟩ := Kd.R_slice HO_7.out; subst eo131; obtain ⟨Ao132, co132, eo132⟩ := Kd.R_slice HO298.out; subst eo132) | ((with_reducible refine gate_callee (f := 10) rfl ?_); refine goesL_ (some 79) rfl rfl Tryd.func10 (by kernel_rfl) rfl #[.slice Ao131 x7_9.length co131, .int .i64 0, .slice Ao132 y296.length co132] rfl (by (try simp only [List.map_toArray, List.map_cons, List.map_nil]); first | done | rfl | (simp only [List.length_drop, List.length_take]; rfl) | (rw [hsame_])) ?_; (with_reducible refine (interp_Run.calls k4 _ _ x7_9 0 _ _ y296 t299 t300 t301 t302 t303 _ ?side1 ?side2 ?side3 ?side4 A41.out).mono ?_); (case side1 => repeat (first | exact (Kd.R_reads' HO_7.out).2.2 | (with_reducible refine Kd.C_alloc ?_ _) | (with_reducible refine Kd.C_drewN ?_ _) | (with_reducible refine Kd.C_drew ?_))); (case side2 => exact (Kd.R_reads' HO_7.out).2.1); (case side3 => repeat (first | exact (Kd.R_reads' HO298.out).2.2 | (with_reducible refine Kd.C_alloc ?_ _) | (with_reducible refine Kd.C_drewN ?_ _) | (with_reducible refine Kd.C_drew ?_))); (case side4 => exact (Kd.R_reads' HO298.out).2.1); rintro e w133 ⟨rfl, hb⟩; refine ⟨_, rfl, ?_⟩; have n0_ := Aside0.mk (Kd.R_below (by (with_reducible repeat (first | apply Kd.R_alloc | apply Kd.R_drewN | apply Kd.R_drew)); exact HO_7.out) hb); have n1_ := Aside0.mk (Kd.R_below (by (with_reducible repeat (first | apply Kd.R_alloc | apply Kd.R_drewN | apply Kd.R_drew)); exact HO298.out) hb); have n2_ := Aside0.mk (below_step (by repeat (first | (with_reducible first | exact HB.out | apply below_alloc | apply pw_below_drewN | apply below_drew1) | exact HB.out)) hb); clear HO_7; clear HO298; clear HB; have HO_7 := n0_; have HO298 := n1_; have HB := n2_; clear n0_ n1_ n2_; (try clear hb); (try clear hb2); (try clear hk); (try clear hi)) | ((with_reducible refine gate_dst (N := 13) rfl ?_); (try (refine gate_guard (by rfl) ?_; dsimp only)); refine box_event ?hg (N := 13) ?hd (cs := #[.int .i64 0, .int .i64 0, .bool false, .string (⟨#[]⟩ : ByteArray), .int .i64 0]) (t := 30) ?hr ?_; (case hd => rfl); (case hg => rfl); (case hr => first | (go_simp; done) | (go_simp; rfl)); intro gb304 hg w134 hbox hb; have n0_ := Aside0.mk (Kd.R_below (by (with_reducible repeat (first | apply Kd.R_alloc | apply Kd.R_drewN | apply Kd.R_drew)); exact HO_7.out) hb); have n1_ := Aside0.mk (Kd.R_below (by (with_reducible repeat (first | apply Kd.R_alloc | apply Kd.R_drewN | apply Kd.R_drew)); exact HO298.out) hb); have n2_ := Aside0.mk (below_step (by repeat (first | (with_reducible first | exact HB.out | apply below_alloc | apply pw_below_drewN | apply below_drew1) | exact HB.out)) hb); have n3_ := Aside0.mk (hbox); have n4_ := Aside0.mk ((by rw [hg]; exact (below_size (by repeat (first | (with_reducible first | exact HB.out | apply below_alloc | apply pw_below_drewN | apply below_drew1) | exact HB.out))) : w.heap.size ≤ gb304)); have n5_ := Aside0.mk ((by rw [hg]; exact (below_size (by repeat (first | (with_reducible first | exact HB.out | apply below_alloc | apply pw_below_drewN | apply below_drew1) | exact HB.out))) : w.heap.size ≤ gb304)); clear HO_7; clear HO298; clear HB; have HO_7 := n0_; have HO298 := n1_; have HB := n2_; have BK304 := n3_; have GW304 := n4_; have GE304 := n5_; clear n0_ n1_ n2_ n3_ n4_ n5_; clear hb hbox hg; have hcz135_0 : w134.cell? ⟨gb304, 0, none⟩ = some (.int .i64 0) := (blk_cell BK304.out 0).trans rfl; have hcz135_1 : w134.cell? ⟨gb304, 1, none⟩ = some (.int .i64 0) := (blk_cell BK304.out 1).trans rfl; have hcz135_2 : w134.cell? ⟨gb304, 2, none⟩ = some (.bool false) := (blk_cell BK304.out 2).trans rfl; have hcz135_3 : w134.cell? ⟨gb304, 3, none⟩ = some (.string (⟨#[]⟩ : ByteArray)) := (blk_cell BK304.out 3).trans rfl; have hcz135_4 : w134.cell? ⟨gb304, 4, none⟩ = some (.int .i64 0) := (blk_cell BK304.out 4).trans rfl; have hfz135_0 := blk_frozen BK304.out 0; have hfz135_1 := blk_frozen BK304.out 1; have hfz135_2 := blk_frozen BK304.out 2; have hfz135_3 := blk_frozen BK304.out 3; have hfz135_4 := blk_frozen BK304.out 4))
                      go_ret
                      exact ⟨by first | rfl | (simp [errW_none, errW_some] <;> rfl) | (simp [*, errW_none, errW_some] <;> rfl), by repeat (first | (with_reducible first | exact HB.out | apply below_alloc | apply pw_below_drewN | apply below_drew1 | refine below_set ?_ GE304.out) | exact HB.out)⟩
                   ·rw [if_neg c101] at H
                    have c101b0 : (t303 == 0) = false := beq_eq_false_iff_ne.mpr c101
                    have c101b1 : (t303 != 0) = true := bne_iff_ne.mpr c101
                    obtain rfl := Option.some.inj H
                    (try rw [c20b0] at c99b0)
                    (try rw [c31b0] at c99b0)
                    (try rw [c42b0] at c99b0)
                    (try rw [c42b1] at c99b0)
                    (try rw [c98b0] at c99b0)
                    (try rw [c98b1] at c99b0)
                    (try rw [c100b0] at c99b0)
                    (try rw [c100b1] at c99b0)
                    (try rw [c101b0] at c99b0)
                    (try rw [c101b1] at c99b0)
                    (try simp at c99b0)
                    go_wp2_with (first | ((with_reducible refine gate_builtin (b := .append) (xs := #[.tmp 74, .tmp 75]) rfl ?_); (try (refine gate_guard (by rfl) ?_; dsimp only)); at_builtin; refine Kd.R_append Kd.string (w0 := w) w.heap.size rfl (.tmp 74) (.tmp 75) 26 9 (.string ⟨#[]⟩) 16 rfl Tryd.underlying26 info9 rfl (by decide) (by omega) u8 x8_4 (⟨#[50]⟩ : ByteArray) [.string (⟨#[50]⟩ : ByteArray)] (fun _ => True) (fun _ => False) rfl rfl ?aP (fun _ hk => hk.elim) ?aF ?aO ?aB ?aS ?aL ?_; (case aP => exact rfl); (case aB => exact (by repeat (first | (with_reducible first | exact HB.out | apply below_alloc | apply pw_below_drewN | apply below_drew1) | exact HB.out))); (case aF => exact (fun _ _ => trivial)); (case aO => exact (by (with_reducible repeat (first | apply Kd.R_alloc | apply Kd.R_drewN | apply Kd.R_drew)); exact HO_8.out)); (case aS => exact (below_size (by repeat (first | (with_reducible first | exact HB.out | apply below_alloc | apply pw_below_drewN | apply below_drew1) | exact HB.out)))); (case aL => have := LMc40.out; omega); intro v297 w136 ho hb hg hat; rw [← Ny296.out] at ho; have n0_ := Aside0.mk (Kd.R_over' (by (with_reducible repeat (first | apply Kd.R_alloc | apply Kd.R_drewN | apply Kd.R_drew)); exact HO_7.out) (Kd.R_typed (by (with_reducible repeat (first | apply Kd.R_alloc | apply Kd.R_drewN | apply Kd.R_drew)); exact HO_8.out)) (by decide) hg); have n1_ := Aside0.mk (hb); have n2_ := Aside0.mk (ho); clear HO_7; clear HB; clear HO_8; have HO_7 := n0_; have HB := n1_; have HO298 := n2_; clear n0_ n1_ n2_; clear ho hb hg hat; obtain ⟨Ao137, co137, eo137⟩ := Kd.R_slice HO_7.out; subst eo137; obtain ⟨Ao138, co138, eo138⟩ := Kd.R_slice HO298.out; subst eo138) | ((with_reducible refine gate_callee (f := 10) rfl ?_); refine goesL_ (some 79) rfl rfl Tryd.func10 (by kernel_rfl) rfl #[.slice Ao137 x7_9.length co137, .int .i64 0, .slice Ao138 y296.length co138] rfl (by (try simp only [List.map_toArray, List.map_cons, List.map_nil]); first | done | rfl | (simp only [List.length_drop, List.length_take]; rfl) | (rw [hsame_])) ?_; (with_reducible refine (interp_Run.calls k4 _ _ x7_9 0 _ _ y296 t299 t300 t301 t302 t303 _ ?side1 ?side2 ?side3 ?side4 A41.out).mono ?_); (case side1 => repeat (first | exact (Kd.R_reads' HO_7.out).2.2 | (with_reducible refine Kd.C_alloc ?_ _) | (with_reducible refine Kd.C_drewN ?_ _) | (with_reducible refine Kd.C_drew ?_))); (case side2 => exact (Kd.R_reads' HO_7.out).2.1); (case side3 => repeat (first | exact (Kd.R_reads' HO298.out).2.2 | (with_reducible refine Kd.C_alloc ?_ _) | (with_reducible refine Kd.C_drewN ?_ _) | (with_reducible refine Kd.C_drew ?_))); (case side4 => exact (Kd.R_reads' HO298.out).2.1); rintro e w139 ⟨rfl, hb⟩; refine ⟨_, rfl, ?_⟩; have n0_ := Aside0.mk (Kd.R_below (by (with_reducible repeat (first | apply Kd.R_alloc | apply Kd.R_drewN | apply Kd.R_drew)); exact HO_7.out) hb); have n1_ := Aside0.mk (Kd.R_below (by (with_reducible repeat (first | apply Kd.R_alloc | apply Kd.R_drewN | apply Kd.R_drew)); exact HO298.out) hb); have n2_ := Aside0.mk (below_step (by repeat (first | (with_reducible first | exact HB.out | apply below_alloc | apply pw_below_drewN | apply below_drew1) | exact HB.out)) hb); clear HO_7; clear HO298; clear HB; have HO_7 := n0_; have HO298 := n1_; have HB := n2_; clear n0_ n1_ n2_; (try clear hb); (try clear hb2); (try clear hk); (try clear hi)) | ((with_reducible refine gate_dst (N := 13) rfl ?_); (try (refine gate_guard (by rfl) ?_; dsimp only)); refine box_event ?hg (N := 13) ?hd (cs := #[.int .i64 0, .int .i64 0, .bool false, .string (⟨#[]⟩ : ByteArray), .int .i64 0]) (t := 30) ?hr ?_; (case hd => rfl); (case hg => rfl); (case hr => first | (go_simp; done) | (go_simp; rfl)); intro gb304 hg w140 hbox hb; have n0_ := Aside0.mk (Kd.R_below (by (with_reducible repeat (first | apply Kd.R_alloc | apply Kd.R_drewN | apply Kd.R_drew)); exact HO_7.out) hb); have n1_ := Aside0.mk (Kd.R_below (by (with_reducible repeat (first | apply Kd.R_alloc | apply Kd.R_drewN | apply Kd.R_drew)); exact HO298.out) hb); have n2_ := Aside0.mk (below_step (by repeat (first | (with_reducible first | exact HB.out | apply below_alloc | apply pw_below_drewN | apply below_drew1) | exact HB.out)) hb); have n3_ := Aside0.mk (hbox); have n4_ := Aside0.mk ((by rw [hg]; exact (below_size (by repeat (first | (with_reducible first | exact HB.out | apply below_alloc | apply pw_below_drewN | apply below_drew1) | exact HB.out))) : w.heap.size ≤ gb304)); have n5_ := Aside0.mk ((by rw [hg]; exact (below_size (by repeat (first | (with_reducible first | exact HB.out | apply below_alloc | apply pw_below_drewN | apply below_drew1) | exact HB.out))) : w.heap.size ≤ gb304)); clear HO_7; clear HO298; clear HB; have HO_7 := n0_; have HO298 := n1_; have HB := n2_; have BK304 := n3_; have GW304 := n4_; have GE304 := n5_; clear n0_ n1_ n2_ n3_ n4_ n5_; clear hb hbox hg; have hcz141_0 : w140.cell? ⟨gb304, 0, none⟩ = some (.int .i64 0) := (blk_cell BK304.out 0).trans rfl; have hcz141_1 : w140.cell? ⟨gb304, 1, none⟩ = some (.int .i64 0) := (blk_cell BK304.out 1).trans rfl; have hcz141_2 : w140.cell? ⟨gb304, 2, none⟩ = some (.bool false) := (blk_cell BK304.out 2).trans rfl; have hcz141_3 : w140.cell? ⟨gb304, 3, none⟩ = some (.string (⟨#[]⟩ : ByteArray)) := (blk_cell BK304.out 3).trans rfl; have hcz141_4 : w140.cell? ⟨gb304, 4, none⟩ = some (.int .i64 0) := (blk_cell BK304.out 4).trans rfl; have hfz141_0 := blk_frozen BK304.out 0; have hfz141_1 := blk_frozen BK304.out 1; have hfz141_2 := blk_frozen BK304.out 2; have hfz141_3 := blk_frozen BK304.out 3; have hfz141_4 := blk_frozen BK304.out 4))
                    go_ret
                    exact ⟨by first | rfl | (simp [errW_none, errW_some] <;> rfl) | (simp [*, errW_none, errW_some] <;> rfl), by repeat (first | (with_reducible first | exact HB.out | apply below_alloc | apply pw_below_drewN | apply below_drew1 | refine below_set ?_ GE304.out) | exact HB.out)⟩
                  ·rw [if_neg c100] at H
                   have c100b0 : (t302.toList == ([] : List UInt8)) = false := beq_eq_false_iff_ne.mpr c100
                   have c100b1 : (t302.toList != ([] : List UInt8)) = true := bne_iff_ne.mpr c100
                   obtain rfl := Option.some.inj H
                   (try rw [c20b0] at c99b0)
                   (try rw [c31b0] at c99b0)
                   (try rw [c42b0] at c99b0)
                   (try rw [c42b1] at c99b0)
                   (try rw [c98b0] at c99b0)
                   (try rw [c98b1] at c99b0)
                   (try rw [c100b0] at c99b0)
                   (try rw [c100b1] at c99b0)
                   (try simp at c99b0)
                   go_wp2_with (first | ((with_reducible refine gate_builtin (b := .append) (xs := #[.tmp 74, .tmp 75]) rfl ?_); (try (refine gate_guard (by rfl) ?_; dsimp only)); at_builtin; refine Kd.R_append Kd.string (w0 := w) w.heap.size rfl (.tmp 74) (.tmp 75) 26 9 (.string ⟨#[]⟩) 16 rfl Tryd.underlying26 info9 rfl (by decide) (by omega) u8 x8_4 (⟨#[50]⟩ : ByteArray) [.string (⟨#[50]⟩ : ByteArray)] (fun _ => True) (fun _ => False) rfl rfl ?aP (fun _ hk => hk.elim) ?aF ?aO ?aB ?aS ?aL ?_; (case aP => exact rfl); (case aB => exact (by repeat (first | (with_reducible first | exact HB.out | apply below_alloc | apply pw_below_drewN | apply below_drew1) | exact HB.out))); (case aF => exact (fun _ _ => trivial)); (case aO => exact (by (with_reducible repeat (first | apply Kd.R_alloc | apply Kd.R_drewN | apply Kd.R_drew)); exact HO_8.out)); (case aS => exact (below_size (by repeat (first | (with_reducible first | exact HB.out | apply below_alloc | apply pw_below_drewN | apply below_drew1) | exact HB.out)))); (case aL => have := LMc40.out; omega); intro v297 w142 ho hb hg hat; rw [← Ny296.out] at ho; have n0_ := Aside0.mk (Kd.R_over' (by (with_reducible repeat (first | apply Kd.R_alloc | apply Kd.R_drewN | apply Kd.R_drew)); exact HO_7.out) (Kd.R_typed (by (with_reducible repeat (first | apply Kd.R_alloc | apply Kd.R_drewN | apply Kd.R_drew)); exact HO_8.out)) (by decide) hg); have n1_ := Aside0.mk (hb); have n2_ := Aside0.mk (ho); clear HO_7; clear HB; clear HO_8; have HO_7 := n0_; have HB := n1_; have HO298 := n2_; clear n0_ n1_ n2_; clear ho hb hg hat; obtain ⟨Ao143, co143, eo143⟩ := Kd.R_slice HO_7.out; subst eo143; obtain ⟨Ao144, co144, eo144⟩ := Kd.R_slice HO298.out; subst eo144) | ((with_reducible refine gate_callee (f := 10) rfl ?_); refine goesL_ (some 79) rfl rfl Tryd.func10 (by kernel_rfl) rfl #[.slice Ao143 x7_9.length co143, .int .i64 0, .slice Ao144 y296.length co144] rfl (by (try simp only [List.map_toArray, List.map_cons, List.map_nil]); first | done | rfl | (simp only [List.length_drop, List.length_take]; rfl) | (rw [hsame_])) ?_; (with_reducible refine (interp_Run.calls k4 _ _ x7_9 0 _ _ y296 t299 t300 t301 t302 t303 _ ?side1 ?side2 ?side3 ?side4 A41.out).mono ?_); (case side1 => repeat (first | exact (Kd.R_reads' HO_7.out).2.2 | (with_reducible refine Kd.C_alloc ?_ _) | (with_reducible refine Kd.C_drewN ?_ _) | (with_reducible refine Kd.C_drew ?_))); (case side2 => exact (Kd.R_reads' HO_7.out).2.1); (case side3 => repeat (first | exact (Kd.R_reads' HO298.out).2.2 | (with_reducible refine Kd.C_alloc ?_ _) | (with_reducible refine Kd.C_drewN ?_ _) | (with_reducible refine Kd.C_drew ?_))); (case side4 => exact (Kd.R_reads' HO298.out).2.1); rintro e w145 ⟨rfl, hb⟩; refine ⟨_, rfl, ?_⟩; have n0_ := Aside0.mk (Kd.R_below (by (with_reducible repeat (first | apply Kd.R_alloc | apply Kd.R_drewN | apply Kd.R_drew)); exact HO_7.out) hb); have n1_ := Aside0.mk (Kd.R_below (by (with_reducible repeat (first | apply Kd.R_alloc | apply Kd.R_drewN | apply Kd.R_drew)); exact HO298.out) hb); have n2_ := Aside0.mk (below_step (by repeat (first | (with_reducible first | exact HB.out | apply below_alloc | apply pw_below_drewN | apply below_drew1) | exact HB.out)) hb); clear HO_7; clear HO298; clear HB; have HO_7 := n0_; have HO298 := n1_; have HB := n2_; clear n0_ n1_ n2_; (try clear hb); (try clear hb2); (try clear hk); (try clear hi)) | ((with_reducible refine gate_dst (N := 13) rfl ?_); (try (refine gate_guard (by rfl) ?_; dsimp only)); refine box_event ?hg (N := 13) ?hd (cs := #[.int .i64 0, .int .i64 0, .bool false, .string (⟨#[]⟩ : ByteArray), .int .i64 0]) (t := 30) ?hr ?_; (case hd => rfl); (case hg => rfl); (case hr => first | (go_simp; done) | (go_simp; rfl)); intro gb304 hg w146 hbox hb; have n0_ := Aside0.mk (Kd.R_below (by (with_reducible repeat (first | apply Kd.R_alloc | apply Kd.R_drewN | apply Kd.R_drew)); exact HO_7.out) hb); have n1_ := Aside0.mk (Kd.R_below (by (with_reducible repeat (first | apply Kd.R_alloc | apply Kd.R_drewN | apply Kd.R_drew)); exact HO298.out) hb); have n2_ := Aside0.mk (below_step (by repeat (first | (with_reducible first | exact HB.out | apply below_alloc | apply pw_below_drewN | apply below_drew1) | exact HB.out)) hb); have n3_ := Aside0.mk (hbox); have n4_ := Aside0.mk ((by rw [hg]; exact (below_size (by repeat (first | (with_reducible first | exact HB.out | apply below_alloc | apply pw_below_drewN | apply below_drew1) | exact HB.out))) : w.heap.size ≤ gb304)); have n5_ := Aside0.mk ((by rw [hg]; exact (below_size (by repeat (first | (with_reducible first | exact HB.out | apply below_alloc | apply pw_below_drewN | apply below_drew1) | exact HB.out))) : w.heap.size ≤ gb304)); clear HO_7; clear HO298; clear HB; have HO_7 := n0_; have HO298 := n1_; have HB := n2_; have BK304 := n3_; have GW304 := n4_; have GE304 := n5_; clear n0_ n1_ n2_ n3_ n4_ n5_; clear hb hbox hg; have hcz147_0 : w146.cell? ⟨gb304, 0, none⟩ = some (.int .i64 0) := (blk_cell BK304.out 0).trans rfl; have hcz147_1 : w146.cell? ⟨gb304, 1, none⟩ = some (.int .i64 0) := (blk_cell BK304.out 1).trans rfl; have hcz147_2 : w146.cell? ⟨gb304, 2, none⟩ = some (.bool false) := (blk_cell BK304.out 2).trans rfl; have hcz147_3 : w146.cell? ⟨gb304, 3, none⟩ = some (.string (⟨#[]⟩ : ByteArray)) := (blk_cell BK304.out 3).trans rfl; have hcz147_4 : w146.cell? ⟨gb304, 4, none⟩ = some (.int .i64 0) := (blk_cell BK304.out 4).trans rfl; have hfz147_0 := blk_frozen BK304.out 0; have hfz147_1 := blk_frozen BK304.out 1; have hfz147_2 := blk_frozen BK304.out 2; have hfz147_3 := blk_frozen BK304.out 3; have hfz147_4 := blk_frozen BK304.out 4))
                   go_ret
                   exact ⟨by first | rfl | (simp [errW_none, errW_some] <;> rfl) | (simp [*, errW_none, errW_some] <;> rfl), by repeat (first | (with_reducible first | exact HB.out | apply below_alloc | apply pw_below_drewN | apply below_drew1 | refine below_set ?_ GE304.out) | exact HB.out)⟩
                 ·rw [if_neg c99] at H
                  have c99b0 : (t301 == (x10_4 != 0)) = false := by simpa using c99
                  (try (have c99b1 : decide (t301 = (x10_4 != 0)) = false := by simpa using c99))
                  (try (have c99b2 : (t301 == (x10_4 != 0)) = false := by simpa using c99))
                  (try (have c99b3 : ¬ (t301 = (x10_4 != 0)) := by simpa using c99))
                  clear c99
                  obtain rfl := Option.some.inj H
                  (try rw [c20b0] at c99b0)
                  (try rw [c31b0] at c99b0)
                  (try rw [c42b0] at c99b0)
                  (try rw [c42b1] at c99b0)
                  (try rw [c98b0] at c99b0)
                  (try rw [c98b1] at c99b0)
                  (try simp at c99b0)
                  go_wp2_with (first | ((with_reducible refine gate_builtin (b := .append) (xs := #[.tmp 74, .tmp 75]) rfl ?_); (try (refine gate_guard (by rfl) ?_; dsimp only)); at_builtin; refine Kd.R_append Kd.string (w0 := w) w.heap.size rfl (.tmp 74) (.tmp 75) 26 9 (.string ⟨#[]⟩) 16 rfl Tryd.underlying26 info9 rfl (by decide) (by omega) u8 x8_4 (⟨#[50]⟩ : ByteArray) [.string (⟨#[50]⟩ : ByteArray)] (fun _ => True) (fun _ => False) rfl rfl ?aP (fun _ hk => hk.elim) ?aF ?aO ?aB ?aS ?aL ?_; (case aP => exact rfl); (case aB => exact (by repeat (first | (with_reducible first | exact HB.out | apply below_alloc | apply pw_below_drewN | apply below_drew1) | exact HB.out))); (case aF => exact (fun _ _ => trivial)); (case aO => exact (by (with_reducible repeat (first | apply Kd.R_alloc | apply Kd.R_drewN | apply Kd.R_drew)); exact HO_8.out)); (case aS => exact (below_size (by repeat (first | (with_reducible first | exact HB.out | apply below_alloc | apply pw_below_drewN | apply below_drew1) | exact HB.out)))); (case aL => have := LMc40.out; omega); intro v297 w148 ho hb hg hat; rw [← Ny296.out] at ho; have n0_ := Aside0.mk (Kd.R_over' (by (with_reducible repeat (first | apply Kd.R_alloc | apply Kd.R_drewN | apply Kd.R_drew)); exact HO_7.out) (Kd.R_typed (by (with_reducible repeat (first | apply Kd.R_alloc | apply Kd.R_drewN | apply Kd.R_drew)); exact HO_8.out)) (by decide) hg); have n1_ := Aside0.mk (hb); have n2_ := Aside0.mk (ho); clear HO_7; clear HB; clear HO_8; have HO_7 := n0_; have HB := n1_; have HO298 := n2_; clear n0_ n1_ n2_; clear ho hb hg hat; obtain ⟨Ao149, co149, eo149⟩ := Kd.R_slice HO_7.out; subst eo149; obtain ⟨Ao150, co150, eo150⟩ := Kd.R_slice HO298.out; subst eo150) | ((with_reducible refine gate_callee (f := 10) rfl ?_); refine goesL_ (some 79) rfl rfl Tryd.func10 (by kernel_rfl) rfl #[.slice Ao149 x7_9.length co149, .int .i64 0, .slice Ao150 y296.length co150] rfl (by (try simp only [List.map_toArray, List.map_cons, List.map_nil]); first | done | rfl | (simp only [List.length_drop, List.length_take]; rfl) | (rw [hsame_])) ?_; (with_reducible refine (interp_Run.calls k4 _ _ x7_9 0 _ _ y296 t299 t300 t301 t302 t303 _ ?side1 ?side2 ?side3 ?side4 A41.out).mono ?_); (case side1 => repeat (first | exact (Kd.R_reads' HO_7.out).2.2 | (with_reducible refine Kd.C_alloc ?_ _) | (with_reducible refine Kd.C_drewN ?_ _) | (with_reducible refine Kd.C_drew ?_))); (case side2 => exact (Kd.R_reads' HO_7.out).2.1); (case side3 => repeat (first | exact (Kd.R_reads' HO298.out).2.2 | (with_reducible refine Kd.C_alloc ?_ _) | (with_reducible refine Kd.C_drewN ?_ _) | (with_reducible refine Kd.C_drew ?_))); (case side4 => exact (Kd.R_reads' HO298.out).2.1); rintro e w151 ⟨rfl, hb⟩; refine ⟨_, rfl, ?_⟩; have n0_ := Aside0.mk (Kd.R_below (by (with_reducible repeat (first | apply Kd.R_alloc | apply Kd.R_drewN | apply Kd.R_drew)); exact HO_7.out) hb); have n1_ := Aside0.mk (Kd.R_below (by (with_reducible repeat (first | apply Kd.R_alloc | apply Kd.R_drewN | apply Kd.R_drew)); exact HO298.out) hb); have n2_ := Aside0.mk (below_step (by repeat (first | (with_reducible first | exact HB.out | apply below_alloc | apply pw_below_drewN | apply below_drew1) | exact HB.out)) hb); clear HO_7; clear HO298; clear HB; have HO_7 := n0_; have HO298 := n1_; have HB := n2_; clear n0_ n1_ n2_; (try clear hb); (try clear hb2); (try clear hk); (try clear hi)) | ((with_reducible refine gate_dst (N := 13) rfl ?_); (try (refine gate_guard (by rfl) ?_; dsimp only)); refine box_event ?hg (N := 13) ?hd (cs := #[.int .i64 0, .int .i64 0, .bool false, .string (⟨#[]⟩ : ByteArray), .int .i64 0]) (t := 30) ?hr ?_; (case hd => rfl); (case hg => rfl); (case hr => first | (go_simp; done) | (go_simp; rfl)); intro gb304 hg w152 hbox hb; have n0_ := Aside0.mk (Kd.R_below (by (with_reducible repeat (first | apply Kd.R_alloc | apply Kd.R_drewN | apply Kd.R_drew)); exact HO_7.out) hb); have n1_ := Aside0.mk (Kd.R_below (by (with_reducible repeat (first | apply Kd.R_alloc | apply Kd.R_drewN | apply Kd.R_drew)); exact HO298.out) hb); have n2_ := Aside0.mk (below_step (by repeat (first | (with_reducible first | exact HB.out | apply below_alloc | apply pw_below_drewN | apply below_drew1) | exact HB.out)) hb); have n3_ := Aside0.mk (hbox); have n4_ := Aside0.mk ((by rw [hg]; exact (below_size (by repeat (first | (with_reducible first | exact HB.out | apply below_alloc | apply pw_below_drewN | apply below_drew1) | exact HB.out))) : w.heap.size ≤ gb304)); have n5_ := Aside0.mk ((by rw [hg]; exact (below_size (by repeat (first | (with_reducible first | exact HB.out | apply below_alloc | apply pw_below_drewN | apply below_drew1) | exact HB.out))) : w.heap.size ≤ gb304)); clear HO_7; clear HO298; clear HB; have HO_7 := n0_; have HO298 := n1_; have HB := n2_; have BK304 := n3_; have GW304 := n4_; have GE304 := n5_; clear n0_ n1_ n2_ n3_ n4_ n5_; clear hb hbox hg; have hcz153_0 : w152.cell? ⟨gb304, 0, none⟩ = some (.int .i64 0) := (blk_cell BK304.out 0).trans rfl; have hcz153_1 : w152.cell? ⟨gb304, 1, none⟩ = some (.int .i64 0) := (blk_cell BK304.out 1).trans rfl; have hcz153_2 : w152.cell? ⟨gb304, 2, none⟩ = some (.bool false) := (blk_cell BK304.out 2).trans rfl; have hcz153_3 : w152.cell? ⟨gb304, 3, none⟩ = some (.string (⟨#[]⟩ : ByteArray)) := (blk_cell BK304.out 3).trans rfl; have hcz153_4 : w152.cell? ⟨gb304, 4, none⟩ = some (.int .i64 0) := (blk_cell BK304.out 4).trans rfl; have hfz153_0 := blk_frozen BK304.out 0; have hfz153_1 := blk_frozen BK304.out 1; have hfz153_2 := blk_frozen BK304.out 2; have hfz153_3 := blk_frozen BK304.out 3; have hfz153_4 := blk_frozen BK304.out 4))
                  go_ret
                  exact ⟨by first | rfl | (simp [errW_none, errW_some] <;> rfl) | (simp [*, errW_none, errW_some] <;> rfl), by repeat (first | (with_reducible first | exact HB.out | apply below_alloc | apply pw_below_drewN | apply below_drew1 | refine below_set ?_ GE304.out) | exact HB.out)⟩
                ·rw [if_neg c98] at H
                 have c98b0 : (x10_4 == 0) = false := beq_eq_false_iff_ne.mpr c98
                 have c98b1 : (x10_4 != 0) = true := bne_iff_ne.mpr c98
                 by_cases c154 : (t301 == (x10_4 != 0)) = true
                 ·rw [if_pos c154] at H
                  have c154b0 : (t301 == (x10_4 != 0)) = true := c154
                  (try (have c154b1 : decide (t301 = (x10_4 != 0)) = true := by simpa using c154))
                  (try (have c154b2 : (t301 == (x10_4 != 0)) = true := by simpa using c154))
                  clear c154
                  by_cases c155 : t302.toList = x9_3.toList
                  ·rw [if_pos c155] at H
                   have c155b0 : (t302.toList == x9_3.toList) = true := beq_iff_eq.mpr c155
                   have c155b1 : (t302.toList != x9_3.toList) = false := bne_eq_false_iff_eq.mpr c155
                   clear c155
                   by_cases c156 : t303 = x10_4
                   ·rw [if_pos c156] at H
                    have c156b0 : (t303 == x10_4) = true := beq_iff_eq.mpr c156
                    have c156b1 : (t303 != x10_4) = false := bne_eq_false_iff_eq.mpr c156
                    clear c156
                    by_cases c157 : t299 = 5
                    ·rw [if_pos c157] at H
                     have c157b0 : (t299 == 5) = true := beq_iff_eq.mpr c157
                     have c157b1 : (t299 != 5) = false := bne_eq_false_iff_eq.mpr c157
                     clear c157
                     by_cases c158 : a2 = true
                     ·subst c158
                      have H1 : (if t299 = 6 then (some true) else (some false)) = some r := by rw [if_pos rfl] at H; exact H
                      clear H
                      have H := H1
                      clear H1
                      by_cases c159 : t299 = 6
                      ·rw [if_pos c159] at H
                       have c159b0 : (t299 == 6) = true := beq_iff_eq.mpr c159
                       have c159b1 : (t299 != 6) = false := bne_eq_false_iff_eq.mpr c159
                       clear c159
                       obtain rfl := Option.some.inj H
                       (try rw [c20b0] at c154b0)
                       (try rw [c31b0] at c154b0)
                       (try rw [c42b0] at c154b0)
                       (try rw [c42b1] at c154b0)
                       (try rw [c98b0] at c154b0)
                       (try rw [c98b1] at c154b0)
                       (try rw [c155b0] at c154b0)
                       (try rw [c155b1] at c154b0)
                       (try rw [c156b0] at c154b0)
                       (try rw [c156b1] at c154b0)
                       (try rw [c157b0] at c154b0)
                       (try rw [c157b1] at c154b0)
                       (try rw [c159b0] at c154b0)
                       (try rw [c159b1] at c154b0)
                       (try simp at c154b0)
                       go_wp2_with (first | ((with_reducible refine gate_builtin (b := .append) (xs := #[.tmp 74, .tmp 75]) rfl ?_); (try (refine gate_guard (by rfl) ?_; dsimp only)); at_builtin; refine Kd.R_append Kd.string (w0 := w) w.heap.size rfl (.tmp 74) (.tmp 75) 26 9 (.string ⟨#[]⟩) 16 rfl Tryd.underlying26 info9 rfl (by decide) (by omega) u8 x8_4 (⟨#[50]⟩ : ByteArray) [.string (⟨#[50]⟩ : ByteArray)] (fun _ => True) (fun _ => False) rfl rfl ?aP (fun _ hk => hk.elim) ?aF ?aO ?aB ?aS ?aL ?_; (case aP => exact rfl); (case aB => exact (by repeat (first | (with_reducible first | exact HB.out | apply below_alloc | apply pw_below_drewN | apply below_drew1) | exact HB.out))); (case aF => exact (fun _ _ => trivial)); (case aO => exact (by (with_reducible repeat (first | apply Kd.R_alloc | apply Kd.R_drewN | apply Kd.R_drew)); exact HO_8.out)); (case aS => exact (below_size (by repeat (first | (with_reducible first | exact HB.out | apply below_alloc | apply pw_below_drewN | apply below_drew1) | exact HB.out)))); (case aL => have := LMc40.out; omega); intro v297 w160 ho hb hg hat; rw [← Ny296.out] at ho; have n0_ := Aside0.mk (Kd.R_over' (by (with_reducible repeat (first | apply Kd.R_alloc | apply Kd.R_drewN | apply Kd.R_drew)); exact HO_7.out) (Kd.R_typed (by (with_reducible repeat (first | apply Kd.R_alloc | apply Kd.R_drewN | apply Kd.R_drew)); exact HO_8.out)) (by decide) hg); have n1_ := Aside0.mk (hb); have n2_ := Aside0.mk (ho); clear HO_7; clear HB; clear HO_8; have HO_7 := n0_; have HB := n1_; have HO298 := n2_; clear n0_ n1_ n2_; clear ho hb hg hat; obtain ⟨Ao161, co161, eo161⟩ := Kd.R_slice HO_7.out; subst eo161; obtain ⟨Ao162, co162, eo162⟩ := Kd.R_slice HO298.out; subst eo162) | ((with_reducible refine gate_callee (f := 10) rfl ?_); refine goesL_ (some 79) rfl rfl Tryd.func10 (by kernel_rfl) rfl #[.slice Ao161 x7_9.length co161, .int .i64 0, .slice Ao162 y296.length co162] rfl (by (try simp only [List.map_toArray, List.map_cons, List.map_nil]); first | done | rfl | (simp only [List.length_drop, List.length_take]; rfl) | (rw [hsame_])) ?_; (with_reducible refine (interp_Run.calls k4 _ _ x7_9 0 _ _ y296 t299 t300 t301 t302 t303 _ ?side1 ?side2 ?side3 ?side4 A41.out).mono ?_); (case side1 => repeat (first | exact (Kd.R_reads' HO_7.out).2.2 | (with_reducible refine Kd.C_alloc ?_ _) | (with_reducible refine Kd.C_drewN ?_ _) | (with_reducible refine Kd.C_drew ?_))); (case side2 => exact (Kd.R_reads' HO_7.out).2.1); (case side3 => repeat (first | exact (Kd.R_reads' HO298.out).2.2 | (with_reducible refine Kd.C_alloc ?_ _) | (with_reducible refine Kd.C_drewN ?_ _) | (with_reducible refine Kd.C_drew ?_))); (case side4 => exact (Kd.R_reads' HO298.out).2.1); rintro e w163 ⟨rfl, hb⟩; refine ⟨_, rfl, ?_⟩; have n0_ := Aside0.mk (Kd.R_below (by (with_reducible repeat (first | apply Kd.R_alloc | apply Kd.R_drewN | apply Kd.R_drew)); exact HO_7.out) hb); have n1_ := Aside0.mk (Kd.R_below (by (with_reducible repeat (first | apply Kd.R_alloc | apply Kd.R_drewN | apply Kd.R_drew)); exact HO298.out) hb); have n2_ := Aside0.mk (below_step (by repeat (first | (with_reducible first | exact HB.out | apply below_alloc | apply pw_below_drewN | apply below_drew1) | exact HB.out)) hb); clear HO_7; clear HO298; clear HB; have HO_7 := n0_; have HO298 := n1_; have HB := n2_; clear n0_ n1_ n2_; (try clear hb); (try clear hb2); (try clear hk); (try clear hi)) | ((with_reducible refine gate_dst (N := 13) rfl ?_); (try (refine gate_guard (by rfl) ?_; dsimp only)); refine box_event ?hg (N := 13) ?hd (cs := #[.int .i64 0, .int .i64 0, .bool false, .string (⟨#[]⟩ : ByteArray), .int .i64 0]) (t := 30) ?hr ?_; (case hd => rfl); (case hg => rfl); (case hr => first | (go_simp; done) | (go_simp; rfl)); intro gb304 hg w164 hbox hb; have n0_ := Aside0.mk (Kd.R_below (by (with_reducible repeat (first | apply Kd.R_alloc | apply Kd.R_drewN | apply Kd.R_drew)); exact HO_7.out) hb); have n1_ := Aside0.mk (Kd.R_below (by (with_reducible repeat (first | apply Kd.R_alloc | apply Kd.R_drewN | apply Kd.R_drew)); exact HO298.out) hb); have n2_ := Aside0.mk (below_step (by repeat (first | (with_reducible first | exact HB.out | apply below_alloc | apply pw_below_drewN | apply below_drew1) | exact HB.out)) hb); have n3_ := Aside0.mk (hbox); have n4_ := Aside0.mk ((by rw [hg]; exact (below_size (by repeat (first | (with_reducible first | exact HB.out | apply below_alloc | apply pw_below_drewN | apply below_drew1) | exact HB.out))) : w.heap.size ≤ gb304)); have n5_ := Aside0.mk ((by rw [hg]; exact (below_size (by repeat (first | (with_reducible first | exact HB.out | apply below_alloc | apply pw_below_drewN | apply below_drew1) | exact HB.out))) : w.heap.size ≤ gb304)); clear HO_7; clear HO298; clear HB; have HO_7 := n0_; have HO298 := n1_; have HB := n2_; have BK304 := n3_; have GW304 := n4_; have GE304 := n5_; clear n0_ n1_ n2_ n3_ n4_ n5_; clear hb hbox hg; have hcz165_0 : w164.cell? ⟨gb304, 0, none⟩ = some (.int .i64 0) := (blk_cell BK304.out 0).trans rfl; have hcz165_1 : w164.cell? ⟨gb304, 1, none⟩ = some (.int .i64 0) := (blk_cell BK304.out 1).trans rfl; have hcz165_2 : w164.cell? ⟨gb304, 2, none⟩ = some (.bool false) := (blk_cell BK304.out 2).trans rfl; have hcz165_3 : w164.cell? ⟨gb304, 3, none⟩ = some (.string (⟨#[]⟩ : ByteArray)) := (blk_cell BK304.out 3).trans rfl; have hcz165_4 : w164.cell? ⟨gb304, 4, none⟩ = some (.int .i64 0) := (blk_cell BK304.out 4).trans rfl; have hfz165_0 := blk_frozen BK304.out 0; have hfz165_1 := blk_frozen BK304.out 1; have hfz165_2 := blk_frozen BK304.out 2; have hfz165_3 := blk_frozen BK304.out 3; have hfz165_4 := blk_frozen BK304.out 4))
                       go_ret
                       exact ⟨by first | rfl | (simp [errW_none, errW_some] <;> rfl) | (simp [*, errW_none, errW_some] <;> rfl), by repeat (first | (with_reducible first | exact HB.out | apply below_alloc | apply pw_below_drewN | apply below_drew1 | refine below_set ?_ GE304.out) | exact HB.out)⟩
                      ·rw [if_neg c159] at H
                       have c159b0 : (t299 == 6) = false := beq_eq_false_iff_ne.mpr c159
                       have c159b1 : (t299 != 6) = true := bne_iff_ne.mpr c159
                       obtain rfl := Option.some.inj H
                       (try rw [c20b0] at c154b0)
                       (try rw [c31b0] at c154b0)
                       (try rw [c42b0] at c154b0)
                       (try rw [c42b1] at c154b0)
                       (try rw [c98b0] at c154b0)
                       (try rw [c98b1] at c154b0)
                       (try rw [c155b0] at c154b0)
                       (try rw [c155b1] at c154b0)
                       (try rw [c156b0] at c154b0)
                       (try rw [c156b1] at c154b0)
                       (try rw [c157b0] at c154b0)
                       (try rw [c157b1] at c154b0)
                       (try rw [c159b0] at c154b0)
                       (try rw [c159b1] at c154b0)
                       (try simp at c154b0)
                       go_wp2_with (first | ((with_reducible refine gate_builtin (b := .append) (xs := #[.tmp 74, .tmp 75]) rfl ?_); (try (refine gate_guard (by rfl) ?_; dsimp only)); at_builtin; refine Kd.R_append Kd.string (w0 := w) w.heap.size rfl (.tmp 74) (.tmp 75) 26 9 (.string ⟨#[]⟩) 16 rfl Tryd.underlying26 info9 rfl (by decide) (by omega) u8 x8_4 (⟨#[50]⟩ : ByteArray) [.string (⟨#[50]⟩ : ByteArray)] (fun _ => True) (fun _ => False) rfl rfl ?aP (fun _ hk => hk.elim) ?aF ?aO ?aB ?aS ?aL ?_; (case aP => exact rfl); (case aB => exact (by repeat (first | (with_reducible first | exact HB.out | apply below_alloc | apply pw_below_drewN | apply below_drew1) | exact HB.out))); (case aF => exact (fun _ _ => trivial)); (case aO => exact (by (with_reducible repeat (first | apply Kd.R_alloc | apply Kd.R_drewN | apply Kd.R_drew)); exact HO_8.out)); (case aS => exact (below_size (by repeat (first | (with_reducible first | exact HB.out | apply below_alloc | apply pw_below_drewN | apply below_drew1) | exact HB.out)))); (case aL => have := LMc40.out; omega); intro v297 w166 ho hb hg hat; rw [← Ny296.out] at ho; have n0_ := Aside0.mk (Kd.R_over' (by (with_reducible repeat (first | apply Kd.R_alloc | apply Kd.R_drewN | apply Kd.R_drew)); exact HO_7.out) (Kd.R_typed (by (with_reducible repeat (first | apply Kd.R_alloc | apply Kd.R_drewN | apply Kd.R_drew)); exact HO_8.out)) (by decide) hg); have n1_ := Aside0.mk (hb); have n2_ := Aside0.mk (ho); clear HO_7; clear HB; clear HO_8; have HO_7 := n0_; have HB := n1_; have HO298 := n2_; clear n0_ n1_ n2_; clear ho hb hg hat; obtain ⟨Ao167, co167, eo167⟩ := Kd.R_slice HO_7.out; subst eo167; obtain ⟨Ao168, co168, eo168⟩ := Kd.R_slice HO298.out; subst eo168) | ((with_reducible refine gate_callee (f := 10) rfl ?_); refine goesL_ (some 79) rfl rfl Tryd.func10 (by kernel_rfl) rfl #[.slice Ao167 x7_9.length co167, .int .i64 0, .slice Ao168 y296.length co168] rfl (by (try simp only [List.map_toArray, List.map_cons, List.map_nil]); first | done | rfl | (simp only [List.length_drop, List.length_take]; rfl) | (rw [hsame_])) ?_; (with_reducible refine (interp_Run.calls k4 _ _ x7_9 0 _ _ y296 t299 t300 t301 t302 t303 _ ?side1 ?side2 ?side3 ?side4 A41.out).mono ?_); (case side1 => repeat (first | exact (Kd.R_reads' HO_7.out).2.2 | (with_reducible refine Kd.C_alloc ?_ _) | (with_reducible refine Kd.C_drewN ?_ _) | (with_reducible refine Kd.C_drew ?_))); (case side2 => exact (Kd.R_reads' HO_7.out).2.1); (case side3 => repeat (first | exact (Kd.R_reads' HO298.out).2.2 | (with_reducible refine Kd.C_alloc ?_ _) | (with_reducible refine Kd.C_drewN ?_ _) | (with_reducible refine Kd.C_drew ?_))); (case side4 => exact (Kd.R_reads' HO298.out).2.1); rintro e w169 ⟨rfl, hb⟩; refine ⟨_, rfl, ?_⟩; have n0_ := Aside0.mk (Kd.R_below (by (with_reducible repeat (first | apply Kd.R_alloc | apply Kd.R_drewN | apply Kd.R_drew)); exact HO_7.out) hb); have n1_ := Aside0.mk (Kd.R_below (by (with_reducible repeat (first | apply Kd.R_alloc | apply Kd.R_drewN | apply Kd.R_drew)); exact HO298.out) hb); have n2_ := Aside0.mk (below_step (by repeat (first | (with_reducible first | exact HB.out | apply below_alloc | apply pw_below_drewN | apply below_drew1) | exact HB.out)) hb); clear HO_7; clear HO298; clear HB; have HO_7 := n0_; have HO298 := n1_; have HB := n2_; clear n0_ n1_ n2_; (try clear hb); (try clear hb2); (try clear hk); (try clear hi)) | ((with_reducible refine gate_dst (N := 13) rfl ?_); (try (refine gate_guard (by rfl) ?_; dsimp only)); refine box_event ?hg (N := 13) ?hd (cs := #[.int .i64 0, .int .i64 0, .bool false, .string (⟨#[]⟩ : ByteArray), .int .i64 0]) (t := 30) ?hr ?_; (case hd => rfl); (case hg => rfl); (case hr => first | (go_simp; done) | (go_simp; rfl)); intro gb304 hg w170 hbox hb; have n0_ := Aside0.mk (Kd.R_below (by (with_reducible repeat (first | apply Kd.R_alloc | apply Kd.R_drewN | apply Kd.R_drew)); exact HO_7.out) hb); have n1_ := Aside0.mk (Kd.R_below (by (with_reducible repeat (first | apply Kd.R_alloc | apply Kd.R_drewN | apply Kd.R_drew)); exact HO298.out) hb); have n2_ := Aside0.mk (below_step (by repeat (first | (with_reducible first | exact HB.out | apply below_alloc | apply pw_below_drewN | apply below_drew1) | exact HB.out)) hb); have n3_ := Aside0.mk (hbox); have n4_ := Aside0.mk ((by rw [hg]; exact (below_size (by repeat (first | (with_reducible first | exact HB.out | apply below_alloc | apply pw_below_drewN | apply below_drew1) | exact HB.out))) : w.heap.size ≤ gb304)); have n5_ := Aside0.mk ((by rw [hg]; exact (below_size (by repeat (first | (with_reducible first | exact HB.out | apply below_alloc | apply pw_below_drewN | apply below_drew1) | exact HB.out))) : w.heap.size ≤ gb304)); clear HO_7; clear HO298; clear HB; have HO_7 := n0_; have HO298 := n1_; have HB := n2_; have BK304 := n3_; have GW304 := n4_; have GE304 := n5_; clear n0_ n1_ n2_ n3_ n4_ n5_; clear hb hbox hg; have hcz171_0 : w170.cell? ⟨gb304, 0, none⟩ = some (.int .i64 0) := (blk_cell BK304.out 0).trans rfl; have hcz171_1 : w170.cell? ⟨gb304, 1, none⟩ = some (.int .i64 0) := (blk_cell BK304.out 1).trans rfl; have hcz171_2 : w170.cell? ⟨gb304, 2, none⟩ = some (.bool false) := (blk_cell BK304.out 2).trans rfl; have hcz171_3 : w170.cell? ⟨gb304, 3, none⟩ = some (.string (⟨#[]⟩ : ByteArray)) := (blk_cell BK304.out 3).trans rfl; have hcz171_4 : w170.cell? ⟨gb304, 4, none⟩ = some (.int .i64 0) := (blk_cell BK304.out 4).trans rfl; have hfz171_0 := blk_frozen BK304.out 0; have hfz171_1 := blk_frozen BK304.out 1; have hfz171_2 := blk_frozen BK304.out 2; have hfz171_3 := blk_frozen BK304.out 3; have hfz171_4 := blk_frozen BK304.out 4))
                       go_ret
                       exact ⟨by first | rfl | (simp [errW_none, errW_some] <;> rfl) | (simp [*, errW_none, errW_some] <;> rfl), by repeat (first | (with_reducible first | exact HB.out | apply below_alloc | apply pw_below_drewN | apply below_drew1 | refine below_set ?_ GE304.out) | exact HB.out)⟩
                     ·replace c158 := Bool.eq_false_iff.mpr c158
                      subst c158
                      have H1 : (some true) = some r := by rw [if_neg (show ¬ (false = true) by decide)] at H; exact H
                      clear H
                      have H := H1
                      clear H1
                      obtain rfl := Option.some.inj H
                      (try rw [c20b0] at c154b0)
                      (try rw [c31b0] at c154b0)
                      (try rw [c42b0] at c154b0)
                      (try rw [c42b1] at c154b0)
                      (try rw [c98b0] at c154b0)
                      (try rw [c98b1] at c154b0)
                      (try rw [c155b0] at c154b0)
                      (try rw [c155b1] at c154b0)
                      (try rw [c156b0] at c154b0)
                      (try rw [c156b1] at c154b0)
                      (try rw [c157b0] at c154b0)
                      (try rw [c157b1] at c154b0)
                      (try simp at c154b0)
                      go_wp2_with (first | ((with_reducible refine gate_builtin (b := .append) (xs := #[.tmp 74, .tmp 75]) rfl ?_); (try (refine gate_guard (by rfl) ?_; dsimp only)); at_builtin; refine Kd.R_append Kd.string (w0 := w) w.heap.size rfl (.tmp 74) (.tmp 75) 26 9 (.string ⟨#[]⟩) 16 rfl Tryd.underlying26 info9 rfl (by decide) (by omega) u8 x8_4 (⟨#[50]⟩ : ByteArray) [.string (⟨#[50]⟩ : ByteArray)] (fun _ => True) (fun _ => False) rfl rfl ?aP (fun _ hk => hk.elim) ?aF ?aO ?aB ?aS ?aL ?_; (case aP => exact rfl); (case aB => exact (by repeat (first | (with_reducible first | exact HB.out | apply below_alloc | apply pw_below_drewN | apply below_drew1) | exact HB.out))); (case aF => exact (fun _ _ => trivial)); (case aO => exact (by (with_reducible repeat (first | apply Kd.R_alloc | apply Kd.R_drewN | apply Kd.R_drew)); exact HO_8.out)); (case aS => exact (below_size (by repeat (first | (with_reducible first | exact HB.out | apply below_alloc | apply pw_below_drewN | apply below_drew1) | exact HB.out)))); (case aL => have := LMc40.out; omega); intro v297 w172 ho hb hg hat; rw [← Ny296.out] at ho; have n0_ := Aside0.mk (Kd.R_over' (by (with_reducible repeat (first | apply Kd.R_alloc | apply Kd.R_drewN | apply Kd.R_drew)); exact HO_7.out) (Kd.R_typed (by (with_reducible repeat (first | apply Kd.R_alloc | apply Kd.R_drewN | apply Kd.R_drew)); exact HO_8.out)) (by decide) hg); have n1_ := Aside0.mk (hb); have n2_ := Aside0.mk (ho); clear HO_7; clear HB; clear HO_8; have HO_7 := n0_; have HB := n1_; have HO298 := n2_; clear n0_ n1_ n2_; clear ho hb hg hat; obtain ⟨Ao173, co173, eo173⟩ := Kd.R_slice HO_7.out; subst eo173; obtain ⟨Ao174, co174, eo174⟩ := Kd.R_slice HO298.out; subst eo174) | ((with_reducible refine gate_callee (f := 10) rfl ?_); refine goesL_ (some 79) rfl rfl Tryd.func10 (by kernel_rfl) rfl #[.slice Ao173 x7_9.length co173, .int .i64 0, .slice Ao174 y296.length co174] rfl (by (try simp only [List.map_toArray, List.map_cons, List.map_nil]); first | done | rfl | (simp only [List.length_drop, List.length_take]; rfl) | (rw [hsame_])) ?_; (with_reducible refine (interp_Run.calls k4 _ _ x7_9 0 _ _ y296 t299 t300 t301 t302 t303 _ ?side1 ?side2 ?side3 ?side4 A41.out).mono ?_); (case side1 => repeat (first | exact (Kd.R_reads' HO_7.out).2.2 | (with_reducible refine Kd.C_alloc ?_ _) | (with_reducible refine Kd.C_drewN ?_ _) | (with_reducible refine Kd.C_drew ?_))); (case side2 => exact (Kd.R_reads' HO_7.out).2.1); (case side3 => repeat (first | exact (Kd.R_reads' HO298.out).2.2 | (with_reducible refine Kd.C_alloc ?_ _) | (with_reducible refine Kd.C_drewN ?_ _) | (with_reducible refine Kd.C_drew ?_))); (case side4 => exact (Kd.R_reads' HO298.out).2.1); rintro e w175 ⟨rfl, hb⟩; refine ⟨_, rfl, ?_⟩; have n0_ := Aside0.mk (Kd.R_below (by (with_reducible repeat (first | apply Kd.R_alloc | apply Kd.R_drewN | apply Kd.R_drew)); exact HO_7.out) hb); have n1_ := Aside0.mk (Kd.R_below (by (with_reducible repeat (first | apply Kd.R_alloc | apply Kd.R_drewN | apply Kd.R_drew)); exact HO298.out) hb); have n2_ := Aside0.mk (below_step (by repeat (first | (with_reducible first | exact HB.out | apply below_alloc | apply pw_below_drewN | apply below_drew1) | exact HB.out)) hb); clear HO_7; clear HO298; clear HB; have HO_7 := n0_; have HO298 := n1_; have HB := n2_; clear n0_ n1_ n2_; (try clear hb); (try clear hb2); (try clear hk); (try clear hi)) | ((with_reducible refine gate_dst (N := 13) rfl ?_); (try (refine gate_guard (by rfl) ?_; dsimp only)); refine box_event ?hg (N := 13) ?hd (cs := #[.int .i64 0, .int .i64 0, .bool false, .string (⟨#[]⟩ : ByteArray), .int .i64 0]) (t := 30) ?hr ?_; (case hd => rfl); (case hg => rfl); (case hr => first | (go_simp; done) | (go_simp; rfl)); intro gb304 hg w176 hbox hb; have n0_ := Aside0.mk (Kd.R_below (by (with_reducible repeat (first | apply Kd.R_alloc | apply Kd.R_drewN | apply Kd.R_drew)); exact HO_7.out) hb); have n1_ := Aside0.mk (Kd.R_below (by (with_reducible repeat (first | apply Kd.R_alloc | apply Kd.R_drewN | apply Kd.R_drew)); exact HO298.out) hb); have n2_ := Aside0.mk (below_step (by repeat (first | (with_reducible first | exact HB.out | apply below_alloc | apply pw_below_drewN | apply below_drew1) | exact HB.out)) hb); have n3_ := Aside0.mk (hbox); have n4_ := Aside0.mk ((by rw [hg]; exact (below_size (by repeat (first | (with_reducible first | exact HB.out | apply below_alloc | apply pw_below_drewN | apply below_drew1) | exact HB.out))) : w.heap.size ≤ gb304)); have n5_ := Aside0.mk ((by rw [hg]; exact (below_size (by repeat (first | (with_reducible first | exact HB.out | apply below_alloc | apply pw_below_drewN | apply below_drew1) | exact HB.out))) : w.heap.size ≤ gb304)); clear HO_7; clear HO298; clear HB; have HO_7 := n0_; have HO298 := n1_; have HB := n2_; have BK304 := n3_; have GW304 := n4_; have GE304 := n5_; clear n0_ n1_ n2_ n3_ n4_ n5_; clear hb hbox hg; have hcz177_0 : w176.cell? ⟨gb304, 0, none⟩ = some (.int .i64 0) := (blk_cell BK304.out 0).trans rfl; have hcz177_1 : w176.cell? ⟨gb304, 1, none⟩ = some (.int .i64 0) := (blk_cell BK304.out 1).trans rfl; have hcz177_2 : w176.cell? ⟨gb304, 2, none⟩ = some (.bool false) := (blk_cell BK304.out 2).trans rfl; have hcz177_3 : w176.cell? ⟨gb304, 3, none⟩ = some (.string (⟨#[]⟩ : ByteArray)) := (blk_cell BK304.out 3).trans rfl; have hcz177_4 : w176.cell? ⟨gb304, 4, none⟩ = some (.int .i64 0) := (blk_cell BK304.out 4).trans rfl; have hfz177_0 := blk_frozen BK304.out 0; have hfz177_1 := blk_frozen BK304.out 1; have hfz177_2 := blk_frozen BK304.out 2; have hfz177_3 := blk_frozen BK304.out 3; have hfz177_4 := blk_frozen BK304.out 4))
                      go_ret
                      exact ⟨by first | rfl | (simp [errW_none, errW_some] <;> rfl) | (simp [*, errW_none, errW_some] <;> rfl), by repeat (first | (with_reducible first | exact HB.out | apply below_alloc | apply pw_below_drewN | apply below_drew1 | refine below_set ?_ GE304.out) | exact HB.out)⟩
                    ·rw [if_neg c157] at H
                     have c157b0 : (t299 == 5) = false := beq_eq_false_iff_ne.mpr c157
                     have c157b1 : (t299 != 5) = true := bne_iff_ne.mpr c157
                     by_cases c178 : t299 = 6
                     ·rw [if_pos c178] at H
                      have c178b0 : (t299 == 6) = true := beq_iff_eq.mpr c178
                      have c178b1 : (t299 != 6) = false := bne_eq_false_iff_eq.mpr c178
                      clear c178
                      obtain rfl := Option.some.inj H
                      (try rw [c20b0] at c154b0)
                      (try rw [c31b0] at c154b0)
                      (try rw [c42b0] at c154b0)
                      (try rw [c42b1] at c154b0)
                      (try rw [c98b0] at c154b0)
                      (try rw [c98b1] at c154b0)
                      (try rw [c155b0] at c154b0)
                      (try rw [c155b1] at c154b0)
                      (try rw [c156b0] at c154b0)
                      (try rw [c156b1] at c154b0)
                      (try rw [c157b0] at c154b0)
                      (try rw [c157b1] at c154b0)
                      (try rw [c178b0] at c154b0)
                      (try rw [c178b1] at c154b0)
                      (try simp at c154b0)
                      go_wp2_with (first | ((with_reducible refine gate_builtin (b := .append) (xs := #[.tmp 74, .tmp 75]) rfl ?_); (try (refine gate_guard (by rfl) ?_; dsimp only)); at_builtin; refine Kd.R_append Kd.string (w0 := w) w.heap.size rfl (.tmp 74) (.tmp 75) 26 9 (.string ⟨#[]⟩) 16 rfl Tryd.underlying26 info9 rfl (by decide) (by omega) u8 x8_4 (⟨#[50]⟩ : ByteArray) [.string (⟨#[50]⟩ : ByteArray)] (fun _ => True) (fun _ => False) rfl rfl ?aP (fun _ hk => hk.elim) ?aF ?aO ?aB ?aS ?aL ?_; (case aP => exact rfl); (case aB => exact (by repeat (first | (with_reducible first | exact HB.out | apply below_alloc | apply pw_below_drewN | apply below_drew1) | exact HB.out))); (case aF => exact (fun _ _ => trivial)); (case aO => exact (by (with_reducible repeat (first | apply Kd.R_alloc | apply Kd.R_drewN | apply Kd.R_drew)); exact HO_8.out)); (case aS => exact (below_size (by repeat (first | (with_reducible first | exact HB.out | apply below_alloc | apply pw_below_drewN | apply below_drew1) | exact HB.out)))); (case aL => have := LMc40.out; omega); intro v297 w179 ho hb hg hat; rw [← Ny296.out] at ho; have n0_ := Aside0.mk (Kd.R_over' (by (with_reducible repeat (first | apply Kd.R_alloc | apply Kd.R_drewN | apply Kd.R_drew)); exact HO_7.out) (Kd.R_typed (by (with_reducible repeat (first | apply Kd.R_alloc | apply Kd.R_drewN | apply Kd.R_drew)); exact HO_8.out)) (by decide) hg); have n1_ := Aside0.mk (hb); have n2_ := Aside0.mk (ho); clear HO_7; clear HB; clear HO_8; have HO_7 := n0_; have HB := n1_; have HO298 := n2_; clear n0_ n1_ n2_; clear ho hb hg hat; obtain ⟨Ao180, co180, eo180⟩ := Kd.R_slice HO_7.out; subst eo180; obtain ⟨Ao181, co181, eo181⟩ := Kd.R_slice HO298.out; subst eo181) | ((with_reducible refine gate_callee (f := 10) rfl ?_); refine goesL_ (some 79) rfl rfl Tryd.func10 (by kernel_rfl) rfl #[.slice Ao180 x7_9.length co180, .int .i64 0, .slice Ao181 y296.length co181] rfl (by (try simp only [List.map_toArray, List.map_cons, List.map_nil]); first | done | rfl | (simp only [List.length_drop, List.length_take]; rfl) | (rw [hsame_])) ?_; (with_reducible refine (interp_Run.calls k4 _ _ x7_9 0 _ _ y296 t299 t300 t301 t302 t303 _ ?side1 ?side2 ?side3 ?side4 A41.out).mono ?_); (case side1 => repeat (first | exact (Kd.R_reads' HO_7.out).2.2 | (with_reducible refine Kd.C_alloc ?_ _) | (with_reducible refine Kd.C_drewN ?_ _) | (with_reducible refine Kd.C_drew ?_))); (case side2 => exact (Kd.R_reads' HO_7.out).2.1); (case side3 => repeat (first | exact (Kd.R_reads' HO298.out).2.2 | (with_reducible refine Kd.C_alloc ?_ _) | (with_reducible refine Kd.C_drewN ?_ _) | (with_reducible refine Kd.C_drew ?_))); (case side4 => exact (Kd.R_reads' HO298.out).2.1); rintro e w182 ⟨rfl, hb⟩; refine ⟨_, rfl, ?_⟩; have n0_ := Aside0.mk (Kd.R_below (by (with_reducible repeat (first | apply Kd.R_alloc | apply Kd.R_drewN | apply Kd.R_drew)); exact HO_7.out) hb); have n1_ := Aside0.mk (Kd.R_below (by (with_reducible repeat (first | apply Kd.R_alloc | apply Kd.R_drewN | apply Kd.R_drew)); exact HO298.out) hb); have n2_ := Aside0.mk (below_step (by repeat (first | (with_reducible first | exact HB.out | apply below_alloc | apply pw_below_drewN | apply below_drew1) | exact HB.out)) hb); clear HO_7; clear HO298; clear HB; have HO_7 := n0_; have HO298 := n1_; have HB := n2_; clear n0_ n1_ n2_; (try clear hb); (try clear hb2); (try clear hk); (try clear hi)) | ((with_reducible refine gate_dst (N := 13) rfl ?_); (try (refine gate_guard (by rfl) ?_; dsimp only)); refine box_event ?hg (N := 13) ?hd (cs := #[.int .i64 0, .int .i64 0, .bool false, .string (⟨#[]⟩ : ByteArray), .int .i64 0]) (t := 30) ?hr ?_; (case hd => rfl); (case hg => rfl); (case hr => first | (go_simp; done) | (go_simp; rfl)); intro gb304 hg w183 hbox hb; have n0_ := Aside0.mk (Kd.R_below (by (with_reducible repeat (first | apply Kd.R_alloc | apply Kd.R_drewN | apply Kd.R_drew)); exact HO_7.out) hb); have n1_ := Aside0.mk (Kd.R_below (by (with_reducible repeat (first | apply Kd.R_alloc | apply Kd.R_drewN | apply Kd.R_drew)); exact HO298.out) hb); have n2_ := Aside0.mk (below_step (by repeat (first | (with_reducible first | exact HB.out | apply below_alloc | apply pw_below_drewN | apply below_drew1) | exact HB.out)) hb); have n3_ := Aside0.mk (hbox); have n4_ := Aside0.mk ((by rw [hg]; exact (below_size (by repeat (first | (with_reducible first | exact HB.out | apply below_alloc | apply pw_below_drewN | apply below_drew1) | exact HB.out))) : w.heap.size ≤ gb304)); have n5_ := Aside0.mk ((by rw [hg]; exact (below_size (by repeat (first | (with_reducible first | exact HB.out | apply below_alloc | apply pw_below_drewN | apply below_drew1) | exact HB.out))) : w.heap.size ≤ gb304)); clear HO_7; clear HO298; clear HB; have HO_7 := n0_; have HO298 := n1_; have HB := n2_; have BK304 := n3_; have GW304 := n4_; have GE304 := n5_; clear n0_ n1_ n2_ n3_ n4_ n5_; clear hb hbox hg; have hcz184_0 : w183.cell? ⟨gb304, 0, none⟩ = some (.int .i64 0) := (blk_cell BK304.out 0).trans rfl; have hcz184_1 : w183.cell? ⟨gb304, 1, none⟩ = some (.int .i64 0) := (blk_cell BK304.out 1).trans rfl; have hcz184_2 : w183.cell? ⟨gb304, 2, none⟩ = some (.bool false) := (blk_cell BK304.out 2).trans rfl; have hcz184_3 : w183.cell? ⟨gb304, 3, none⟩ = some (.string (⟨#[]⟩ : ByteArray)) := (blk_cell BK304.out 3).trans rfl; have hcz184_4 : w183.cell? ⟨gb304, 4, none⟩ = some (.int .i64 0) := (blk_cell BK304.out 4).trans rfl; have hfz184_0 := blk_frozen BK304.out 0; have hfz184_1 := blk_frozen BK304.out 1; have hfz184_2 := blk_frozen BK304.out 2; have hfz184_3 := blk_frozen BK304.out 3; have hfz184_4 := blk_frozen BK304.out 4))
                      go_ret
                      exact ⟨by first | rfl | (simp [errW_none, errW_some] <;> rfl) | (simp [*, errW_none, errW_some] <;> rfl), by repeat (first | (with_reducible first | exact HB.out | apply below_alloc | apply pw_below_drewN | apply below_drew1 | refine below_set ?_ GE304.out) | exact HB.out)⟩
                     ·rw [if_neg c178] at H
                      have c178b0 : (t299 == 6) = false := beq_eq_false_iff_ne.mpr c178
                      have c178b1 : (t299 != 6) = true := bne_iff_ne.mpr c178
                      obtain rfl := Option.some.inj H
                      (try rw [c20b0] at c154b0)
                      (try rw [c31b0] at c154b0)
                      (try rw [c42b0] at c154b0)
                      (try rw [c42b1] at c154b0)
                      (try rw [c98b0] at c154b0)
                      (try rw [c98b1] at c154b0)
                      (try rw [c155b0] at c154b0)
                      (try rw [c155b1] at c154b0)
                      (try rw [c156b0] at c154b0)
                      (try rw [c156b1] at c154b0)
                      (try rw [c157b0] at c154b0)
                      (try rw [c157b1] at c154b0)
                      (try rw [c178b0] at c154b0)
                      (try rw [c178b1] at c154b0)
                      (try simp at c154b0)
                      go_wp2_with (first | ((with_reducible refine gate_builtin (b := .append) (xs := #[.tmp 74, .tmp 75]) rfl ?_); (try (refine gate_guard (by rfl) ?_; dsimp only)); at_builtin; refine Kd.R_append Kd.string (w0 := w) w.heap.size rfl (.tmp 74) (.tmp 75) 26 9 (.string ⟨#[]⟩) 16 rfl Tryd.underlying26 info9 rfl (by decide) (by omega) u8 x8_4 (⟨#[50]⟩ : ByteArray) [.string (⟨#[50]⟩ : ByteArray)] (fun _ => True) (fun _ => False) rfl rfl ?aP (fun _ hk => hk.elim) ?aF ?aO ?aB ?aS ?aL ?_; (case aP => exact rfl); (case aB => exact (by repeat (first | (with_reducible first | exact HB.out | apply below_alloc | apply pw_below_drewN | apply below_drew1) | exact HB.out))); (case aF => exact (fun _ _ => trivial)); (case aO => exact (by (with_reducible repeat (first | apply Kd.R_alloc | apply Kd.R_drewN | apply Kd.R_drew)); exact HO_8.out)); (case aS => exact (below_size (by repeat (first | (with_reducible first | exact HB.out | apply below_alloc | apply pw_below_drewN | apply below_drew1) | exact HB.out)))); (case aL => have := LMc40.out; omega); intro v297 w185 ho hb hg hat; rw [← Ny296.out] at ho; have n0_ := Aside0.mk (Kd.R_over' (by (with_reducible repeat (first | apply Kd.R_alloc | apply Kd.R_drewN | apply Kd.R_drew)); exact HO_7.out) (Kd.R_typed (by (with_reducible repeat (first | apply Kd.R_alloc | apply Kd.R_drewN | apply Kd.R_drew)); exact HO_8.out)) (by decide) hg); have n1_ := Aside0.mk (hb); have n2_ := Aside0.mk (ho); clear HO_7; clear HB; clear HO_8; have HO_7 := n0_; have HB := n1_; have HO298 := n2_; clear n0_ n1_ n2_; clear ho hb hg hat; obtain ⟨Ao186, co186, eo186⟩ := Kd.R_slice HO_7.out; subst eo186; obtain ⟨Ao187, co187, eo187⟩ := Kd.R_slice HO298.out; subst eo187) | ((with_reducible refine gate_callee (f := 10) rfl ?_); refine goesL_ (some 79) rfl rfl Tryd.func10 (by kernel_rfl) rfl #[.slice Ao186 x7_9.length co186, .int .i64 0, .slice Ao187 y296.length co187] rfl (by (try simp only [List.map_toArray, List.map_cons, List.map_nil]); first | done | rfl | (simp only [List.length_drop, List.length_take]; rfl) | (rw [hsame_])) ?_; (with_reducible refine (interp_Run.calls k4 _ _ x7_9 0 _ _ y296 t299 t300 t301 t302 t303 _ ?side1 ?side2 ?side3 ?side4 A41.out).mono ?_); (case side1 => repeat (first | exact (Kd.R_reads' HO_7.out).2.2 | (with_reducible refine Kd.C_alloc ?_ _) | (with_reducible refine Kd.C_drewN ?_ _) | (with_reducible refine Kd.C_drew ?_))); (case side2 => exact (Kd.R_reads' HO_7.out).2.1); (case side3 => repeat (first | exact (Kd.R_reads' HO298.out).2.2 | (with_reducible refine Kd.C_alloc ?_ _) | (with_reducible refine Kd.C_drewN ?_ _) | (with_reducible refine Kd.C_drew ?_))); (case side4 => exact (Kd.R_reads' HO298.out).2.1); rintro e w188 ⟨rfl, hb⟩; refine ⟨_, rfl, ?_⟩; have n0_ := Aside0.mk (Kd.R_below (by (with_reducible repeat (first | apply Kd.R_alloc | apply Kd.R_drewN | apply Kd.R_drew)); exact HO_7.out) hb); have n1_ := Aside0.mk (Kd.R_below (by (with_reducible repeat (first | apply Kd.R_alloc | apply Kd.R_drewN | apply Kd.R_drew)); exact HO298.out) hb); have n2_ := Aside0.mk (below_step (by repeat (first | (with_reducible first | exact HB.out | apply below_alloc | apply pw_below_drewN | apply below_drew1) | exact HB.out)) hb); clear HO_7; clear HO298; clear HB; have HO_7 := n0_; have HO298 := n1_; have HB := n2_; clear n0_ n1_ n2_; (try clear hb); (try clear hb2); (try clear hk); (try clear hi)) | ((with_reducible refine gate_dst (N := 13) rfl ?_); (try (refine gate_guard (by rfl) ?_; dsimp only)); refine box_event ?hg (N := 13) ?hd (cs := #[.int .i64 0, .int .i64 0, .bool false, .string (⟨#[]⟩ : ByteArray), .int .i64 0]) (t := 30) ?hr ?_; (case hd => rfl); (case hg => rfl); (case hr => first | (go_simp; done) | (go_simp; rfl)); intro gb304 hg w189 hbox hb; have n0_ := Aside0.mk (Kd.R_below (by (with_reducible repeat (first | apply Kd.R_alloc | apply Kd.R_drewN | apply Kd.R_drew)); exact HO_7.out) hb); have n1_ := Aside0.mk (Kd.R_below (by (with_reducible repeat (first | apply Kd.R_alloc | apply Kd.R_drewN | apply Kd.R_drew)); exact HO298.out) hb); have n2_ := Aside0.mk (below_step (by repeat (first | (with_reducible first | exact HB.out | apply below_alloc | apply pw_below_drewN | apply below_drew1) | exact HB.out)) hb); have n3_ := Aside0.mk (hbox); have n4_ := Aside0.mk ((by rw [hg]; exact (below_size (by repeat (first | (with_reducible first | exact HB.out | apply below_alloc | apply pw_below_drewN | apply below_drew1) | exact HB.out))) : w.heap.size ≤ gb304)); have n5_ := Aside0.mk ((by rw [hg]; exact (below_size (by repeat (first | (with_reducible first | exact HB.out | apply below_alloc | apply pw_below_drewN | apply below_drew1) | exact HB.out))) : w.heap.size ≤ gb304)); clear HO_7; clear HO298; clear HB; have HO_7 := n0_; have HO298 := n1_; have HB := n2_; have BK304 := n3_; have GW304 := n4_; have GE304 := n5_; clear n0_ n1_ n2_ n3_ n4_ n5_; clear hb hbox hg; have hcz190_0 : w189.cell? ⟨gb304, 0, none⟩ = some (.int .i64 0) := (blk_cell BK304.out 0).trans rfl; have hcz190_1 : w189.cell? ⟨gb304, 1, none⟩ = some (.int .i64 0) := (blk_cell BK304.out 1).trans rfl; have hcz190_2 : w189.cell? ⟨gb304, 2, none⟩ = some (.bool false) := (blk_cell BK304.out 2).trans rfl; have hcz190_3 : w189.cell? ⟨gb304, 3, none⟩ = some (.string (⟨#[]⟩ : ByteArray)) := (blk_cell BK304.out 3).trans rfl; have hcz190_4 : w189.cell? ⟨gb304, 4, none⟩ = some (.int .i64 0) := (blk_cell BK304.out 4).trans rfl; have hfz190_0 := blk_frozen BK304.out 0; have hfz190_1 := blk_frozen BK304.out 1; have hfz190_2 := blk_frozen BK304.out 2; have hfz190_3 := blk_frozen BK304.out 3; have hfz190_4 := blk_frozen BK304.out 4))
                      go_ret
                      exact ⟨by first | rfl | (simp [errW_none, errW_some] <;> rfl) | (simp [*, errW_none, errW_some] <;> rfl), by repeat (first | (with_reducible first | exact HB.out | apply below_alloc | apply pw_below_drewN | apply below_drew1 | refine below_set ?_ GE304.out) | exact HB.out)⟩
                   ·rw [if_neg c156] at H
                    have c156b0 : (t303 == x10_4) = false := beq_eq_false_iff_ne.mpr c156
                    have c156b1 : (t303 != x10_4) = true := bne_iff_ne.mpr c156
                    obtain rfl := Option.some.inj H
                    (try rw [c20b0] at c154b0)
                    (try rw [c31b0] at c154b0)
                    (try rw [c42b0] at c154b0)
                    (try rw [c42b1] at c154b0)
                    (try rw [c98b0] at c154b0)
                    (try rw [c98b1] at c154b0)
                    (try rw [c155b0] at c154b0)
                    (try rw [c155b1] at c154b0)
                    (try rw [c156b0] at c154b0)
                    (try rw [c156b1] at c154b0)
                    (try simp at c154b0)
                    go_wp2_with (first | ((with_reducible refine gate_builtin (b := .append) (xs := #[.tmp 74, .tmp 75]) rfl ?_); (try (refine gate_guard (by rfl) ?_; dsimp only)); at_builtin; refine Kd.R_append Kd.string (w0 := w) w.heap.size rfl (.tmp 74) (.tmp 75) 26 9 (.string ⟨#[]⟩) 16 rfl Tryd.underlying26 info9 rfl (by decide) (by omega) u8 x8_4 (⟨#[50]⟩ : ByteArray) [.string (⟨#[50]⟩ : ByteArray)] (fun _ => True) (fun _ => False) rfl rfl ?aP (fun _ hk => hk.elim) ?aF ?aO ?aB ?aS ?aL ?_; (case aP => exact rfl); (case aB => exact (by repeat (first | (with_reducible first | exact HB.out | apply below_alloc | apply pw_below_drewN | apply below_drew1) | exact HB.out))); (case aF => exact (fun _ _ => trivial)); (case aO => exact (by (with_reducible repeat (first | apply Kd.R_alloc | apply Kd.R_drewN | apply Kd.R_drew)); exact HO_8.out)); (case aS => exact (below_size (by repeat (first | (with_reducible first | exact HB.out | apply below_alloc | apply pw_below_drewN | apply below_drew1) | exact HB.out)))); (case aL => have := LMc40.out; omega); intro v297 w191 ho hb hg hat; rw [← Ny296.out] at ho; have n0_ := Aside0.mk (Kd.R_over' (by (with_reducible repeat (first | apply Kd.R_alloc | apply Kd.R_drewN | apply Kd.R_drew)); exact HO_7.out) (Kd.R_typed (by (with_reducible repeat (first | apply Kd.R_alloc | apply Kd.R_drewN | apply Kd.R_drew)); exact HO_8.out)) (by decide) hg); have n1_ := Aside0.mk (hb); have n2_ := Aside0.mk (ho); clear HO_7; clear HB; clear HO_8; have HO_7 := n0_; have HB := n1_; have HO298 := n2_; clear n0_ n1_ n2_; clear ho hb hg hat; obtain ⟨Ao192, co192, eo192⟩ := Kd.R_slice HO_7.out; subst eo192; obtain ⟨Ao193, co193, eo193⟩ := Kd.R_slice HO298.out; subst eo193) | ((with_reducible refine gate_callee (f := 10) rfl ?_); refine goesL_ (some 79) rfl rfl Tryd.func10 (by kernel_rfl) rfl #[.slice Ao192 x7_9.length co192, .int .i64 0, .slice Ao193 y296.length co193] rfl (by (try simp only [List.map_toArray, List.map_cons, List.map_nil]); first | done | rfl | (simp only [List.length_drop, List.length_take]; rfl) | (rw [hsame_])) ?_; (with_reducible refine (interp_Run.calls k4 _ _ x7_9 0 _ _ y296 t299 t300 t301 t302 t303 _ ?side1 ?side2 ?side3 ?side4 A41.out).mono ?_); (case side1 => repeat (first | exact (Kd.R_reads' HO_7.out).2.2 | (with_reducible refine Kd.C_alloc ?_ _) | (with_reducible refine Kd.C_drewN ?_ _) | (with_reducible refine Kd.C_drew ?_))); (case side2 => exact (Kd.R_reads' HO_7.out).2.1); (case side3 => repeat (first | exact (Kd.R_reads' HO298.out).2.2 | (with_reducible refine Kd.C_alloc ?_ _) | (with_reducible refine Kd.C_drewN ?_ _) | (with_reducible refine Kd.C_drew ?_))); (case side4 => exact (Kd.R_reads' HO298.out).2.1); rintro e w194 ⟨rfl, hb⟩; refine ⟨_, rfl, ?_⟩; have n0_ := Aside0.mk (Kd.R_below (by (with_reducible repeat (first | apply Kd.R_alloc | apply Kd.R_drewN | apply Kd.R_drew)); exact HO_7.out) hb); have n1_ := Aside0.mk (Kd.R_below (by (with_reducible repeat (first | apply Kd.R_alloc | apply Kd.R_drewN | apply Kd.R_drew)); exact HO298.out) hb); have n2_ := Aside0.mk (below_step (by repeat (first | (with_reducible first | exact HB.out | apply below_alloc | apply pw_below_drewN | apply below_drew1) | exact HB.out)) hb); clear HO_7; clear HO298; clear HB; have HO_7 := n0_; have HO298 := n1_; have HB := n2_; clear n0_ n1_ n2_; (try clear hb); (try clear hb2); (try clear hk); (try clear hi)) | ((with_reducible refine gate_dst (N := 13) rfl ?_); (try (refine gate_guard (by rfl) ?_; dsimp only)); refine box_event ?hg (N := 13) ?hd (cs := #[.int .i64 0, .int .i64 0, .bool false, .string (⟨#[]⟩ : ByteArray), .int .i64 0]) (t := 30) ?hr ?_; (case hd => rfl); (case hg => rfl); (case hr => first | (go_simp; done) | (go_simp; rfl)); intro gb304 hg w195 hbox hb; have n0_ := Aside0.mk (Kd.R_below (by (with_reducible repeat (first | apply Kd.R_alloc | apply Kd.R_drewN | apply Kd.R_drew)); exact HO_7.out) hb); have n1_ := Aside0.mk (Kd.R_below (by (with_reducible repeat (first | apply Kd.R_alloc | apply Kd.R_drewN | apply Kd.R_drew)); exact HO298.out) hb); have n2_ := Aside0.mk (below_step (by repeat (first | (with_reducible first | exact HB.out | apply below_alloc | apply pw_below_drewN | apply below_drew1) | exact HB.out)) hb); have n3_ := Aside0.mk (hbox); have n4_ := Aside0.mk ((by rw [hg]; exact (below_size (by repeat (first | (with_reducible first | exact HB.out | apply below_alloc | apply pw_below_drewN | apply below_drew1) | exact HB.out))) : w.heap.size ≤ gb304)); have n5_ := Aside0.mk ((by rw [hg]; exact (below_size (by repeat (first | (with_reducible first | exact HB.out | apply below_alloc | apply pw_below_drewN | apply below_drew1) | exact HB.out))) : w.heap.size ≤ gb304)); clear HO_7; clear HO298; clear HB; have HO_7 := n0_; have HO298 := n1_; have HB := n2_; have BK304 := n3_; have GW304 := n4_; have GE304 := n5_; clear n0_ n1_ n2_ n3_ n4_ n5_; clear hb hbox hg; have hcz196_0 : w195.cell? ⟨gb304, 0, none⟩ = some (.int .i64 0) := (blk_cell BK304.out 0).trans rfl; have hcz196_1 : w195.cell? ⟨gb304, 1, none⟩ = some (.int .i64 0) := (blk_cell BK304.out 1).trans rfl; have hcz196_2 : w195.cell? ⟨gb304, 2, none⟩ = some (.bool false) := (blk_cell BK304.out 2).trans rfl; have hcz196_3 : w195.cell? ⟨gb304, 3, none⟩ = some (.string (⟨#[]⟩ : ByteArray)) := (blk_cell BK304.out 3).trans rfl; have hcz196_4 : w195.cell? ⟨gb304, 4, none⟩ = some (.int .i64 0) := (blk_cell BK304.out 4).trans rfl; have hfz196_0 := blk_frozen BK304.out 0; have hfz196_1 := blk_frozen BK304.out 1; have hfz196_2 := blk_frozen BK304.out 2; have hfz196_3 := blk_frozen BK304.out 3; have hfz196_4 := blk_frozen BK304.out 4))
                    go_ret
                    exact ⟨by first | rfl | (simp [errW_none, errW_some] <;> rfl) | (simp [*, errW_none, errW_some] <;> rfl), by repeat (first | (with_reducible first | exact HB.out | apply below_alloc | apply pw_below_drewN | apply below_drew1 | refine below_set ?_ GE304.out) | exact HB.out)⟩
                  ·rw [if_neg c155] at H
                   have c155b0 : (t302.toList == x9_3.toList) = false := beq_eq_false_iff_ne.mpr c155
                   have c155b1 : (t302.toList != x9_3.toList) = true := bne_iff_ne.mpr c155
                   obtain rfl := Option.some.inj H
                   (try rw [c20b0] at c154b0)
                   (try rw [c31b0] at c154b0)
                   (try rw [c42b0] at c154b0)
                   (try rw [c42b1] at c154b0)
                   (try rw [c98b0] at c154b0)
                   (try rw [c98b1] at c154b0)
                   (try rw [c155b0] at c154b0)
                   (try rw [c155b1] at c154b0)
                   (try simp at c154b0)
                   go_wp2_with (first | ((with_reducible refine gate_builtin (b := .append) (xs := #[.tmp 74, .tmp 75]) rfl ?_); (try (refine gate_guard (by rfl) ?_; dsimp only)); at_builtin; refine Kd.R_append Kd.string (w0 := w) w.heap.size rfl (.tmp 74) (.tmp 75) 26 9 (.string ⟨#[]⟩) 16 rfl Tryd.underlying26 info9 rfl (by decide) (by omega) u8 x8_4 (⟨#[50]⟩ : ByteArray) [.string (⟨#[50]⟩ : ByteArray)] (fun _ => True) (fun _ => False) rfl rfl ?aP (fun _ hk => hk.elim) ?aF ?aO ?aB ?aS ?aL ?_; (case aP => exact rfl); (case aB => exact (by repeat (first | (with_reducible first | exact HB.out | apply below_alloc | apply pw_below_drewN | apply below_drew1) | exact HB.out))); (case aF => exact (fun _ _ => trivial)); (case aO => exact (by (with_reducible repeat (first | apply Kd.R_alloc | apply Kd.R_drewN | apply Kd.R_drew)); exact HO_8.out)); (case aS => exact (below_size (by repeat (first | (with_reducible first | exact HB.out | apply below_alloc | apply pw_below_drewN | apply below_drew1) | exact HB.out)))); (case aL => have := LMc40.out; omega); intro v297 w197 ho hb hg hat; rw [← Ny296.out] at ho; have n0_ := Aside0.mk (Kd.R_over' (by (with_reducible repeat (first | apply Kd.R_alloc | apply Kd.R_drewN | apply Kd.R_drew)); exact HO_7.out) (Kd.R_typed (by (with_reducible repeat (first | apply Kd.R_alloc | apply Kd.R_drewN | apply Kd.R_drew)); exact HO_8.out)) (by decide) hg); have n1_ := Aside0.mk (hb); have n2_ := Aside0.mk (ho); clear HO_7; clear HB; clear HO_8; have HO_7 := n0_; have HB := n1_; have HO298 := n2_; clear n0_ n1_ n2_; clear ho hb hg hat; obtain ⟨Ao198, co198, eo198⟩ := Kd.R_slice HO_7.out; subst eo198; obtain ⟨Ao199, co199, eo199⟩ := Kd.R_slice HO298.out; subst eo199) | ((with_reducible refine gate_callee (f := 10) rfl ?_); refine goesL_ (some 79) rfl rfl Tryd.func10 (by kernel_rfl) rfl #[.slice Ao198 x7_9.length co198, .int .i64 0, .slice Ao199 y296.length co199] rfl (by (try simp only [List.map_toArray, List.map_cons, List.map_nil]); first | done | rfl | (simp only [List.length_drop, List.length_take]; rfl) | (rw [hsame_])) ?_; (with_reducible refine (interp_Run.calls k4 _ _ x7_9 0 _ _ y296 t299 t300 t301 t302 t303 _ ?side1 ?side2 ?side3 ?side4 A41.out).mono ?_); (case side1 => repeat (first | exact (Kd.R_reads' HO_7.out).2.2 | (with_reducible refine Kd.C_alloc ?_ _) | (with_reducible refine Kd.C_drewN ?_ _) | (with_reducible refine Kd.C_drew ?_))); (case side2 => exact (Kd.R_reads' HO_7.out).2.1); (case side3 => repeat (first | exact (Kd.R_reads' HO298.out).2.2 | (with_reducible refine Kd.C_alloc ?_ _) | (with_reducible refine Kd.C_drewN ?_ _) | (with_reducible refine Kd.C_drew ?_))); (case side4 => exact (Kd.R_reads' HO298.out).2.1); rintro e w200 ⟨rfl, hb⟩; refine ⟨_, rfl, ?_⟩; have n0_ := Aside0.mk (Kd.R_below (by (with_reducible repeat (first | apply Kd.R_alloc | apply Kd.R_drewN | apply Kd.R_drew)); exact HO_7.out) hb); have n1_ := Aside0.mk (Kd.R_below (by (with_reducible repeat (first | apply Kd.R_alloc | apply Kd.R_drewN | apply Kd.R_drew)); exact HO298.out) hb); have n2_ := Aside0.mk (below_step (by repeat (first | (with_reducible first | exact HB.out | apply below_alloc | apply pw_below_drewN | apply below_drew1) | exact HB.out)) hb); clear HO_7; clear HO298; clear HB; have HO_7 := n0_; have HO298 := n1_; have HB := n2_; clear n0_ n1_ n2_; (try clear hb); (try clear hb2); (try clear hk); (try clear hi)) | ((with_reducible refine gate_dst (N := 13) rfl ?_); (try (refine gate_guard (by rfl) ?_; dsimp only)); refine box_event ?hg (N := 13) ?hd (cs := #[.int .i64 0, .int .i64 0, .bool false, .string (⟨#[]⟩ : ByteArray), .int .i64 0]) (t := 30) ?hr ?_; (case hd => rfl); (case hg => rfl); (case hr => first | (go_simp; done) | (go_simp; rfl)); intro gb304 hg w201 hbox hb; have n0_ := Aside0.mk (Kd.R_below (by (with_reducible repeat (first | apply Kd.R_alloc | apply Kd.R_drewN | apply Kd.R_drew)); exact HO_7.out) hb); have n1_ := Aside0.mk (Kd.R_below (by (with_reducible repeat (first | apply Kd.R_alloc | apply Kd.R_drewN | apply Kd.R_drew)); exact HO298.out) hb); have n2_ := Aside0.mk (below_step (by repeat (first | (with_reducible first | exact HB.out | apply below_alloc | apply pw_below_drewN | apply below_drew1) | exact HB.out)) hb); have n3_ := Aside0.mk (hbox); have n4_ := Aside0.mk ((by rw [hg]; exact (below_size (by repeat (first | (with_reducible first | exact HB.out | apply below_alloc | apply pw_below_drewN | apply below_drew1) | exact HB.out))) : w.heap.size ≤ gb304)); have n5_ := Aside0.mk ((by rw [hg]; exact (below_size (by repeat (first | (with_reducible first | exact HB.out | apply below_alloc | apply pw_below_drewN | apply below_drew1) | exact HB.out))) : w.heap.size ≤ gb304)); clear HO_7; clear HO298; clear HB; have HO_7 := n0_; have HO298 := n1_; have HB := n2_; have BK304 := n3_; have GW304 := n4_; have GE304 := n5_; clear n0_ n1_ n2_ n3_ n4_ n5_; clear hb hbox hg; have hcz202_0 : w201.cell? ⟨gb304, 0, none⟩ = some (.int .i64 0) := (blk_cell BK304.out 0).trans rfl; have hcz202_1 : w201.cell? ⟨gb304, 1, none⟩ = some (.int .i64 0) := (blk_cell BK304.out 1).trans rfl; have hcz202_2 : w201.cell? ⟨gb304, 2, none⟩ = some (.bool false) := (blk_cell BK304.out 2).trans rfl; have hcz202_3 : w201.cell? ⟨gb304, 3, none⟩ = some (.string (⟨#[]⟩ : ByteArray)) := (blk_cell BK304.out 3).trans rfl; have hcz202_4 : w201.cell? ⟨gb304, 4, none⟩ = some (.int .i64 0) := (blk_cell BK304.out 4).trans rfl; have hfz202_0 := blk_frozen BK304.out 0; have hfz202_1 := blk_frozen BK304.out 1; have hfz202_2 := blk_frozen BK304.out 2; have hfz202_3 := blk_frozen BK304.out 3; have hfz202_4 := blk_frozen BK304.out 4))
                   go_ret
                   exact ⟨by first | rfl | (simp [errW_none, errW_some] <;> rfl) | (simp [*, errW_none, errW_some] <;> rfl), by repeat (first | (with_reducible first | exact HB.out | apply below_alloc | apply pw_below_drewN | apply below_drew1 | refine below_set ?_ GE304.out) | exact HB.out)⟩
                 ·rw [if_neg c154] at H
                  have c154b0 : (t301 == (x10_4 != 0)) = false := by simpa using c154
                  (try (have c154b1 : decide (t301 = (x10_4 != 0)) = false := by simpa using c154))
                  (try (have c154b2 : (t301 == (x10_4 != 0)) = false := by simpa using c154))
                  (try (have c154b3 : ¬ (t301 = (x10_4 != 0)) := by simpa using c154))
                  clear c154
                  obtain rfl := Option.some.inj H
                  (try rw [c20b0] at c154b0)
                  (try rw [c31b0] at c154b0)
                  (try rw [c42b0] at c154b0)
                  (try rw [c42b1] at c154b0)
                  (try rw [c98b0] at c154b0)
                  (try rw [c98b1] at c154b0)
                  (try simp at c154b0)
                  go_wp2_with (first | ((with_reducible refine gate_builtin (b := .append) (xs := #[.tmp 74, .tmp 75]) rfl ?_); (try (refine gate_guard (by rfl) ?_; dsimp only)); at_builtin; refine Kd.R_append Kd.string (w0 := w) w.heap.size rfl (.tmp 74) (.tmp 75) 26 9 (.string ⟨#[]⟩) 16 rfl Tryd.underlying26 info9 rfl (by decide) (by omega) u8 x8_4 (⟨#[50]⟩ : ByteArray) [.string (⟨#[50]⟩ : ByteArray)] (fun _ => True) (fun _ => False) rfl rfl ?aP (fun _ hk => hk.elim) ?aF ?aO ?aB ?aS ?aL ?_; (case aP => exact rfl); (case aB => exact (by repeat (first | (with_reducible first | exact HB.out | apply below_alloc | apply pw_below_drewN | apply below_drew1) | exact HB.out))); (case aF => exact (fun _ _ => trivial)); (case aO => exact (by (with_reducible repeat (first | apply Kd.R_alloc | apply Kd.R_drewN | apply Kd.R_drew)); exact HO_8.out)); (case aS => exact (below_size (by repeat (first | (with_reducible first | exact HB.out | apply below_alloc | apply pw_below_drewN | apply below_drew1) | exact HB.out)))); (case aL => have := LMc40.out; omega); intro v297 w203 ho hb hg hat; rw [← Ny296.out] at ho; have n0_ := Aside0.mk (Kd.R_over' (by (with_reducible repeat (first | apply Kd.R_alloc | apply Kd.R_drewN | apply Kd.R_drew)); exact HO_7.out) (Kd.R_typed (by (with_reducible repeat (first | apply Kd.R_alloc | apply Kd.R_drewN | apply Kd.R_drew)); exact HO_8.out)) (by decide) hg); have n1_ := Aside0.mk (hb); have n2_ := Aside0.mk (ho); clear HO_7; clear HB; clear HO_8; have HO_7 := n0_; have HB := n1_; have HO298 := n2_; clear n0_ n1_ n2_; clear ho hb hg hat; obtain ⟨Ao204, co204, eo204⟩ := Kd.R_slice HO_7.out; subst eo204; obtain ⟨Ao205, co205, eo205⟩ := Kd.R_slice HO298.out; subst eo205) | ((with_reducible refine gate_callee (f := 10) rfl ?_); refine goesL_ (some 79) rfl rfl Tryd.func10 (by kernel_rfl) rfl #[.slice Ao204 x7_9.length co204, .int .i64 0, .slice Ao205 y296.length co205] rfl (by (try simp only [List.map_toArray, List.map_cons, List.map_nil]); first | done | rfl | (simp only [List.length_drop, List.length_take]; rfl) | (rw [hsame_])) ?_; (with_reducible refine (interp_Run.calls k4 _ _ x7_9 0 _ _ y296 t299 t300 t301 t302 t303 _ ?side1 ?side2 ?side3 ?side4 A41.out).mono ?_); (case side1 => repeat (first | exact (Kd.R_reads' HO_7.out).2.2 | (with_reducible refine Kd.C_alloc ?_ _) | (with_reducible refine Kd.C_drewN ?_ _) | (with_reducible refine Kd.C_drew ?_))); (case side2 => exact (Kd.R_reads' HO_7.out).2.1); (case side3 => repeat (first | exact (Kd.R_reads' HO298.out).2.2 | (with_reducible refine Kd.C_alloc ?_ _) | (with_reducible refine Kd.C_drewN ?_ _) | (with_reducible refine Kd.C_drew ?_))); (case side4 => exact (Kd.R_reads' HO298.out).2.1); rintro e w206 ⟨rfl, hb⟩; refine ⟨_, rfl, ?_⟩; have n0_ := Aside0.mk (Kd.R_below (by (with_reducible repeat (first | apply Kd.R_alloc | apply Kd.R_drewN | apply Kd.R_drew)); exact HO_7.out) hb); have n1_ := Aside0.mk (Kd.R_below (by (with_reducible repeat (first | apply Kd.R_alloc | apply Kd.R_drewN | apply Kd.R_drew)); exact HO298.out) hb); have n2_ := Aside0.mk (below_step (by repeat (first | (with_reducible first | exact HB.out | apply below_alloc | apply pw_below_drewN | apply below_drew1) | exact HB.out)) hb); clear HO_7; clear HO298; clear HB; have HO_7 := n0_; have HO298 := n1_; have HB := n2_; clear n0_ n1_ n2_; (try clear hb); (try clear hb2); (try clear hk); (try clear hi)) | ((with_reducible refine gate_dst (N := 13) rfl ?_); (try (refine gate_guard (by rfl) ?_; dsimp only)); refine box_event ?hg (N := 13) ?hd (cs := #[.int .i64 0, .int .i64 0, .bool false, .string (⟨#[]⟩ : ByteArray), .int .i64 0]) (t := 30) ?hr ?_; (case hd => rfl); (case hg => rfl); (case hr => first | (go_simp; done) | (go_simp; rfl)); intro gb304 hg w207 hbox hb; have n0_ := Aside0.mk (Kd.R_below (by (with_reducible repeat (first | apply Kd.R_alloc | apply Kd.R_drewN | apply Kd.R_drew)); exact HO_7.out) hb); have n1_ := Aside0.mk (Kd.R_below (by (with_reducible repeat (first | apply Kd.R_alloc | apply Kd.R_drewN | apply Kd.R_drew)); exact HO298.out) hb); have n2_ := Aside0.mk (below_step (by repeat (first | (with_reducible first | exact HB.out | apply below_alloc | apply pw_below_drewN | apply below_drew1) | exact HB.out)) hb); have n3_ := Aside0.mk (hbox); have n4_ := Aside0.mk ((by rw [hg]; exact (below_size (by repeat (first | (with_reducible first | exact HB.out | apply below_alloc | apply pw_below_drewN | apply below_drew1) | exact HB.out))) : w.heap.size ≤ gb304)); have n5_ := Aside0.mk ((by rw [hg]; exact (below_size (by repeat (first | (with_reducible first | exact HB.out | apply below_alloc | apply pw_below_drewN | apply below_drew1) | exact HB.out))) : w.heap.size ≤ gb304)); clear HO_7; clear HO298; clear HB; have HO_7 := n0_; have HO298 := n1_; have HB := n2_; have BK304 := n3_; have GW304 := n4_; have GE304 := n5_; clear n0_ n1_ n2_ n3_ n4_ n5_; clear hb hbox hg; have hcz208_0 : w207.cell? ⟨gb304, 0, none⟩ = some (.int .i64 0) := (blk_cell BK304.out 0).trans rfl; have hcz208_1 : w207.cell? ⟨gb304, 1, none⟩ = some (.int .i64 0) := (blk_cell BK304.out 1).trans rfl; have hcz208_2 : w207.cell? ⟨gb304, 2, none⟩ = some (.bool false) := (blk_cell BK304.out 2).trans rfl; have hcz208_3 : w207.cell? ⟨gb304, 3, none⟩ = some (.string (⟨#[]⟩ : ByteArray)) := (blk_cell BK304.out 3).trans rfl; have hcz208_4 : w207.cell? ⟨gb304, 4, none⟩ = some (.int .i64 0) := (blk_cell BK304.out 4).trans rfl; have hfz208_0 := blk_frozen BK304.out 0; have hfz208_1 := blk_frozen BK304.out 1; have hfz208_2 := blk_frozen BK304.out 2; have hfz208_3 := blk_frozen BK304.out 3; have hfz208_4 := blk_frozen BK304.out 4))
                  go_ret
                  exact ⟨by first | rfl | (simp [errW_none, errW_some] <;> rfl) | (simp [*, errW_none, errW_some] <;> rfl), by repeat (first | (with_reducible first | exact HB.out | apply below_alloc | apply pw_below_drewN | apply below_drew1 | refine below_set ?_ GE304.out) | exact HB.out)⟩
              ·rw [if_neg c40] at H
               exact absurd H (by simp)
          ·rw [if_neg c29] at H
           exact absurd H (by simp)
 ·replace c5 := Bool.eq_false_iff.mpr c5
  subst c5
  have H1 : (some false) = some r := by rw [if_neg (show ¬ (false = true) by decide)] at H; exact H
  clear H
  have H := H1
  clear H1
  obtain rfl := Option.some.inj H
  go_enter Tryd.func5, Tryd.ntmps5
  go_wp2_with (first | ((with_reducible refine gate_callee (f := 7) rfl ?_); refine goesL_ (some 15) rfl rfl Tryd.func7 (by kernel_rfl) rfl #[] rfl (by (try simp only [List.map_toArray, List.map_cons, List.map_nil]); first | done | rfl | (simp only [List.length_drop, List.length_take]; rfl) | (rw [hsame_])) ?_; (with_reducible refine (guichetlaw15_known.calls k  false _ A4.out).mono ?_); rintro e w209 ⟨rfl, hb⟩; refine ⟨_, rfl, ?_⟩; have n0_ := Aside0.mk (below_step (by repeat (first | (with_reducible first | exact HB.out | apply below_alloc | apply pw_below_drewN | apply below_drew1) | exact HB.out)) hb); clear HB; have HB := n0_; clear n0_; (try clear hb); (try clear hb2); (try clear hk); (try clear hi)))
  go_ret
  exact ⟨by first | rfl | (simp [errW_none, errW_some] <;> rfl) | (simp [*, errW_none, errW_some] <;> rfl), by repeat (first | (with_reducible first | exact HB.out | apply below_alloc | apply pw_below_drewN | apply below_drew1) | exact HB.out)⟩

/-- THE ONE PURE STATEMENT of guichetlaw15_WalkAsks. -/
def guichetlaw15_WalkAsks.Pure : Prop := ∀ (l0 : List Int) (l1 : List Int) (a2 : Bool), l0.length ≤ maxLen → l0.length * 1 ≤ 140737488351232 → (∀ x ∈ l0, (Lit.int .u8 x).wf = true) → l1.length ≤ maxLen → l1.length * 1 ≤ 140737488351232 → (∀ x ∈ l1, (Lit.int .u8 x).wf = true) → ∃ k, guichetlaw15_WalkAsks.f k l0 l1 a2 = some true
theorem guichetlaw15_WalkAsks.walk (P : guichetlaw15_WalkAsks.Pure) (a0 : Option Addr) (len0 cap0 : Nat) (z0 : List Int) (a1 : Option Addr) (len1 cap1 : Nat) (z1 : List Int) (a2 : Bool) (w : World) (w0 : (a0 = none ∧ len0 = 0 ∧ cap0 = 0 ∧ z0 = []) ∨ ∃ x, a0 = some x ∧ len0 ≤ cap0 ∧ cap0 ≤ maxLen ∧ z0.length = cap0 ∧ (∀ i, i < z0.length → w.cell? (x.add i) = some (.int .u8 (z0.getD i 0))) ∧ ∀ n ∈ z0, (Lit.int .u8 n).wf = true) (y0 : len0 * 1 ≤ 140737488351232) (w1 : (a1 = none ∧ len1 = 0 ∧ cap1 = 0 ∧ z1 = []) ∨ ∃ x, a1 = some x ∧ len1 ≤ cap1 ∧ cap1 ≤ maxLen ∧ z1.length = cap1 ∧ (∀ i, i < z1.length → w.cell? (x.add i) = some (.int .u8 (z1.getD i 0))) ∧ ∀ n ∈ z1, (Lit.int .u8 n).wf = true) (y1 : len1 * 1 ≤ 140737488351232) :
  Calls Tryd.prog 5 #[.slice a0 len0 cap0, .slice a1 len1 cap1, .bool a2] w fun e w' => e = .returned (.bool true) ∧ Below w.heap.size w w' := by
 obtain ⟨l0, rfl, hr0, hm0, hw0, hc0⟩ := ReadsInt.ofRowC w0
 obtain ⟨l1, rfl, hr1, hm1, hw1, hc1⟩ := ReadsInt.ofRowC w1
 obtain ⟨k, h⟩ := P l0 l1 a2 hm0 y0 hw0 hm1 y1 hw1
 refine (guichetlaw15_WalkAsks.calls k _ _ l0 _ _ l1 a2 true w (Kd.C_of_reads (d := (0 : Int)) (h1 := fun _ => rfl) hr0) hc0 (Kd.C_of_reads (d := (0 : Int)) (h1 := fun _ => rfl) hr1) hc1 h).mono ?_
 rintro e w' ⟨rfl, hd⟩
 exact ⟨rfl, hd⟩

end Go.Proofs.YtnnoanfiehjleaaDoor.PAll
