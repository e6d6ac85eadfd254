-- written by xprint.py out of the translation. Not trusted: Lean checks it.
import Derived.Test.YtnnoanfiehjleaaDoorPAllx0
import Derived.Test.YtnnoanfiehjleaaDoorPAllx1
import Derived.Test.YtnnoanfiehjleaaDoorPAllx3
import Derived.Test.YtnnoanfiehjleaaDoorPAllx4
import Derived.Test.YtnnoanfiehjleaaDoorPAllx6
namespace Go.Proofs.YtnnoanfiehjleaaDoor.PAll
open Go.RowKit Go.Proofs.YtnnoanfiehjleaaDoorW.PrintWords Go.Proofs.YtnnoanfiehjleaaDoorW.PrintLast Go.Proofs.YtnnoanfiehjleaaDoorW.PrintMore
attribute [local go_sem] max2_int min2_int max_two min_two max_three min_three max_four min_four   -- for this text's walks alone
set_option linter.unusedVariables false
set_option linter.unusedSimpArgs false

attribute [local go_sem high] eqA30
/-! ### guichetlaw15_WalkTells: function 3 -/
mutual
def guichetlaw15_WalkTells.j0 : Nat → List (S34) → List (S42) → Int → Int → List Int → ByteArray → Bool → Option (Bool)
 | 0, _, _, _, _, _, _, _ => none
 | k + 1, x0, x1, x2, x3, x4, x5, x35 => if x35 = true then (some true) else (guichetlaw15_WalkTells.l0 k x0 x1 x2 x3 x4 x5 ([] : List ByteArray) 0)
def guichetlaw15_WalkTells.l0 : Nat → List (S34) → List (S42) → Int → Int → List Int → ByteArray → List ByteArray → Int → Option (Bool)
 | 0, _, _, _, _, _, _, _, _ => none
 | k + 1, x0, x1, x2, x3, x4, x5, x13, x14 => if x14 < (x4.length : Int) then (if 0 ≤ x14 then ((guichetlaw15_input.f (rd x4 x14) x5).bind fun t211 => (if x13.length < 8796093022208 then (guichetlaw15_WalkTells.l0 k x0 x1 x2 x3 x4 x5 (x13 ++ [t211]) (wrap64 (x14 + 1))) else (none))) else (none)) else ((guichetseat_Table.f k x1 x2).bind fun t215 => ((interp_Run.f k t215 0 x13).bind fun bt218 => ((guichetref12_Run.f k t215 0 x13).bind fun bt223 => (if (bt218.1 == bt223.1 && (bt218.2.1 == bt223.2.1 && (bt218.2.2.1 == bt223.2.2.1 && (bt218.2.2.2.1.toList == bt223.2.2.2.1.toList && (bt218.2.2.2.2 == bt223.2.2.2.2))))) = true then ((interp_Run.f k x0 x3 x13).bind fun bt228 => ((guichetref12_Run.f k x0 x3 x13).bind fun bt233 => (if (bt228.1 == bt233.1 && (bt228.2.1 == bt233.2.1 && (bt228.2.2.1 == bt233.2.2.1 && (bt228.2.2.2.1.toList == bt233.2.2.2.1.toList && (bt228.2.2.2.2 == bt233.2.2.2.2))))) = true then ((interp_Run.f k t215 (Go.bits .and .i64 x3 7) x13).bind fun bt238 => ((guichetref12_Run.f k t215 (Go.bits .and .i64 x3 7) x13).bind fun bt243 => (some (bt238.1 == bt243.1 && (bt238.2.1 == bt243.2.1 && (bt238.2.2.1 == bt243.2.2.1 && (bt238.2.2.2.1.toList == bt243.2.2.2.1.toList && (bt238.2.2.2.2 == bt243.2.2.2.2)))))))) else (some false)))) else (some false)))))
end
def guichetlaw15_WalkTells.f (k : Nat) (l0 : List (S34)) (l1 : List (S42)) (a2 : Int) (a3 : Int) (l4 : List Int) (a5 : ByteArray) : Option (Bool) := (guichetlaw15_known.f k).bind fun t209 => (if t209 = true then (if (l0.length : Int) > 30 then (guichetlaw15_WalkTells.j0 k l0 l1 a2 a3 l4 a5 true) else (if (l1.length : Int) > 30 then (guichetlaw15_WalkTells.j0 k l0 l1 a2 a3 l4 a5 true) else (if (l4.length : Int) > 120 then (guichetlaw15_WalkTells.j0 k l0 l1 a2 a3 l4 a5 true) else (guichetlaw15_WalkTells.j0 k l0 l1 a2 a3 l4 a5 (decide ((a5.size : Int) > 40)))))) else (some false))
theorem guichetlaw15_WalkTells.mono_l : ∀ k, (∀ y0 y1 y2 y3 y4 y5 y6, LeO (guichetlaw15_WalkTells.j0 k y0 y1 y2 y3 y4 y5 y6) (guichetlaw15_WalkTells.j0 (k + 1) y0 y1 y2 y3 y4 y5 y6)) ∧ (∀ y0 y1 y2 y3 y4 y5 y6 y7, LeO (guichetlaw15_WalkTells.l0 k y0 y1 y2 y3 y4 y5 y6 y7) (guichetlaw15_WalkTells.l0 (k + 1) y0 y1 y2 y3 y4 y5 y6 y7))
 | 0 => ⟨fun _ _ _ _ _ _ _ r h => by simp [guichetlaw15_WalkTells.j0] at h, fun _ _ _ _ _ _ _ _ r h => by simp [guichetlaw15_WalkTells.l0] at h⟩
 | k + 1 => by
  obtain ⟨ih0, ih1⟩ := guichetlaw15_WalkTells.mono_l k
  refine ⟨?_, ?_⟩
  ·intro y0 y1 y2 y3 y4 y5 y6
   unfold guichetlaw15_WalkTells.j0
   repeat' first
   | (with_reducible exact ih0 _ _ _ _ _ _ _)
   | (with_reducible exact ih1 _ _ _ _ _ _ _ _)
   | (with_reducible exact guichetlaw15_known.mono _)
   | (with_reducible exact guichetref12_Run.mono _ _ _ _)
   | (with_reducible exact guichetseat_Table.mono _ _ _)
   | (with_reducible exact interp_Run.mono _ _ _ _)
   | (with_reducible exact LeO.refl _)
   | (with_reducible exact LeO.none _)
   | (with_reducible refine LeO.ite ?_ ?_)
   | (with_reducible refine LeO.bind ?_ (fun _ => ?_))
   | exact ih0 _ _ _ _ _ _ _
   | exact ih1 _ _ _ _ _ _ _ _
   | exact guichetlaw15_known.mono _
   | exact guichetref12_Run.mono _ _ _ _
   | exact guichetseat_Table.mono _ _ _
   | exact interp_Run.mono _ _ _ _
   | exact LeO.none _
   | refine LeO.ite ?_ ?_
   | refine LeO.bind ?_ (fun _ => ?_)
  ·intro y0 y1 y2 y3 y4 y5 y6 y7
   unfold guichetlaw15_WalkTells.l0
   repeat' first
   | (with_reducible exact ih0 _ _ _ _ _ _ _)
   | (with_reducible exact ih1 _ _ _ _ _ _ _ _)
   | (with_reducible exact guichetlaw15_known.mono _)
   | (with_reducible exact guichetref12_Run.mono _ _ _ _)
   | (with_reducible exact guichetseat_Table.mono _ _ _)
   | (with_reducible exact interp_Run.mono _ _ _ _)
   | (with_reducible exact LeO.refl _)
   | (with_reducible exact LeO.none _)
   | (with_reducible refine LeO.ite ?_ ?_)
   | (with_reducible refine LeO.bind ?_ (fun _ => ?_))
   | exact ih0 _ _ _ _ _ _ _
   | exact ih1 _ _ _ _ _ _ _ _
   | exact guichetlaw15_known.mono _
   | exact guichetref12_Run.mono _ _ _ _
   | exact guichetseat_Table.mono _ _ _
   | exact interp_Run.mono _ _ _ _
   | exact LeO.none _
   | refine LeO.ite ?_ ?_
   | refine LeO.bind ?_ (fun _ => ?_)
theorem guichetlaw15_WalkTells.mono : ∀ a0 a1 a2 a3 a4 a5 k, LeO (guichetlaw15_WalkTells.f k a0 a1 a2 a3 a4 a5) (guichetlaw15_WalkTells.f (k + 1) a0 a1 a2 a3 a4 a5) := by
 intro a0 a1 a2 a3 a4 a5 k
 obtain ⟨ih0, ih1⟩ := guichetlaw15_WalkTells.mono_l k
 unfold guichetlaw15_WalkTells.f
 repeat' first
   | (with_reducible exact ih0 _ _ _ _ _ _ _)
   | (with_reducible exact ih1 _ _ _ _ _ _ _ _)
   | (with_reducible exact guichetlaw15_known.mono _)
   | (with_reducible exact guichetref12_Run.mono _ _ _ _)
   | (with_reducible exact guichetseat_Table.mono _ _ _)
   | (with_reducible exact interp_Run.mono _ _ _ _)
   | (with_reducible exact LeO.refl _)
   | (with_reducible exact LeO.none _)
   | (with_reducible refine LeO.ite ?_ ?_)
   | (with_reducible refine LeO.bind ?_ (fun _ => ?_))
   | exact ih0 _ _ _ _ _ _ _
   | exact ih1 _ _ _ _ _ _ _ _
   | exact guichetlaw15_known.mono _
   | exact guichetref12_Run.mono _ _ _ _
   | exact guichetseat_Table.mono _ _ _
   | exact interp_Run.mono _ _ _ _
   | exact LeO.none _
   | refine LeO.ite ?_ ?_
   | refine LeO.bind ?_ (fun _ => ?_)
set_option maxHeartbeats 8000000 in
set_option maxRecDepth 100000 in
theorem guichetlaw15_WalkTells.calls (k : Nat) (A0 : Option Addr) (c0 : Nat) (l0 : List (S34)) (A1 : Option Addr) (c1 : Nat) (l1 : List (S42)) (a2 : Int) (a3 : Int) (A4 : Option Addr) (c4 : Nat) (l4 : List Int) (a5 : ByteArray) (r : Bool) (w : World) (hr0 : Kd.C k34 w A0 l0.length l0) (hc0 : l0.length ≤ c0) (hr1 : Kd.C k42 w A1 l1.length l1) (hc1 : l1.length ≤ c1) (hr4 : Kd.C (Kd.int .u8) w A4 l4.length l4) (hc4 : l4.length ≤ c4) (h : guichetlaw15_WalkTells.f k l0 l1 a2 a3 l4 a5 = some r) :
  Calls Tryd.prog 3 #[.slice A0 l0.length c0, .slice A1 l1.length c1, .int .u8 a2, .int .i64 a3, .slice A4 l4.length c4, .string a5] w fun e w' => e = .returned (.bool r) ∧ Below w.heap.size w w' := by
 have HR0 := Aside0.mk hr0
 have HC0 := Aside0.mk hc0
 clear hr0 hc0
 have HR1 := Aside0.mk hr1
 have HC1 := Aside0.mk hc1
 clear hr1 hc1
 have HR4 := Aside0.mk hr4
 have HC4 := Aside0.mk hc4
 clear hr4 hc4
 have HB := Aside0.mk (Below.refl w.heap.size w)
 have H : ((guichetlaw15_known.f k).bind fun t209 => (if t209 = true then (if (l0.length : Int) > 30 then (guichetlaw15_WalkTells.j0 k l0 l1 a2 a3 l4 a5 true) else (if (l1.length : Int) > 30 then (guichetlaw15_WalkTells.j0 k l0 l1 a2 a3 l4 a5 true) else (if (l4.length : Int) > 120 then (guichetlaw15_WalkTells.j0 k l0 l1 a2 a3 l4 a5 true) else (guichetlaw15_WalkTells.j0 k l0 l1 a2 a3 l4 a5 (decide ((a5.size : Int) > 40)))))) else (some false))) = some r := h
 clear h
 replace H := Option.bind_eq_some_iff.mp H
 obtain ⟨t209, A70, H⟩ := H
 replace H : (if t209 = true then (if (l0.length : Int) > 30 then (guichetlaw15_WalkTells.j0 k l0 l1 a2 a3 l4 a5 true) else (if (l1.length : Int) > 30 then (guichetlaw15_WalkTells.j0 k l0 l1 a2 a3 l4 a5 true) else (if (l4.length : Int) > 120 then (guichetlaw15_WalkTells.j0 k l0 l1 a2 a3 l4 a5 true) else (guichetlaw15_WalkTells.j0 k l0 l1 a2 a3 l4 a5 (decide ((a5.size : Int) > 40)))))) else (some false)) = some r := H
 have A7 := Aside0.mk A70
 clear A70
 by_cases c8 : t209 = true
 ·subst c8
  have H1 : (if (l0.length : Int) > 30 then (guichetlaw15_WalkTells.j0 k l0 l1 a2 a3 l4 a5 true) else (if (l1.length : Int) > 30 then (guichetlaw15_WalkTells.j0 k l0 l1 a2 a3 l4 a5 true) else (if (l4.length : Int) > 120 then (guichetlaw15_WalkTells.j0 k l0 l1 a2 a3 l4 a5 true) else (guichetlaw15_WalkTells.j0 k l0 l1 a2 a3 l4 a5 (decide ((a5.size : Int) > 40)))))) = some r := by rw [if_pos rfl] at H; exact H
  clear H
  have H := H1
  clear H1
  have HC9 := Aside0.mk H
  clear H
  go_enter Tryd.func3, Tryd.ntmps3
  go_upto_region 3 with (first | ((with_reducible refine gate_callee (f := 7) rfl ?_); refine goesL_ (some 16) rfl rfl Tryd.func7 (by kernel_rfl) rfl #[] rfl (by (try simp only [List.map_toArray, List.map_cons, List.map_nil]); first | done | rfl | (simp only [List.length_drop, List.length_take]; rfl) | (rw [hsame_])) ?_; (with_reducible refine (guichetlaw15_known.calls k  true _ A7.out).mono ?_); rintro e w10 ⟨rfl, hb⟩; refine ⟨_, rfl, ?_⟩; have n0_ := Aside0.mk (below_step (by repeat (first | (with_reducible first | exact HB.out | apply below_alloc | apply pw_below_drewN | apply below_drew1) | exact HB.out)) hb); clear HB; have HB := n0_; clear n0_; (try clear hb); (try clear hb2); (try clear hk); (try clear hi)))
  (try simp only [Act.put, List.setIfInBounds_toArray, List.set_cons_zero, List.set_cons_succ])
  go_cut [35] (fun v35 wc => ∃ (kq : Nat) (x35_8 : Bool), v35 = .bool x35_8 ∧ Aside0 (guichetlaw15_WalkTells.j0 kq l0 l1 a2 a3 l4 a5 x35_8 = some r) ∧ Aside0 (kq ≤ k) ∧ Aside0 (Below w.heap.size w wc))
  case first =>
   have H := HC9.out
   clear HC9
   by_cases c11 : (l0.length : Int) > 30
   ·rw [if_pos c11] at H
    have c11b0 : decide (30 < (l0.length : Int)) = true := decide_eq_true c11
    have c11b1 : decide (30 < l0.length) = true := decide_eq_true (by omega)
    clear c11
    (first | rw [c11b0] | (simp only [i64_w, i32_w]; rw [c11b0]) | skip)
    have H' := Aside0.mk H
    clear H
    go_wp2
    go_meet
    case rel => exact ⟨_, (true), (by first | rfl | (simp; done) | (simp [*]; done)), H', ⟨by first | omega | exact Nat.le_refl _⟩, ⟨by repeat (first | (with_reducible first | exact HB.out | apply below_alloc | apply pw_below_drewN | apply below_drew1) | exact HB.out)⟩⟩
   ·rw [if_neg c11] at H
    have c11b0 : decide (30 < (l0.length : Int)) = false := decide_eq_false c11
    have c11b1 : decide (30 < l0.length) = false := decide_eq_false (by omega)
    clear c11
    (first | rw [c11b0] | (simp only [i64_w, i32_w]; rw [c11b0]) | skip)
    by_cases c12 : (l1.length : Int) > 30
    ·rw [if_pos c12] at H
     have c12b0 : decide (30 < (l1.length : Int)) = true := decide_eq_true c12
     have c12b1 : decide (30 < l1.length) = true := decide_eq_true (by omega)
     clear c12
     have H' := Aside0.mk H
     clear H
     go_wp2
     go_meet
     case rel => exact ⟨_, (true), (by first | rfl | (simp; done) | (simp [*]; done)), H', ⟨by first | omega | exact Nat.le_refl _⟩, ⟨by repeat (first | (with_reducible first | exact HB.out | apply below_alloc | apply pw_below_drewN | apply below_drew1) | exact HB.out)⟩⟩
    ·rw [if_neg c12] at H
     have c12b0 : decide (30 < (l1.length : Int)) = false := decide_eq_false c12
     have c12b1 : decide (30 < l1.length) = false := decide_eq_false (by omega)
     clear c12
     by_cases c13 : (l4.length : Int) > 120
     ·rw [if_pos c13] at H
      have c13b0 : decide (120 < (l4.length : Int)) = true := decide_eq_true c13
      have c13b1 : decide (120 < l4.length) = true := decide_eq_true (by omega)
      clear c13
      have H' := Aside0.mk H
      clear H
      go_wp2
      go_meet
      case rel => exact ⟨_, (true), (by first | rfl | (simp; done) | (simp [*]; done)), H', ⟨by first | omega | exact Nat.le_refl _⟩, ⟨by repeat (first | (with_reducible first | exact HB.out | apply below_alloc | apply pw_below_drewN | apply below_drew1) | exact HB.out)⟩⟩
     ·rw [if_neg c13] at H
      have c13b0 : decide (120 < (l4.length : Int)) = false := decide_eq_false c13
      have c13b1 : decide (120 < l4.length) = false := decide_eq_false (by omega)
      clear c13
      have H' := Aside0.mk H
      clear H
      go_wp2
      go_meet
      case rel => exact ⟨_, (decide ((a5.size : Int) > 40)), (by first | rfl | (simp; done) | (simp [*]; done)), H', ⟨by first | omega | exact Nat.le_refl _⟩, ⟨by repeat (first | (with_reducible first | exact HB.out | apply below_alloc | apply pw_below_drewN | apply below_drew1) | exact HB.out)⟩⟩
  case rest =>
   clear HC9
   try clear c1
   try clear p2
   try clear c3
   try clear c4
   try clear c7
   try clear c8
   try clear c11
   try clear c11b0
   try clear c11b1
   try clear c12
   try clear c12b0
   try clear c12b1
   try clear c13
   try clear c13b0
   try clear c13b1
   obtain ⟨kq, x35_8, rfl, HA, HJ8, HB⟩ := hcut
   cases kq with
   | zero => exact absurd HA.out (by simp [guichetlaw15_WalkTells.j0])
   | succ kj8 =>
    have H := HA.out
    clear HA
    simp only [guichetlaw15_WalkTells.j0] at H
    by_cases c14 : x35_8 = true
    ·subst c14
     have H1 : (some true) = some r := by rw [if_pos rfl] at H; exact H
     clear H
     have H := H1
     clear H1
     obtain rfl := Option.some.inj H
     go_wp2
     go_ret
     exact ⟨by first | rfl | (simp [errW_none, errW_some] <;> rfl) | (simp [*, errW_none, errW_some] <;> rfl), by repeat (first | (with_reducible first | exact HB.out | apply below_alloc | apply pw_below_drewN | apply below_drew1) | exact HB.out)⟩
    ·replace c14 := Bool.eq_false_iff.mpr c14
     subst c14
     have H1 : (guichetlaw15_WalkTells.l0 kj8 l0 l1 a2 a3 l4 a5 ([] : List ByteArray) 0) = some r := by rw [if_neg (show ¬ (false = true) by decide)] at H; exact H
     clear H
     have H := H1
     clear H1
     have H' := Aside0.mk H
     clear H
     go_wp2
     go_loopg [13, 14] kj8 (fun kq v13 v14 w' => ∃ (x13_2 : List ByteArray) (x14_2 : Int), v14 = .int .i64 x14_2 ∧ Aside0 (guichetlaw15_WalkTells.l0 kq l0 l1 a2 a3 l4 a5 x13_2 x14_2 = some r) ∧ Aside0 (kq ≤ kj8) ∧ Aside0 (Kd.R Kd.string 9 w' w.heap.size (fun _ => True) v13 x13_2) ∧ Aside0 (Below w.heap.size w w'))
     case atStart => exact ⟨(([] : List ByteArray)), (0), (by first | rfl | (simp; done) | (simp [*]; done)), H', ⟨Nat.le_refl _⟩, ⟨by first | exact Kd.R_nil _ _ _ _ _ | exact Kd.N_nil _ _ _ _ _ | exact Kd.V_nil _ _ _ _ _ | exact Kd.Q_nil _ _ _ _ _ | exact Kd.S_nil _ _ _ _ _⟩, ⟨by repeat (first | (with_reducible first | exact HB.out | apply below_alloc | apply pw_below_drewN | apply below_drew1) | exact HB.out)⟩⟩
     case round =>
      clear H'
      try clear c1
      try clear p2
      try clear c3
      try clear c4
      try clear c7
      try clear c8
      try clear c11
      try clear c11b0
      try clear c11b1
      try clear c12
      try clear c12b0
      try clear c12b1
      try clear c13
      try clear c13b0
      try clear c13b1
      try clear c14
      try clear p2
      obtain ⟨x13_2, x14_2, rfl, HA, HK2, HO_13, HB⟩ := hrel
      cases gk with
      | zero => exact absurd HA.out (by simp [guichetlaw15_WalkTells.l0])
      | succ k2 =>
       have H := HA.out
       clear HA
       simp only [guichetlaw15_WalkTells.l0] at H
       by_cases c15 : x14_2 < (l4.length : Int)
       ·rw [if_pos c15] at H
        have c15b0 : decide (x14_2 < (l4.length : Int)) = true := decide_eq_true c15
        clear c15
        by_cases c16 : 0 ≤ x14_2
        ·rw [if_pos c16] at H
         have c16b0 : decide (0 ≤ x14_2) = true := decide_eq_true c16
         clear c16
         replace H := Option.bind_eq_some_iff.mp H
         obtain ⟨t211, A170, H⟩ := H
         replace H : (if x13_2.length < 8796093022208 then (guichetlaw15_WalkTells.l0 k2 l0 l1 a2 a3 l4 a5 (x13_2 ++ [t211]) (wrap64 (x14_2 + 1))) else (none)) = some r := H
         have A17 := Aside0.mk A170
         clear A170
         by_cases c18 : x13_2.length < 8796093022208
         ·rw [if_pos c18] at H
          have LMc18 := Aside0.mk c18
          clear c18
          obtain ⟨y212, hy212⟩ : ∃ y_ : List ByteArray, y_ = (x13_2 ++ [t211]) := ⟨_, rfl⟩
          replace H : (guichetlaw15_WalkTells.l0 k2 l0 l1 a2 a3 l4 a5 y212 (wrap64 (x14_2 + 1))) = some r := by first | (rw [hy212]; with_reducible exact H) | (have H2_ := (Option.bind_some _ _).symm.trans H; rw [hy212]; with_reducible exact H2_) | (have H2_ := (Option.bind_some _ _).symm.trans H; with_reducible exact H2_) | with_reducible exact H | (rw [hy212]; exact H) | exact H
          have Ny212 := Aside0.mk hy212
          clear hy212
          have H' := Aside0.mk H
          clear H
          have p210 : 0 ≤ (x14_2 : Int) := of_decide_eq_true (by first | (with_reducible assumption) | assumption)
          have q210 : x14_2 < (l4.length : Int) := of_decide_eq_true (by first | (with_reducible assumption) | assumption)
          obtain ⟨ad210, e210, hx210_0⟩ := Kd.at_int HR4.out x14_2 p210 q210
          cases e210
          replace hx210_0 := (HB.out.cell (World.block_lt_of_cell? w _ hx210_0)).trans hx210_0
          replace p210 := eq_true p210
          replace q210 := eq_true q210
          go_wp2_with (first | ((with_reducible refine gate_callee (f := 8) rfl ?_); refine goesL_ (some 48) rfl rfl Tryd.func8 (by kernel_rfl) rfl #[.int .u8 (rd l4 x14_2), .string a5] rfl (by (try simp only [List.map_toArray, List.map_cons, List.map_nil]); first | done | rfl | (simp only [List.length_drop, List.length_take]; rfl) | (rw [hsame_])) ?_; (with_reducible refine (guichetlaw15_input.calls (rd l4 x14_2) a5 t211 _ A17.out).mono ?_); rintro e w19 ⟨rfl, hb⟩; refine ⟨_, rfl, ?_⟩; have n0_ := Aside0.mk (Kd.R_below (by (with_reducible repeat (first | apply Kd.R_alloc | apply Kd.R_drewN | apply Kd.R_drew)); exact HO_13.out) hb); have n1_ := Aside0.mk (below_step (by repeat (first | (with_reducible first | exact HB.out | apply below_alloc | apply pw_below_drewN | apply below_drew1) | exact HB.out)) hb); clear HO_13; clear HB; have HO_13 := n0_; have HB := n1_; clear n0_ n1_; (try clear hb); (try clear hb2); (try clear hk); (try clear hi)) | ((with_reducible refine gate_builtin (b := .append) (xs := #[.tmp 42, .tmp 49]) rfl ?_); (try (refine gate_guard (by rfl) ?_; dsimp only)); at_builtin; refine Kd.R_append Kd.string (w0 := w) w.heap.size rfl (.tmp 42) (.tmp 49) 26 9 (.string ⟨#[]⟩) 16 rfl Tryd.underlying26 info9 rfl (by decide) (by omega) u13 x13_2 t211 [.string t211] (fun _ => True) (fun _ => False) rfl rfl ?aP (fun _ hk => hk.elim) ?aF ?aO ?aB ?aS ?aL ?_; (case aP => exact rfl); (case aB => exact (by repeat (first | (with_reducible first | exact HB.out | apply below_alloc | apply pw_below_drewN | apply below_drew1) | exact HB.out))); (case aF => exact (fun _ _ => trivial)); (case aO => exact (by (with_reducible repeat (first | apply Kd.R_alloc | apply Kd.R_drewN | apply Kd.R_drew)); exact HO_13.out)); (case aS => exact (below_size (by repeat (first | (with_reducible first | exact HB.out | apply below_alloc | apply pw_below_drewN | apply below_drew1) | exact HB.out)))); (case aL => have := LMc18.out; omega); intro v213 w20 ho hb hg hat; rw [← Ny212.out] at ho; have n0_ := Aside0.mk (hb); have n1_ := Aside0.mk (ho); clear HB; clear HO_13; have HB := n0_; have HO214 := n1_; clear n0_ n1_; clear ho hb hg hat))
          go_roundg k2
          case measure => have := HJ8.out; have := HK2.out; omega
          case rel => exact ⟨(y212), (wrap64 (x14_2 + 1)), (by first | rfl | (simp; done) | (simp [*]; done)), H', ⟨by have := HJ8.out; have := HK2.out; omega⟩, ⟨by (with_reducible repeat (first | apply Kd.R_alloc | apply Kd.R_drewN | apply Kd.R_drew)); exact HO214.out⟩, ⟨by repeat (first | (with_reducible first | exact HB.out | apply below_alloc | apply pw_below_drewN | apply below_drew1) | exact HB.out)⟩⟩
         ·rw [if_neg c18] at H
          exact absurd H (by simp)
        ·rw [if_neg c16] at H
         exact absurd H (by simp)
       ·rw [if_neg c15] at H
        have c15b0 : decide (x14_2 < (l4.length : Int)) = false := decide_eq_false c15
        clear c15
        replace H := Option.bind_eq_some_iff.mp H
        obtain ⟨t215, A210, H⟩ := H
        replace H : ((interp_Run.f k2 t215 0 x13_2).bind fun bt218 => ((guichetref12_Run.f k2 t215 0 x13_2).bind fun bt223 => (if (bt218.1 == bt223.1 && (bt218.2.1 == bt223.2.1 && (bt218.2.2.1 == bt223.2.2.1 && (bt218.2.2.2.1.toList == bt223.2.2.2.1.toList && (bt218.2.2.2.2 == bt223.2.2.2.2))))) = true then ((interp_Run.f k2 l0 a3 x13_2).bind fun bt228 => ((guichetref12_Run.f k2 l0 a3 x13_2).bind fun bt233 => (if (bt228.1 == bt233.1 && (bt228.2.1 == bt233.2.1 && (bt228.2.2.1 == bt233.2.2.1 && (bt228.2.2.2.1.toList == bt233.2.2.2.1.toList && (bt228.2.2.2.2 == bt233.2.2.2.2))))) = true then ((interp_Run.f k2 t215 (Go.bits .and .i64 a3 7) x13_2).bind fun bt238 => ((guichetref12_Run.f k2 t215 (Go.bits .and .i64 a3 7) x13_2).bind fun bt243 => (some (bt238.1 == bt243.1 && (bt238.2.1 == bt243.2.1 && (bt238.2.2.1 == bt243.2.2.1 && (bt238.2.2.2.1.toList == bt243.2.2.2.1.toList && (bt238.2.2.2.2 == bt243.2.2.2.2)))))))) else (some false)))) else (some false)))) = some r := H
        have A21 := Aside0.mk A210
        clear A210
        replace H := Option.bind_eq_some_iff.mp H
        obtain ⟨⟨t218, t219, t220, t221, t222⟩, A220, H⟩ := H
        replace H : ((guichetref12_Run.f k2 t215 0 x13_2).bind fun bt223 => (if (t218 == bt223.1 && (t219 == bt223.2.1 && (t220 == bt223.2.2.1 && (t221.toList == bt223.2.2.2.1.toList && (t222 == bt223.2.2.2.2))))) = true then ((interp_Run.f k2 l0 a3 x13_2).bind fun bt228 => ((guichetref12_Run.f k2 l0 a3 x13_2).bind fun bt233 => (if (bt228.1 == bt233.1 && (bt228.2.1 == bt233.2.1 && (bt228.2.2.1 == bt233.2.2.1 && (bt228.2.2.2.1.toList == bt233.2.2.2.1.toList && (bt228.2.2.2.2 == bt233.2.2.2.2))))) = true then ((interp_Run.f k2 t215 (Go.bits .and .i64 a3 7) x13_2).bind fun bt238 => ((guichetref12_Run.f k2 t215 (Go.bits .and .i64 a3 7) x13_2).bind fun bt243 => (some (bt238.1 == bt243.1 && (bt238.2.1 == bt243.2.1 && (bt238.2.2.1 == bt243.2.2.1 && (bt238.2.2.2.1.toList == bt243.2.2.2.1.toList && (bt238.2.2.2.2 == bt243.2.2.2.2)))))))) else (some false)))) else (some false))) = some r := H
        have A22 := Aside0.mk A220
        clear A220
        replace H := Option.bind_eq_some_iff.mp H
        obtain ⟨⟨t223, t224, t225, t226, t227⟩, A230, H⟩ := H
        replace H : (if (t218 == t223 && (t219 == t224 && (t220 == t225 && (t221.toList == t226.toList && (t222 == t227))))) = true then ((interp_Run.f k2 l0 a3 x13_2).bind fun bt228 => ((guichetref12_Run.f k2 l0 a3 x13_2).bind fun bt233 => (if (bt228.1 == bt233.1 && (bt228.2.1 == bt233.2.1 && (bt228.2.2.1 == bt233.2.2.1 && (bt228.2.2.2.1.toList == bt233.2.2.2.1.toList && (bt228.2.2.2.2 == bt233.2.2.2.2))))) = true then ((interp_Run.f k2 t215 (Go.bits .and .i64 a3 7) x13_2).bind fun bt238 => ((guichetref12_Run.f k2 t215 (Go.bits .and .i64 a3 7) x13_2).bind fun bt243 => (some (bt238.1 == bt243.1 && (bt238.2.1 == bt243.2.1 && (bt238.2.2.1 == bt243.2.2.1 && (bt238.2.2.2.1.toList == bt243.2.2.2.1.toList && (bt238.2.2.2.2 == bt243.2.2.2.2)))))))) else (some false)))) else (some false)) = some r := H
        have A23 := Aside0.mk A230
        clear A230
        by_cases c24 : (t218 == t223 && (t219 == t224 && (t220 == t225 && (t221.toList == t226.toList && (t222 == t227))))) = true
        ·rw [if_pos c24] at H
         have c24b0 : (t218 == t223 && (t219 == t224 && (t220 == t225 && (t221.toList == t226.toList && (t222 == t227))))) = true := c24
         (try (have c24b1 : decide (t218 = t223 && (t219 == t224 && (t220 == t225 && (t221.toList == t226.toList && (t222 == t227))))) = true := by simpa using c24))
         (try (have c24b2 : (t218 == t223 && (t219 == t224 && (t220 == t225 && (t221.toList == t226.toList && (t222 == t227))))) = true := by simpa using c24))
         clear c24
         replace H := Option.bind_eq_some_iff.mp H
         obtain ⟨⟨t228, t229, t230, t231, t232⟩, A250, H⟩ := H
         replace H : ((guichetref12_Run.f k2 l0 a3 x13_2).bind fun bt233 => (if (t228 == bt233.1 && (t229 == bt233.2.1 && (t230 == bt233.2.2.1 && (t231.toList == bt233.2.2.2.1.toList && (t232 == bt233.2.2.2.2))))) = true then ((interp_Run.f k2 t215 (Go.bits .and .i64 a3 7) x13_2).bind fun bt238 => ((guichetref12_Run.f k2 t215 (Go.bits .and .i64 a3 7) x13_2).bind fun bt243 => (some (bt238.1 == bt243.1 && (bt238.2.1 == bt243.2.1 && (bt238.2.2.1 == bt243.2.2.1 && (bt238.2.2.2.1.toList == bt243.2.2.2.1.toList && (bt238.2.2.2.2 == bt243.2.2.2.2)))))))) else (some false))) = some r := H
         have A25 := Aside0.mk A250
         clear A250
         replace H := Option.bind_eq_some_iff.mp H
         obtain ⟨⟨t233, t234, t235, t236, t237⟩, A260, H⟩ := H
         replace H : (if (t228 == t233 && (t229 == t234 && (t230 == t235 && (t231.toList == t236.toList && (t232 == t237))))) = true then ((interp_Run.f k2 t215 (Go.bits .and .i64 a3 7) x13_2).bind fun bt238 => ((guichetref12_Run.f k2 t215 (Go.bits .and .i64 a3 7) x13_2).bind fun bt243 => (some (bt238.1 == bt243.1 && (bt238.2.1 == bt243.2.1 && (bt238.2.2.1 == bt243.2.2.1 && (bt238.2.2.2.1.toList == bt243.2.2.2.1.toList && (bt238.2.2.2.2 == bt243.2.2.2.2)))))))) else (some false)) = some r := H
         have A26 := Aside0.mk A260
         clear A260
         by_cases c27 : (t228 == t233 && (t229 == t234 && (t230 == t235 && (t231.toList == t236.toList && (t232 == t237))))) = true
         ·rw [if_pos c27] at H
          have c27b0 : (t228 == t233 && (t229 == t234 && (t230 == t235 && (t231.toList == t236.toList && (t232 == t237))))) = true := c27
          (try (have c27b1 : decide (t228 = t233 && (t229 == t234 && (t230 == t235 && (t231.toList == t236.toList && (t232 == t237))))) = true := by simpa using c27))
          (try (have c27b2 : (t228 == t233 && (t229 == t234 && (t230 == t235 && (t231.toList == t236.toList && (t232 == t237))))) = true := by simpa using c27))
          clear c27
          replace H := Option.bind_eq_some_iff.mp H
          obtain ⟨⟨t238, t239, t240, t241, t242⟩, A280, H⟩ := H
          replace H : ((guichetref12_Run.f k2 t215 (Go.bits .and .i64 a3 7) x13_2).bind fun bt243 => (some (t238 == bt243.1 && (t239 == bt243.2.1 && (t240 == bt243.2.2.1 && (t241.toList == bt243.2.2.2.1.toList && (t242 == bt243.2.2.2.2))))))) = some r := H
          have A28 := Aside0.mk A280
          clear A280
          replace H := Option.bind_eq_some_iff.mp H
          obtain ⟨⟨t243, t244, t245, t246, t247⟩, A290, H⟩ := H
          replace H : (some (t238 == t243 && (t239 == t244 && (t240 == t245 && (t241.toList == t246.toList && (t242 == t247)))))) = some r := H
          have A29 := Aside0.mk A290
          clear A290
          obtain rfl := Option.some.inj H
          (try rw [c15b0] at c24b0)
          (try rw [c27b0] at c24b0)
          (try simp at c24b0)
          (try rw [c15b0] at c27b0)
          (try rw [c24b0] at c27b0)
          (try simp at c27b0)
          go_wp2_with (first | ((with_reducible refine gate_callee (f := 9) rfl ?_); refine goesL_ (some 53) rfl rfl Tryd.func9 (by kernel_rfl) rfl #[.slice A1 l1.length c1, .int .u8 a2] rfl (by (try simp only [List.map_toArray, List.map_cons, List.map_nil]); first | done | rfl | (simp only [List.length_drop, List.length_take]; rfl) | (rw [hsame_])) ?_; (with_reducible refine (guichetseat_Table.calls k2 _ _ l1 a2 t215 _ ?side1 ?side2 A21.out).mono ?_); (case side1 => repeat (first | exact (Kd.C_below HR1.out HB.out) | (with_reducible refine Kd.C_alloc ?_ _) | (with_reducible refine Kd.C_drewN ?_ _) | (with_reducible refine Kd.C_drew ?_))); (case side2 => exact HC1.out); rintro e w30 ⟨v216, rfl, ho0, hb⟩; refine ⟨_, rfl, ?_⟩; have n0_ := Aside0.mk (Kd.R_below (by (with_reducible repeat (first | apply Kd.R_alloc | apply Kd.R_drewN | apply Kd.R_drew)); exact HO_13.out) hb); have n1_ := Aside0.mk (Kd.R_lower ho0 (below_size (by repeat (first | (with_reducible first | exact HB.out | apply below_alloc | apply pw_below_drewN | apply below_drew1) | exact HB.out)))); have n2_ := Aside0.mk (below_step (by repeat (first | (with_reducible first | exact HB.out | apply below_alloc | apply pw_below_drewN | apply below_drew1) | exact HB.out)) hb); clear HO_13; clear HB; have HO_13 := n0_; have HO217 := n1_; have HB := n2_; clear n0_ n1_ n2_; (try clear hb); (try clear hb2); (try clear hk); (try clear hi); (try clear ho0); obtain ⟨Ao31, co31, eo31⟩ := Kd.R_slice HO217.out; subst eo31; obtain ⟨Ao32, co32, eo32⟩ := Kd.R_slice HO_13.out; subst eo32) | ((with_reducible refine gate_callee (f := 10) rfl ?_); refine goesL_ (some 56) rfl rfl Tryd.func10 (by kernel_rfl) rfl #[.slice Ao31 t215.length co31, .int .i64 0, .slice Ao32 x13_2.length co32] rfl (by (try simp only [List.map_toArray, List.map_cons, List.map_nil]); first | done | rfl | (simp only [List.length_drop, List.length_take]; rfl) | (rw [hsame_])) ?_; (with_reducible refine (interp_Run.calls k2 _ _ t215 0 _ _ x13_2 t218 t219 t220 t221 t222 _ ?side1 ?side2 ?side3 ?side4 A22.out).mono ?_); (case side1 => repeat (first | exact (Kd.R_reads' HO217.out).2.2 | (with_reducible refine Kd.C_alloc ?_ _) | (with_reducible refine Kd.C_drewN ?_ _) | (with_reducible refine Kd.C_drew ?_))); (case side2 => exact (Kd.R_reads' HO217.out).2.1); (case side3 => repeat (first | exact (Kd.R_reads' HO_13.out).2.2 | (with_reducible refine Kd.C_alloc ?_ _) | (with_reducible refine Kd.C_drewN ?_ _) | (with_reducible refine Kd.C_drew ?_))); (case side4 => exact (Kd.R_reads' HO_13.out).2.1); rintro e w33 ⟨rfl, hb⟩; refine ⟨_, rfl, ?_⟩; have n0_ := Aside0.mk (Kd.R_below (by (with_reducible repeat (first | apply Kd.R_alloc | apply Kd.R_drewN | apply Kd.R_drew)); exact HO_13.out) hb); have n1_ := Aside0.mk (Kd.R_below (by (with_reducible repeat (first | apply Kd.R_alloc | apply Kd.R_drewN | apply Kd.R_drew)); exact HO217.out) hb); have n2_ := Aside0.mk (below_step (by repeat (first | (with_reducible first | exact HB.out | apply below_alloc | apply pw_below_drewN | apply below_drew1) | exact HB.out)) hb); clear HO_13; clear HO217; clear HB; have HO_13 := n0_; have HO217 := n1_; have HB := n2_; clear n0_ n1_ n2_; (try clear hb); (try clear hb2); (try clear hk); (try clear hi)) | ((with_reducible refine gate_callee (f := 11) rfl ?_); refine goesL_ (some 59) rfl rfl Tryd.func11 (by kernel_rfl) rfl #[.slice Ao31 t215.length co31, .int .i64 0, .slice Ao32 x13_2.length co32] rfl (by (try simp only [List.map_toArray, List.map_cons, List.map_nil]); first | done | rfl | (simp only [List.length_drop, List.length_take]; rfl) | (rw [hsame_])) ?_; (with_reducible refine (guichetref12_Run.calls k2 _ _ t215 0 (fun k_ => some k_ = (.slice Ao32 x13_2.length co32 : Value).ownBlock) _ _ x13_2 t223 t224 t225 t226 t227 _ ?side1 ?side2 ?side3 A23.out).mono ?_); (case side1 => repeat (first | exact (Kd.R_reads' HO217.out).2.2 | (with_reducible refine Kd.C_alloc ?_ _) | (with_reducible refine Kd.C_drewN ?_ _) | (with_reducible refine Kd.C_drew ?_))); (case side2 => exact (Kd.R_reads' HO217.out).2.1); (case side3 => exact Kd.R_V (Kd.R_tight rfl (Kd.R_apart' (HO_13.out) (Kd.R_typed HO217.out) (by decide)))); rintro e w34 ⟨rfl, hb⟩; refine ⟨_, rfl, ?_⟩; have n0_ := Aside0.mk (Kd.R_below (by (with_reducible repeat (first | apply Kd.R_alloc | apply Kd.R_drewN | apply Kd.R_drew)); exact HO_13.out) hb); have n1_ := Aside0.mk (Kd.R_below (by (with_reducible repeat (first | apply Kd.R_alloc | apply Kd.R_drewN | apply Kd.R_drew)); exact HO217.out) hb); have n2_ := Aside0.mk (below_step (by repeat (first | (with_reducible first | exact HB.out | apply below_alloc | apply pw_below_drewN | apply below_drew1) | exact HB.out)) hb); clear HO_13; clear HO217; clear HB; have HO_13 := n0_; have HO217 := n1_; have HB := n2_; clear n0_ n1_ n2_; (try clear hb); (try clear hb2); (try clear hk); (try clear hi)) | (go_at_call 10; (with_reducible refine (interp_Run.calls k2 _ _ l0 a3 _ _ x13_2 t228 t229 t230 t231 t232 _ ?side1 ?side2 ?side3 ?side4 A25.out).mono ?_); (case side1 => repeat (first | exact (Kd.C_below HR0.out HB.out) | (with_reducible refine Kd.C_alloc ?_ _) | (with_reducible refine Kd.C_drewN ?_ _) | (with_reducible refine Kd.C_drew ?_))); (case side2 => exact HC0.out); (case side3 => repeat (first | exact (Kd.R_reads' HO_13.out).2.2 | (with_reducible refine Kd.C_alloc ?_ _) | (with_reducible refine Kd.C_drewN ?_ _) | (with_reducible refine Kd.C_drew ?_))); (case side4 => exact (Kd.R_reads' HO_13.out).2.1); rintro e w35 ⟨rfl, hb⟩; have n0_ := Aside0.mk (Kd.R_below (by (with_reducible repeat (first | apply Kd.R_alloc | apply Kd.R_drewN | apply Kd.R_drew)); exact HO_13.out) hb); have n1_ := Aside0.mk (Kd.R_below (by (with_reducible repeat (first | apply Kd.R_alloc | apply Kd.R_drewN | apply Kd.R_drew)); exact HO217.out) hb); have n2_ := Aside0.mk (below_step (by repeat (first | (with_reducible first | exact HB.out | apply below_alloc | apply pw_below_drewN | apply below_drew1) | exact HB.out)) hb); clear HO_13; clear HO217; clear HB; have HO_13 := n0_; have HO217 := n1_; have HB := n2_; clear n0_ n1_ n2_; (try clear hb); (try clear hb2); (try clear hk); (try clear hi)) | (go_at_call 11; (with_reducible refine (guichetref12_Run.calls k2 _ _ l0 a3 (fun k_ => some k_ = (.slice Ao32 x13_2.length co32 : Value).ownBlock) _ _ x13_2 t233 t234 t235 t236 t237 _ ?side1 ?side2 ?side3 A26.out).mono ?_); (case side1 => repeat (first | exact (Kd.C_below HR0.out HB.out) | (with_reducible refine Kd.C_alloc ?_ _) | (with_reducible refine Kd.C_drewN ?_ _) | (with_reducible refine Kd.C_drew ?_))); (case side2 => exact HC0.out); (case side3 => exact Kd.R_V (Kd.R_tight rfl (Kd.R_apart' (HO_13.out) (Kd.R_typed HO217.out) (by decide)))); rintro e w36 ⟨rfl, hb⟩; have n0_ := Aside0.mk (Kd.R_below (by (with_reducible repeat (first | apply Kd.R_alloc | apply Kd.R_drewN | apply Kd.R_drew)); exact HO_13.out) hb); have n1_ := Aside0.mk (Kd.R_below (by (with_reducible repeat (first | apply Kd.R_alloc | apply Kd.R_drewN | apply Kd.R_drew)); exact HO217.out) hb); have n2_ := Aside0.mk (below_step (by repeat (first | (with_reducible first | exact HB.out | apply below_alloc | apply pw_below_drewN | apply below_drew1) | exact HB.out)) hb); clear HO_13; clear HO217; clear HB; have HO_13 := n0_; have HO217 := n1_; have HB := n2_; clear n0_ n1_ n2_; (try clear hb); (try clear hb2); (try clear hk); (try clear hi)) | (go_at_call 10; (with_reducible refine (interp_Run.calls k2 _ _ t215 (Go.bits .and .i64 a3 7) _ _ x13_2 t238 t239 t240 t241 t242 _ ?side1 ?side2 ?side3 ?side4 A28.out).mono ?_); (case side1 => repeat (first | exact (Kd.R_reads' HO217.out).2.2 | (with_reducible refine Kd.C_alloc ?_ _) | (with_reducible refine Kd.C_drewN ?_ _) | (with_reducible refine Kd.C_drew ?_))); (case side2 => exact (Kd.R_reads' HO217.out).2.1); (case side3 => repeat (first | exact (Kd.R_reads' HO_13.out).2.2 | (with_reducible refine Kd.C_alloc ?_ _) | (with_reducible refine Kd.C_drewN ?_ _) | (with_reducible refine Kd.C_drew ?_))); (case side4 => exact (Kd.R_reads' HO_13.out).2.1); rintro e w37 ⟨rfl, hb⟩; have n0_ := Aside0.mk (Kd.R_below (by (with_reducible repeat (first | apply Kd.R_alloc | apply Kd.R_drewN | apply Kd.R_drew)); exact HO_13.out) hb); have n1_ := Aside0.mk (Kd.R_below (by (with_reducible repeat (first | apply Kd.R_alloc | apply Kd.R_drewN | apply Kd.R_drew)); exact HO217.out) hb); have n2_ := Aside0.mk (below_step (by repeat (first | (with_reducible first | exact HB.out | apply below_alloc | apply pw_below_drewN | apply below_drew1) | exact HB.out)) hb); clear HO_13; clear HO217; clear HB; have HO_13 := n0_; have HO217 := n1_; have HB := n2_; clear n0_ n1_ n2_; (try clear hb); (try clear hb2); (try clear hk); (try clear hi)) | (go_at_call 11; (with_reducible refine (guichetref12_Run.calls k2 _ _ t215 (Go.bits .and .i64 a3 7) (fun k_ => some k_ = (.slice Ao32 x13_2.length co32 : Value).ownBlock) _ _ x13_2 t243 t244 t245 t246 t247 _ ?side1 ?side2 ?side3 A29.out).mono ?_); (case side1 => repeat (first | exact (Kd.R_reads' HO217.out).2.2 | (with_reducible refine Kd.C_alloc ?_ _) | (with_reducible refine Kd.C_drewN ?_ _) | (with_reducible refine Kd.C_drew ?_))); (case side2 => exact (Kd.R_reads' HO217.out).2.1); (case side3 => exact Kd.R_V (Kd.R_tight rfl (Kd.R_apart' (HO_13.out) (Kd.R_typed HO217.out) (by decide)))); rintro e w38 ⟨rfl, hb⟩; have n0_ := Aside0.mk (Kd.R_below (by (with_reducible repeat (first | apply Kd.R_alloc | apply Kd.R_drewN | apply Kd.R_drew)); exact HO_13.out) hb); have n1_ := Aside0.mk (Kd.R_below (by (with_reducible repeat (first | apply Kd.R_alloc | apply Kd.R_drewN | apply Kd.R_drew)); exact HO217.out) hb); have n2_ := Aside0.mk (below_step (by repeat (first | (with_reducible first | exact HB.out | apply below_alloc | apply pw_below_drewN | apply below_drew1) | exact HB.out)) hb); clear HO_13; clear HO217; clear HB; have HO_13 := n0_; have HO217 := n1_; have HB := n2_; clear n0_ n1_ n2_; (try clear hb); (try clear hb2); (try clear hk); (try clear hi)))
          go_ret
          exact ⟨by first | rfl | (simp [errW_none, errW_some] <;> rfl) | (simp [*, errW_none, errW_some] <;> rfl), by repeat (first | (with_reducible first | exact HB.out | apply below_alloc | apply pw_below_drewN | apply below_drew1) | exact HB.out)⟩
         ·rw [if_neg c27] at H
          have c27b0 : (t228 == t233 && (t229 == t234 && (t230 == t235 && (t231.toList == t236.toList && (t232 == t237))))) = false := by simpa using c27
          (try (have c27b1 : decide (t228 = t233 && (t229 == t234 && (t230 == t235 && (t231.toList == t236.toList && (t232 == t237))))) = false := by simpa using c27))
          (try (have c27b2 : (t228 == t233 && (t229 == t234 && (t230 == t235 && (t231.toList == t236.toList && (t232 == t237))))) = false := by simpa using c27))
          (try (have c27b3 : ¬ (t228 = t233 && (t229 == t234 && (t230 == t235 && (t231.toList == t236.toList && (t232 == t237))))) := by simpa using c27))
          clear c27
          obtain rfl := Option.some.inj H
          (try rw [c15b0] at c24b0)
          (try rw [c27b0] at c24b0)
          (try simp at c24b0)
          (try rw [c15b0] at c27b0)
          (try rw [c24b0] at c27b0)
          (try simp at c27b0)
          go_wp2_with (first | ((with_reducible refine gate_callee (f := 9) rfl ?_); refine goesL_ (some 53) rfl rfl Tryd.func9 (by kernel_rfl) rfl #[.slice A1 l1.length c1, .int .u8 a2] rfl (by (try simp only [List.map_toArray, List.map_cons, List.map_nil]); first | done | rfl | (simp only [List.length_drop, List.length_take]; rfl) | (rw [hsame_])) ?_; (with_reducible refine (guichetseat_Table.calls k2 _ _ l1 a2 t215 _ ?side1 ?side2 A21.out).mono ?_); (case side1 => repeat (first | exact (Kd.C_below HR1.out HB.out) | (with_reducible refine Kd.C_alloc ?_ _) | (with_reducible refine Kd.C_drewN ?_ _) | (with_reducible refine Kd.C_drew ?_))); (case side2 => exact HC1.out); rintro e w39 ⟨v216, rfl, ho0, hb⟩; refine ⟨_, rfl, ?_⟩; have n0_ := Aside0.mk (Kd.R_below (by (with_reducible repeat (first | apply Kd.R_alloc | apply Kd.R_drewN | apply Kd.R_drew)); exact HO_13.out) hb); have n1_ := Aside0.mk (Kd.R_lower ho0 (below_size (by repeat (first | (with_reducible first | exact HB.out | apply below_alloc | apply pw_below_drewN | apply below_drew1) | exact HB.out)))); have n2_ := Aside0.mk (below_step (by repeat (first | (with_reducible first | exact HB.out | apply below_alloc | apply pw_below_drewN | apply below_drew1) | exact HB.out)) hb); clear HO_13; clear HB; have HO_13 := n0_; have HO217 := n1_; have HB := n2_; clear n0_ n1_ n2_; (try clear hb); (try clear hb2); (try clear hk); (try clear hi); (try clear ho0); obtain ⟨Ao40, co40, eo40⟩ := Kd.R_slice HO217.out; subst eo40; obtain ⟨Ao41, co41, eo41⟩ := Kd.R_slice HO_13.out; subst eo41) | ((with_reducible refine gate_callee (f := 10) rfl ?_); refine goesL_ (some 56) rfl rfl Tryd.func10 (by kernel_rfl) rfl #[.slice Ao40 t215.length co40, .int .i64 0, .slice Ao41 x13_2.length co41] rfl (by (try simp only [List.map_toArray, List.map_cons, List.map_nil]); first | done | rfl | (simp only [List.length_drop, List.length_take]; rfl) | (rw [hsame_])) ?_; (with_reducible refine (interp_Run.calls k2 _ _ t215 0 _ _ x13_2 t218 t219 t220 t221 t222 _ ?side1 ?side2 ?side3 ?side4 A22.out).mono ?_); (case side1 => repeat (first | exact (Kd.R_reads' HO217.out).2.2 | (with_reducible refine Kd.C_alloc ?_ _) | (with_reducible refine Kd.C_drewN ?_ _) | (with_reducible refine Kd.C_drew ?_))); (case side2 => exact (Kd.R_reads' HO217.out).2.1); (case side3 => repeat (first | exact (Kd.R_reads' HO_13.out).2.2 | (with_reducible refine Kd.C_alloc ?_ _) | (with_reducible refine Kd.C_drewN ?_ _) | (with_reducible refine Kd.C_drew ?_))); (case side4 => exact (Kd.R_reads' HO_13.out).2.1); rintro e w42 ⟨rfl, hb⟩; refine ⟨_, rfl, ?_⟩; have n0_ := Aside0.mk (Kd.R_below (by (with_reducible repeat (first | apply Kd.R_alloc | apply Kd.R_drewN | apply Kd.R_drew)); exact HO_13.out) hb); have n1_ := Aside0.mk (Kd.R_below (by (with_reducible repeat (first | apply Kd.R_alloc | apply Kd.R_drewN | apply Kd.R_drew)); exact HO217.out) hb); have n2_ := Aside0.mk (below_step (by repeat (first | (with_reducible first | exact HB.out | apply below_alloc | apply pw_below_drewN | apply below_drew1) | exact HB.out)) hb); clear HO_13; clear HO217; clear HB; have HO_13 := n0_; have HO217 := n1_; have HB := n2_; clear n0_ n1_ n2_; (try clear hb); (try clear hb2); (try clear hk); (try clear hi)) | ((with_reducible refine gate_callee (f := 11) rfl ?_); refine goesL_ (some 59) rfl rfl Tryd.func11 (by kernel_rfl) rfl #[.slice Ao40 t215.length co40, .int .i64 0, .slice Ao41 x13_2.length co41] rfl (by (try simp only [List.map_toArray, List.map_cons, List.map_nil]); first | done | rfl | (simp only [List.length_drop, List.length_take]; rfl) | (rw [hsame_])) ?_; (with_reducible refine (guichetref12_Run.calls k2 _ _ t215 0 (fun k_ => some k_ = (.slice Ao41 x13_2.length co41 : Value).ownBlock) _ _ x13_2 t223 t224 t225 t226 t227 _ ?side1 ?side2 ?side3 A23.out).mono ?_); (case side1 => repeat (first | exact (Kd.R_reads' HO217.out).2.2 | (with_reducible refine Kd.C_alloc ?_ _) | (with_reducible refine Kd.C_drewN ?_ _) | (with_reducible refine Kd.C_drew ?_))); (case side2 => exact (Kd.R_reads' HO217.out).2.1); (case side3 => exact Kd.R_V (Kd.R_tight rfl (Kd.R_apart' (HO_13.out) (Kd.R_typed HO217.out) (by decide)))); rintro e w43 ⟨rfl, hb⟩; refine ⟨_, rfl, ?_⟩; have n0_ := Aside0.mk (Kd.R_below (by (with_reducible repeat (first | apply Kd.R_alloc | apply Kd.R_drewN | apply Kd.R_drew)); exact HO_13.out) hb); have n1_ := Aside0.mk (Kd.R_below (by (with_reducible repeat (first | apply Kd.R_alloc | apply Kd.R_drewN | apply Kd.R_drew)); exact HO217.out) hb); have n2_ := Aside0.mk (below_step (by repeat (first | (with_reducible first | exact HB.out | apply below_alloc | apply pw_below_drewN | apply below_drew1) | exact HB.out)) hb); clear HO_13; clear HO217; clear HB; have HO_13 := n0_; have HO217 := n1_; have HB := n2_; clear n0_ n1_ n2_; (try clear hb); (try clear hb2); (try clear hk); (try clear hi)) | (go_at_call 10; (with_reducible refine (interp_Run.calls k2 _ _ l0 a3 _ _ x13_2 t228 t229 t230 t231 t232 _ ?side1 ?side2 ?side3 ?side4 A25.out).mono ?_); (case side1 => repeat (first | exact (Kd.C_below HR0.out HB.out) | (with_reducible refine Kd.C_alloc ?_ _) | (with_reducible refine Kd.C_drewN ?_ _) | (with_reducible refine Kd.C_drew ?_))); (case side2 => exact HC0.out); (case side3 => repeat (first | exact (Kd.R_reads' HO_13.out).2.2 | (with_reducible refine Kd.C_alloc ?_ _) | (with_reducible refine Kd.C_drewN ?_ _) | (with_reducible refine Kd.C_drew ?_))); (case side4 => exact (Kd.R_reads' HO_13.out).2.1); rintro e w44 ⟨rfl, hb⟩; have n0_ := Aside0.mk (Kd.R_below (by (with_reducible repeat (first | apply Kd.R_alloc | apply Kd.R_drewN | apply Kd.R_drew)); exact HO_13.out) hb); have n1_ := Aside0.mk (Kd.R_below (by (with_reducible repeat (first | apply Kd.R_alloc | apply Kd.R_drewN | apply Kd.R_drew)); exact HO217.out) hb); have n2_ := Aside0.mk (below_step (by repeat (first | (with_reducible first | exact HB.out | apply below_alloc | apply pw_below_drewN | apply below_drew1) | exact HB.out)) hb); clear HO_13; clear HO217; clear HB; have HO_13 := n0_; have HO217 := n1_; have HB := n2_; clear n0_ n1_ n2_; (try clear hb); (try clear hb2); (try clear hk); (try clear hi)) | (go_at_call 11; (with_reducible refine (guichetref12_Run.calls k2 _ _ l0 a3 (fun k_ => some k_ = (.slice Ao41 x13_2.length co41 : Value).ownBlock) _ _ x13_2 t233 t234 t235 t236 t237 _ ?side1 ?side2 ?side3 A26.out).mono ?_); (case side1 => repeat (first | exact (Kd.C_below HR0.out HB.out) | (with_reducible refine Kd.C_alloc ?_ _) | (with_reducible refine Kd.C_drewN ?_ _) | (with_reducible refine Kd.C_drew ?_))); (case side2 => exact HC0.out); (case side3 => exact Kd.R_V (Kd.R_tight rfl (Kd.R_apart' (HO_13.out) (Kd.R_typed HO217.out) (by decide)))); rintro e w45 ⟨rfl, hb⟩; have n0_ := Aside0.mk (Kd.R_below (by (with_reducible repeat (first | apply Kd.R_alloc | apply Kd.R_drewN | apply Kd.R_drew)); exact HO_13.out) hb); have n1_ := Aside0.mk (Kd.R_below (by (with_reducible repeat (first | apply Kd.R_alloc | apply Kd.R_drewN | apply Kd.R_drew)); exact HO217.out) hb); have n2_ := Aside0.mk (below_step (by repeat (first | (with_reducible first | exact HB.out | apply below_alloc | apply pw_below_drewN | apply below_drew1) | exact HB.out)) hb); clear HO_13; clear HO217; clear HB; have HO_13 := n0_; have HO217 := n1_; have HB := n2_; clear n0_ n1_ n2_; (try clear hb); (try clear hb2); (try clear hk); (try clear hi)))
          go_ret
          exact ⟨by first | rfl | (simp [errW_none, errW_some] <;> rfl) | (simp [*, errW_none, errW_some] <;> rfl), by repeat (first | (with_reducible first | exact HB.out | apply below_alloc | apply pw_below_drewN | apply below_drew1) | exact HB.out)⟩
        ·rw [if_neg c24] at H
         have c24b0 : (t218 == t223 && (t219 == t224 && (t220 == t225 && (t221.toList == t226.toList && (t222 == t227))))) = false := by simpa using c24
         (try (have c24b1 : decide (t218 = t223 && (t219 == t224 && (t220 == t225 && (t221.toList == t226.toList && (t222 == t227))))) = false := by simpa using c24))
         (try (have c24b2 : (t218 == t223 && (t219 == t224 && (t220 == t225 && (t221.toList == t226.toList && (t222 == t227))))) = false := by simpa using c24))
         (try (have c24b3 : ¬ (t218 = t223 && (t219 == t224 && (t220 == t225 && (t221.toList == t226.toList && (t222 == t227))))) := by simpa using c24))
         clear c24
         obtain rfl := Option.some.inj H
         (try rw [c15b0] at c24b0)
         (try simp at c24b0)
         go_wp2_with (first | ((with_reducible refine gate_callee (f := 9) rfl ?_); refine goesL_ (some 53) rfl rfl Tryd.func9 (by kernel_rfl) rfl #[.slice A1 l1.length c1, .int .u8 a2] rfl (by (try simp only [List.map_toArray, List.map_cons, List.map_nil]); first | done | rfl | (simp only [List.length_drop, List.length_take]; rfl) | (rw [hsame_])) ?_; (with_reducible refine (guichetseat_Table.calls k2 _ _ l1 a2 t215 _ ?side1 ?side2 A21.out).mono ?_); (case side1 => repeat (first | exact (Kd.C_below HR1.out HB.out) | (with_reducible refine Kd.C_alloc ?_ _) | (with_reducible refine Kd.C_drewN ?_ _) | (with_reducible refine Kd.C_drew ?_))); (case side2 => exact HC1.out); rintro e w46 ⟨v216, rfl, ho0, hb⟩; refine ⟨_, rfl, ?_⟩; have n0_ := Aside0.mk (Kd.R_below (by (with_reducible repeat (first | apply Kd.R_alloc | apply Kd.R_drewN | apply Kd.R_drew)); exact HO_13.out) hb); have n1_ := Aside0.mk (Kd.R_lower ho0 (below_size (by repeat (first | (with_reducible first | exact HB.out | apply below_alloc | apply pw_below_drewN | apply below_drew1) | exact HB.out)))); have n2_ := Aside0.mk (below_step (by repeat (first | (with_reducible first | exact HB.out | apply below_alloc | apply pw_below_drewN | apply below_drew1) | exact HB.out)) hb); clear HO_13; clear HB; have HO_13 := n0_; have HO217 := n1_; have HB := n2_; clear n0_ n1_ n2_; (try clear hb); (try clear hb2); (try clear hk); (try clear hi); (try clear ho0); obtain ⟨Ao47, co47, eo47⟩ := Kd.R_slice HO217.out; subst eo47; obtain ⟨Ao48, co48, eo48⟩ := Kd.R_slice HO_13.out; subst eo48) | ((with_reducible refine gate_callee (f := 10) rfl ?_); refine goesL_ (some 56) rfl rfl Tryd.func10 (by kernel_rfl) rfl #[.slice Ao47 t215.length co47, .int .i64 0, .slice Ao48 x13_2.length co48] rfl (by (try simp only [List.map_toArray, List.map_cons, List.map_nil]); first | done | rfl | (simp only [List.length_drop, List.length_take]; rfl) | (rw [hsame_])) ?_; (with_reducible refine (interp_Run.calls k2 _ _ t215 0 _ _ x13_2 t218 t219 t220 t221 t222 _ ?side1 ?side2 ?side3 ?side4 A22.out).mono ?_); (case side1 => repeat (first | exact (Kd.R_reads' HO217.out).2.2 | (with_reducible refine Kd.C_alloc ?_ _) | (with_reducible refine Kd.C_drewN ?_ _) | (with_reducible refine Kd.C_drew ?_))); (case side2 => exact (Kd.R_reads' HO217.out).2.1); (case side3 => repeat (first | exact (Kd.R_reads' HO_13.out).2.2 | (with_reducible refine Kd.C_alloc ?_ _) | (with_reducible refine Kd.C_drewN ?_ _) | (with_reducible refine Kd.C_drew ?_))); (case side4 => exact (Kd.R_reads' HO_13.out).2.1); rintro e w49 ⟨rfl, hb⟩; refine ⟨_, rfl, ?_⟩; have n0_ := Aside0.mk (Kd.R_below (by (with_reducible repeat (first | apply Kd.R_alloc | apply Kd.R_drewN | apply Kd.R_drew)); exact HO_13.out) hb); have n1_ := Aside0.mk (Kd.R_below (by (with_reducible repeat (first | apply Kd.R_alloc | apply Kd.R_drewN | apply Kd.R_drew)); exact HO217.out) hb); have n2_ := Aside0.mk (below_step (by repeat (first | (with_reducible first | exact HB.out | apply below_alloc | apply pw_below_drewN | apply below_drew1) | exact HB.out)) hb); clear HO_13; clear HO217; clear HB; have HO_13 := n0_; have HO217 := n1_; have HB := n2_; clear n0_ n1_ n2_; (try clear hb); (try clear hb2); (try clear hk); (try clear hi)) | ((with_reducible refine gate_callee (f := 11) rfl ?_); refine goesL_ (some 59) rfl rfl Tryd.func11 (by kernel_rfl) rfl #[.slice Ao47 t215.length co47, .int .i64 0, .slice Ao48 x13_2.length co48] rfl (by (try simp only [List.map_toArray, List.map_cons, List.map_nil]); first | done | rfl | (simp only [List.length_drop, List.length_take]; rfl) | (rw [hsame_])) ?_; (with_reducible refine (guichetref12_Run.calls k2 _ _ t215 0 (fun k_ => some k_ = (.slice Ao48 x13_2.length co48 : Value).ownBlock) _ _ x13_2 t223 t224 t225 t226 t227 _ ?side1 ?side2 ?side3 A23.out).mono ?_); (case side1 => repeat (first | exact (Kd.R_reads' HO217.out).2.2 | (with_reducible refine Kd.C_alloc ?_ _) | (with_reducible refine Kd.C_drewN ?_ _) | (with_reducible refine Kd.C_drew ?_))); (case side2 => exact (Kd.R_reads' HO217.out).2.1); (case side3 => exact Kd.R_V (Kd.R_tight rfl (Kd.R_apart' (HO_13.out) (Kd.R_typed HO217.out) (by decide)))); rintro e w50 ⟨rfl, hb⟩; refine ⟨_, rfl, ?_⟩; have n0_ := Aside0.mk (Kd.R_below (by (with_reducible repeat (first | apply Kd.R_alloc | apply Kd.R_drewN | apply Kd.R_drew)); exact HO_13.out) hb); have n1_ := Aside0.mk (Kd.R_below (by (with_reducible repeat (first | apply Kd.R_alloc | apply Kd.R_drewN | apply Kd.R_drew)); exact HO217.out) hb); have n2_ := Aside0.mk (below_step (by repeat (first | (with_reducible first | exact HB.out | apply below_alloc | apply pw_below_drewN | apply below_drew1) | exact HB.out)) hb); clear HO_13; clear HO217; clear HB; have HO_13 := n0_; have HO217 := n1_; have HB := n2_; clear n0_ n1_ n2_; (try clear hb); (try clear hb2); (try clear hk); (try clear hi)))
         go_ret
         exact ⟨by first | rfl | (simp [errW_none, errW_some] <;> rfl) | (simp [*, errW_none, errW_some] <;> rfl), by repeat (first | (with_reducible first | exact HB.out | apply below_alloc | apply pw_below_drewN | apply below_drew1) | exact HB.out)⟩
 ·replace c8 := Bool.eq_false_iff.mpr c8
  subst c8
  have H1 : (some false) = some r := by rw [if_neg (show ¬ (false = true) by decide)] at H; exact H
  clear H
  have H := H1
  clear H1
  obtain rfl := Option.some.inj H
  go_enter Tryd.func3, Tryd.ntmps3
  go_wp2_with (first | ((with_reducible refine gate_callee (f := 7) rfl ?_); refine goesL_ (some 16) rfl rfl Tryd.func7 (by kernel_rfl) rfl #[] rfl (by (try simp only [List.map_toArray, List.map_cons, List.map_nil]); first | done | rfl | (simp only [List.length_drop, List.length_take]; rfl) | (rw [hsame_])) ?_; (with_reducible refine (guichetlaw15_known.calls k  false _ A7.out).mono ?_); rintro e w51 ⟨rfl, hb⟩; refine ⟨_, rfl, ?_⟩; have n0_ := Aside0.mk (below_step (by repeat (first | (with_reducible first | exact HB.out | apply below_alloc | apply pw_below_drewN | apply below_drew1) | exact HB.out)) hb); clear HB; have HB := n0_; clear n0_; (try clear hb); (try clear hb2); (try clear hk); (try clear hi)))
  go_ret
  exact ⟨by first | rfl | (simp [errW_none, errW_some] <;> rfl) | (simp [*, errW_none, errW_some] <;> rfl), by repeat (first | (with_reducible first | exact HB.out | apply below_alloc | apply pw_below_drewN | apply below_drew1) | exact HB.out)⟩

/-- THE ONE PURE STATEMENT of guichetlaw15_WalkTells. -/
def guichetlaw15_WalkTells.Pure : Prop := ∀ (l0 : List (S34)) (l1 : List (S42)) (a2 : Int) (a3 : Int) (l4 : List Int) (a5 : ByteArray), l0.length ≤ maxLen → (∀ x ∈ l0, (Lit.int .i64 x.f0).wf = true ∧ (Lit.int .u8 x.f1).wf = true ∧ (Lit.int .i64 x.f2).wf = true ∧ (Lit.int .i64 x.f3).wf = true) → l1.length ≤ maxLen → (∀ x ∈ l1, (Lit.int .u8 x.f0).wf = true ∧ (Lit.int .u8 x.f1).wf = true ∧ (Lit.int .u8 x.f2).wf = true ∧ (Lit.int .u8 x.f3).wf = true) → (Lit.int .u8 a2).wf = true → (Lit.int .i64 a3).wf = true → l4.length ≤ maxLen → l4.length * 1 ≤ 140737488351232 → (∀ x ∈ l4, (Lit.int .u8 x).wf = true) → a5.size ≤ 140737488351232 → ∃ k, guichetlaw15_WalkTells.f k l0 l1 a2 a3 l4 a5 = some true
theorem guichetlaw15_WalkTells.walk (P : guichetlaw15_WalkTells.Pure) (a0 : Option Addr) (cap0 : Nat) (l0 : List (S34)) (a1 : Option Addr) (cap1 : Nat) (l1 : List (S42)) (a2 : Int) (a3 : Int) (a4 : Option Addr) (len4 cap4 : Nat) (z4 : List Int) (a5 : ByteArray) (w : World) (hr0 : Kd.C k34 w a0 l0.length l0) (hc0 : l0.length ≤ cap0) (hm0 : l0.length ≤ maxLen) (hw0 : ∀ x ∈ l0, (Lit.int .i64 x.f0).wf = true ∧ (Lit.int .u8 x.f1).wf = true ∧ (Lit.int .i64 x.f2).wf = true ∧ (Lit.int .i64 x.f3).wf = true) (hr1 : Kd.C k42 w a1 l1.length l1) (hc1 : l1.length ≤ cap1) (hm1 : l1.length ≤ maxLen) (hw1 : ∀ x ∈ l1, (Lit.int .u8 x.f0).wf = true ∧ (Lit.int .u8 x.f1).wf = true ∧ (Lit.int .u8 x.f2).wf = true ∧ (Lit.int .u8 x.f3).wf = true) (w2 : (Lit.int .u8 a2).wf = true) (w3 : (Lit.int .i64 a3).wf = true) (w4 : (a4 = none ∧ len4 = 0 ∧ cap4 = 0 ∧ z4 = []) ∨ ∃ x, a4 = some x ∧ len4 ≤ cap4 ∧ cap4 ≤ maxLen ∧ z4.length = cap4 ∧ (∀ i, i < z4.length → w.cell? (x.add i) = some (.int .u8 (z4.getD i 0))) ∧ ∀ n ∈ z4, (Lit.int .u8 n).wf = true) (y4 : len4 * 1 ≤ 140737488351232) (w5 : a5.size ≤ 140737488351232) :
  Calls Tryd.prog 3 #[.slice a0 l0.length cap0, .slice a1 l1.length cap1, .int .u8 a2, .int .i64 a3, .slice a4 len4 cap4, .string a5] w fun e w' => e = .returned (.bool true) ∧ Below w.heap.size w w' := by
 obtain ⟨l4, rfl, hr4, hm4, hw4, hc4⟩ := ReadsInt.ofRowC w4
 obtain ⟨k, h⟩ := P l0 l1 a2 a3 l4 a5 hm0 hw0 hm1 hw1 w2 w3 hm4 y4 hw4 w5
 refine (guichetlaw15_WalkTells.calls k _ _ l0 _ _ l1 a2 a3 _ _ l4 a5 true w hr0 hc0 hr1 hc1 (Kd.C_of_reads (d := (0 : Int)) (h1 := fun _ => rfl) hr4) hc4 h).mono ?_
 rintro e w' ⟨rfl, hd⟩
 exact ⟨rfl, hd⟩

end Go.Proofs.YtnnoanfiehjleaaDoor.PAll
