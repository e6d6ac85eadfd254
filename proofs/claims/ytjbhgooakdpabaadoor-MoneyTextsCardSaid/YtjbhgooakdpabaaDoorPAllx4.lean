-- written by xprint.py out of the translation. Not trusted: Lean checks it.
import Derived.Test.YtjbhgooakdpabaaDoorPAllx0
import Derived.Test.YtjbhgooakdpabaaDoorPAllx3
namespace Go.Proofs.YtjbhgooakdpabaaDoor.PAll
open Go.RowKit Go.Proofs.YtjbhgooakdpabaaDoorW.PrintWords Go.Proofs.YtjbhgooakdpabaaDoorW.PrintLast Go.Proofs.YtjbhgooakdpabaaDoorW.PrintMore
attribute [local go_sem] max2_int min2_int max_two min_two max_three min_three max_four min_four   -- for this text's walks alone
set_option linter.unusedVariables false
set_option linter.unusedSimpArgs false

/-! ### guichetref12_MoneyParse: function 12 -/
mutual
def guichetref12_MoneyParse.j0 : Nat → ByteArray → ByteArray → Bool → Option (Int × Bool)
 | 0, _, _, _ => none
 | k + 1, x0, x4, x5 => if x5 = true then (if 1 ≤ (x4.size : Int) then (guichetref12_MoneyParse.j1 k x0 (x4.extract 1 x4.size) x5) else (none)) else (guichetref12_MoneyParse.j1 k x0 x4 x5)
def guichetref12_MoneyParse.j1 : Nat → ByteArray → ByteArray → Bool → Option (Int × Bool)
 | 0, _, _, _ => none
 | k + 1, x0, x4, x5 => if (x4.size : Int) < 4 then (guichetref12_MoneyParse.j2 k x0 x4 x5 (x4.size : Int) true) else (if (x4.size : Int) > 21 then (guichetref12_MoneyParse.j2 k x0 x4 x5 (x4.size : Int) true) else (if 0 ≤ (wrap64 ((x4.size : Int) - 3)) then (if (wrap64 ((x4.size : Int) - 3)) < (x4.size : Int) then (guichetref12_MoneyParse.j2 k x0 x4 x5 (x4.size : Int) ((bt x4 (wrap64 ((x4.size : Int) - 3))) != 46)) else (none)) else (none)))
def guichetref12_MoneyParse.j2 : Nat → ByteArray → ByteArray → Bool → Int → Bool → Option (Int × Bool)
 | 0, _, _, _, _, _ => none
 | k + 1, x0, x4, x5, x6, x36 => if x36 = true then (some (0, false)) else (if 0 ≤ (wrap64 (x6 - 3)) then (if (wrap64 (x6 - 3)) ≤ (x4.size : Int) then (if 0 ≤ (wrap64 (x6 - 2)) then (if (wrap64 (x6 - 2)) ≤ (x4.size : Int) then (if (x4.extract 0 ((wrap64 (x6 - 3)) : Int).toNat).size + (x4.extract ((wrap64 (x6 - 2)) : Int).toNat x4.size).size ≤ 9223372036854775807 then ((guichetref1_AllDigits.f k ((x4.extract 0 ((wrap64 (x6 - 3)) : Int).toNat) ++ (x4.extract ((wrap64 (x6 - 2)) : Int).toNat x4.size))).bind fun t113 => (if t113 = true then (guichetref12_MoneyParse.l0 k x0 x5 ((x4.extract 0 ((wrap64 (x6 - 3)) : Int).toNat) ++ (x4.extract ((wrap64 (x6 - 2)) : Int).toNat x4.size)) 0 0) else (some (0, false)))) else (none)) else (none)) else (none)) else (none)) else (none))
def guichetref12_MoneyParse.l0 : Nat → ByteArray → Bool → ByteArray → Int → Int → Option (Int × Bool)
 | 0, _, _, _, _, _ => none
 | k + 1, x0, x5, x7, x8, x9 => if x9 < (x7.size : Int) then (if x8 > 922337203685477580 then (some (0, false)) else (if 0 ≤ x9 then (guichetref12_MoneyParse.l0 k x0 x5 x7 (IntKind.u64.wrap ((IntKind.u64.wrap (10 * x8)) + (((bt x7 x9) - 48) % 256))) (wrap64 (x9 + 1))) else (none))) else (if x5 = true then (if x8 > 9223372036854775808 then (some (0, false)) else ((guichetref12_MoneyText.f k (wrap64 (-(wrap64 (x8))))).bind fun t114 => (if t114.toList = x0.toList then (some (wrap64 (-(wrap64 (x8))), true)) else (some (0, false))))) else (if x8 > 9223372036854775808 then (some (0, false)) else (if x8 = 9223372036854775808 then (some (0, false)) else ((guichetref12_MoneyText.f k (wrap64 (x8))).bind fun t115 => (if t115.toList = x0.toList then (some (wrap64 (x8), true)) else (some (0, false)))))))
end
def guichetref12_MoneyParse.f (k : Nat) (a0 : ByteArray) : Option (Int × Bool) := if a0.toList = ([] : List UInt8) then (guichetref12_MoneyParse.j0 k a0 a0 false) else (if 0 < (a0.size : Int) then (guichetref12_MoneyParse.j0 k a0 a0 ((bt a0 0) == 45)) else (none))
theorem guichetref12_MoneyParse.mono_l : ∀ k, (∀ y0 y1 y2, LeO (guichetref12_MoneyParse.j0 k y0 y1 y2) (guichetref12_MoneyParse.j0 (k + 1) y0 y1 y2)) ∧ (∀ y0 y1 y2, LeO (guichetref12_MoneyParse.j1 k y0 y1 y2) (guichetref12_MoneyParse.j1 (k + 1) y0 y1 y2)) ∧ (∀ y0 y1 y2 y3 y4, LeO (guichetref12_MoneyParse.j2 k y0 y1 y2 y3 y4) (guichetref12_MoneyParse.j2 (k + 1) y0 y1 y2 y3 y4)) ∧ (∀ y0 y1 y2 y3 y4, LeO (guichetref12_MoneyParse.l0 k y0 y1 y2 y3 y4) (guichetref12_MoneyParse.l0 (k + 1) y0 y1 y2 y3 y4))
 | 0 => ⟨fun _ _ _ r h => by simp [guichetref12_MoneyParse.j0] at h, fun _ _ _ r h => by simp [guichetref12_MoneyParse.j1] at h, fun _ _ _ _ _ r h => by simp [guichetref12_MoneyParse.j2] at h, fun _ _ _ _ _ r h => by simp [guichetref12_MoneyParse.l0] at h⟩
 | k + 1 => by
  obtain ⟨ih0, ih1, ih2, ih3⟩ := guichetref12_MoneyParse.mono_l k
  refine ⟨?_, ?_, ?_, ?_⟩
  ·intro y0 y1 y2
   unfold guichetref12_MoneyParse.j0
   repeat' first
   | (with_reducible exact ih0 _ _ _)
   | (with_reducible exact ih1 _ _ _)
   | (with_reducible exact ih2 _ _ _ _ _)
   | (with_reducible exact ih3 _ _ _ _ _)
   | (with_reducible exact guichetref12_MoneyText.mono _ _)
   | (with_reducible exact guichetref1_AllDigits.mono _ _)
   | (with_reducible exact LeO.refl _)
   | (with_reducible exact LeO.none _)
   | (with_reducible refine LeO.ite ?_ ?_)
   | (with_reducible refine LeO.bind ?_ (fun _ => ?_))
   | exact ih0 _ _ _
   | exact ih1 _ _ _
   | exact ih2 _ _ _ _ _
   | exact ih3 _ _ _ _ _
   | exact guichetref12_MoneyText.mono _ _
   | exact guichetref1_AllDigits.mono _ _
   | exact LeO.none _
   | refine LeO.ite ?_ ?_
   | refine LeO.bind ?_ (fun _ => ?_)
  ·intro y0 y1 y2
   unfold guichetref12_MoneyParse.j1
   repeat' first
   | (with_reducible exact ih0 _ _ _)
   | (with_reducible exact ih1 _ _ _)
   | (with_reducible exact ih2 _ _ _ _ _)
   | (with_reducible exact ih3 _ _ _ _ _)
   | (with_reducible exact guichetref12_MoneyText.mono _ _)
   | (with_reducible exact guichetref1_AllDigits.mono _ _)
   | (with_reducible exact LeO.refl _)
   | (with_reducible exact LeO.none _)
   | (with_reducible refine LeO.ite ?_ ?_)
   | (with_reducible refine LeO.bind ?_ (fun _ => ?_))
   | exact ih0 _ _ _
   | exact ih1 _ _ _
   | exact ih2 _ _ _ _ _
   | exact ih3 _ _ _ _ _
   | exact guichetref12_MoneyText.mono _ _
   | exact guichetref1_AllDigits.mono _ _
   | exact LeO.none _
   | refine LeO.ite ?_ ?_
   | refine LeO.bind ?_ (fun _ => ?_)
  ·intro y0 y1 y2 y3 y4
   unfold guichetref12_MoneyParse.j2
   repeat' first
   | (with_reducible exact ih0 _ _ _)
   | (with_reducible exact ih1 _ _ _)
   | (with_reducible exact ih2 _ _ _ _ _)
   | (with_reducible exact ih3 _ _ _ _ _)
   | (with_reducible exact guichetref12_MoneyText.mono _ _)
   | (with_reducible exact guichetref1_AllDigits.mono _ _)
   | (with_reducible exact LeO.refl _)
   | (with_reducible exact LeO.none _)
   | (with_reducible refine LeO.ite ?_ ?_)
   | (with_reducible refine LeO.bind ?_ (fun _ => ?_))
   | exact ih0 _ _ _
   | exact ih1 _ _ _
   | exact ih2 _ _ _ _ _
   | exact ih3 _ _ _ _ _
   | exact guichetref12_MoneyText.mono _ _
   | exact guichetref1_AllDigits.mono _ _
   | exact LeO.none _
   | refine LeO.ite ?_ ?_
   | refine LeO.bind ?_ (fun _ => ?_)
  ·intro y0 y1 y2 y3 y4
   unfold guichetref12_MoneyParse.l0
   repeat' first
   | (with_reducible exact ih0 _ _ _)
   | (with_reducible exact ih1 _ _ _)
   | (with_reducible exact ih2 _ _ _ _ _)
   | (with_reducible exact ih3 _ _ _ _ _)
   | (with_reducible exact guichetref12_MoneyText.mono _ _)
   | (with_reducible exact guichetref1_AllDigits.mono _ _)
   | (with_reducible exact LeO.refl _)
   | (with_reducible exact LeO.none _)
   | (with_reducible refine LeO.ite ?_ ?_)
   | (with_reducible refine LeO.bind ?_ (fun _ => ?_))
   | exact ih0 _ _ _
   | exact ih1 _ _ _
   | exact ih2 _ _ _ _ _
   | exact ih3 _ _ _ _ _
   | exact guichetref12_MoneyText.mono _ _
   | exact guichetref1_AllDigits.mono _ _
   | exact LeO.none _
   | refine LeO.ite ?_ ?_
   | refine LeO.bind ?_ (fun _ => ?_)
theorem guichetref12_MoneyParse.mono : ∀ a0 k, LeO (guichetref12_MoneyParse.f k a0) (guichetref12_MoneyParse.f (k + 1) a0) := by
 intro a0 k
 obtain ⟨ih0, ih1, ih2, ih3⟩ := guichetref12_MoneyParse.mono_l k
 unfold guichetref12_MoneyParse.f
 repeat' first
   | (with_reducible exact ih0 _ _ _)
   | (with_reducible exact ih1 _ _ _)
   | (with_reducible exact ih2 _ _ _ _ _)
   | (with_reducible exact ih3 _ _ _ _ _)
   | (with_reducible exact guichetref12_MoneyText.mono _ _)
   | (with_reducible exact guichetref1_AllDigits.mono _ _)
   | (with_reducible exact LeO.refl _)
   | (with_reducible exact LeO.none _)
   | (with_reducible refine LeO.ite ?_ ?_)
   | (with_reducible refine LeO.bind ?_ (fun _ => ?_))
   | exact ih0 _ _ _
   | exact ih1 _ _ _
   | exact ih2 _ _ _ _ _
   | exact ih3 _ _ _ _ _
   | exact guichetref12_MoneyText.mono _ _
   | exact guichetref1_AllDigits.mono _ _
   | exact LeO.none _
   | refine LeO.ite ?_ ?_
   | refine LeO.bind ?_ (fun _ => ?_)
set_option maxHeartbeats 8000000 in
set_option maxRecDepth 100000 in
theorem guichetref12_MoneyParse.calls (k : Nat) (a0 : ByteArray) (r1 : Int) (r2 : Bool) (w : World) (h : guichetref12_MoneyParse.f k a0 = some (r1, r2)) :
  Calls Tryd.prog 12 #[.string a0] w fun e w' => e = .returned (.tuple #[.int .i64 r1, .bool r2]) ∧ Below w.heap.size w w' := by
 have HB := Aside0.mk (Below.refl w.heap.size w)
 have H : (if a0.toList = ([] : List UInt8) then (guichetref12_MoneyParse.j0 k a0 a0 false) else (if 0 < (a0.size : Int) then (guichetref12_MoneyParse.j0 k a0 a0 ((bt a0 0) == 45)) else (none))) = some (r1, r2) := h
 clear h
 have HC2 := Aside0.mk H
 clear H
 go_enter Tryd.func12, Tryd.ntmps12
 go_upto_region 2 with (fail)
 repeat (go_quiet (fail); go_upto_region 2 with (fail))
 go_cut [5] (fun v5 wc => ∃ (kq : Nat) (x5_1 : Bool), v5 = .bool x5_1 ∧ Aside0 (guichetref12_MoneyParse.j0 kq a0 a0 x5_1 = some (r1, r2)) ∧ Aside0 (kq ≤ k) ∧ Aside0 (Below w.heap.size w wc))
 case first =>
  have H := HC2.out
  clear HC2
  by_cases c3 : a0.toList = ([] : List UInt8)
  ·rw [if_pos c3] at H
   have c3b0 : (a0.toList == ([] : List UInt8)) = true := beq_iff_eq.mpr c3
   have c3b1 : (a0.toList != ([] : List UInt8)) = false := bne_eq_false_iff_eq.mpr c3
   clear c3
   (first | rw [c3b0] | rw [c3b1] | (simp only [i64_w, i32_w]; rw [c3b0]) | skip)
   have H' := Aside0.mk H
   clear H
   go_wp2
   repeat (go_quiet (fail); try go_wp2)
   go_meet
   case rel => exact ⟨_, (false), (by first | rfl | (simp; done) | (simp [*]; done)), H', ⟨by first | omega | exact Nat.le_refl _⟩, ⟨by repeat (first | (with_reducible first | exact HB.out | apply below_alloc | apply pw_below_drewN | apply below_drew1) | exact HB.out)⟩⟩
  ·rw [if_neg c3] at H
   have c3b0 : (a0.toList == ([] : List UInt8)) = false := beq_eq_false_iff_ne.mpr c3
   have c3b1 : (a0.toList != ([] : List UInt8)) = true := bne_iff_ne.mpr c3
   (first | rw [c3b0] | rw [c3b1] | (simp only [i64_w, i32_w]; rw [c3b0]) | skip)
   by_cases c4 : 0 < (a0.size : Int)
   ·rw [if_pos c4] at H
    have c4b0 : decide (0 < (a0.size : Int)) = true := decide_eq_true c4
    have c4b1 : decide (0 < a0.size) = true := decide_eq_true (by omega)
    clear c4
    have H' := Aside0.mk H
    clear H
    have p5 : 0 ≤ (0 : Int) := (by omega)
    have q5 : 0 < a0.size := (by have : (0 : Int) < (a0.size : Int) := of_decide_eq_true (by first | (with_reducible assumption) | assumption); omega)
    have hx5 : ∀ h : 0 < a0.size, ((a0[0]'h).toNat : Int) = bt a0 0 := bt_at a0 0
    clear p5
    have qi5 : (0 < (a0.size : Int)) = True := eq_true (of_decide_eq_true (by first | (with_reducible assumption) | assumption))
    replace q5 := eq_true q5
    go_wp2
    repeat (go_quiet (fail); try go_wp2)
    go_meet
    case rel => exact ⟨_, (((bt a0 0) == 45)), (by first | rfl | (simp; done) | (simp [*]; done)), H', ⟨by first | omega | exact Nat.le_refl _⟩, ⟨by repeat (first | (with_reducible first | exact HB.out | apply below_alloc | apply pw_below_drewN | apply below_drew1) | exact HB.out)⟩⟩
   ·rw [if_neg c4] at H
    exact absurd H (by simp)
 case rest =>
  clear HC2
  try clear c1
  try clear p2
  try clear c3
  try clear c3b0
  try clear c3b1
  try clear c4
  try clear c4b0
  try clear c4b1
  try clear p5
  try clear q5
  try clear hx5
  try clear qi5
  try clear p5
  try clear q5
  obtain ⟨kq, x5_1, rfl, HA, HJ1, HB⟩ := hcut
  cases kq with
  | zero => exact absurd HA.out (by simp [guichetref12_MoneyParse.j0])
  | succ kj1 =>
   have H := HA.out
   clear HA
   simp only [guichetref12_MoneyParse.j0] at H
   have HC6 := Aside0.mk H
   clear H
   go_upto_if 19 with (fail)
   repeat (go_quiet (fail); go_upto_if 19 with (fail))
   go_cut [4] (fun v4 wc => ∃ (kq : Nat) (x4_5 : ByteArray), v4 = .string x4_5 ∧ Aside0 (guichetref12_MoneyParse.j1 kq a0 x4_5 x5_1 = some (r1, r2)) ∧ Aside0 (kq ≤ kj1) ∧ Aside0 (Below w.heap.size w wc))
   case first =>
    have H := HC6.out
    clear HC6
    by_cases c7 : x5_1 = true
    ·subst c7
     have H1 : (if 1 ≤ (a0.size : Int) then (guichetref12_MoneyParse.j1 kj1 a0 (a0.extract 1 a0.size) true) else (none)) = some (r1, r2) := by rw [if_pos rfl] at H; exact H
     clear H
     have H := H1
     clear H1
     by_cases c8 : 1 ≤ (a0.size : Int)
     ·rw [if_pos c8] at H
      have c8b0 := eq_true c8
      have c8b1 : decide (1 ≤ (a0.size : Int)) = true := decide_eq_true c8
      clear c8
      have H' := Aside0.mk H
      clear H
      go_wp2
      repeat (go_quiet (fail); try go_wp2)
      go_meet
      case rel => exact ⟨_, (a0.extract 1 a0.size), (by first | rfl | (simp; done) | (simp [*]; done)), H', ⟨by have := HJ1.out; first | omega | exact Nat.le_refl _⟩, ⟨by repeat (first | (with_reducible first | exact HB.out | apply below_alloc | apply pw_below_drewN | apply below_drew1) | exact HB.out)⟩⟩
     ·rw [if_neg c8] at H
      exact absurd H (by simp)
    ·replace c7 := Bool.eq_false_iff.mpr c7
     subst c7
     have H1 : (guichetref12_MoneyParse.j1 kj1 a0 a0 false) = some (r1, r2) := by rw [if_neg (show ¬ (false = true) by decide)] at H; exact H
     clear H
     have H := H1
     clear H1
     have H' := Aside0.mk H
     clear H
     go_wp2
     repeat (go_quiet (fail); try go_wp2)
     go_meet
     case rel => exact ⟨_, (a0), (by first | rfl | (simp; done) | (simp [*]; done)), H', ⟨by have := HJ1.out; first | omega | exact Nat.le_refl _⟩, ⟨by repeat (first | (with_reducible first | exact HB.out | apply below_alloc | apply pw_below_drewN | apply below_drew1) | exact HB.out)⟩⟩
   case rest =>
    clear HC6
    try clear c1
    try clear p2
    try clear c3
    try clear c3b0
    try clear c3b1
    try clear c4
    try clear c4b0
    try clear c4b1
    try clear p5
    try clear q5
    try clear hx5
    try clear qi5
    try clear c7
    try clear c8
    try clear c8b0
    try clear c8b1
    try clear p2
    try clear p5
    try clear q5
    obtain ⟨kq, x4_5, rfl, HA, HJ5, HB⟩ := hcut
    cases kq with
    | zero => exact absurd HA.out (by simp [guichetref12_MoneyParse.j1])
    | succ kj5 =>
     have H := HA.out
     clear HA
     simp only [guichetref12_MoneyParse.j1] at H
     have HC9 := Aside0.mk H
     clear H
     go_upto_region 6 with (fail)
     repeat (go_quiet (fail); go_upto_region 6 with (fail))
     go_cut [36] (fun v36 wc => ∃ (kq : Nat) (x36_8 : Bool), v36 = .bool x36_8 ∧ Aside0 (guichetref12_MoneyParse.j2 kq a0 x4_5 x5_1 (x4_5.size : Int) x36_8 = some (r1, r2)) ∧ Aside0 (kq ≤ kj5) ∧ Aside0 (Below w.heap.size w wc))
     case first =>
      have H := HC9.out
      clear HC9
      by_cases c10 : (x4_5.size : Int) < 4
      ·rw [if_pos c10] at H
       have c10b0 : decide ((x4_5.size : Int) < 4) = true := decide_eq_true c10
       have c10b1 : decide (x4_5.size < 4) = true := decide_eq_true (by omega)
       clear c10
       (first | rw [c10b0] | rw [c10b1] | (simp only [i64_w, i32_w]; rw [c10b0]) | skip)
       have H' := Aside0.mk H
       clear H
       go_wp2
       repeat (go_quiet (fail); try go_wp2)
       go_meet
       case rel => exact ⟨_, (true), (by first | rfl | (simp; done) | (simp [*]; done)), H', ⟨by have := HJ1.out; have := HJ5.out; first | omega | exact Nat.le_refl _⟩, ⟨by repeat (first | (with_reducible first | exact HB.out | apply below_alloc | apply pw_below_drewN | apply below_drew1) | exact HB.out)⟩⟩
      ·rw [if_neg c10] at H
       have c10b0 : decide ((x4_5.size : Int) < 4) = false := decide_eq_false c10
       have c10b1 : decide (x4_5.size < 4) = false := decide_eq_false (by omega)
       clear c10
       (first | rw [c10b0] | rw [c10b1] | (simp only [i64_w, i32_w]; rw [c10b0]) | skip)
       by_cases c11 : (x4_5.size : Int) > 21
       ·rw [if_pos c11] at H
        have c11b0 : decide (21 < (x4_5.size : Int)) = true := decide_eq_true c11
        have c11b1 : decide (21 < x4_5.size) = true := decide_eq_true (by omega)
        clear c11
        have H' := Aside0.mk H
        clear H
        go_wp2
        repeat (go_quiet (fail); try go_wp2)
        go_meet
        case rel => exact ⟨_, (true), (by first | rfl | (simp; done) | (simp [*]; done)), H', ⟨by have := HJ1.out; have := HJ5.out; first | omega | exact Nat.le_refl _⟩, ⟨by repeat (first | (with_reducible first | exact HB.out | apply below_alloc | apply pw_below_drewN | apply below_drew1) | exact HB.out)⟩⟩
       ·rw [if_neg c11] at H
        have c11b0 : decide (21 < (x4_5.size : Int)) = false := decide_eq_false c11
        have c11b1 : decide (21 < x4_5.size) = false := decide_eq_false (by omega)
        clear c11
        obtain ⟨ji12, hji12⟩ : ∃ j_ : Int, (wrap64 ((x4_5.size : Int) - 3)) = j_ := ⟨_, rfl⟩
        replace H : (if 0 ≤ (ji12) then (if (ji12) < (x4_5.size : Int) then (guichetref12_MoneyParse.j2 kj5 a0 x4_5 x5_1 (x4_5.size : Int) ((bt x4_5 (ji12)) != 46)) else (none)) else (none)) = some (r1, r2) := by first | (rw [hji12] at H; exact H) | (simp only [hji12] at H ⊢; exact H)
        have hji12w : (IntKind.i64.wrap ((x4_5.size : Int) - 3)) = ji12 := (i64_w _).trans hji12
        by_cases c13 : 0 ≤ (ji12)
        ·rw [if_pos c13] at H
         have c13b0 : decide (0 ≤ (ji12)) = true := decide_eq_true c13
         clear c13
         by_cases c14 : (ji12) < (x4_5.size : Int)
         ·rw [if_pos c14] at H
          have c14b0 : decide ((ji12) < (x4_5.size : Int)) = true := decide_eq_true c14
          clear c14
          have H' := Aside0.mk H
          clear H
          have p15 : 0 ≤ ((ji12) : Int) := of_decide_eq_true (by first | (with_reducible assumption) | assumption)
          have q15 : (ji12) < (x4_5.size : Int) := of_decide_eq_true (by first | (with_reducible assumption) | assumption)
          have hx15 := bt_at x4_5 (ji12)
          replace p15 := eq_true p15
          replace q15 := eq_true q15
          go_wp2
          repeat (go_quiet (fail); try go_wp2)
          go_meet
          case rel => exact ⟨_, (((bt x4_5 (ji12)) != 46)), (by first | rfl | (simp; done) | (simp only [← hji12] <;> (first | rfl | simp)) | (simp [*]; done)), H', ⟨by have := HJ1.out; have := HJ5.out; first | omega | exact Nat.le_refl _⟩, ⟨by repeat (first | (with_reducible first | exact HB.out | apply below_alloc | apply pw_below_drewN | apply below_drew1) | exact HB.out)⟩⟩
         ·rw [if_neg c14] at H
          exact absurd H (by simp)
        ·rw [if_neg c13] at H
         exact absurd H (by simp)
     case rest =>
      clear HC9
      try clear c1
      try clear p1
      try clear q1
      try clear hx1
      try clear p2
      try clear c3
      try clear c3b0
      try clear c3b1
      try clear c4
      try clear c4b0
      try clear c4b1
      try clear p5
      try clear q5
      try clear hx5
      try clear qi5
      try clear p6
      try clear c7
      try clear c8
      try clear c8b0
      try clear c8b1
      try clear c10
      try clear c10b0
      try clear c10b1
      try clear c11
      try clear c11b0
      try clear c11b1
      try clear c12
      try clear c13
      try clear c13b0
      try clear c14
      try clear c14b0
      try clear p15
      try clear q15
      try clear hx15
      try clear p15
      try clear p2
      try clear p5
      try clear q15
      try clear q5
      obtain ⟨kq, x36_8, rfl, HA, HJ8, HB⟩ := hcut
      cases kq with
      | zero => exact absurd HA.out (by simp [guichetref12_MoneyParse.j2])
      | succ kj8 =>
       have H := HA.out
       clear HA
       simp only [guichetref12_MoneyParse.j2] at H
       by_cases c16 : x36_8 = true
       ·subst c16
        have H1 : (some (0, false)) = some (r1, r2) := by rw [if_pos rfl] at H; exact H
        clear H
        have H := H1
        clear H1
        simp only [Option.some.injEq, Prod.mk.injEq] at H
        obtain ⟨rfl, rfl⟩ := H
        go_wp2
        repeat (go_quiet (fail); try go_wp2)
        go_ret2
        exact ⟨by first | rfl | (simp [errW_none, errW_some] <;> rfl) | (simp [*, errW_none, errW_some] <;> rfl), by repeat (first | (with_reducible first | exact HB.out | apply below_alloc | apply pw_below_drewN | apply below_drew1) | exact HB.out)⟩
       ·replace c16 := Bool.eq_false_iff.mpr c16
        subst c16
        have H1 : (if 0 ≤ (wrap64 ((x4_5.size : Int) - 3)) then (if (wrap64 ((x4_5.size : Int) - 3)) ≤ (x4_5.size : Int) then (if 0 ≤ (wrap64 ((x4_5.size : Int) - 2)) then (if (wrap64 ((x4_5.size : Int) - 2)) ≤ (x4_5.size : Int) then (if (x4_5.extract 0 ((wrap64 ((x4_5.size : Int) - 3)) : Int).toNat).size + (x4_5.extract ((wrap64 ((x4_5.size : Int) - 2)) : Int).toNat x4_5.size).size ≤ 9223372036854775807 then ((guichetref1_AllDigits.f kj8 ((x4_5.extract 0 ((wrap64 ((x4_5.size : Int) - 3)) : Int).toNat) ++ (x4_5.extract ((wrap64 ((x4_5.size : Int) - 2)) : Int).toNat x4_5.size))).bind fun t113 => (if t113 = true then (guichetref12_MoneyParse.l0 kj8 a0 x5_1 ((x4_5.extract 0 ((wrap64 ((x4_5.size : Int) - 3)) : Int).toNat) ++ (x4_5.extract ((wrap64 ((x4_5.size : Int) - 2)) : Int).toNat x4_5.size)) 0 0) else (some (0, false)))) else (none)) else (none)) else (none)) else (none)) else (none)) = some (r1, r2) := by rw [if_neg (show ¬ (false = true) by decide)] at H; exact H
        clear H
        have H := H1
        clear H1
        obtain ⟨ji17, hji17⟩ : ∃ j_ : Int, (wrap64 ((x4_5.size : Int) - 3)) = j_ := ⟨_, rfl⟩
        replace H : (if 0 ≤ (ji17) then (if (ji17) ≤ (x4_5.size : Int) then (if 0 ≤ (wrap64 ((x4_5.size : Int) - 2)) then (if (wrap64 ((x4_5.size : Int) - 2)) ≤ (x4_5.size : Int) then (if (x4_5.extract 0 ((ji17) : Int).toNat).size + (x4_5.extract ((wrap64 ((x4_5.size : Int) - 2)) : Int).toNat x4_5.size).size ≤ 9223372036854775807 then ((guichetref1_AllDigits.f kj8 ((x4_5.extract 0 ((ji17) : Int).toNat) ++ (x4_5.extract ((wrap64 ((x4_5.size : Int) - 2)) : Int).toNat x4_5.size))).bind fun t113 => (if t113 = true then (guichetref12_MoneyParse.l0 kj8 a0 x5_1 ((x4_5.extract 0 ((ji17) : Int).toNat) ++ (x4_5.extract ((wrap64 ((x4_5.size : Int) - 2)) : Int).toNat x4_5.size)) 0 0) else (some (0, false)))) else (none)) else (none)) else (none)) else (none)) else (none)) = some (r1, r2) := by first | (rw [hji17] at H; exact H) | (simp only [hji17] at H ⊢; exact H)
        have hji17w : (IntKind.i64.wrap ((x4_5.size : Int) - 3)) = ji17 := (i64_w _).trans hji17
        by_cases c18 : 0 ≤ (ji17)
        ·rw [if_pos c18] at H
         have c18b0 := eq_true c18
         have c18b1 : decide (0 ≤ (ji17)) = true := decide_eq_true c18
         clear c18
         by_cases c19 : (ji17) ≤ (x4_5.size : Int)
         ·rw [if_pos c19] at H
          have c19b0 := eq_true c19
          have c19b1 : decide ((ji17) ≤ (x4_5.size : Int)) = true := decide_eq_true c19
          clear c19
          obtain ⟨ji20, hji20⟩ : ∃ j_ : Int, (wrap64 ((x4_5.size : Int) - 2)) = j_ := ⟨_, rfl⟩
          replace H : (if 0 ≤ (ji20) then (if (ji20) ≤ (x4_5.size : Int) then (if (x4_5.extract 0 ((ji17) : Int).toNat).size + (x4_5.extract ((ji20) : Int).toNat x4_5.size).size ≤ 9223372036854775807 then ((guichetref1_AllDigits.f kj8 ((x4_5.extract 0 ((ji17) : Int).toNat) ++ (x4_5.extract ((ji20) : Int).toNat x4_5.size))).bind fun t113 => (if t113 = true then (guichetref12_MoneyParse.l0 kj8 a0 x5_1 ((x4_5.extract 0 ((ji17) : Int).toNat) ++ (x4_5.extract ((ji20) : Int).toNat x4_5.size)) 0 0) else (some (0, false)))) else (none)) else (none)) else (none)) = some (r1, r2) := by first | (rw [hji20] at H; exact H) | (simp only [hji20] at H ⊢; exact H)
          have hji20w : (IntKind.i64.wrap ((x4_5.size : Int) - 2)) = ji20 := (i64_w _).trans hji20
          by_cases c21 : 0 ≤ (ji20)
          ·rw [if_pos c21] at H
           have c21b0 := eq_true c21
           have c21b1 : decide (0 ≤ (ji20)) = true := decide_eq_true c21
           clear c21
           by_cases c22 : (ji20) ≤ (x4_5.size : Int)
           ·rw [if_pos c22] at H
            have c22b0 := eq_true c22
            have c22b1 : decide ((ji20) ≤ (x4_5.size : Int)) = true := decide_eq_true c22
            clear c22
            by_cases c23 : (x4_5.extract 0 ((ji17) : Int).toNat).size + (x4_5.extract ((ji20) : Int).toNat x4_5.size).size ≤ 9223372036854775807
            ·rw [if_pos c23] at H
             have c23b0 := eq_true c23
             have c23b1 : decide ((x4_5.extract 0 ((ji17) : Int).toNat).size + (x4_5.extract ((ji20) : Int).toNat x4_5.size).size ≤ 9223372036854775807) = true := decide_eq_true c23
             (try have c23b5 : (9223372036854775807 < ji17.toNat + (x4_5.size - ji20.toNat)) = False := eq_false (by have h_ := c23; (try have hb0_ : (ji17 : Int) ≤ (x4_5.size : Int) := of_decide_eq_true (by first | (with_reducible assumption) | assumption)); simp only [ByteArray.size_append, ByteArray.size_extract] at h_; omega))
             try have c23b2 : (9223372036854775807 < (x4_5.extract 0 ((ji17) : Int).toNat).size + (x4_5.extract ((ji20) : Int).toNat x4_5.size).size) = False := eq_false (Nat.not_lt.2 c23)
             replace H := Option.bind_eq_some_iff.mp H
             obtain ⟨t113, A240, H⟩ := H
             replace H : (if t113 = true then (guichetref12_MoneyParse.l0 kj8 a0 x5_1 ((x4_5.extract 0 ((ji17) : Int).toNat) ++ (x4_5.extract ((ji20) : Int).toNat x4_5.size)) 0 0) else (some (0, false))) = some (r1, r2) := H
             have A24 := Aside0.mk A240
             clear A240
             by_cases c25 : t113 = true
             ·subst c25
              have H1 : (guichetref12_MoneyParse.l0 kj8 a0 x5_1 ((x4_5.extract 0 ((ji17) : Int).toNat) ++ (x4_5.extract ((ji20) : Int).toNat x4_5.size)) 0 0) = some (r1, r2) := by rw [if_pos rfl] at H; exact H
              clear H
              have H := H1
              clear H1
              have H' := Aside0.mk H
              clear H
              go_wp2_with (first | (go_at_call 23; (with_reducible refine (guichetref1_AllDigits.calls kj8 ((x4_5.extract 0 ((ji17) : Int).toNat) ++ (x4_5.extract ((ji20) : Int).toNat x4_5.size)) true _ A24.out).mono ?_); rintro e w' ⟨rfl, ⟨nd, rfl⟩⟩; (try first | exact ⟨rfl, _, World.drewN_drewN _ _ _⟩ | exact ⟨rfl, _, Eq.trans (World.drewN_drewN _ _ _) (congrArg (World.drewN _) (Nat.add_assoc _ _ _))⟩)))
              repeat (go_quiet (first | (go_at_call 23; (with_reducible refine (guichetref1_AllDigits.calls kj8 ((x4_5.extract 0 ((ji17) : Int).toNat) ++ (x4_5.extract ((ji20) : Int).toNat x4_5.size)) true _ A24.out).mono ?_); rintro e w' ⟨rfl, ⟨nd, rfl⟩⟩; (try first | exact ⟨rfl, _, World.drewN_drewN _ _ _⟩ | exact ⟨rfl, _, Eq.trans (World.drewN_drewN _ _ _) (congrArg (World.drewN _) (Nat.add_assoc _ _ _))⟩))); try go_wp2_with (first | (go_at_call 23; (with_reducible refine (guichetref1_AllDigits.calls kj8 ((x4_5.extract 0 ((ji17) : Int).toNat) ++ (x4_5.extract ((ji20) : Int).toNat x4_5.size)) true _ A24.out).mono ?_); rintro e w' ⟨rfl, ⟨nd, rfl⟩⟩; (try first | exact ⟨rfl, _, World.drewN_drewN _ _ _⟩ | exact ⟨rfl, _, Eq.trans (World.drewN_drewN _ _ _) (congrArg (World.drewN _) (Nat.add_assoc _ _ _))⟩))))
              go_loopg [8, 9] kj8 (fun kq v8 v9 w' => ∃ (x8_4 : Int) (x9_4 : Int), v8 = .int .u64 x8_4 ∧ v9 = .int .i64 x9_4 ∧ Aside0 (guichetref12_MoneyParse.l0 kq a0 x5_1 ((x4_5.extract 0 ((ji17) : Int).toNat) ++ (x4_5.extract ((ji20) : Int).toNat x4_5.size)) x8_4 x9_4 = some (r1, r2)) ∧ Aside0 (kq ≤ kj8) ∧ Aside0 (Below w.heap.size w w'))
              case atStart => exact ⟨(0), (0), (by first | rfl | (simp; done) | (simp [*]; done)), (by first | rfl | (simp; done) | (simp [*]; done)), H', ⟨Nat.le_refl _⟩, ⟨by repeat (first | (with_reducible first | exact HB.out | apply below_alloc | apply pw_below_drewN | apply below_drew1) | exact HB.out)⟩⟩
              case round =>
               clear H'
               try clear c1
               try clear p1
               try clear q1
               try clear hx1
               try clear c2
               try clear p2
               try clear c3
               try clear c3b0
               try clear c3b1
               try clear c4
               try clear c4b0
               try clear c4b1
               try clear p5
               try clear q5
               try clear hx5
               try clear qi5
               try clear p6
               try clear c7
               try clear c8
               try clear c8b0
               try clear c8b1
               try clear c10
               try clear c10b0
               try clear c10b1
               try clear c11
               try clear c11b0
               try clear c11b1
               try clear c12
               try clear c13
               try clear c13b0
               try clear c14
               try clear c14b0
               try clear p15
               try clear q15
               try clear hx15
               try clear c16
               try clear c18
               try clear c18b0
               try clear c18b1
               try clear c19
               try clear c19b0
               try clear c19b1
               try clear c21
               try clear c21b0
               try clear c21b1
               try clear c22
               try clear c22b0
               try clear c22b1
               try clear c23
               try clear c23b0
               try clear c23b1
               try clear c23b2
               try clear c25
               try clear p1
               try clear p15
               try clear p2
               try clear p5
               try clear p6
               try clear q1
               try clear q15
               try clear q5
               obtain ⟨x8_4, x9_4, rfl, rfl, HA, HK4, HB⟩ := hrel
               cases gk with
               | zero => exact absurd HA.out (by simp [guichetref12_MoneyParse.l0])
               | succ k4 =>
                have H := HA.out
                clear HA
                simp only [guichetref12_MoneyParse.l0] at H
                by_cases c26 : x9_4 < (((x4_5.extract 0 ((ji17) : Int).toNat) ++ (x4_5.extract ((ji20) : Int).toNat x4_5.size)).size : Int)
                ·rw [if_pos c26] at H
                 have c26b0 : decide (x9_4 < (((x4_5.extract 0 ((ji17) : Int).toNat) ++ (x4_5.extract ((ji20) : Int).toNat x4_5.size)).size : Int)) = true := decide_eq_true c26
                 (try have c26b8 : decide (x9_4 < (((min (ji17 : Int).toNat x4_5.size : Nat) : Int) + ((x4_5.size - (ji20 : Int).toNat : Nat) : Int))) = true := (by rw [show (((min (ji17 : Int).toNat x4_5.size : Nat) : Int) + ((x4_5.size - (ji20 : Int).toNat : Nat) : Int)) = (((x4_5.extract 0 ((ji17) : Int).toNat) ++ (x4_5.extract ((ji20) : Int).toNat x4_5.size)).size : Int) from (by simp only [ByteArray.size_append, ByteArray.size_extract]; omega)]; exact c26b0))
                 clear c26
                 by_cases c27 : x8_4 > 922337203685477580
                 ·rw [if_pos c27] at H
                  have c27b0 : decide (922337203685477580 < x8_4) = true := decide_eq_true c27
                  clear c27
                  simp only [Option.some.injEq, Prod.mk.injEq] at H
                  obtain ⟨rfl, rfl⟩ := H
                  go_wp2
                  repeat (go_quiet (fail); try go_wp2)
                  go_ret2
                  exact ⟨by first | rfl | (simp [errW_none, errW_some] <;> rfl) | (simp only [← hji17, ← hji20]; first | rfl | (simp [errW_none, errW_some] <;> rfl)) | (simp [*, errW_none, errW_some] <;> rfl), by repeat (first | (with_reducible first | exact HB.out | apply below_alloc | apply pw_below_drewN | apply below_drew1) | exact HB.out)⟩
                 ·rw [if_neg c27] at H
                  have c27b0 : decide (922337203685477580 < x8_4) = false := decide_eq_false c27
                  clear c27
                  by_cases c28 : 0 ≤ x9_4
                  ·rw [if_pos c28] at H
                   have c28b0 : decide (0 ≤ x9_4) = true := decide_eq_true c28
                   clear c28
                   have H' := Aside0.mk H
                   clear H
                   have p29 : 0 ≤ (x9_4 : Int) := of_decide_eq_true (by first | (with_reducible assumption) | assumption)
                   have q29 : x9_4 < (((x4_5.extract 0 ((ji17) : Int).toNat) ++ (x4_5.extract ((ji20) : Int).toNat x4_5.size)).size : Int) := of_decide_eq_true (by first | (with_reducible assumption) | assumption)
                   have hx29 := bt_at ((x4_5.extract 0 ((ji17) : Int).toNat) ++ (x4_5.extract ((ji20) : Int).toNat x4_5.size)) x9_4
                   replace p29 := eq_true p29
                   replace q29 := eq_true q29
                   (try have q29n : (x9_4 < (((min (ji17 : Int).toNat x4_5.size : Nat) : Int) + ((x4_5.size - (ji20 : Int).toNat : Nat) : Int))) = True := (by rw [show (((min (ji17 : Int).toNat x4_5.size : Nat) : Int) + ((x4_5.size - (ji20 : Int).toNat : Nat) : Int)) = (((x4_5.extract 0 ((ji17) : Int).toNat) ++ (x4_5.extract ((ji20) : Int).toNat x4_5.size)).size : Int) from (by simp only [ByteArray.size_append, ByteArray.size_extract]; omega)]; exact q29))
                   go_wp2
                   repeat (go_quiet (fail); try go_wp2)
                   go_roundg k4
                   case measure => have := HJ1.out; have := HJ5.out; have := HJ8.out; have := HK4.out; omega
                   case rel => exact ⟨(IntKind.u64.wrap ((IntKind.u64.wrap (10 * x8_4)) + (((bt ((x4_5.extract 0 ((ji17) : Int).toNat) ++ (x4_5.extract ((ji20) : Int).toNat x4_5.size)) x9_4) - 48) % 256))), (wrap64 (x9_4 + 1)), (by first | rfl | (simp; done) | (simp only [← hji17, ← hji20] <;> (first | rfl | simp)) | (simp [*]; done)), (by first | rfl | (simp; done) | (simp [*]; done)), H', ⟨by have := HJ1.out; have := HJ5.out; have := HJ8.out; have := HK4.out; omega⟩, ⟨by repeat (first | (with_reducible first | exact HB.out | apply below_alloc | apply pw_below_drewN | apply below_drew1) | exact HB.out)⟩⟩
                  ·rw [if_neg c28] at H
                   exact absurd H (by simp)
                ·rw [if_neg c26] at H
                 have c26b0 : decide (x9_4 < (((x4_5.extract 0 ((ji17) : Int).toNat) ++ (x4_5.extract ((ji20) : Int).toNat x4_5.size)).size : Int)) = false := decide_eq_false c26
                 (try have c26b8 : decide (x9_4 < (((min (ji17 : Int).toNat x4_5.size : Nat) : Int) + ((x4_5.size - (ji20 : Int).toNat : Nat) : Int))) = false := (by rw [show (((min (ji17 : Int).toNat x4_5.size : Nat) : Int) + ((x4_5.size - (ji20 : Int).toNat : Nat) : Int)) = (((x4_5.extract 0 ((ji17) : Int).toNat) ++ (x4_5.extract ((ji20) : Int).toNat x4_5.size)).size : Int) from (by simp only [ByteArray.size_append, ByteArray.size_extract]; omega)]; exact c26b0))
                 clear c26
                 by_cases c30 : x5_1 = true
                 ·subst c30
                  have H1 : (if x8_4 > 9223372036854775808 then (some (0, false)) else ((guichetref12_MoneyText.f k4 (wrap64 (-(wrap64 (x8_4))))).bind fun t114 => (if t114.toList = a0.toList then (some (wrap64 (-(wrap64 (x8_4))), true)) else (some (0, false))))) = some (r1, r2) := by rw [if_pos rfl] at H; exact H
                  clear H
                  have H := H1
                  clear H1
                  by_cases c31 : x8_4 > 9223372036854775808
                  ·rw [if_pos c31] at H
                   have c31b0 : decide (9223372036854775808 < x8_4) = true := decide_eq_true c31
                   clear c31
                   simp only [Option.some.injEq, Prod.mk.injEq] at H
                   obtain ⟨rfl, rfl⟩ := H
                   go_wp2
                   repeat (go_quiet (fail); try go_wp2)
                   go_ret2
                   exact ⟨by first | rfl | (simp [errW_none, errW_some] <;> rfl) | (simp only [← hji17, ← hji20]; first | rfl | (simp [errW_none, errW_some] <;> rfl)) | (simp [*, errW_none, errW_some] <;> rfl), by repeat (first | (with_reducible first | exact HB.out | apply below_alloc | apply pw_below_drewN | apply below_drew1) | exact HB.out)⟩
                  ·rw [if_neg c31] at H
                   have c31b0 : decide (9223372036854775808 < x8_4) = false := decide_eq_false c31
                   clear c31
                   replace H := Option.bind_eq_some_iff.mp H
                   obtain ⟨t114, A320, H⟩ := H
                   replace H : (if t114.toList = a0.toList then (some (wrap64 (-(wrap64 (x8_4))), true)) else (some (0, false))) = some (r1, r2) := H
                   have A32 := Aside0.mk A320
                   clear A320
                   by_cases c33 : t114.toList = a0.toList
                   ·rw [if_pos c33] at H
                    have c33b0 : (t114.toList == a0.toList) = true := beq_iff_eq.mpr c33
                    have c33b1 : (t114.toList != a0.toList) = false := bne_eq_false_iff_eq.mpr c33
                    clear c33
                    simp only [Option.some.injEq, Prod.mk.injEq] at H
                    obtain ⟨rfl, rfl⟩ := H
                    go_wp2_with (first | (go_at_call 11; (with_reducible refine (guichetref12_MoneyText.calls k4 (wrap64 (-(wrap64 (x8_4)))) t114 _ A32.out).mono ?_); rintro e w34 ⟨rfl, hb⟩; have n0_ := Aside0.mk (below_step (by repeat (first | (with_reducible first | exact HB.out | apply below_alloc | apply pw_below_drewN | apply below_drew1) | exact HB.out)) hb); clear HB; have HB := n0_; clear n0_; (try clear hb); (try clear hb2); (try clear hk); (try clear hi)))
                    repeat (go_quiet (first | (go_at_call 11; (with_reducible refine (guichetref12_MoneyText.calls k4 (wrap64 (-(wrap64 (x8_4)))) t114 _ A32.out).mono ?_); rintro e w34 ⟨rfl, hb⟩; have n0_ := Aside0.mk (below_step (by repeat (first | (with_reducible first | exact HB.out | apply below_alloc | apply pw_below_drewN | apply below_drew1) | exact HB.out)) hb); clear HB; have HB := n0_; clear n0_; (try clear hb); (try clear hb2); (try clear hk); (try clear hi))); try go_wp2_with (first | (go_at_call 11; (with_reducible refine (guichetref12_MoneyText.calls k4 (wrap64 (-(wrap64 (x8_4)))) t114 _ A32.out).mono ?_); rintro e w34 ⟨rfl, hb⟩; have n0_ := Aside0.mk (below_step (by repeat (first | (with_reducible first | exact HB.out | apply below_alloc | apply pw_below_drewN | apply below_drew1) | exact HB.out)) hb); clear HB; have HB := n0_; clear n0_; (try clear hb); (try clear hb2); (try clear hk); (try clear hi))))
                    go_ret2
                    exact ⟨by first | rfl | (simp [errW_none, errW_some] <;> rfl) | (simp only [← hji17, ← hji20]; first | rfl | (simp [errW_none, errW_some] <;> rfl)) | (simp [*, errW_none, errW_some] <;> rfl), by repeat (first | (with_reducible first | exact HB.out | apply below_alloc | apply pw_below_drewN | apply below_drew1) | exact HB.out)⟩
                   ·rw [if_neg c33] at H
                    have c33b0 : (t114.toList == a0.toList) = false := beq_eq_false_iff_ne.mpr c33
                    have c33b1 : (t114.toList != a0.toList) = true := bne_iff_ne.mpr c33
                    simp only [Option.some.injEq, Prod.mk.injEq] at H
                    obtain ⟨rfl, rfl⟩ := H
                    go_wp2_with (first | (go_at_call 11; (with_reducible refine (guichetref12_MoneyText.calls k4 (wrap64 (-(wrap64 (x8_4)))) t114 _ A32.out).mono ?_); rintro e w35 ⟨rfl, hb⟩; have n0_ := Aside0.mk (below_step (by repeat (first | (with_reducible first | exact HB.out | apply below_alloc | apply pw_below_drewN | apply below_drew1) | exact HB.out)) hb); clear HB; have HB := n0_; clear n0_; (try clear hb); (try clear hb2); (try clear hk); (try clear hi)))
                    repeat (go_quiet (first | (go_at_call 11; (with_reducible refine (guichetref12_MoneyText.calls k4 (wrap64 (-(wrap64 (x8_4)))) t114 _ A32.out).mono ?_); rintro e w35 ⟨rfl, hb⟩; have n0_ := Aside0.mk (below_step (by repeat (first | (with_reducible first | exact HB.out | apply below_alloc | apply pw_below_drewN | apply below_drew1) | exact HB.out)) hb); clear HB; have HB := n0_; clear n0_; (try clear hb); (try clear hb2); (try clear hk); (try clear hi))); try go_wp2_with (first | (go_at_call 11; (with_reducible refine (guichetref12_MoneyText.calls k4 (wrap64 (-(wrap64 (x8_4)))) t114 _ A32.out).mono ?_); rintro e w35 ⟨rfl, hb⟩; have n0_ := Aside0.mk (below_step (by repeat (first | (with_reducible first | exact HB.out | apply below_alloc | apply pw_below_drewN | apply below_drew1) | exact HB.out)) hb); clear HB; have HB := n0_; clear n0_; (try clear hb); (try clear hb2); (try clear hk); (try clear hi))))
                    go_ret2
                    exact ⟨by first | rfl | (simp [errW_none, errW_some] <;> rfl) | (simp only [← hji17, ← hji20]; first | rfl | (simp [errW_none, errW_some] <;> rfl)) | (simp [*, errW_none, errW_some] <;> rfl), by repeat (first | (with_reducible first | exact HB.out | apply below_alloc | apply pw_below_drewN | apply below_drew1) | exact HB.out)⟩
                 ·replace c30 := Bool.eq_false_iff.mpr c30
                  subst c30
                  have H1 : (if x8_4 > 9223372036854775808 then (some (0, false)) else (if x8_4 = 9223372036854775808 then (some (0, false)) else ((guichetref12_MoneyText.f k4 (wrap64 (x8_4))).bind fun t115 => (if t115.toList = a0.toList then (some (wrap64 (x8_4), true)) else (some (0, false)))))) = some (r1, r2) := by rw [if_neg (show ¬ (false = true) by decide)] at H; exact H
                  clear H
                  have H := H1
                  clear H1
                  by_cases c36 : x8_4 > 9223372036854775808
                  ·rw [if_pos c36] at H
                   have c36b0 : decide (9223372036854775808 < x8_4) = true := decide_eq_true c36
                   clear c36
                   simp only [Option.some.injEq, Prod.mk.injEq] at H
                   obtain ⟨rfl, rfl⟩ := H
                   go_wp2
                   repeat (go_quiet (fail); try go_wp2)
                   go_ret2
                   exact ⟨by first | rfl | (simp [errW_none, errW_some] <;> rfl) | (simp only [← hji17, ← hji20]; first | rfl | (simp [errW_none, errW_some] <;> rfl)) | (simp [*, errW_none, errW_some] <;> rfl), by repeat (first | (with_reducible first | exact HB.out | apply below_alloc | apply pw_below_drewN | apply below_drew1) | exact HB.out)⟩
                  ·rw [if_neg c36] at H
                   have c36b0 : decide (9223372036854775808 < x8_4) = false := decide_eq_false c36
                   clear c36
                   by_cases c37 : x8_4 = 9223372036854775808
                   ·rw [if_pos c37] at H
                    have c37b0 : (x8_4 == 9223372036854775808) = true := beq_iff_eq.mpr c37
                    have c37b1 : (x8_4 != 9223372036854775808) = false := bne_eq_false_iff_eq.mpr c37
                    clear c37
                    simp only [Option.some.injEq, Prod.mk.injEq] at H
                    obtain ⟨rfl, rfl⟩ := H
                    go_wp2
                    repeat (go_quiet (fail); try go_wp2)
                    go_ret2
                    exact ⟨by first | rfl | (simp [errW_none, errW_some] <;> rfl) | (simp only [← hji17, ← hji20]; first | rfl | (simp [errW_none, errW_some] <;> rfl)) | (simp [*, errW_none, errW_some] <;> rfl), by repeat (first | (with_reducible first | exact HB.out | apply below_alloc | apply pw_below_drewN | apply below_drew1) | exact HB.out)⟩
                   ·rw [if_neg c37] at H
                    have c37b0 : (x8_4 == 9223372036854775808) = false := beq_eq_false_iff_ne.mpr c37
                    have c37b1 : (x8_4 != 9223372036854775808) = true := bne_iff_ne.mpr c37
                    replace H := Option.bind_eq_some_iff.mp H
                    obtain ⟨t115, A380, H⟩ := H
                    replace H : (if t115.toList = a0.toList then (some (wrap64 (x8_4), true)) else (some (0, false))) = some (r1, r2) := H
                    have A38 := Aside0.mk A380
                    clear A380
                    by_cases c39 : t115.toList = a0.toList
                    ·rw [if_pos c39] at H
                     have c39b0 : (t115.toList == a0.toList) = true := beq_iff_eq.mpr c39
                     have c39b1 : (t115.toList != a0.toList) = false := bne_eq_false_iff_eq.mpr c39
                     clear c39
                     simp only [Option.some.injEq, Prod.mk.injEq] at H
                     obtain ⟨rfl, rfl⟩ := H
                     go_wp2_with (first | (go_at_call 11; (with_reducible refine (guichetref12_MoneyText.calls k4 (wrap64 (x8_4)) t115 _ A38.out).mono ?_); rintro e w40 ⟨rfl, hb⟩; have n0_ := Aside0.mk (below_step (by repeat (first | (with_reducible first | exact HB.out | apply below_alloc | apply pw_below_drewN | apply below_drew1) | exact HB.out)) hb); clear HB; have HB := n0_; clear n0_; (try clear hb); (try clear hb2); (try clear hk); (try clear hi)))
                     repeat (go_quiet (first | (go_at_call 11; (with_reducible refine (guichetref12_MoneyText.calls k4 (wrap64 (x8_4)) t115 _ A38.out).mono ?_); rintro e w40 ⟨rfl, hb⟩; have n0_ := Aside0.mk (below_step (by repeat (first | (with_reducible first | exact HB.out | apply below_alloc | apply pw_below_drewN | apply below_drew1) | exact HB.out)) hb); clear HB; have HB := n0_; clear n0_; (try clear hb); (try clear hb2); (try clear hk); (try clear hi))); try go_wp2_with (first | (go_at_call 11; (with_reducible refine (guichetref12_MoneyText.calls k4 (wrap64 (x8_4)) t115 _ A38.out).mono ?_); rintro e w40 ⟨rfl, hb⟩; have n0_ := Aside0.mk (below_step (by repeat (first | (with_reducible first | exact HB.out | apply below_alloc | apply pw_below_drewN | apply below_drew1) | exact HB.out)) hb); clear HB; have HB := n0_; clear n0_; (try clear hb); (try clear hb2); (try clear hk); (try clear hi))))
                     go_ret2
                     exact ⟨by first | rfl | (simp [errW_none, errW_some] <;> rfl) | (simp only [← hji17, ← hji20]; first | rfl | (simp [errW_none, errW_some] <;> rfl)) | (simp [*, errW_none, errW_some] <;> rfl), by repeat (first | (with_reducible first | exact HB.out | apply below_alloc | apply pw_below_drewN | apply below_drew1) | exact HB.out)⟩
                    ·rw [if_neg c39] at H
                     have c39b0 : (t115.toList == a0.toList) = false := beq_eq_false_iff_ne.mpr c39
                     have c39b1 : (t115.toList != a0.toList) = true := bne_iff_ne.mpr c39
                     simp only [Option.some.injEq, Prod.mk.injEq] at H
                     obtain ⟨rfl, rfl⟩ := H
                     go_wp2_with (first | (go_at_call 11; (with_reducible refine (guichetref12_MoneyText.calls k4 (wrap64 (x8_4)) t115 _ A38.out).mono ?_); rintro e w41 ⟨rfl, hb⟩; have n0_ := Aside0.mk (below_step (by repeat (first | (with_reducible first | exact HB.out | apply below_alloc | apply pw_below_drewN | apply below_drew1) | exact HB.out)) hb); clear HB; have HB := n0_; clear n0_; (try clear hb); (try clear hb2); (try clear hk); (try clear hi)))
                     repeat (go_quiet (first | (go_at_call 11; (with_reducible refine (guichetref12_MoneyText.calls k4 (wrap64 (x8_4)) t115 _ A38.out).mono ?_); rintro e w41 ⟨rfl, hb⟩; have n0_ := Aside0.mk (below_step (by repeat (first | (with_reducible first | exact HB.out | apply below_alloc | apply pw_below_drewN | apply below_drew1) | exact HB.out)) hb); clear HB; have HB := n0_; clear n0_; (try clear hb); (try clear hb2); (try clear hk); (try clear hi))); try go_wp2_with (first | (go_at_call 11; (with_reducible refine (guichetref12_MoneyText.calls k4 (wrap64 (x8_4)) t115 _ A38.out).mono ?_); rintro e w41 ⟨rfl, hb⟩; have n0_ := Aside0.mk (below_step (by repeat (first | (with_reducible first | exact HB.out | apply below_alloc | apply pw_below_drewN | apply below_drew1) | exact HB.out)) hb); clear HB; have HB := n0_; clear n0_; (try clear hb); (try clear hb2); (try clear hk); (try clear hi))))
                     go_ret2
                     exact ⟨by first | rfl | (simp [errW_none, errW_some] <;> rfl) | (simp only [← hji17, ← hji20]; first | rfl | (simp [errW_none, errW_some] <;> rfl)) | (simp [*, errW_none, errW_some] <;> rfl), by repeat (first | (with_reducible first | exact HB.out | apply below_alloc | apply pw_below_drewN | apply below_drew1) | exact HB.out)⟩
             ·replace c25 := Bool.eq_false_iff.mpr c25
              subst c25
              have H1 : (some (0, false)) = some (r1, r2) := by rw [if_neg (show ¬ (false = true) by decide)] at H; exact H
              clear H
              have H := H1
              clear H1
              simp only [Option.some.injEq, Prod.mk.injEq] at H
              obtain ⟨rfl, rfl⟩ := H
              go_wp2_with (first | (go_at_call 23; (with_reducible refine (guichetref1_AllDigits.calls kj8 ((x4_5.extract 0 ((ji17) : Int).toNat) ++ (x4_5.extract ((ji20) : Int).toNat x4_5.size)) false _ A24.out).mono ?_); rintro e w' ⟨rfl, ⟨nd, rfl⟩⟩; (try first | exact ⟨rfl, _, World.drewN_drewN _ _ _⟩ | exact ⟨rfl, _, Eq.trans (World.drewN_drewN _ _ _) (congrArg (World.drewN _) (Nat.add_assoc _ _ _))⟩)))
              repeat (go_quiet (first | (go_at_call 23; (with_reducible refine (guichetref1_AllDigits.calls kj8 ((x4_5.extract 0 ((ji17) : Int).toNat) ++ (x4_5.extract ((ji20) : Int).toNat x4_5.size)) false _ A24.out).mono ?_); rintro e w' ⟨rfl, ⟨nd, rfl⟩⟩; (try first | exact ⟨rfl, _, World.drewN_drewN _ _ _⟩ | exact ⟨rfl, _, Eq.trans (World.drewN_drewN _ _ _) (congrArg (World.drewN _) (Nat.add_assoc _ _ _))⟩))); try go_wp2_with (first | (go_at_call 23; (with_reducible refine (guichetref1_AllDigits.calls kj8 ((x4_5.extract 0 ((ji17) : Int).toNat) ++ (x4_5.extract ((ji20) : Int).toNat x4_5.size)) false _ A24.out).mono ?_); rintro e w' ⟨rfl, ⟨nd, rfl⟩⟩; (try first | exact ⟨rfl, _, World.drewN_drewN _ _ _⟩ | exact ⟨rfl, _, Eq.trans (World.drewN_drewN _ _ _) (congrArg (World.drewN _) (Nat.add_assoc _ _ _))⟩))))
              go_ret2
              exact ⟨by first | rfl | (simp [errW_none, errW_some] <;> rfl) | (simp only [← hji17, ← hji20]; first | rfl | (simp [errW_none, errW_some] <;> rfl)) | (simp [*, errW_none, errW_some] <;> rfl), by repeat (first | (with_reducible first | exact HB.out | apply below_alloc | apply pw_below_drewN | apply below_drew1) | exact HB.out)⟩
            ·rw [if_neg c23] at H
             exact absurd H (by simp)
           ·rw [if_neg c22] at H
            exact absurd H (by simp)
          ·rw [if_neg c21] at H
           exact absurd H (by simp)
         ·rw [if_neg c19] at H
          exact absurd H (by simp)
        ·rw [if_neg c18] at H
         exact absurd H (by simp)

end Go.Proofs.YtjbhgooakdpabaaDoor.PAll
