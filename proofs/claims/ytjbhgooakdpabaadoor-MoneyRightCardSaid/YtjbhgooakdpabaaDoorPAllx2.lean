-- written by xprint.py out of the translation. Not trusted: Lean checks it.
import Derived.Test.YtjbhgooakdpabaaDoorPAllx0
import Derived.Test.YtjbhgooakdpabaaDoorPAllx1
namespace Go.Proofs.YtjbhgooakdpabaaDoor.PAll
open Go.RowKit Go.Proofs.YtjbhgooakdpabaaDoorW.PrintWords Go.Proofs.YtjbhgooakdpabaaDoorW.PrintLast Go.Proofs.YtjbhgooakdpabaaDoorW.PrintMore
attribute [local go_sem] max2_int min2_int max_two min_two max_three min_three max_four min_four   -- for this text's walks alone
set_option linter.unusedVariables false
set_option linter.unusedSimpArgs false

/-! ### guichetref1_Num: function 17 -/
mutual
def guichetref1_Num.j0 : Nat → ByteArray → Bool → Option (Int × Bool)
 | 0, _, _ => none
 | k + 1, x0, x18 => if x18 = true then (some (0, false)) else (guichetref1_Num.l0 k x0 0 0)
def guichetref1_Num.l0 : Nat → ByteArray → Int → Int → Option (Int × Bool)
 | 0, _, _, _ => none
 | k + 1, x0, x4, x5 => if x5 < (x0.size : Int) then (if 0 ≤ x5 then (guichetref1_Num.l0 k x0 (wrap64 ((wrap64 (10 * x4)) + (((bt x0 x5) - 48) % 256))) (wrap64 (x5 + 1))) else (none)) else (some (x4, true))
end
def guichetref1_Num.f (k : Nat) (a0 : ByteArray) : Option (Int × Bool) := if (a0.size : Int) < 1 then (guichetref1_Num.j0 k a0 true) else (if (a0.size : Int) > 18 then (guichetref1_Num.j0 k a0 true) else ((guichetref1_AllDigits.f k a0).bind fun t105 => (guichetref1_Num.j0 k a0 (!t105))))
theorem guichetref1_Num.mono_l : ∀ k, (∀ y0 y1, LeO (guichetref1_Num.j0 k y0 y1) (guichetref1_Num.j0 (k + 1) y0 y1)) ∧ (∀ y0 y1 y2, LeO (guichetref1_Num.l0 k y0 y1 y2) (guichetref1_Num.l0 (k + 1) y0 y1 y2))
 | 0 => ⟨fun _ _ r h => by simp [guichetref1_Num.j0] at h, fun _ _ _ r h => by simp [guichetref1_Num.l0] at h⟩
 | k + 1 => by
  obtain ⟨ih0, ih1⟩ := guichetref1_Num.mono_l k
  refine ⟨?_, ?_⟩
  ·intro y0 y1
   unfold guichetref1_Num.j0
   repeat' first
   | (with_reducible exact ih0 _ _)
   | (with_reducible exact ih1 _ _ _)
   | (with_reducible exact guichetref1_AllDigits.mono _ _)
   | (with_reducible exact LeO.refl _)
   | (with_reducible exact LeO.none _)
   | (with_reducible refine LeO.ite ?_ ?_)
   | (with_reducible refine LeO.bind ?_ (fun _ => ?_))
   | exact ih0 _ _
   | exact ih1 _ _ _
   | exact guichetref1_AllDigits.mono _ _
   | exact LeO.none _
   | refine LeO.ite ?_ ?_
   | refine LeO.bind ?_ (fun _ => ?_)
  ·intro y0 y1 y2
   unfold guichetref1_Num.l0
   repeat' first
   | (with_reducible exact ih0 _ _)
   | (with_reducible exact ih1 _ _ _)
   | (with_reducible exact guichetref1_AllDigits.mono _ _)
   | (with_reducible exact LeO.refl _)
   | (with_reducible exact LeO.none _)
   | (with_reducible refine LeO.ite ?_ ?_)
   | (with_reducible refine LeO.bind ?_ (fun _ => ?_))
   | exact ih0 _ _
   | exact ih1 _ _ _
   | exact guichetref1_AllDigits.mono _ _
   | exact LeO.none _
   | refine LeO.ite ?_ ?_
   | refine LeO.bind ?_ (fun _ => ?_)
theorem guichetref1_Num.mono : ∀ a0 k, LeO (guichetref1_Num.f k a0) (guichetref1_Num.f (k + 1) a0) := by
 intro a0 k
 obtain ⟨ih0, ih1⟩ := guichetref1_Num.mono_l k
 unfold guichetref1_Num.f
 repeat' first
   | (with_reducible exact ih0 _ _)
   | (with_reducible exact ih1 _ _ _)
   | (with_reducible exact guichetref1_AllDigits.mono _ _)
   | (with_reducible exact LeO.refl _)
   | (with_reducible exact LeO.none _)
   | (with_reducible refine LeO.ite ?_ ?_)
   | (with_reducible refine LeO.bind ?_ (fun _ => ?_))
   | exact ih0 _ _
   | exact ih1 _ _ _
   | exact guichetref1_AllDigits.mono _ _
   | exact LeO.none _
   | refine LeO.ite ?_ ?_
   | refine LeO.bind ?_ (fun _ => ?_)
set_option maxHeartbeats 8000000 in
set_option maxRecDepth 100000 in
theorem guichetref1_Num.calls (k : Nat) (a0 : ByteArray) (r1 : Int) (r2 : Bool) (w : World) (h : guichetref1_Num.f k a0 = some (r1, r2)) :
  Calls Tryd.prog 17 #[.string a0] w fun e w' => e = .returned (.tuple #[.int .i64 r1, .bool r2]) ∧ Drawn0 w w' := by
 have H : (if (a0.size : Int) < 1 then (guichetref1_Num.j0 k a0 true) else (if (a0.size : Int) > 18 then (guichetref1_Num.j0 k a0 true) else ((guichetref1_AllDigits.f k a0).bind fun t105 => (guichetref1_Num.j0 k a0 (!t105))))) = some (r1, r2) := h
 clear h
 have HC2 := Aside0.mk H
 clear H
 go_enter Tryd.func17, Tryd.ntmps17
 go_upto_region 1 with (fail)
 go_cut [18] (fun v18 wc => ∃ (kq : Nat) (x18_1 : Bool), v18 = .bool x18_1 ∧ Aside0 (guichetref1_Num.j0 kq a0 x18_1 = some (r1, r2)) ∧ Aside0 (kq ≤ k) ∧ Drawn0 w wc)
 case first =>
  have H := HC2.out
  clear HC2
  by_cases c3 : (a0.size : Int) < 1
  ·rw [if_pos c3] at H
   have c3b0 : decide ((a0.size : Int) < 1) = true := decide_eq_true c3
   have c3b1 : decide (a0.size < 1) = true := decide_eq_true (by omega)
   clear c3
   (first | rw [c3b0] | rw [c3b1] | (simp only [i64_w, i32_w]; rw [c3b0]) | skip)
   have H' := Aside0.mk H
   clear H
   go_wp2
   go_meet
   case rel => exact ⟨_, (true), (by first | rfl | (simp; done) | (simp [*]; done)), H', ⟨by first | omega | exact Nat.le_refl _⟩, by repeat (first | exact Drawn0.refl _ | apply Drawn0.step)⟩
  ·rw [if_neg c3] at H
   have c3b0 : decide ((a0.size : Int) < 1) = false := decide_eq_false c3
   have c3b1 : decide (a0.size < 1) = false := decide_eq_false (by omega)
   clear c3
   (first | rw [c3b0] | rw [c3b1] | (simp only [i64_w, i32_w]; rw [c3b0]) | skip)
   by_cases c4 : (a0.size : Int) > 18
   ·rw [if_pos c4] at H
    have c4b0 : decide (18 < (a0.size : Int)) = true := decide_eq_true c4
    have c4b1 : decide (18 < a0.size) = true := decide_eq_true (by omega)
    clear c4
    have H' := Aside0.mk H
    clear H
    go_wp2
    go_meet
    case rel => exact ⟨_, (true), (by first | rfl | (simp; done) | (simp [*]; done)), H', ⟨by first | omega | exact Nat.le_refl _⟩, by repeat (first | exact Drawn0.refl _ | apply Drawn0.step)⟩
   ·rw [if_neg c4] at H
    have c4b0 : decide (18 < (a0.size : Int)) = false := decide_eq_false c4
    have c4b1 : decide (18 < a0.size) = false := decide_eq_false (by omega)
    clear c4
    replace H := Option.bind_eq_some_iff.mp H
    obtain ⟨t105, A50, H⟩ := H
    replace H : (guichetref1_Num.j0 k a0 (!t105)) = some (r1, r2) := H
    have A5 := Aside0.mk A50
    clear A50
    have H' := Aside0.mk H
    clear H
    go_wp2_with (first | (go_at_call 23; (with_reducible refine (guichetref1_AllDigits.calls k a0 t105 _ A5.out).mono ?_); rintro e w' ⟨rfl, ⟨nd, rfl⟩⟩))
    go_meet
    case rel => exact ⟨_, (!t105), (by first | rfl | (simp; done) | (simp [*]; done)), H', ⟨by first | omega | exact Nat.le_refl _⟩, by repeat (first | exact Drawn0.refl _ | apply Drawn0.step)⟩
 case rest =>
  clear HC2
  try clear c1
  try clear p2
  try clear c3
  try clear c3b0
  try clear c3b1
  try clear c4
  try clear c4b0
  try clear c4b1
  obtain ⟨kq, x18_1, rfl, HA, HJ1, ⟨mc1, rfl⟩⟩ := hcut
  cases kq with
  | zero => exact absurd HA.out (by simp [guichetref1_Num.j0])
  | succ kj1 =>
   have H := HA.out
   clear HA
   simp only [guichetref1_Num.j0] at H
   by_cases c6 : x18_1 = true
   ·subst c6
    have H1 : (some (0, false)) = some (r1, r2) := by rw [if_pos rfl] at H; exact H
    clear H
    have H := H1
    clear H1
    simp only [Option.some.injEq, Prod.mk.injEq] at H
    obtain ⟨rfl, rfl⟩ := H
    go_wp2
    go_ret2
    exact ⟨by first | rfl | (simp; done) | (simp [*]; done), by repeat (first | exact Drawn0.refl _ | apply Drawn0.step)⟩
   ·replace c6 := Bool.eq_false_iff.mpr c6
    subst c6
    have H1 : (guichetref1_Num.l0 kj1 a0 0 0) = some (r1, r2) := by rw [if_neg (show ¬ (false = true) by decide)] at H; exact H
    clear H
    have H := H1
    clear H1
    have H' := Aside0.mk H
    clear H
    go_wp2
    go_loopg [4, 5] kj1 (fun kq v4 v5 w' => ∃ (x4_2 : Int) (x5_2 : Int), v4 = .int .i64 x4_2 ∧ v5 = .int .i64 x5_2 ∧ Aside0 (guichetref1_Num.l0 kq a0 x4_2 x5_2 = some (r1, r2)) ∧ Aside0 (kq ≤ kj1) ∧ Drawn0 w w')
    case atStart => exact ⟨(0), (0), (by first | rfl | (simp; done) | (simp [*]; done)), (by first | rfl | (simp; done) | (simp [*]; done)), H', ⟨Nat.le_refl _⟩, by repeat (first | exact Drawn0.refl _ | apply Drawn0.step)⟩
    case round =>
     clear H'
     try clear c1
     try clear p2
     try clear c3
     try clear c3b0
     try clear c3b1
     try clear c4
     try clear c4b0
     try clear c4b1
     try clear c6
     try clear p2
     obtain ⟨x4_2, x5_2, rfl, rfl, HA, HK2, ⟨m2, rfl⟩⟩ := hrel
     cases gk with
     | zero => exact absurd HA.out (by simp [guichetref1_Num.l0])
     | succ k2 =>
      have H := HA.out
      clear HA
      simp only [guichetref1_Num.l0] at H
      by_cases c7 : x5_2 < (a0.size : Int)
      ·rw [if_pos c7] at H
       have c7b0 : decide (x5_2 < (a0.size : Int)) = true := decide_eq_true c7
       clear c7
       by_cases c8 : 0 ≤ x5_2
       ·rw [if_pos c8] at H
        have c8b0 : decide (0 ≤ x5_2) = true := decide_eq_true c8
        clear c8
        have H' := Aside0.mk H
        clear H
        have p9 : 0 ≤ (x5_2 : Int) := of_decide_eq_true (by first | (with_reducible assumption) | assumption)
        have q9 : x5_2 < (a0.size : Int) := of_decide_eq_true (by first | (with_reducible assumption) | assumption)
        have hx9 := bt_at a0 x5_2
        replace p9 := eq_true p9
        replace q9 := eq_true q9
        go_wp2
        go_roundg k2
        case measure => have := HJ1.out; have := HK2.out; omega
        case rel => exact ⟨(wrap64 ((wrap64 (10 * x4_2)) + (((bt a0 x5_2) - 48) % 256))), (wrap64 (x5_2 + 1)), (by first | rfl | (simp; done) | (simp [*]; done)), (by first | rfl | (simp; done) | (simp [*]; done)), H', ⟨by have := HJ1.out; have := HK2.out; omega⟩, by repeat (first | exact Drawn0.refl _ | apply Drawn0.step)⟩
       ·rw [if_neg c8] at H
        exact absurd H (by simp)
      ·rw [if_neg c7] at H
       have c7b0 : decide (x5_2 < (a0.size : Int)) = false := decide_eq_false c7
       clear c7
       simp only [Option.some.injEq, Prod.mk.injEq] at H
       obtain ⟨rfl, rfl⟩ := H
       go_wp2
       go_ret2
       exact ⟨by first | rfl | (simp; done) | (simp [*]; done), by repeat (first | exact Drawn0.refl _ | apply Drawn0.step)⟩

/-! ### guichetref1_abs: function 29 -/
def guichetref1_abs.f (a0 : Int) : Option (Int) := if a0 < 0 then (some (IntKind.u64.wrap ((IntKind.u64.wrap (wrap64 (-(wrap64 (a0 + 1))))) + 1))) else (some (IntKind.u64.wrap (a0)))
set_option maxHeartbeats 8000000 in
set_option maxRecDepth 100000 in
theorem guichetref1_abs.calls (a0 : Int) (r : Int) (w : World) (h : guichetref1_abs.f a0 = some r) :
  Calls Tryd.prog 29 #[.int .i64 a0] w fun e w' => e = .returned (.int .u64 r) ∧ Below w.heap.size w w' := by
 have H : (if a0 < 0 then (some (IntKind.u64.wrap ((IntKind.u64.wrap (wrap64 (-(wrap64 (a0 + 1))))) + 1))) else (some (IntKind.u64.wrap (a0)))) = some r := h
 clear h
 by_cases c2 : a0 < 0
 ·rw [if_pos c2] at H
  have c2b0 : decide (a0 < 0) = true := decide_eq_true c2
  clear c2
  obtain rfl := Option.some.inj H
  go_enter Tryd.func29, Tryd.ntmps29
  go_wp2
  go_ret
  exact ⟨by first | rfl | (simp; done) | (simp [*]; done), Below.refl _ _⟩
 ·rw [if_neg c2] at H
  have c2b0 : decide (a0 < 0) = false := decide_eq_false c2
  clear c2
  obtain rfl := Option.some.inj H
  go_enter Tryd.func29, Tryd.ntmps29
  go_wp2
  go_ret
  exact ⟨by first | rfl | (simp; done) | (simp [*]; done), Below.refl _ _⟩

/-! ### guichetref1_Dec: function 18 -/
def guichetref1_Dec.f : Nat → Int → Option (ByteArray)
 | 0, _ => none
 | k + 1, a0 => if a0 < 0 then ((guichetref1_abs.f a0).bind fun t106 => (if t106 < 10 then (if 0 ≤ t106 then (if t106 ≤ (IntKind.u64.wrap (t106 + 1)) then (if (IntKind.u64.wrap (t106 + 1)) ≤ 10 then (if 1 + ((⟨#[48, 49, 50, 51, 52, 53, 54, 55, 56, 57]⟩ : ByteArray).extract (t106 : Int).toNat ((IntKind.u64.wrap (t106 + 1)) : Int).toNat).size ≤ 9223372036854775807 then (some ((⟨#[45]⟩ : ByteArray) ++ ((⟨#[48, 49, 50, 51, 52, 53, 54, 55, 56, 57]⟩ : ByteArray).extract (t106 : Int).toNat ((IntKind.u64.wrap (t106 + 1)) : Int).toNat))) else (none)) else (none)) else (none)) else (none)) else ((guichetref1_Dec.f k (wrap64 (IntKind.u64.wrap (Int.tdiv t106 10)))).bind fun t107 => (if 1 + t107.size ≤ 9223372036854775807 then (if 0 ≤ (Int.tmod t106 10) then (if (Int.tmod t106 10) ≤ (IntKind.u64.wrap ((Int.tmod t106 10) + 1)) then (if (IntKind.u64.wrap ((Int.tmod t106 10) + 1)) ≤ 10 then (if ((⟨#[45]⟩ : ByteArray) ++ t107).size + ((⟨#[48, 49, 50, 51, 52, 53, 54, 55, 56, 57]⟩ : ByteArray).extract ((Int.tmod t106 10) : Int).toNat ((IntKind.u64.wrap ((Int.tmod t106 10) + 1)) : Int).toNat).size ≤ 9223372036854775807 then (some (((⟨#[45]⟩ : ByteArray) ++ t107) ++ ((⟨#[48, 49, 50, 51, 52, 53, 54, 55, 56, 57]⟩ : ByteArray).extract ((Int.tmod t106 10) : Int).toNat ((IntKind.u64.wrap ((Int.tmod t106 10) + 1)) : Int).toNat))) else (none)) else (none)) else (none)) else (none)) else (none))))) else (if a0 < 10 then (if 0 ≤ a0 then (if a0 ≤ (wrap64 (a0 + 1)) then (if (wrap64 (a0 + 1)) ≤ 10 then (some ((⟨#[48, 49, 50, 51, 52, 53, 54, 55, 56, 57]⟩ : ByteArray).extract (a0 : Int).toNat ((wrap64 (a0 + 1)) : Int).toNat)) else (none)) else (none)) else (none)) else ((guichetref1_Dec.f k (wrap64 (Int.tdiv a0 10))).bind fun t108 => (if 0 ≤ (Int.tmod a0 10) then (if (Int.tmod a0 10) ≤ (wrap64 ((Int.tmod a0 10) + 1)) then (if (wrap64 ((Int.tmod a0 10) + 1)) ≤ 10 then (if t108.size + ((⟨#[48, 49, 50, 51, 52, 53, 54, 55, 56, 57]⟩ : ByteArray).extract ((Int.tmod a0 10) : Int).toNat ((wrap64 ((Int.tmod a0 10) + 1)) : Int).toNat).size ≤ 9223372036854775807 then (some (t108 ++ ((⟨#[48, 49, 50, 51, 52, 53, 54, 55, 56, 57]⟩ : ByteArray).extract ((Int.tmod a0 10) : Int).toNat ((wrap64 ((Int.tmod a0 10) + 1)) : Int).toNat))) else (none)) else (none)) else (none)) else (none))))
theorem guichetref1_Dec.mono_l : ∀ k, (∀ y0, LeO (guichetref1_Dec.f k y0) (guichetref1_Dec.f (k + 1) y0))
 | 0 => fun _ r h => by simp [guichetref1_Dec.f] at h
 | k + 1 => by
  have ih0 := guichetref1_Dec.mono_l k
  ·intro y0
   unfold guichetref1_Dec.f
   repeat' first
   | (with_reducible exact ih0 _)
   | (with_reducible exact LeO.refl _)
   | (with_reducible exact LeO.none _)
   | (with_reducible refine LeO.ite ?_ ?_)
   | (with_reducible refine LeO.bind ?_ (fun _ => ?_))
   | exact ih0 _
   | exact LeO.none _
   | refine LeO.ite ?_ ?_
   | refine LeO.bind ?_ (fun _ => ?_)
theorem guichetref1_Dec.mono : ∀ a0 k, LeO (guichetref1_Dec.f k a0) (guichetref1_Dec.f (k + 1) a0) := by
 intro a0 k
 have ih0 := guichetref1_Dec.mono_l k
 exact ih0 a0
def guichetref1_Dec.T5 : Bool × List (List Nat × List Nat) := (true, [([], []), ([0], [0]), ([1], [1]), ([2], [2]), ([3], [3]), ([], []), ([5], [5]), ([], []), ([7], [7]), ([8], [8]), ([6, 9], [6, 9]), ([4, 10], [4, 10]), ([11, 3, 0, 1, 2, 3, 4, 5, 6, 7, 8, 9, 10, 11], [11])])
def guichetref1_Dec.B5 : List Nat := [0, 1, 3, 7, 15, 0, 32, 0, 128, 384, 992, 2047, 4095]
theorem guichetref1_Dec.tab5 : rtab .any (opsOf Tryd.f18 5) = guichetref1_Dec.T5 := by kernel_rfl
theorem guichetref1_Dec.bits5 : waitsOk guichetref1_Dec.T5.2 guichetref1_Dec.B5 = true := by kernel_rfl
def guichetref1_Dec.T8 : Bool × List (List Nat × List Nat) := (true, [([], []), ([0], [0]), ([1], [1]), ([], []), ([3], [3]), ([], []), ([5], [5]), ([6], [6]), ([4, 7], [4, 7]), ([2, 8], [2, 8]), ([9, 2, 0, 1, 2, 3, 4, 5, 6, 7, 8, 9], [9])])
def guichetref1_Dec.B8 : List Nat := [0, 1, 3, 0, 8, 0, 32, 96, 248, 511, 1023]
theorem guichetref1_Dec.tab8 : rtab .any (opsOf Tryd.f18 8) = guichetref1_Dec.T8 := by kernel_rfl
theorem guichetref1_Dec.bits8 : waitsOk guichetref1_Dec.T8.2 guichetref1_Dec.B8 = true := by kernel_rfl
set_option maxHeartbeats 8000000 in
set_option maxRecDepth 100000 in
theorem guichetref1_Dec.calls (k : Nat) : ∀ (a0 : Int) (r : ByteArray) (w : World) (h : guichetref1_Dec.f k a0 = some r),
  Calls Tryd.prog 18 #[.int .i64 a0] w fun e w' => e = .returned (.string r) ∧ Below w.heap.size w w' := by
 induction k using Nat.strongRecOn with
 | _ k ih =>
 intro a0 r w h
 cases k with
 | zero => exact absurd h (by simp [guichetref1_Dec.f])
 | succ k =>
 simp only [guichetref1_Dec.f] at h
 have HB := Aside0.mk (Below.refl w.heap.size w)
 have H : (if a0 < 0 then ((guichetref1_abs.f a0).bind fun t106 => (if t106 < 10 then (if 0 ≤ t106 then (if t106 ≤ (IntKind.u64.wrap (t106 + 1)) then (if (IntKind.u64.wrap (t106 + 1)) ≤ 10 then (if 1 + ((⟨#[48, 49, 50, 51, 52, 53, 54, 55, 56, 57]⟩ : ByteArray).extract (t106 : Int).toNat ((IntKind.u64.wrap (t106 + 1)) : Int).toNat).size ≤ 9223372036854775807 then (some ((⟨#[45]⟩ : ByteArray) ++ ((⟨#[48, 49, 50, 51, 52, 53, 54, 55, 56, 57]⟩ : ByteArray).extract (t106 : Int).toNat ((IntKind.u64.wrap (t106 + 1)) : Int).toNat))) else (none)) else (none)) else (none)) else (none)) else ((guichetref1_Dec.f k (wrap64 (IntKind.u64.wrap (Int.tdiv t106 10)))).bind fun t107 => (if 1 + t107.size ≤ 9223372036854775807 then (if 0 ≤ (Int.tmod t106 10) then (if (Int.tmod t106 10) ≤ (IntKind.u64.wrap ((Int.tmod t106 10) + 1)) then (if (IntKind.u64.wrap ((Int.tmod t106 10) + 1)) ≤ 10 then (if ((⟨#[45]⟩ : ByteArray) ++ t107).size + ((⟨#[48, 49, 50, 51, 52, 53, 54, 55, 56, 57]⟩ : ByteArray).extract ((Int.tmod t106 10) : Int).toNat ((IntKind.u64.wrap ((Int.tmod t106 10) + 1)) : Int).toNat).size ≤ 9223372036854775807 then (some (((⟨#[45]⟩ : ByteArray) ++ t107) ++ ((⟨#[48, 49, 50, 51, 52, 53, 54, 55, 56, 57]⟩ : ByteArray).extract ((Int.tmod t106 10) : Int).toNat ((IntKind.u64.wrap ((Int.tmod t106 10) + 1)) : Int).toNat))) else (none)) else (none)) else (none)) else (none)) else (none))))) else (if a0 < 10 then (if 0 ≤ a0 then (if a0 ≤ (wrap64 (a0 + 1)) then (if (wrap64 (a0 + 1)) ≤ 10 then (some ((⟨#[48, 49, 50, 51, 52, 53, 54, 55, 56, 57]⟩ : ByteArray).extract (a0 : Int).toNat ((wrap64 (a0 + 1)) : Int).toNat)) else (none)) else (none)) else (none)) else ((guichetref1_Dec.f k (wrap64 (Int.tdiv a0 10))).bind fun t108 => (if 0 ≤ (Int.tmod a0 10) then (if (Int.tmod a0 10) ≤ (wrap64 ((Int.tmod a0 10) + 1)) then (if (wrap64 ((Int.tmod a0 10) + 1)) ≤ 10 then (if t108.size + ((⟨#[48, 49, 50, 51, 52, 53, 54, 55, 56, 57]⟩ : ByteArray).extract ((Int.tmod a0 10) : Int).toNat ((wrap64 ((Int.tmod a0 10) + 1)) : Int).toNat).size ≤ 9223372036854775807 then (some (t108 ++ ((⟨#[48, 49, 50, 51, 52, 53, 54, 55, 56, 57]⟩ : ByteArray).extract ((Int.tmod a0 10) : Int).toNat ((wrap64 ((Int.tmod a0 10) + 1)) : Int).toNat))) else (none)) else (none)) else (none)) else (none))))) = some r := h
 clear h
 by_cases c2 : a0 < 0
 ·rw [if_pos c2] at H
  have c2b0 : decide (a0 < 0) = true := decide_eq_true c2
  clear c2
  replace H := Option.bind_eq_some_iff.mp H
  obtain ⟨t106, A30, H⟩ := H
  replace H : (if t106 < 10 then (if 0 ≤ t106 then (if t106 ≤ (IntKind.u64.wrap (t106 + 1)) then (if (IntKind.u64.wrap (t106 + 1)) ≤ 10 then (if 1 + ((⟨#[48, 49, 50, 51, 52, 53, 54, 55, 56, 57]⟩ : ByteArray).extract (t106 : Int).toNat ((IntKind.u64.wrap (t106 + 1)) : Int).toNat).size ≤ 9223372036854775807 then (some ((⟨#[45]⟩ : ByteArray) ++ ((⟨#[48, 49, 50, 51, 52, 53, 54, 55, 56, 57]⟩ : ByteArray).extract (t106 : Int).toNat ((IntKind.u64.wrap (t106 + 1)) : Int).toNat))) else (none)) else (none)) else (none)) else (none)) else ((guichetref1_Dec.f k (wrap64 (IntKind.u64.wrap (Int.tdiv t106 10)))).bind fun t107 => (if 1 + t107.size ≤ 9223372036854775807 then (if 0 ≤ (Int.tmod t106 10) then (if (Int.tmod t106 10) ≤ (IntKind.u64.wrap ((Int.tmod t106 10) + 1)) then (if (IntKind.u64.wrap ((Int.tmod t106 10) + 1)) ≤ 10 then (if ((⟨#[45]⟩ : ByteArray) ++ t107).size + ((⟨#[48, 49, 50, 51, 52, 53, 54, 55, 56, 57]⟩ : ByteArray).extract ((Int.tmod t106 10) : Int).toNat ((IntKind.u64.wrap ((Int.tmod t106 10) + 1)) : Int).toNat).size ≤ 9223372036854775807 then (some (((⟨#[45]⟩ : ByteArray) ++ t107) ++ ((⟨#[48, 49, 50, 51, 52, 53, 54, 55, 56, 57]⟩ : ByteArray).extract ((Int.tmod t106 10) : Int).toNat ((IntKind.u64.wrap ((Int.tmod t106 10) + 1)) : Int).toNat))) else (none)) else (none)) else (none)) else (none)) else (none)))) = some r := H
  have A3 := Aside0.mk A30
  clear A30
  by_cases c4 : t106 < 10
  ·rw [if_pos c4] at H
   have c4b0 : decide (t106 < 10) = true := decide_eq_true c4
   clear c4
   by_cases c5 : 0 ≤ t106
   ·rw [if_pos c5] at H
    have c5b0 := eq_true c5
    have c5b1 : decide (0 ≤ t106) = true := decide_eq_true c5
    clear c5
    by_cases c6 : t106 ≤ (IntKind.u64.wrap (t106 + 1))
    ·rw [if_pos c6] at H
     have c6b0 := eq_true c6
     have c6b1 : decide (t106 ≤ (IntKind.u64.wrap (t106 + 1))) = true := decide_eq_true c6
     by_cases c7 : (IntKind.u64.wrap (t106 + 1)) ≤ 10
     ·rw [if_pos c7] at H
      have c7b0 := eq_true c7
      have c7b1 : decide ((IntKind.u64.wrap (t106 + 1)) ≤ 10) = true := decide_eq_true c7
      by_cases c8 : 1 + ((⟨#[48, 49, 50, 51, 52, 53, 54, 55, 56, 57]⟩ : ByteArray).extract (t106 : Int).toNat ((IntKind.u64.wrap (t106 + 1)) : Int).toNat).size ≤ 9223372036854775807
      ·rw [if_pos c8] at H
       have c8b0 := eq_true c8
       have c8b1 : decide (1 + ((⟨#[48, 49, 50, 51, 52, 53, 54, 55, 56, 57]⟩ : ByteArray).extract (t106 : Int).toNat ((IntKind.u64.wrap (t106 + 1)) : Int).toNat).size ≤ 9223372036854775807) = true := decide_eq_true c8
       have c8b3 : (9223372036854775807 < 1 + (((IntKind.u64.wrap (t106 + 1)) : Int).toNat - (t106 : Int).toNat)) = False := eq_false (by have hb0_ : ((IntKind.u64.wrap (t106 + 1)) : Int) ≤ 10 := of_decide_eq_true (by first | (with_reducible assumption) | assumption); have h_ := c8; simp only [ByteArray.size_extract, ByteArray.size_append] at h_ ⊢; have hk_ : ∀ l_ : Array UInt8, (⟨l_⟩ : ByteArray).size = l_.size := fun _ => rfl; simp only [hk_, List.size_toArray, List.length_cons, List.length_nil] at h_ ⊢; omega)
       try have c8b2 : (9223372036854775807 < 1 + ((⟨#[48, 49, 50, 51, 52, 53, 54, 55, 56, 57]⟩ : ByteArray).extract (t106 : Int).toNat ((IntKind.u64.wrap (t106 + 1)) : Int).toNat).size) = False := eq_false (Nat.not_lt.2 c8)
       obtain rfl := Option.some.inj H
       go_enter Tryd.func18, Tryd.ntmps18
       go_wp2_with (first | ((with_reducible refine gate_callee (f := 29) rfl ?_); refine goesL_ (some 7) rfl rfl Tryd.func29 (by kernel_rfl) rfl #[.int .i64 a0] rfl (by (try simp only [List.map_toArray, List.map_cons, List.map_nil]); first | done | rfl | (simp only [List.length_drop, List.length_take]; rfl) | (rw [hsame_])) ?_; (with_reducible refine (guichetref1_abs.calls a0 t106 _ A3.out).mono ?_); rintro e w9 ⟨rfl, hb⟩; refine ⟨_, rfl, ?_⟩; have n0_ := Aside0.mk (below_step (by repeat (first | (with_reducible first | exact HB.out | apply below_alloc | apply pw_below_drewN | apply below_drew1) | exact HB.out)) hb); clear HB; have HB := n0_; clear n0_; (try clear hb); (try clear hb2); (try clear hk); (try clear hi)))
       go_ret
       exact ⟨by first | rfl | (simp [errW_none, errW_some] <;> rfl) | (simp [*, errW_none, errW_some] <;> rfl), by repeat (first | (with_reducible first | exact HB.out | apply below_alloc | apply pw_below_drewN | apply below_drew1) | exact HB.out)⟩
      ·rw [if_neg c8] at H
       exact absurd H (by simp)
     ·rw [if_neg c7] at H
      exact absurd H (by simp)
    ·rw [if_neg c6] at H
     exact absurd H (by simp)
   ·rw [if_neg c5] at H
    exact absurd H (by simp)
  ·rw [if_neg c4] at H
   have c4b0 : decide (t106 < 10) = false := decide_eq_false c4
   clear c4
   replace H := Option.bind_eq_some_iff.mp H
   obtain ⟨t107, A100, H⟩ := H
   replace H : (if 1 + t107.size ≤ 9223372036854775807 then (if 0 ≤ (Int.tmod t106 10) then (if (Int.tmod t106 10) ≤ (IntKind.u64.wrap ((Int.tmod t106 10) + 1)) then (if (IntKind.u64.wrap ((Int.tmod t106 10) + 1)) ≤ 10 then (if ((⟨#[45]⟩ : ByteArray) ++ t107).size + ((⟨#[48, 49, 50, 51, 52, 53, 54, 55, 56, 57]⟩ : ByteArray).extract ((Int.tmod t106 10) : Int).toNat ((IntKind.u64.wrap ((Int.tmod t106 10) + 1)) : Int).toNat).size ≤ 9223372036854775807 then (some (((⟨#[45]⟩ : ByteArray) ++ t107) ++ ((⟨#[48, 49, 50, 51, 52, 53, 54, 55, 56, 57]⟩ : ByteArray).extract ((Int.tmod t106 10) : Int).toNat ((IntKind.u64.wrap ((Int.tmod t106 10) + 1)) : Int).toNat))) else (none)) else (none)) else (none)) else (none)) else (none)) = some r := H
   have A10 := Aside0.mk A100
   clear A100
   by_cases c11 : 1 + t107.size ≤ 9223372036854775807
   ·rw [if_pos c11] at H
    have c11b0 := eq_true c11
    have c11b1 : decide (1 + t107.size ≤ 9223372036854775807) = true := decide_eq_true c11
    try have c11b2 : (9223372036854775807 < 1 + t107.size) = False := eq_false (Nat.not_lt.2 c11)
    obtain ⟨ji12, hji12⟩ : ∃ j_ : Int, (Int.tmod t106 10) = j_ := ⟨_, rfl⟩
    replace H : (if 0 ≤ (ji12) then (if (ji12) ≤ (IntKind.u64.wrap ((ji12) + 1)) then (if (IntKind.u64.wrap ((ji12) + 1)) ≤ 10 then (if ((⟨#[45]⟩ : ByteArray) ++ t107).size + ((⟨#[48, 49, 50, 51, 52, 53, 54, 55, 56, 57]⟩ : ByteArray).extract ((ji12) : Int).toNat ((IntKind.u64.wrap ((ji12) + 1)) : Int).toNat).size ≤ 9223372036854775807 then (some (((⟨#[45]⟩ : ByteArray) ++ t107) ++ ((⟨#[48, 49, 50, 51, 52, 53, 54, 55, 56, 57]⟩ : ByteArray).extract ((ji12) : Int).toNat ((IntKind.u64.wrap ((ji12) + 1)) : Int).toNat))) else (none)) else (none)) else (none)) else (none)) = some r := by first | (rw [hji12] at H; exact H) | (simp only [hji12] at H ⊢; exact H)
    (try rw [hji12] at A3)
    (try rw [hji12] at A10)
    by_cases c13 : 0 ≤ (ji12)
    ·rw [if_pos c13] at H
     have c13b0 := eq_true c13
     have c13b1 : decide (0 ≤ (ji12)) = true := decide_eq_true c13
     clear c13
     by_cases c14 : (ji12) ≤ (IntKind.u64.wrap ((ji12) + 1))
     ·rw [if_pos c14] at H
      have c14b0 := eq_true c14
      have c14b1 : decide ((ji12) ≤ (IntKind.u64.wrap ((ji12) + 1))) = true := decide_eq_true c14
      by_cases c15 : (IntKind.u64.wrap ((ji12) + 1)) ≤ 10
      ·rw [if_pos c15] at H
       have c15b0 := eq_true c15
       have c15b1 : decide ((IntKind.u64.wrap ((ji12) + 1)) ≤ 10) = true := decide_eq_true c15
       by_cases c16 : ((⟨#[45]⟩ : ByteArray) ++ t107).size + ((⟨#[48, 49, 50, 51, 52, 53, 54, 55, 56, 57]⟩ : ByteArray).extract ((ji12) : Int).toNat ((IntKind.u64.wrap ((ji12) + 1)) : Int).toNat).size ≤ 9223372036854775807
       ·rw [if_pos c16] at H
        have c16b0 := eq_true c16
        have c16b1 : decide (((⟨#[45]⟩ : ByteArray) ++ t107).size + ((⟨#[48, 49, 50, 51, 52, 53, 54, 55, 56, 57]⟩ : ByteArray).extract ((ji12) : Int).toNat ((IntKind.u64.wrap ((ji12) + 1)) : Int).toNat).size ≤ 9223372036854775807) = true := decide_eq_true c16
        have c16b3 : (9223372036854775807 < ((⟨#[45]⟩ : ByteArray) ++ t107).size + (((IntKind.u64.wrap ((ji12) + 1)) : Int).toNat - ((ji12) : Int).toNat)) = False := eq_false (by have hb0_ : ((IntKind.u64.wrap ((ji12) + 1)) : Int) ≤ 10 := of_decide_eq_true (by first | (with_reducible assumption) | assumption); have h_ := c16; simp only [ByteArray.size_extract, ByteArray.size_append] at h_ ⊢; have hk_ : ∀ l_ : Array UInt8, (⟨l_⟩ : ByteArray).size = l_.size := fun _ => rfl; simp only [hk_, List.size_toArray, List.length_cons, List.length_nil] at h_ ⊢; omega)
        have c16b4 : (9223372036854775807 < 1 + t107.size + (((IntKind.u64.wrap ((ji12) + 1)) : Int).toNat - ((ji12) : Int).toNat)) = False := eq_false (by have hb0_ : ((IntKind.u64.wrap ((ji12) + 1)) : Int) ≤ 10 := of_decide_eq_true (by first | (with_reducible assumption) | assumption); have h_ := c16; simp only [ByteArray.size_extract, ByteArray.size_append] at h_ ⊢; have hk_ : ∀ l_ : Array UInt8, (⟨l_⟩ : ByteArray).size = l_.size := fun _ => rfl; simp only [hk_, List.size_toArray, List.length_cons, List.length_nil] at h_ ⊢; omega)
        try have c16b2 : (9223372036854775807 < ((⟨#[45]⟩ : ByteArray) ++ t107).size + ((⟨#[48, 49, 50, 51, 52, 53, 54, 55, 56, 57]⟩ : ByteArray).extract ((ji12) : Int).toNat ((IntKind.u64.wrap ((ji12) + 1)) : Int).toNat).size) = False := eq_false (Nat.not_lt.2 c16)
        obtain rfl := Option.some.inj H
        go_enter Tryd.func18, Tryd.ntmps18
        try go_wp2_with (first | ((with_reducible refine gate_callee (f := 29) rfl ?_); refine goesL_ (some 7) rfl rfl Tryd.func29 (by kernel_rfl) rfl #[.int .i64 a0] rfl (by (try simp only [List.map_toArray, List.map_cons, List.map_nil]); first | done | rfl | (simp only [List.length_drop, List.length_take]; rfl) | (rw [hsame_])) ?_; (with_reducible refine (guichetref1_abs.calls a0 t106 _ A3.out).mono ?_); rintro e w17 ⟨rfl, hb⟩; refine ⟨_, rfl, ?_⟩; have n0_ := Aside0.mk (below_step (by repeat (first | (with_reducible first | exact HB.out | apply below_alloc | apply pw_below_drewN | apply below_drew1) | exact HB.out)) hb); clear HB; have HB := n0_; clear n0_; (try clear hb); (try clear hb2); (try clear hk); (try clear hi)))
        have n0_ := Aside0.mk (below_drew1 HB.out)
        clear HB
        have HB := n0_
        clear n0_
        refine start_ (n := 13) (S := fun w' => True) (ds := []) #[false, false, false, false, false, false, false, false, false, false, false, false, false] (by kernel_rfl) rfl rfl trivial (fun hHeld => ?_); refine with_tabW guichetref1_Dec.tab5 guichetref1_Dec.bits5 (fun HT_ HW_ => ?_)
        generalize w17.drew = w18 at HB hHeld ⊢
        refine pure_ (i := 0) (N := some 15) (v := ?_) (a' := ?_) #[true, false, false, false, false, false, false, false, false, false, false, false, false] rfl rfl (any_of HT_.out (by kernel_rfl)) (fun _ _ _ h => h) (Or.inl ⟨by rfl, ?_⟩) ?_ ?_
        rotate_left
        ·intro w'
         go_simp
         with_reducible rfl
        rotate_left
        ·simp only [Act.put, List.setIfInBounds_toArray, List.set_cons_zero, List.set_cons_succ, i64_w, i32_w]
         rfl
        refine pure_ (i := 1) (N := some 16) (v := ?_) (a' := ?_) #[true, true, false, false, false, false, false, false, false, false, false, false, false] rfl rfl (any_of HT_.out (by kernel_rfl)) (fun _ _ _ h => h) (Or.inl ⟨by rfl, ?_⟩) ?_ ?_
        rotate_left
        ·intro w'
         go_simp
         with_reducible rfl
        rotate_left
        ·simp only [Act.put, List.setIfInBounds_toArray, List.set_cons_zero, List.set_cons_succ, i64_w, i32_w]
         rfl
        refine pure_ (i := 2) (N := some 17) (v := ?_) (a' := ?_) #[true, true, true, false, false, false, false, false, false, false, false, false, false] rfl rfl (any_of HT_.out (by kernel_rfl)) (fun _ _ _ h => h) (Or.inl ⟨by rfl, ?_⟩) ?_ ?_
        rotate_left
        ·intro w'
         go_simp
         with_reducible rfl
        rotate_left
        ·simp only [Act.put, List.setIfInBounds_toArray, List.set_cons_zero, List.set_cons_succ, i64_w, i32_w]
         rfl
        refine pure_ (i := 5) (N := some 20) (v := ?_) (a' := ?_) #[true, true, true, false, false, true, false, false, false, false, false, false, false] rfl rfl (any_of HT_.out (by kernel_rfl)) (fun _ _ _ h => h) (Or.inl ⟨by rfl, ?_⟩) ?_ ?_
        rotate_left
        ·intro w'
         go_simp
         with_reducible rfl
        rotate_left
        ·simp only [Act.put, List.setIfInBounds_toArray, List.set_cons_zero, List.set_cons_succ, i64_w, i32_w]
         rfl
        refine pure_ (i := 6) (N := some 21) (v := ?_) (a' := ?_) #[true, true, true, false, false, true, true, false, false, false, false, false, false] rfl rfl (any_of HT_.out (by kernel_rfl)) (fun _ _ _ h => h) (Or.inl ⟨by rfl, ?_⟩) ?_ ?_
        rotate_left
        ·intro w'
         go_simp
         with_reducible rfl
        rotate_left
        ·simp only [Act.put, List.setIfInBounds_toArray, List.set_cons_zero, List.set_cons_succ, i64_w, i32_w]
         rfl
        refine pure_ (i := 7) (N := some 22) (v := ?_) (a' := ?_) #[true, true, true, false, false, true, true, true, false, false, false, false, false] rfl rfl (any_of HT_.out (by kernel_rfl)) (fun _ _ _ h => h) (Or.inl ⟨by rfl, ?_⟩) ?_ ?_
        rotate_left
        ·intro w'
         go_simp
         with_reducible rfl
        rotate_left
        ·simp only [Act.put, List.setIfInBounds_toArray, List.set_cons_zero, List.set_cons_succ, i64_w, i32_w]
         rfl
        refine pure_ (i := 8) (N := some 23) (v := ?_) (a' := ?_) #[true, true, true, false, false, true, true, true, true, false, false, false, false] rfl rfl (any_of HT_.out (by kernel_rfl)) (fun _ _ _ h => h) (Or.inl ⟨by rfl, ?_⟩) ?_ ?_
        rotate_left
        ·intro w'
         go_simp
         with_reducible rfl
        rotate_left
        ·simp only [Act.put, List.setIfInBounds_toArray, List.set_cons_zero, List.set_cons_succ, i64_w, i32_w]
         rfl
        refine pure_ (i := 9) (N := some 24) (v := ?_) (a' := ?_) #[true, true, true, false, false, true, true, true, true, true, false, false, false] rfl rfl (any_of HT_.out (by kernel_rfl)) (fun _ _ _ h => h) (Or.inl ⟨by rfl, ?_⟩) ?_ ?_
        rotate_left
        ·intro w'
         go_simp
         with_reducible rfl
        rotate_left
        ·simp only [Act.put, List.setIfInBounds_toArray, List.set_cons_zero, List.set_cons_succ, i64_w, i32_w]
         rfl
        refine pure_ (i := 10) (N := some 25) (v := ?_) (a' := ?_) #[true, true, true, false, false, true, true, true, true, true, true, false, false] rfl rfl (any_of HT_.out (by kernel_rfl)) (fun _ _ _ h => h) (Or.inl ⟨by rfl, ?_⟩) ?_ ?_
        rotate_left
        ·intro w'
         go_simp
         with_reducible rfl
        rotate_left
        ·simp only [Act.put, List.setIfInBounds_toArray, List.set_cons_zero, List.set_cons_succ, i64_w, i32_w]
         rfl
        refine one_ (i := 3) (N := some 18) #[true, true, true, true, false, true, true, true, true, true, true, false, false] rfl rfl (one_of HT_.out (by kernel_rfl)) (by decide) (fun K hK => ?_)
        refine goes_ Tryd.func18 (by kernel_rfl) rfl #[.int .i64 (wrap64 (IntKind.u64.wrap (Int.tdiv t106 10)))] (by rfl) rfl rfl (by (try simp only [List.map_toArray, List.map_cons, List.map_nil]); first | done | rfl | (simp only [List.length_drop, List.length_take]; rfl)) ?_
        with_reducible refine (ih k (by omega) (wrap64 (IntKind.u64.wrap (Int.tdiv t106 10))) t107 _ A10.out).mono ?_
        rintro e w19 ⟨rfl, hb⟩
        refine ⟨_, rfl, ?_⟩
        have n0_ := Aside0.mk (below_step (by repeat (first | (with_reducible first | exact HB.out | apply below_alloc | apply pw_below_drewN | apply below_drew1) | exact HB.out)) hb)
        clear HB
        have HB := n0_
        clear n0_
        (try clear hb)
        (try clear hb2)
        (try clear hk)
        (try clear hi)
        refine hK.out _ _ trivial (fun hHeld => ?_)
        clear hK K
        refine norm_ (a' := ?_) ?_ ?_
        rotate_left
        ·show Act.put _ (some 18) _ = _
         simp only [Act.put, List.setIfInBounds_toArray, List.set_cons_zero, List.set_cons_succ, i64_w, i32_w]
         rfl
        refine pure_ (i := 4) (N := some 19) (v := ?_) (a' := ?_) #[true, true, true, true, true, true, true, true, true, true, true, false, false] rfl rfl (any_of HT_.out (by kernel_rfl)) (fun _ _ _ h => h) (Or.inl ⟨by rfl, ?_⟩) ?_ ?_
        rotate_left
        ·intro w'
         go_simp
         with_reducible rfl
        rotate_left
        ·simp only [Act.put, List.setIfInBounds_toArray, List.set_cons_zero, List.set_cons_succ, i64_w, i32_w]
         rfl
        refine pure_ (i := 11) (N := some 26) (v := ?_) (a' := ?_) #[true, true, true, true, true, true, true, true, true, true, true, true, false] rfl rfl (any_of HT_.out (by kernel_rfl)) (fun _ _ _ h => h) (Or.inl ⟨by rfl, ?_⟩) ?_ ?_
        rotate_left
        ·intro w'
         go_simp
         with_reducible rfl
        rotate_left
        ·simp only [Act.put, List.setIfInBounds_toArray, List.set_cons_zero, List.set_cons_succ, i64_w, i32_w]
         rfl
        refine pure_ (i := 12) (N := some 2) (v := ?_) (a' := ?_) #[true, true, true, true, true, true, true, true, true, true, true, true, true] rfl rfl (any_of HT_.out (by kernel_rfl)) (fun _ _ _ h => h) (Or.inl ⟨by rfl, ?_⟩) ?_ ?_
        rotate_left
        ·intro w'
         go_simp
         with_reducible rfl
        rotate_left
        ·simp only [Act.put, List.setIfInBounds_toArray, List.set_cons_zero, List.set_cons_succ, i64_w, i32_w]
         rfl
        refine done_ (done_of HT_.out (by kernel_rfl)) ?_
        try go_wp2
        go_ret
        exact ⟨by first | rfl | (simp [errW_none, errW_some] <;> rfl) | (simp only [← hji12]; first | rfl | (simp [errW_none, errW_some] <;> rfl)) | (simp [*, errW_none, errW_some] <;> rfl), by repeat (first | (with_reducible first | exact HB.out | apply below_alloc | apply pw_below_drewN | apply below_drew1) | exact HB.out)⟩
       ·rw [if_neg c16] at H
        exact absurd H (by simp)
      ·rw [if_neg c15] at H
       exact absurd H (by simp)
     ·rw [if_neg c14] at H
      exact absurd H (by simp)
    ·rw [if_neg c13] at H
     exact absurd H (by simp)
   ·rw [if_neg c11] at H
    exact absurd H (by simp)
 ·rw [if_neg c2] at H
  have c2b0 : decide (a0 < 0) = false := decide_eq_false c2
  clear c2
  by_cases c20 : a0 < 10
  ·rw [if_pos c20] at H
   have c20b0 : decide (a0 < 10) = true := decide_eq_true c20
   clear c20
   by_cases c21 : 0 ≤ a0
   ·rw [if_pos c21] at H
    have c21b0 := eq_true c21
    have c21b1 : decide (0 ≤ a0) = true := decide_eq_true c21
    clear c21
    by_cases c22 : a0 ≤ (wrap64 (a0 + 1))
    ·rw [if_pos c22] at H
     have c22b0 := eq_true c22
     have c22b1 : decide (a0 ≤ (wrap64 (a0 + 1))) = true := decide_eq_true c22
     by_cases c23 : (wrap64 (a0 + 1)) ≤ 10
     ·rw [if_pos c23] at H
      have c23b0 := eq_true c23
      have c23b1 : decide ((wrap64 (a0 + 1)) ≤ 10) = true := decide_eq_true c23
      obtain rfl := Option.some.inj H
      go_enter Tryd.func18, Tryd.ntmps18
      go_wp2
      go_ret
      exact ⟨by first | rfl | (simp [errW_none, errW_some] <;> rfl) | (simp [*, errW_none, errW_some] <;> rfl), by repeat (first | (with_reducible first | exact HB.out | apply below_alloc | apply pw_below_drewN | apply below_drew1) | exact HB.out)⟩
     ·rw [if_neg c23] at H
      exact absurd H (by simp)
    ·rw [if_neg c22] at H
     exact absurd H (by simp)
   ·rw [if_neg c21] at H
    exact absurd H (by simp)
  ·rw [if_neg c20] at H
   have c20b0 : decide (a0 < 10) = false := decide_eq_false c20
   clear c20
   replace H := Option.bind_eq_some_iff.mp H
   obtain ⟨t108, A240, H⟩ := H
   replace H : (if 0 ≤ (Int.tmod a0 10) then (if (Int.tmod a0 10) ≤ (wrap64 ((Int.tmod a0 10) + 1)) then (if (wrap64 ((Int.tmod a0 10) + 1)) ≤ 10 then (if t108.size + ((⟨#[48, 49, 50, 51, 52, 53, 54, 55, 56, 57]⟩ : ByteArray).extract ((Int.tmod a0 10) : Int).toNat ((wrap64 ((Int.tmod a0 10) + 1)) : Int).toNat).size ≤ 9223372036854775807 then (some (t108 ++ ((⟨#[48, 49, 50, 51, 52, 53, 54, 55, 56, 57]⟩ : ByteArray).extract ((Int.tmod a0 10) : Int).toNat ((wrap64 ((Int.tmod a0 10) + 1)) : Int).toNat))) else (none)) else (none)) else (none)) else (none)) = some r := H
   have A24 := Aside0.mk A240
   clear A240
   obtain ⟨ji25, hji25⟩ : ∃ j_ : Int, (Int.tmod a0 10) = j_ := ⟨_, rfl⟩
   replace H : (if 0 ≤ (ji25) then (if (ji25) ≤ (wrap64 ((ji25) + 1)) then (if (wrap64 ((ji25) + 1)) ≤ 10 then (if t108.size + ((⟨#[48, 49, 50, 51, 52, 53, 54, 55, 56, 57]⟩ : ByteArray).extract ((ji25) : Int).toNat ((wrap64 ((ji25) + 1)) : Int).toNat).size ≤ 9223372036854775807 then (some (t108 ++ ((⟨#[48, 49, 50, 51, 52, 53, 54, 55, 56, 57]⟩ : ByteArray).extract ((ji25) : Int).toNat ((wrap64 ((ji25) + 1)) : Int).toNat))) else (none)) else (none)) else (none)) else (none)) = some r := by first | (rw [hji25] at H; exact H) | (simp only [hji25] at H ⊢; exact H)
   (try rw [hji25] at A24)
   by_cases c26 : 0 ≤ (ji25)
   ·rw [if_pos c26] at H
    have c26b0 := eq_true c26
    have c26b1 : decide (0 ≤ (ji25)) = true := decide_eq_true c26
    clear c26
    by_cases c27 : (ji25) ≤ (wrap64 ((ji25) + 1))
    ·rw [if_pos c27] at H
     have c27b0 := eq_true c27
     have c27b1 : decide ((ji25) ≤ (wrap64 ((ji25) + 1))) = true := decide_eq_true c27
     by_cases c28 : (wrap64 ((ji25) + 1)) ≤ 10
     ·rw [if_pos c28] at H
      have c28b0 := eq_true c28
      have c28b1 : decide ((wrap64 ((ji25) + 1)) ≤ 10) = true := decide_eq_true c28
      by_cases c29 : t108.size + ((⟨#[48, 49, 50, 51, 52, 53, 54, 55, 56, 57]⟩ : ByteArray).extract ((ji25) : Int).toNat ((wrap64 ((ji25) + 1)) : Int).toNat).size ≤ 9223372036854775807
      ·rw [if_pos c29] at H
       have c29b0 := eq_true c29
       have c29b1 : decide (t108.size + ((⟨#[48, 49, 50, 51, 52, 53, 54, 55, 56, 57]⟩ : ByteArray).extract ((ji25) : Int).toNat ((wrap64 ((ji25) + 1)) : Int).toNat).size ≤ 9223372036854775807) = true := decide_eq_true c29
       have c29b3 : (9223372036854775807 < t108.size + (((wrap64 ((ji25) + 1)) : Int).toNat - ((ji25) : Int).toNat)) = False := eq_false (by have hb0_ : ((wrap64 ((ji25) + 1)) : Int) ≤ 10 := of_decide_eq_true (by first | (with_reducible assumption) | assumption); have h_ := c29; simp only [ByteArray.size_extract, ByteArray.size_append] at h_ ⊢; have hk_ : ∀ l_ : Array UInt8, (⟨l_⟩ : ByteArray).size = l_.size := fun _ => rfl; simp only [hk_, List.size_toArray, List.length_cons, List.length_nil] at h_ ⊢; omega)
       try have c29b2 : (9223372036854775807 < t108.size + ((⟨#[48, 49, 50, 51, 52, 53, 54, 55, 56, 57]⟩ : ByteArray).extract ((ji25) : Int).toNat ((wrap64 ((ji25) + 1)) : Int).toNat).size) = False := eq_false (Nat.not_lt.2 c29)
       obtain rfl := Option.some.inj H
       go_enter Tryd.func18, Tryd.ntmps18
       try go_wp2
       have n0_ := Aside0.mk (below_drew1 HB.out)
       clear HB
       have HB := n0_
       clear n0_
       refine start_ (n := 11) (S := fun w' => True) (ds := []) #[false, false, false, false, false, false, false, false, false, false, false] (by kernel_rfl) rfl rfl trivial (fun hHeld => ?_); refine with_tabW guichetref1_Dec.tab8 guichetref1_Dec.bits8 (fun HT_ HW_ => ?_)
       generalize w.drew = w30 at HB hHeld ⊢
       refine pure_ (i := 0) (N := some 33) (v := ?_) (a' := ?_) #[true, false, false, false, false, false, false, false, false, false, false] rfl rfl (any_of HT_.out (by kernel_rfl)) (fun _ _ _ h => h) (Or.inl ⟨by rfl, ?_⟩) ?_ ?_
       rotate_left
       ·intro w'
        go_simp
        with_reducible rfl
       rotate_left
       ·simp only [Act.put, List.setIfInBounds_toArray, List.set_cons_zero, List.set_cons_succ, i64_w, i32_w]
        rfl
       refine pure_ (i := 1) (N := some 34) (v := ?_) (a' := ?_) #[true, true, false, false, false, false, false, false, false, false, false] rfl rfl (any_of HT_.out (by kernel_rfl)) (fun _ _ _ h => h) (Or.inl ⟨by rfl, ?_⟩) ?_ ?_
       rotate_left
       ·intro w'
        go_simp
        with_reducible rfl
       rotate_left
       ·simp only [Act.put, List.setIfInBounds_toArray, List.set_cons_zero, List.set_cons_succ, i64_w, i32_w]
        rfl
       refine pure_ (i := 3) (N := some 36) (v := ?_) (a' := ?_) #[true, true, false, true, false, false, false, false, false, false, false] rfl rfl (any_of HT_.out (by kernel_rfl)) (fun _ _ _ h => h) (Or.inl ⟨by rfl, ?_⟩) ?_ ?_
       rotate_left
       ·intro w'
        go_simp
        with_reducible rfl
       rotate_left
       ·simp only [Act.put, List.setIfInBounds_toArray, List.set_cons_zero, List.set_cons_succ, i64_w, i32_w]
        rfl
       refine pure_ (i := 4) (N := some 37) (v := ?_) (a' := ?_) #[true, true, false, true, true, false, false, false, false, false, false] rfl rfl (any_of HT_.out (by kernel_rfl)) (fun _ _ _ h => h) (Or.inl ⟨by rfl, ?_⟩) ?_ ?_
       rotate_left
       ·intro w'
        go_simp
        with_reducible rfl
       rotate_left
       ·simp only [Act.put, List.setIfInBounds_toArray, List.set_cons_zero, List.set_cons_succ, i64_w, i32_w]
        rfl
       refine pure_ (i := 5) (N := some 38) (v := ?_) (a' := ?_) #[true, true, false, true, true, true, false, false, false, false, false] rfl rfl (any_of HT_.out (by kernel_rfl)) (fun _ _ _ h => h) (Or.inl ⟨by rfl, ?_⟩) ?_ ?_
       rotate_left
       ·intro w'
        go_simp
        with_reducible rfl
       rotate_left
       ·simp only [Act.put, List.setIfInBounds_toArray, List.set_cons_zero, List.set_cons_succ, i64_w, i32_w]
        rfl
       refine pure_ (i := 6) (N := some 39) (v := ?_) (a' := ?_) #[true, true, false, true, true, true, true, false, false, false, false] rfl rfl (any_of HT_.out (by kernel_rfl)) (fun _ _ _ h => h) (Or.inl ⟨by rfl, ?_⟩) ?_ ?_
       rotate_left
       ·intro w'
        go_simp
        with_reducible rfl
       rotate_left
       ·simp only [Act.put, List.setIfInBounds_toArray, List.set_cons_zero, List.set_cons_succ, i64_w, i32_w]
        rfl
       refine pure_ (i := 7) (N := some 40) (v := ?_) (a' := ?_) #[true, true, false, true, true, true, true, true, false, false, false] rfl rfl (any_of HT_.out (by kernel_rfl)) (fun _ _ _ h => h) (Or.inl ⟨by rfl, ?_⟩) ?_ ?_
       rotate_left
       ·intro w'
        go_simp
        with_reducible rfl
       rotate_left
       ·simp only [Act.put, List.setIfInBounds_toArray, List.set_cons_zero, List.set_cons_succ, i64_w, i32_w]
        rfl
       refine pure_ (i := 8) (N := some 41) (v := ?_) (a' := ?_) #[true, true, false, true, true, true, true, true, true, false, false] rfl rfl (any_of HT_.out (by kernel_rfl)) (fun _ _ _ h => h) (Or.inl ⟨by rfl, ?_⟩) ?_ ?_
       rotate_left
       ·intro w'
        go_simp
        with_reducible rfl
       rotate_left
       ·simp only [Act.put, List.setIfInBounds_toArray, List.set_cons_zero, List.set_cons_succ, i64_w, i32_w]
        rfl
       refine one_ (i := 2) (N := some 35) #[true, true, true, true, true, true, true, true, true, false, false] rfl rfl (one_of HT_.out (by kernel_rfl)) (by decide) (fun K hK => ?_)
       refine goes_ Tryd.func18 (by kernel_rfl) rfl #[.int .i64 (wrap64 (Int.tdiv a0 10))] (by rfl) rfl rfl (by (try simp only [List.map_toArray, List.map_cons, List.map_nil]); first | done | rfl | (simp only [List.length_drop, List.length_take]; rfl)) ?_
       with_reducible refine (ih k (by omega) (wrap64 (Int.tdiv a0 10)) t108 _ A24.out).mono ?_
       rintro e w31 ⟨rfl, hb⟩
       refine ⟨_, rfl, ?_⟩
       have n0_ := Aside0.mk (below_step (by repeat (first | (with_reducible first | exact HB.out | apply below_alloc | apply pw_below_drewN | apply below_drew1) | exact HB.out)) hb)
       clear HB
       have HB := n0_
       clear n0_
       (try clear hb)
       (try clear hb2)
       (try clear hk)
       (try clear hi)
       refine hK.out _ _ trivial (fun hHeld => ?_)
       clear hK K
       refine norm_ (a' := ?_) ?_ ?_
       rotate_left
       ·show Act.put _ (some 35) _ = _
        simp only [Act.put, List.setIfInBounds_toArray, List.set_cons_zero, List.set_cons_succ, i64_w, i32_w]
        rfl
       refine pure_ (i := 9) (N := some 42) (v := ?_) (a' := ?_) #[true, true, true, true, true, true, true, true, true, true, false] rfl rfl (any_of HT_.out (by kernel_rfl)) (fun _ _ _ h => h) (Or.inl ⟨by rfl, ?_⟩) ?_ ?_
       rotate_left
       ·intro w'
        go_simp
        with_reducible rfl
       rotate_left
       ·simp only [Act.put, List.setIfInBounds_toArray, List.set_cons_zero, List.set_cons_succ, i64_w, i32_w]
        rfl
       refine pure_ (i := 10) (N := some 2) (v := ?_) (a' := ?_) #[true, true, true, true, true, true, true, true, true, true, true] rfl rfl (any_of HT_.out (by kernel_rfl)) (fun _ _ _ h => h) (Or.inl ⟨by rfl, ?_⟩) ?_ ?_
       rotate_left
       ·intro w'
        go_simp
        with_reducible rfl
       rotate_left
       ·simp only [Act.put, List.setIfInBounds_toArray, List.set_cons_zero, List.set_cons_succ, i64_w, i32_w]
        rfl
       refine done_ (done_of HT_.out (by kernel_rfl)) ?_
       try go_wp2
       go_ret
       exact ⟨by first | rfl | (simp [errW_none, errW_some] <;> rfl) | (simp only [← hji25]; first | rfl | (simp [errW_none, errW_some] <;> rfl)) | (simp [*, errW_none, errW_some] <;> rfl), by repeat (first | (with_reducible first | exact HB.out | apply below_alloc | apply pw_below_drewN | apply below_drew1) | exact HB.out)⟩
      ·rw [if_neg c29] at H
       exact absurd H (by simp)
     ·rw [if_neg c28] at H
      exact absurd H (by simp)
    ·rw [if_neg c27] at H
     exact absurd H (by simp)
   ·rw [if_neg c26] at H
    exact absurd H (by simp)

end Go.Proofs.YtjbhgooakdpabaaDoor.PAll
