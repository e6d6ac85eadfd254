-- written by xprint.py out of the translation. Not trusted: Lean checks it.
import Derived.Test.YthajndlkibpncaaDoorPAllx0
namespace Go.Proofs.YthajndlkibpncaaDoor.PAll
open Go.RowKit Go.Proofs.YthajndlkibpncaaDoorW.PrintWords Go.Proofs.YthajndlkibpncaaDoorW.PrintLast Go.Proofs.YthajndlkibpncaaDoorW.PrintMore
attribute [local go_sem] max2_int min2_int max_two min_two max_three min_three max_four min_four   -- for this text's walks alone
set_option linter.unusedVariables false
set_option linter.unusedSimpArgs false

/-! ### guichetref1_Digits: function 25 -/
mutual
def guichetref1_Digits.j0 : Nat → Int → Int → Bool → Option (ByteArray × Bool)
 | 0, _, _, _ => none
 | k + 1, x0, x1, x17 => if x17 = true then (some ((⟨#[]⟩ : ByteArray), false)) else (guichetref1_Digits.l0 k x0 x1 (⟨#[]⟩ : ByteArray) 0)
def guichetref1_Digits.l0 : Nat → Int → Int → ByteArray → Int → Option (ByteArray × Bool)
 | 0, _, _, _, _ => none
 | k + 1, x0, x1, x6, x7 => if x7 < x1 then (if 0 ≤ (Int.tmod x0 10) then (if (Int.tmod x0 10) ≤ (wrap64 ((Int.tmod x0 10) + 1)) then (if (wrap64 ((Int.tmod x0 10) + 1)) ≤ 10 then (if ((⟨#[48, 49, 50, 51, 52, 53, 54, 55, 56, 57]⟩ : ByteArray).extract ((Int.tmod x0 10) : Int).toNat ((wrap64 ((Int.tmod x0 10) + 1)) : Int).toNat).size + x6.size ≤ 9223372036854775807 then (guichetref1_Digits.l0 k (wrap64 (Int.tdiv x0 10)) x1 (((⟨#[48, 49, 50, 51, 52, 53, 54, 55, 56, 57]⟩ : ByteArray).extract ((Int.tmod x0 10) : Int).toNat ((wrap64 ((Int.tmod x0 10) + 1)) : Int).toNat) ++ x6) (wrap64 (x7 + 1))) else (none)) else (none)) else (none)) else (none)) else (if x0 > 0 then (some ((⟨#[]⟩ : ByteArray), false)) else (some (x6, true)))
end
def guichetref1_Digits.f (k : Nat) (a0 : Int) (a1 : Int) : Option (ByteArray × Bool) := if a1 < 1 then (guichetref1_Digits.j0 k a0 a1 true) else (if a1 > 18 then (guichetref1_Digits.j0 k a0 a1 true) else (guichetref1_Digits.j0 k a0 a1 (decide (a0 < 0))))
theorem guichetref1_Digits.mono_l : ∀ k, (∀ y0 y1 y2, LeO (guichetref1_Digits.j0 k y0 y1 y2) (guichetref1_Digits.j0 (k + 1) y0 y1 y2)) ∧ (∀ y0 y1 y2 y3, LeO (guichetref1_Digits.l0 k y0 y1 y2 y3) (guichetref1_Digits.l0 (k + 1) y0 y1 y2 y3))
 | 0 => ⟨fun _ _ _ r h => by simp [guichetref1_Digits.j0] at h, fun _ _ _ _ r h => by simp [guichetref1_Digits.l0] at h⟩
 | k + 1 => by
  obtain ⟨ih0, ih1⟩ := guichetref1_Digits.mono_l k
  refine ⟨?_, ?_⟩
  ·intro y0 y1 y2
   unfold guichetref1_Digits.j0
   repeat' first
   | (with_reducible exact ih0 _ _ _)
   | (with_reducible exact ih1 _ _ _ _)
   | (with_reducible exact LeO.refl _)
   | (with_reducible exact LeO.none _)
   | (with_reducible refine LeO.ite ?_ ?_)
   | (with_reducible refine LeO.bind ?_ (fun _ => ?_))
   | exact ih0 _ _ _
   | exact ih1 _ _ _ _
   | exact LeO.none _
   | refine LeO.ite ?_ ?_
   | refine LeO.bind ?_ (fun _ => ?_)
  ·intro y0 y1 y2 y3
   unfold guichetref1_Digits.l0
   repeat' first
   | (with_reducible exact ih0 _ _ _)
   | (with_reducible exact ih1 _ _ _ _)
   | (with_reducible exact LeO.refl _)
   | (with_reducible exact LeO.none _)
   | (with_reducible refine LeO.ite ?_ ?_)
   | (with_reducible refine LeO.bind ?_ (fun _ => ?_))
   | exact ih0 _ _ _
   | exact ih1 _ _ _ _
   | exact LeO.none _
   | refine LeO.ite ?_ ?_
   | refine LeO.bind ?_ (fun _ => ?_)
theorem guichetref1_Digits.mono : ∀ a0 a1 k, LeO (guichetref1_Digits.f k a0 a1) (guichetref1_Digits.f (k + 1) a0 a1) := by
 intro a0 a1 k
 obtain ⟨ih0, ih1⟩ := guichetref1_Digits.mono_l k
 unfold guichetref1_Digits.f
 repeat' first
   | (with_reducible exact ih0 _ _ _)
   | (with_reducible exact ih1 _ _ _ _)
   | (with_reducible exact LeO.refl _)
   | (with_reducible exact LeO.none _)
   | (with_reducible refine LeO.ite ?_ ?_)
   | (with_reducible refine LeO.bind ?_ (fun _ => ?_))
   | exact ih0 _ _ _
   | exact ih1 _ _ _ _
   | exact LeO.none _
   | refine LeO.ite ?_ ?_
   | refine LeO.bind ?_ (fun _ => ?_)
set_option maxHeartbeats 8000000 in
set_option maxRecDepth 100000 in
theorem guichetref1_Digits.calls (k : Nat) (a0 : Int) (a1 : Int) (r1 : ByteArray) (r2 : Bool) (w : World) (h : guichetref1_Digits.f k a0 a1 = some (r1, r2)) :
  Calls Tryd.prog 25 #[.int .i64 a0, .int .i64 a1] w fun e w' => e = .returned (.tuple #[.string r1, .bool r2]) ∧ Drawn0 w w' := by
 have H : (if a1 < 1 then (guichetref1_Digits.j0 k a0 a1 true) else (if a1 > 18 then (guichetref1_Digits.j0 k a0 a1 true) else (guichetref1_Digits.j0 k a0 a1 (decide (a0 < 0))))) = some (r1, r2) := h
 clear h
 have HC3 := Aside0.mk H
 clear H
 go_enter Tryd.func25, Tryd.ntmps25
 go_upto_region 1 with (fail)
 go_cut [17] (fun v17 wc => ∃ (kq : Nat) (x17_2 : Bool), v17 = .bool x17_2 ∧ Aside0 (guichetref1_Digits.j0 kq a0 a1 x17_2 = some (r1, r2)) ∧ Aside0 (kq ≤ k) ∧ Drawn0 w wc)
 case first =>
  have H := HC3.out
  clear HC3
  by_cases c4 : a1 < 1
  ·rw [if_pos c4] at H
   have c4b0 : decide (a1 < 1) = true := decide_eq_true c4
   clear c4
   (first | rw [c4b0] | rw [c4b1] | (simp only [i64_w, i32_w]; rw [c4b0]) | skip)
   have H' := Aside0.mk H
   clear H
   go_wp2
   go_meet
   case rel => exact ⟨_, (true), (by first | rfl | (simp; done) | (simp [*]; done)), H', ⟨by first | omega | exact Nat.le_refl _⟩, by repeat (first | exact Drawn0.refl _ | apply Drawn0.step)⟩
  ·rw [if_neg c4] at H
   have c4b0 : decide (a1 < 1) = false := decide_eq_false c4
   clear c4
   (first | rw [c4b0] | rw [c4b1] | (simp only [i64_w, i32_w]; rw [c4b0]) | skip)
   by_cases c5 : a1 > 18
   ·rw [if_pos c5] at H
    have c5b0 : decide (18 < a1) = true := decide_eq_true c5
    clear c5
    have H' := Aside0.mk H
    clear H
    go_wp2
    go_meet
    case rel => exact ⟨_, (true), (by first | rfl | (simp; done) | (simp [*]; done)), H', ⟨by first | omega | exact Nat.le_refl _⟩, by repeat (first | exact Drawn0.refl _ | apply Drawn0.step)⟩
   ·rw [if_neg c5] at H
    have c5b0 : decide (18 < a1) = false := decide_eq_false c5
    clear c5
    have H' := Aside0.mk H
    clear H
    go_wp2
    go_meet
    case rel => exact ⟨_, (decide (a0 < 0)), (by first | rfl | (simp; done) | (simp [*]; done)), H', ⟨by first | omega | exact Nat.le_refl _⟩, by repeat (first | exact Drawn0.refl _ | apply Drawn0.step)⟩
 case rest =>
  clear HC3
  try clear c2
  try clear p2
  try clear c4
  try clear c4b0
  try clear c4b1
  try clear c5
  try clear c5b0
  obtain ⟨kq, x17_2, rfl, HA, HJ2, ⟨mc2, rfl⟩⟩ := hcut
  cases kq with
  | zero => exact absurd HA.out (by simp [guichetref1_Digits.j0])
  | succ kj2 =>
   have H := HA.out
   clear HA
   simp only [guichetref1_Digits.j0] at H
   by_cases c6 : x17_2 = true
   ·subst c6
    have H1 : (some ((⟨#[]⟩ : ByteArray), false)) = some (r1, r2) := by rw [if_pos rfl] at H; exact H
    clear H
    have H := H1
    clear H1
    simp only [Option.some.injEq, Prod.mk.injEq] at H
    obtain ⟨rfl, rfl⟩ := H
    go_wp2
    go_ret2
    exact ⟨by first | rfl | (simp; done) | (simp [*]; done), by repeat (first | exact Drawn0.refl _ | apply Drawn0.step)⟩
   ·replace c6 := Bool.eq_false_iff.mpr c6
    subst c6
    have H1 : (guichetref1_Digits.l0 kj2 a0 a1 (⟨#[]⟩ : ByteArray) 0) = some (r1, r2) := by rw [if_neg (show ¬ (false = true) by decide)] at H; exact H
    clear H
    have H := H1
    clear H1
    have H' := Aside0.mk H
    clear H
    go_wp2
    go_loopg [0, 6, 7] kj2 (fun kq v0 v6 v7 w' => ∃ (x0_2 : Int) (x6_2 : ByteArray) (x7_2 : Int), v0 = .int .i64 x0_2 ∧ v6 = .string x6_2 ∧ v7 = .int .i64 x7_2 ∧ Aside0 (guichetref1_Digits.l0 kq x0_2 a1 x6_2 x7_2 = some (r1, r2)) ∧ Aside0 (kq ≤ kj2) ∧ Drawn0 w w')
    case atStart => exact ⟨(a0), ((⟨#[]⟩ : ByteArray)), (0), (by first | rfl | (simp; done) | (simp [*]; done)), (by first | rfl | (simp; done) | (simp [*]; done)), (by first | rfl | (simp; done) | (simp [*]; done)), H', ⟨Nat.le_refl _⟩, by repeat (first | exact Drawn0.refl _ | apply Drawn0.step)⟩
    case round =>
     clear H'
     try clear c2
     try clear p2
     try clear c4
     try clear c4b0
     try clear c4b1
     try clear c5
     try clear c5b0
     try clear c6
     try clear p2
     obtain ⟨x0_2, x6_2, x7_2, rfl, rfl, rfl, HA, HK2, ⟨m2, rfl⟩⟩ := hrel
     cases gk with
     | zero => exact absurd HA.out (by simp [guichetref1_Digits.l0])
     | succ k2 =>
      have H := HA.out
      clear HA
      simp only [guichetref1_Digits.l0] at H
      by_cases c7 : x7_2 < a1
      ·rw [if_pos c7] at H
       have c7b0 : decide (x7_2 < a1) = true := decide_eq_true c7
       clear c7
       obtain ⟨ji8, hji8⟩ : ∃ j_ : Int, (Int.tmod x0_2 10) = j_ := ⟨_, rfl⟩
       replace H : (if 0 ≤ (ji8) then (if (ji8) ≤ (wrap64 ((ji8) + 1)) then (if (wrap64 ((ji8) + 1)) ≤ 10 then (if ((⟨#[48, 49, 50, 51, 52, 53, 54, 55, 56, 57]⟩ : ByteArray).extract ((ji8) : Int).toNat ((wrap64 ((ji8) + 1)) : Int).toNat).size + x6_2.size ≤ 9223372036854775807 then (guichetref1_Digits.l0 k2 (wrap64 (Int.tdiv x0_2 10)) a1 (((⟨#[48, 49, 50, 51, 52, 53, 54, 55, 56, 57]⟩ : ByteArray).extract ((ji8) : Int).toNat ((wrap64 ((ji8) + 1)) : Int).toNat) ++ x6_2) (wrap64 (x7_2 + 1))) else (none)) else (none)) else (none)) else (none)) = some (r1, r2) := by first | (rw [hji8] at H; exact H) | (simp only [hji8] at H ⊢; exact H)
       by_cases c9 : 0 ≤ (ji8)
       ·rw [if_pos c9] at H
        have c9b0 := eq_true c9
        have c9b1 : decide (0 ≤ (ji8)) = true := decide_eq_true c9
        clear c9
        by_cases c10 : (ji8) ≤ (wrap64 ((ji8) + 1))
        ·rw [if_pos c10] at H
         have c10b0 := eq_true c10
         have c10b1 : decide ((ji8) ≤ (wrap64 ((ji8) + 1))) = true := decide_eq_true c10
         by_cases c11 : (wrap64 ((ji8) + 1)) ≤ 10
         ·rw [if_pos c11] at H
          have c11b0 := eq_true c11
          have c11b1 : decide ((wrap64 ((ji8) + 1)) ≤ 10) = true := decide_eq_true c11
          by_cases c12 : ((⟨#[48, 49, 50, 51, 52, 53, 54, 55, 56, 57]⟩ : ByteArray).extract ((ji8) : Int).toNat ((wrap64 ((ji8) + 1)) : Int).toNat).size + x6_2.size ≤ 9223372036854775807
          ·rw [if_pos c12] at H
           have c12b0 := eq_true c12
           have c12b1 : decide (((⟨#[48, 49, 50, 51, 52, 53, 54, 55, 56, 57]⟩ : ByteArray).extract ((ji8) : Int).toNat ((wrap64 ((ji8) + 1)) : Int).toNat).size + x6_2.size ≤ 9223372036854775807) = true := decide_eq_true c12
           have c12b3 : (9223372036854775807 < (((wrap64 ((ji8) + 1)) : Int).toNat - ((ji8) : Int).toNat) + x6_2.size) = False := eq_false (by have hb0_ : ((wrap64 ((ji8) + 1)) : Int) ≤ 10 := of_decide_eq_true (by first | (with_reducible assumption) | assumption); have h_ := c12; simp only [ByteArray.size_extract, ByteArray.size_append] at h_ ⊢; have hk_ : ∀ l_ : Array UInt8, (⟨l_⟩ : ByteArray).size = l_.size := fun _ => rfl; simp only [hk_, List.size_toArray, List.length_cons, List.length_nil] at h_ ⊢; omega)
           try have c12b2 : (9223372036854775807 < ((⟨#[48, 49, 50, 51, 52, 53, 54, 55, 56, 57]⟩ : ByteArray).extract ((ji8) : Int).toNat ((wrap64 ((ji8) + 1)) : Int).toNat).size + x6_2.size) = False := eq_false (Nat.not_lt.2 c12)
           have H' := Aside0.mk H
           clear H
           go_wp2
           go_roundg k2
           case measure => have := HJ2.out; have := HK2.out; omega
           case rel => exact ⟨(wrap64 (Int.tdiv x0_2 10)), (((⟨#[48, 49, 50, 51, 52, 53, 54, 55, 56, 57]⟩ : ByteArray).extract ((ji8) : Int).toNat ((wrap64 ((ji8) + 1)) : Int).toNat) ++ x6_2), (wrap64 (x7_2 + 1)), (by first | rfl | (simp; done) | (simp [*]; done)), (by first | rfl | (simp; done) | (simp only [← hji8] <;> (first | rfl | simp)) | (simp [*]; done)), (by first | rfl | (simp; done) | (simp [*]; done)), H', ⟨by have := HJ2.out; have := HK2.out; omega⟩, by repeat (first | exact Drawn0.refl _ | apply Drawn0.step)⟩
          ·rw [if_neg c12] at H
           exact absurd H (by simp)
         ·rw [if_neg c11] at H
          exact absurd H (by simp)
        ·rw [if_neg c10] at H
         exact absurd H (by simp)
       ·rw [if_neg c9] at H
        exact absurd H (by simp)
      ·rw [if_neg c7] at H
       have c7b0 : decide (x7_2 < a1) = false := decide_eq_false c7
       clear c7
       by_cases c13 : x0_2 > 0
       ·rw [if_pos c13] at H
        have c13b0 : decide (0 < x0_2) = true := decide_eq_true c13
        clear c13
        simp only [Option.some.injEq, Prod.mk.injEq] at H
        obtain ⟨rfl, rfl⟩ := H
        go_wp2
        go_ret2
        exact ⟨by first | rfl | (simp; done) | (simp [*]; done), by repeat (first | exact Drawn0.refl _ | apply Drawn0.step)⟩
       ·rw [if_neg c13] at H
        have c13b0 : decide (0 < x0_2) = false := decide_eq_false c13
        clear c13
        simp only [Option.some.injEq, Prod.mk.injEq] at H
        obtain ⟨rfl, rfl⟩ := H
        go_wp2
        go_ret2
        exact ⟨by first | rfl | (simp; done) | (simp [*]; done), by repeat (first | exact Drawn0.refl _ | apply Drawn0.step)⟩

/-! ### guichetref12_has: function 31 -/
def guichetref12_has.l0 : Nat → ByteArray → Int → Int → Option (Bool)
 | 0, _, _, _ => none
 | k + 1, x0, x1, x5 => if x5 < (x0.size : Int) then (if 0 ≤ x5 then (if (bt x0 x5) = x1 then (some true) else (guichetref12_has.l0 k x0 x1 (wrap64 (x5 + 1)))) else (none)) else (some false)
def guichetref12_has.f (k : Nat) (a0 : ByteArray) (a1 : Int) : Option (Bool) := guichetref12_has.l0 k a0 a1 0
theorem guichetref12_has.mono_l : ∀ k, (∀ y0 y1 y2, LeO (guichetref12_has.l0 k y0 y1 y2) (guichetref12_has.l0 (k + 1) y0 y1 y2))
 | 0 => fun _ _ _ r h => by simp [guichetref12_has.l0] at h
 | k + 1 => by
  have ih0 := guichetref12_has.mono_l k
  ·intro y0 y1 y2
   unfold guichetref12_has.l0
   repeat' first
   | (with_reducible exact ih0 _ _ _)
   | (with_reducible exact LeO.refl _)
   | (with_reducible exact LeO.none _)
   | (with_reducible refine LeO.ite ?_ ?_)
   | (with_reducible refine LeO.bind ?_ (fun _ => ?_))
   | exact ih0 _ _ _
   | exact LeO.none _
   | refine LeO.ite ?_ ?_
   | refine LeO.bind ?_ (fun _ => ?_)
theorem guichetref12_has.mono : ∀ a0 a1 k, LeO (guichetref12_has.f k a0 a1) (guichetref12_has.f (k + 1) a0 a1) := by
 intro a0 a1 k
 have ih0 := guichetref12_has.mono_l k
 unfold guichetref12_has.f
 repeat' first
   | (with_reducible exact ih0 _ _ _)
   | (with_reducible exact LeO.refl _)
   | (with_reducible exact LeO.none _)
   | (with_reducible refine LeO.ite ?_ ?_)
   | (with_reducible refine LeO.bind ?_ (fun _ => ?_))
   | exact ih0 _ _ _
   | exact LeO.none _
   | refine LeO.ite ?_ ?_
   | refine LeO.bind ?_ (fun _ => ?_)
set_option maxHeartbeats 8000000 in
set_option maxRecDepth 100000 in
theorem guichetref12_has.calls (k : Nat) (a0 : ByteArray) (a1 : Int) (r : Bool) (w : World) (h : guichetref12_has.f k a0 a1 = some r) :
  Calls Tryd.prog 31 #[.string a0, .int .u8 a1] w fun e w' => e = .returned (.bool r) ∧ Drawn0 w w' := by
 have H : (guichetref12_has.l0 k a0 a1 0) = some r := h
 clear h
 have H' := Aside0.mk H
 clear H
 go_enter Tryd.func31, Tryd.ntmps31
 go_wp2
 go_loopg [5] k (fun kq v5 w' => ∃ (x5_1 : Int), v5 = .int .i64 x5_1 ∧ Aside0 (guichetref12_has.l0 kq a0 a1 x5_1 = some r) ∧ Aside0 (kq ≤ k) ∧ Drawn0 w w')
 case atStart => exact ⟨(0), (by first | rfl | (simp; done) | (simp [*]; done)), H', ⟨Nat.le_refl _⟩, by repeat (first | exact Drawn0.refl _ | apply Drawn0.step)⟩
 case round =>
  clear H'
  try clear p2
  obtain ⟨x5_1, rfl, HA, HK1, ⟨m1, rfl⟩⟩ := hrel
  cases gk with
  | zero => exact absurd HA.out (by simp [guichetref12_has.l0])
  | succ k1 =>
   have H := HA.out
   clear HA
   simp only [guichetref12_has.l0] at H
   by_cases c3 : x5_1 < (a0.size : Int)
   ·rw [if_pos c3] at H
    have c3b0 : decide (x5_1 < (a0.size : Int)) = true := decide_eq_true c3
    clear c3
    by_cases c4 : 0 ≤ x5_1
    ·rw [if_pos c4] at H
     have c4b0 : decide (0 ≤ x5_1) = true := decide_eq_true c4
     clear c4
     by_cases c6 : (bt a0 x5_1) = a1
     ·rw [if_pos c6] at H
      have c6b0 : ((bt a0 x5_1) == a1) = true := beq_iff_eq.mpr c6
      have c6b1 : ((bt a0 x5_1) != a1) = false := bne_eq_false_iff_eq.mpr c6
      clear c6
      obtain rfl := Option.some.inj H
      have p5 : 0 ≤ (x5_1 : Int) := of_decide_eq_true (by first | (with_reducible assumption) | assumption)
      have q5 : x5_1 < (a0.size : Int) := of_decide_eq_true (by first | (with_reducible assumption) | assumption)
      have hx5 := bt_at a0 x5_1
      replace p5 := eq_true p5
      replace q5 := eq_true q5
      go_wp2
      go_ret
      exact ⟨by first | rfl | (simp; done) | (simp [*]; done), by repeat (first | exact Drawn0.refl _ | apply Drawn0.step)⟩
     ·rw [if_neg c6] at H
      have c6b0 : ((bt a0 x5_1) == a1) = false := beq_eq_false_iff_ne.mpr c6
      have c6b1 : ((bt a0 x5_1) != a1) = true := bne_iff_ne.mpr c6
      have H' := Aside0.mk H
      clear H
      have p5 : 0 ≤ (x5_1 : Int) := of_decide_eq_true (by first | (with_reducible assumption) | assumption)
      have q5 : x5_1 < (a0.size : Int) := of_decide_eq_true (by first | (with_reducible assumption) | assumption)
      have hx5 := bt_at a0 x5_1
      replace p5 := eq_true p5
      replace q5 := eq_true q5
      go_wp2
      go_roundg k1
      case measure => have := HK1.out; omega
      case rel => exact ⟨(wrap64 (x5_1 + 1)), (by first | rfl | (simp; done) | (simp [*]; done)), H', ⟨by have := HK1.out; omega⟩, by repeat (first | exact Drawn0.refl _ | apply Drawn0.step)⟩
    ·rw [if_neg c4] at H
     exact absurd H (by simp)
   ·rw [if_neg c3] at H
    have c3b0 : decide (x5_1 < (a0.size : Int)) = false := decide_eq_false c3
    clear c3
    obtain rfl := Option.some.inj H
    go_wp2
    go_ret
    exact ⟨by first | rfl | (simp; done) | (simp [*]; done), by repeat (first | exact Drawn0.refl _ | apply Drawn0.step)⟩

/-! ### guichetref12_kind: function 26 -/
def guichetref12_kind.f (k : Nat) (a0 : Int) : Option (Bool) := (guichetref12_has.f k (⟨#[65, 66, 68, 69, 73, 90]⟩ : ByteArray) a0).bind fun t192 => (some t192)
theorem guichetref12_kind.mono : ∀ a0 k, LeO (guichetref12_kind.f k a0) (guichetref12_kind.f (k + 1) a0) := by
 intro a0 k
 unfold guichetref12_kind.f
 repeat' first
   | (with_reducible exact guichetref12_has.mono _ _ _)
   | (with_reducible exact LeO.refl _)
   | (with_reducible exact LeO.none _)
   | (with_reducible refine LeO.ite ?_ ?_)
   | (with_reducible refine LeO.bind ?_ (fun _ => ?_))
   | exact guichetref12_has.mono _ _ _
   | exact LeO.none _
   | refine LeO.ite ?_ ?_
   | refine LeO.bind ?_ (fun _ => ?_)
set_option maxHeartbeats 8000000 in
set_option maxRecDepth 100000 in
theorem guichetref12_kind.calls (k : Nat) (a0 : Int) (r : Bool) (w : World) (h : guichetref12_kind.f k a0 = some r) :
  Calls Tryd.prog 26 #[.int .u8 a0] w fun e w' => e = .returned (.bool r) ∧ Drawn0 w w' := by
 have H : ((guichetref12_has.f k (⟨#[65, 66, 68, 69, 73, 90]⟩ : ByteArray) a0).bind fun t192 => (some t192)) = some r := h
 clear h
 replace H := Option.bind_eq_some_iff.mp H
 obtain ⟨t192, A20, H⟩ := H
 replace H : (some t192) = some r := H
 have A2 := Aside0.mk A20
 clear A20
 obtain rfl := Option.some.inj H
 go_enter Tryd.func26, Tryd.ntmps26
 go_wp2_with (first | ((with_reducible refine gate_callee (f := 31) rfl ?_); refine goesL_ (some 4) rfl rfl Tryd.func31 (by kernel_rfl) rfl #[.string (⟨#[65, 66, 68, 69, 73, 90]⟩ : ByteArray), .int .u8 a0] rfl (by (try simp only [List.map_toArray, List.map_cons, List.map_nil]); first | done | rfl | (simp only [List.length_drop, List.length_take]; rfl) | (rw [hsame_])) ?_; (with_reducible refine (guichetref12_has.calls k (⟨#[65, 66, 68, 69, 73, 90]⟩ : ByteArray) a0 t192 _ A2.out).mono ?_); rintro e w' ⟨rfl, ⟨nd, rfl⟩⟩; refine ⟨_, rfl, ?_⟩))
 go_ret
 exact ⟨by first | rfl | (simp; done) | (simp [*]; done), by repeat (first | exact Drawn0.refl _ | apply Drawn0.step)⟩

/-! ### guichetref12_TableText: function 14 -/
def guichetref12_TableText.l0 : Nat → List (S34) → ByteArray → Int → Option (ByteArray)
 | 0, _, _, _ => none
 | k + 1, x0, x3, x4 => if x4 < (x0.length : Int) then (if 0 ≤ x4 then ((guichetref1_Digits.f k ((rd_T34 x0 x4).f0) 3).bind fun bt194 => ((guichetref1_Digits.f k ((rd_T34 x0 x4).f2) 3).bind fun bt197 => ((guichetref1_Digits.f k ((rd_T34 x0 x4).f3) 3).bind fun bt200 => (if bt194.2 = true then (if bt197.2 = true then (if bt200.2 = true then ((guichetref12_kind.f k ((rd_T34 x0 x4).f1)).bind fun t203 => (if t203 = true then (if x3.size + bt194.1.size ≤ 9223372036854775807 then (if (x3 ++ bt194.1).size + 1 ≤ 9223372036854775807 then ((some (([(rd_T34 x0 x4).f1] : List Int) : List Int)).bind fun y205 => (if ((x3 ++ bt194.1) ++ (⟨#[32]⟩ : ByteArray)).size + (strOfNums y205).size ≤ 9223372036854775807 then (if (((x3 ++ bt194.1) ++ (⟨#[32]⟩ : ByteArray)) ++ (strOfNums y205)).size + 1 ≤ 9223372036854775807 then (if ((((x3 ++ bt194.1) ++ (⟨#[32]⟩ : ByteArray)) ++ (strOfNums y205)) ++ (⟨#[32]⟩ : ByteArray)).size + bt197.1.size ≤ 9223372036854775807 then (if (((((x3 ++ bt194.1) ++ (⟨#[32]⟩ : ByteArray)) ++ (strOfNums y205)) ++ (⟨#[32]⟩ : ByteArray)) ++ bt197.1).size + 1 ≤ 9223372036854775807 then (if ((((((x3 ++ bt194.1) ++ (⟨#[32]⟩ : ByteArray)) ++ (strOfNums y205)) ++ (⟨#[32]⟩ : ByteArray)) ++ bt197.1) ++ (⟨#[32]⟩ : ByteArray)).size + bt200.1.size ≤ 9223372036854775807 then (if (((((((x3 ++ bt194.1) ++ (⟨#[32]⟩ : ByteArray)) ++ (strOfNums y205)) ++ (⟨#[32]⟩ : ByteArray)) ++ bt197.1) ++ (⟨#[32]⟩ : ByteArray)) ++ bt200.1).size + 1 ≤ 9223372036854775807 then (guichetref12_TableText.l0 k x0 ((((((((x3 ++ bt194.1) ++ (⟨#[32]⟩ : ByteArray)) ++ (strOfNums y205)) ++ (⟨#[32]⟩ : ByteArray)) ++ bt197.1) ++ (⟨#[32]⟩ : ByteArray)) ++ bt200.1) ++ (⟨#[10]⟩ : ByteArray)) (wrap64 (x4 + 1))) else (none)) else (none)) else (none)) else (none)) else (none)) else (none))) else (none)) else (none)) else (some (⟨#[]⟩ : ByteArray)))) else (some (⟨#[]⟩ : ByteArray))) else (some (⟨#[]⟩ : ByteArray))) else (some (⟨#[]⟩ : ByteArray)))))) else (none)) else (some x3)
def guichetref12_TableText.f (k : Nat) (l0 : List (S34)) : Option (ByteArray) := guichetref12_TableText.l0 k l0 (⟨#[]⟩ : ByteArray) 0
theorem guichetref12_TableText.mono_l : ∀ k, (∀ y0 y1 y2, LeO (guichetref12_TableText.l0 k y0 y1 y2) (guichetref12_TableText.l0 (k + 1) y0 y1 y2))
 | 0 => fun _ _ _ r h => by simp [guichetref12_TableText.l0] at h
 | k + 1 => by
  have ih0 := guichetref12_TableText.mono_l k
  ·intro y0 y1 y2
   unfold guichetref12_TableText.l0
   repeat' first
   | (with_reducible exact ih0 _ _ _)
   | (with_reducible exact guichetref12_kind.mono _ _)
   | (with_reducible exact guichetref1_Digits.mono _ _ _)
   | (with_reducible exact LeO.refl _)
   | (with_reducible exact LeO.none _)
   | (with_reducible refine LeO.ite ?_ ?_)
   | (with_reducible refine LeO.bind ?_ (fun _ => ?_))
   | exact ih0 _ _ _
   | exact guichetref12_kind.mono _ _
   | exact guichetref1_Digits.mono _ _ _
   | exact LeO.none _
   | refine LeO.ite ?_ ?_
   | refine LeO.bind ?_ (fun _ => ?_)
theorem guichetref12_TableText.mono : ∀ a0 k, LeO (guichetref12_TableText.f k a0) (guichetref12_TableText.f (k + 1) a0) := by
 intro a0 k
 have ih0 := guichetref12_TableText.mono_l k
 unfold guichetref12_TableText.f
 repeat' first
   | (with_reducible exact ih0 _ _ _)
   | (with_reducible exact guichetref12_kind.mono _ _)
   | (with_reducible exact guichetref1_Digits.mono _ _ _)
   | (with_reducible exact LeO.refl _)
   | (with_reducible exact LeO.none _)
   | (with_reducible refine LeO.ite ?_ ?_)
   | (with_reducible refine LeO.bind ?_ (fun _ => ?_))
   | exact ih0 _ _ _
   | exact guichetref12_kind.mono _ _
   | exact guichetref1_Digits.mono _ _ _
   | exact LeO.none _
   | refine LeO.ite ?_ ?_
   | refine LeO.bind ?_ (fun _ => ?_)
set_option maxHeartbeats 8000000 in
set_option maxRecDepth 100000 in
theorem guichetref12_TableText.calls (k : Nat) (A0 : Option Addr) (c0 : Nat) (l0 : List (S34)) (r : ByteArray) (w : World) (hr0 : Kd.C k34 w A0 l0.length l0) (hc0 : l0.length ≤ c0) (h : guichetref12_TableText.f k l0 = some r) :
  Calls Tryd.prog 14 #[.slice A0 l0.length c0] w fun e w' => e = .returned (.string r) ∧ Below w.heap.size w w' := by
 have HR0 := Aside0.mk hr0
 have HC0 := Aside0.mk hc0
 clear hr0 hc0
 have HB := Aside0.mk (Below.refl w.heap.size w)
 have H : (guichetref12_TableText.l0 k l0 (⟨#[]⟩ : ByteArray) 0) = some r := h
 clear h
 have H' := Aside0.mk H
 clear H
 go_enter Tryd.func14, Tryd.ntmps14
 go_wp2
 go_loopg [3, 4] k (fun kq v3 v4 w' => ∃ (x3_1 : ByteArray) (x4_1 : Int), v3 = .string x3_1 ∧ v4 = .int .i64 x4_1 ∧ Aside0 (guichetref12_TableText.l0 kq l0 x3_1 x4_1 = some r) ∧ Aside0 (kq ≤ k) ∧ Aside0 (Below w.heap.size w w'))
 case atStart => exact ⟨((⟨#[]⟩ : ByteArray)), (0), (by first | rfl | (simp; done) | (simp [*]; done)), (by first | rfl | (simp; done) | (simp [*]; done)), H', ⟨Nat.le_refl _⟩, ⟨by repeat (first | (with_reducible first | exact HB.out | apply below_alloc | apply pw_below_drewN | apply below_drew1) | exact HB.out)⟩⟩
 case round =>
  clear H'
  try clear c1
  obtain ⟨x3_1, x4_1, rfl, rfl, HA, HK1, HB⟩ := hrel
  cases gk with
  | zero => exact absurd HA.out (by simp [guichetref12_TableText.l0])
  | succ k1 =>
   have H := HA.out
   clear HA
   simp only [guichetref12_TableText.l0] at H
   by_cases c2 : x4_1 < (l0.length : Int)
   ·rw [if_pos c2] at H
    have c2b0 : decide (x4_1 < (l0.length : Int)) = true := decide_eq_true c2
    clear c2
    by_cases c3 : 0 ≤ x4_1
    ·rw [if_pos c3] at H
     have c3b0 : decide (0 ≤ x4_1) = true := decide_eq_true c3
     clear c3
     replace H := Option.bind_eq_some_iff.mp H
     obtain ⟨⟨t194, t195⟩, A40, H⟩ := H
     replace H : ((guichetref1_Digits.f k1 ((rd_T34 l0 x4_1).f2) 3).bind fun bt197 => ((guichetref1_Digits.f k1 ((rd_T34 l0 x4_1).f3) 3).bind fun bt200 => (if t195 = true then (if bt197.2 = true then (if bt200.2 = true then ((guichetref12_kind.f k1 ((rd_T34 l0 x4_1).f1)).bind fun t203 => (if t203 = true then (if x3_1.size + t194.size ≤ 9223372036854775807 then (if (x3_1 ++ t194).size + 1 ≤ 9223372036854775807 then ((some (([(rd_T34 l0 x4_1).f1] : List Int) : List Int)).bind fun y205 => (if ((x3_1 ++ t194) ++ (⟨#[32]⟩ : ByteArray)).size + (strOfNums y205).size ≤ 9223372036854775807 then (if (((x3_1 ++ t194) ++ (⟨#[32]⟩ : ByteArray)) ++ (strOfNums y205)).size + 1 ≤ 9223372036854775807 then (if ((((x3_1 ++ t194) ++ (⟨#[32]⟩ : ByteArray)) ++ (strOfNums y205)) ++ (⟨#[32]⟩ : ByteArray)).size + bt197.1.size ≤ 9223372036854775807 then (if (((((x3_1 ++ t194) ++ (⟨#[32]⟩ : ByteArray)) ++ (strOfNums y205)) ++ (⟨#[32]⟩ : ByteArray)) ++ bt197.1).size + 1 ≤ 9223372036854775807 then (if ((((((x3_1 ++ t194) ++ (⟨#[32]⟩ : ByteArray)) ++ (strOfNums y205)) ++ (⟨#[32]⟩ : ByteArray)) ++ bt197.1) ++ (⟨#[32]⟩ : ByteArray)).size + bt200.1.size ≤ 9223372036854775807 then (if (((((((x3_1 ++ t194) ++ (⟨#[32]⟩ : ByteArray)) ++ (strOfNums y205)) ++ (⟨#[32]⟩ : ByteArray)) ++ bt197.1) ++ (⟨#[32]⟩ : ByteArray)) ++ bt200.1).size + 1 ≤ 9223372036854775807 then (guichetref12_TableText.l0 k1 l0 ((((((((x3_1 ++ t194) ++ (⟨#[32]⟩ : ByteArray)) ++ (strOfNums y205)) ++ (⟨#[32]⟩ : ByteArray)) ++ bt197.1) ++ (⟨#[32]⟩ : ByteArray)) ++ bt200.1) ++ (⟨#[10]⟩ : ByteArray)) (wrap64 (x4_1 + 1))) else (none)) else (none)) else (none)) else (none)) else (none)) else (none))) else (none)) else (none)) else (some (⟨#[]⟩ : ByteArray)))) else (some (⟨#[]⟩ : ByteArray))) else (some (⟨#[]⟩ : ByteArray))) else (some (⟨#[]⟩ : ByteArray))))) = some r := H
     have A4 := Aside0.mk A40
     clear A40
     replace H := Option.bind_eq_some_iff.mp H
     obtain ⟨⟨t197, t198⟩, A50, H⟩ := H
     replace H : ((guichetref1_Digits.f k1 ((rd_T34 l0 x4_1).f3) 3).bind fun bt200 => (if t195 = true then (if t198 = true then (if bt200.2 = true then ((guichetref12_kind.f k1 ((rd_T34 l0 x4_1).f1)).bind fun t203 => (if t203 = true then (if x3_1.size + t194.size ≤ 9223372036854775807 then (if (x3_1 ++ t194).size + 1 ≤ 9223372036854775807 then ((some (([(rd_T34 l0 x4_1).f1] : List Int) : List Int)).bind fun y205 => (if ((x3_1 ++ t194) ++ (⟨#[32]⟩ : ByteArray)).size + (strOfNums y205).size ≤ 9223372036854775807 then (if (((x3_1 ++ t194) ++ (⟨#[32]⟩ : ByteArray)) ++ (strOfNums y205)).size + 1 ≤ 9223372036854775807 then (if ((((x3_1 ++ t194) ++ (⟨#[32]⟩ : ByteArray)) ++ (strOfNums y205)) ++ (⟨#[32]⟩ : ByteArray)).size + t197.size ≤ 9223372036854775807 then (if (((((x3_1 ++ t194) ++ (⟨#[32]⟩ : ByteArray)) ++ (strOfNums y205)) ++ (⟨#[32]⟩ : ByteArray)) ++ t197).size + 1 ≤ 9223372036854775807 then (if ((((((x3_1 ++ t194) ++ (⟨#[32]⟩ : ByteArray)) ++ (strOfNums y205)) ++ (⟨#[32]⟩ : ByteArray)) ++ t197) ++ (⟨#[32]⟩ : ByteArray)).size + bt200.1.size ≤ 9223372036854775807 then (if (((((((x3_1 ++ t194) ++ (⟨#[32]⟩ : ByteArray)) ++ (strOfNums y205)) ++ (⟨#[32]⟩ : ByteArray)) ++ t197) ++ (⟨#[32]⟩ : ByteArray)) ++ bt200.1).size + 1 ≤ 9223372036854775807 then (guichetref12_TableText.l0 k1 l0 ((((((((x3_1 ++ t194) ++ (⟨#[32]⟩ : ByteArray)) ++ (strOfNums y205)) ++ (⟨#[32]⟩ : ByteArray)) ++ t197) ++ (⟨#[32]⟩ : ByteArray)) ++ bt200.1) ++ (⟨#[10]⟩ : ByteArray)) (wrap64 (x4_1 + 1))) else (none)) else (none)) else (none)) else (none)) else (none)) else (none))) else (none)) else (none)) else (some (⟨#[]⟩ : ByteArray)))) else (some (⟨#[]⟩ : ByteArray))) else (some (⟨#[]⟩ : ByteArray))) else (some (⟨#[]⟩ : ByteArray)))) = some r := H
     have A5 := Aside0.mk A50
     clear A50
     replace H := Option.bind_eq_some_iff.mp H
     obtain ⟨⟨t200, t201⟩, A60, H⟩ := H
     replace H : (if t195 = true then (if t198 = true then (if t201 = true then ((guichetref12_kind.f k1 ((rd_T34 l0 x4_1).f1)).bind fun t203 => (if t203 = true then (if x3_1.size + t194.size ≤ 9223372036854775807 then (if (x3_1 ++ t194).size + 1 ≤ 9223372036854775807 then ((some (([(rd_T34 l0 x4_1).f1] : List Int) : List Int)).bind fun y205 => (if ((x3_1 ++ t194) ++ (⟨#[32]⟩ : ByteArray)).size + (strOfNums y205).size ≤ 9223372036854775807 then (if (((x3_1 ++ t194) ++ (⟨#[32]⟩ : ByteArray)) ++ (strOfNums y205)).size + 1 ≤ 9223372036854775807 then (if ((((x3_1 ++ t194) ++ (⟨#[32]⟩ : ByteArray)) ++ (strOfNums y205)) ++ (⟨#[32]⟩ : ByteArray)).size + t197.size ≤ 9223372036854775807 then (if (((((x3_1 ++ t194) ++ (⟨#[32]⟩ : ByteArray)) ++ (strOfNums y205)) ++ (⟨#[32]⟩ : ByteArray)) ++ t197).size + 1 ≤ 9223372036854775807 then (if ((((((x3_1 ++ t194) ++ (⟨#[32]⟩ : ByteArray)) ++ (strOfNums y205)) ++ (⟨#[32]⟩ : ByteArray)) ++ t197) ++ (⟨#[32]⟩ : ByteArray)).size + t200.size ≤ 9223372036854775807 then (if (((((((x3_1 ++ t194) ++ (⟨#[32]⟩ : ByteArray)) ++ (strOfNums y205)) ++ (⟨#[32]⟩ : ByteArray)) ++ t197) ++ (⟨#[32]⟩ : ByteArray)) ++ t200).size + 1 ≤ 9223372036854775807 then (guichetref12_TableText.l0 k1 l0 ((((((((x3_1 ++ t194) ++ (⟨#[32]⟩ : ByteArray)) ++ (strOfNums y205)) ++ (⟨#[32]⟩ : ByteArray)) ++ t197) ++ (⟨#[32]⟩ : ByteArray)) ++ t200) ++ (⟨#[10]⟩ : ByteArray)) (wrap64 (x4_1 + 1))) else (none)) else (none)) else (none)) else (none)) else (none)) else (none))) else (none)) else (none)) else (some (⟨#[]⟩ : ByteArray)))) else (some (⟨#[]⟩ : ByteArray))) else (some (⟨#[]⟩ : ByteArray))) else (some (⟨#[]⟩ : ByteArray))) = some r := H
     have A6 := Aside0.mk A60
     clear A60
     by_cases c7 : t195 = true
     ·subst c7
      have H1 : (if t198 = true then (if t201 = true then ((guichetref12_kind.f k1 ((rd_T34 l0 x4_1).f1)).bind fun t203 => (if t203 = true then (if x3_1.size + t194.size ≤ 9223372036854775807 then (if (x3_1 ++ t194).size + 1 ≤ 9223372036854775807 then ((some (([(rd_T34 l0 x4_1).f1] : List Int) : List Int)).bind fun y205 => (if ((x3_1 ++ t194) ++ (⟨#[32]⟩ : ByteArray)).size + (strOfNums y205).size ≤ 9223372036854775807 then (if (((x3_1 ++ t194) ++ (⟨#[32]⟩ : ByteArray)) ++ (strOfNums y205)).size + 1 ≤ 9223372036854775807 then (if ((((x3_1 ++ t194) ++ (⟨#[32]⟩ : ByteArray)) ++ (strOfNums y205)) ++ (⟨#[32]⟩ : ByteArray)).size + t197.size ≤ 9223372036854775807 then (if (((((x3_1 ++ t194) ++ (⟨#[32]⟩ : ByteArray)) ++ (strOfNums y205)) ++ (⟨#[32]⟩ : ByteArray)) ++ t197).size + 1 ≤ 9223372036854775807 then (if ((((((x3_1 ++ t194) ++ (⟨#[32]⟩ : ByteArray)) ++ (strOfNums y205)) ++ (⟨#[32]⟩ : ByteArray)) ++ t197) ++ (⟨#[32]⟩ : ByteArray)).size + t200.size ≤ 9223372036854775807 then (if (((((((x3_1 ++ t194) ++ (⟨#[32]⟩ : ByteArray)) ++ (strOfNums y205)) ++ (⟨#[32]⟩ : ByteArray)) ++ t197) ++ (⟨#[32]⟩ : ByteArray)) ++ t200).size + 1 ≤ 9223372036854775807 then (guichetref12_TableText.l0 k1 l0 ((((((((x3_1 ++ t194) ++ (⟨#[32]⟩ : ByteArray)) ++ (strOfNums y205)) ++ (⟨#[32]⟩ : ByteArray)) ++ t197) ++ (⟨#[32]⟩ : ByteArray)) ++ t200) ++ (⟨#[10]⟩ : ByteArray)) (wrap64 (x4_1 + 1))) else (none)) else (none)) else (none)) else (none)) else (none)) else (none))) else (none)) else (none)) else (some (⟨#[]⟩ : ByteArray)))) else (some (⟨#[]⟩ : ByteArray))) else (some (⟨#[]⟩ : ByteArray))) = some r := by rw [if_pos rfl] at H; exact H
      clear H
      have H := H1
      clear H1
      by_cases c8 : t198 = true
      ·subst c8
       have H1 : (if t201 = true then ((guichetref12_kind.f k1 ((rd_T34 l0 x4_1).f1)).bind fun t203 => (if t203 = true then (if x3_1.size + t194.size ≤ 9223372036854775807 then (if (x3_1 ++ t194).size + 1 ≤ 9223372036854775807 then ((some (([(rd_T34 l0 x4_1).f1] : List Int) : List Int)).bind fun y205 => (if ((x3_1 ++ t194) ++ (⟨#[32]⟩ : ByteArray)).size + (strOfNums y205).size ≤ 9223372036854775807 then (if (((x3_1 ++ t194) ++ (⟨#[32]⟩ : ByteArray)) ++ (strOfNums y205)).size + 1 ≤ 9223372036854775807 then (if ((((x3_1 ++ t194) ++ (⟨#[32]⟩ : ByteArray)) ++ (strOfNums y205)) ++ (⟨#[32]⟩ : ByteArray)).size + t197.size ≤ 9223372036854775807 then (if (((((x3_1 ++ t194) ++ (⟨#[32]⟩ : ByteArray)) ++ (strOfNums y205)) ++ (⟨#[32]⟩ : ByteArray)) ++ t197).size + 1 ≤ 9223372036854775807 then (if ((((((x3_1 ++ t194) ++ (⟨#[32]⟩ : ByteArray)) ++ (strOfNums y205)) ++ (⟨#[32]⟩ : ByteArray)) ++ t197) ++ (⟨#[32]⟩ : ByteArray)).size + t200.size ≤ 9223372036854775807 then (if (((((((x3_1 ++ t194) ++ (⟨#[32]⟩ : ByteArray)) ++ (strOfNums y205)) ++ (⟨#[32]⟩ : ByteArray)) ++ t197) ++ (⟨#[32]⟩ : ByteArray)) ++ t200).size + 1 ≤ 9223372036854775807 then (guichetref12_TableText.l0 k1 l0 ((((((((x3_1 ++ t194) ++ (⟨#[32]⟩ : ByteArray)) ++ (strOfNums y205)) ++ (⟨#[32]⟩ : ByteArray)) ++ t197) ++ (⟨#[32]⟩ : ByteArray)) ++ t200) ++ (⟨#[10]⟩ : ByteArray)) (wrap64 (x4_1 + 1))) else (none)) else (none)) else (none)) else (none)) else (none)) else (none))) else (none)) else (none)) else (some (⟨#[]⟩ : ByteArray)))) else (some (⟨#[]⟩ : ByteArray))) = some r := by rw [if_pos rfl] at H; exact H
       clear H
       have H := H1
       clear H1
       by_cases c9 : t201 = true
       ·subst c9
        have H1 : ((guichetref12_kind.f k1 ((rd_T34 l0 x4_1).f1)).bind fun t203 => (if t203 = true then (if x3_1.size + t194.size ≤ 9223372036854775807 then (if (x3_1 ++ t194).size + 1 ≤ 9223372036854775807 then ((some (([(rd_T34 l0 x4_1).f1] : List Int) : List Int)).bind fun y205 => (if ((x3_1 ++ t194) ++ (⟨#[32]⟩ : ByteArray)).size + (strOfNums y205).size ≤ 9223372036854775807 then (if (((x3_1 ++ t194) ++ (⟨#[32]⟩ : ByteArray)) ++ (strOfNums y205)).size + 1 ≤ 9223372036854775807 then (if ((((x3_1 ++ t194) ++ (⟨#[32]⟩ : ByteArray)) ++ (strOfNums y205)) ++ (⟨#[32]⟩ : ByteArray)).size + t197.size ≤ 9223372036854775807 then (if (((((x3_1 ++ t194) ++ (⟨#[32]⟩ : ByteArray)) ++ (strOfNums y205)) ++ (⟨#[32]⟩ : ByteArray)) ++ t197).size + 1 ≤ 9223372036854775807 then (if ((((((x3_1 ++ t194) ++ (⟨#[32]⟩ : ByteArray)) ++ (strOfNums y205)) ++ (⟨#[32]⟩ : ByteArray)) ++ t197) ++ (⟨#[32]⟩ : ByteArray)).size + t200.size ≤ 9223372036854775807 then (if (((((((x3_1 ++ t194) ++ (⟨#[32]⟩ : ByteArray)) ++ (strOfNums y205)) ++ (⟨#[32]⟩ : ByteArray)) ++ t197) ++ (⟨#[32]⟩ : ByteArray)) ++ t200).size + 1 ≤ 9223372036854775807 then (guichetref12_TableText.l0 k1 l0 ((((((((x3_1 ++ t194) ++ (⟨#[32]⟩ : ByteArray)) ++ (strOfNums y205)) ++ (⟨#[32]⟩ : ByteArray)) ++ t197) ++ (⟨#[32]⟩ : ByteArray)) ++ t200) ++ (⟨#[10]⟩ : ByteArray)) (wrap64 (x4_1 + 1))) else (none)) else (none)) else (none)) else (none)) else (none)) else (none))) else (none)) else (none)) else (some (⟨#[]⟩ : ByteArray)))) = some r := by rw [if_pos rfl] at H; exact H
        clear H
        have H := H1
        clear H1
        replace H := Option.bind_eq_some_iff.mp H
        obtain ⟨t203, A100, H⟩ := H
        replace H : (if t203 = true then (if x3_1.size + t194.size ≤ 9223372036854775807 then (if (x3_1 ++ t194).size + 1 ≤ 9223372036854775807 then ((some (([(rd_T34 l0 x4_1).f1] : List Int) : List Int)).bind fun y205 => (if ((x3_1 ++ t194) ++ (⟨#[32]⟩ : ByteArray)).size + (strOfNums y205).size ≤ 9223372036854775807 then (if (((x3_1 ++ t194) ++ (⟨#[32]⟩ : ByteArray)) ++ (strOfNums y205)).size + 1 ≤ 9223372036854775807 then (if ((((x3_1 ++ t194) ++ (⟨#[32]⟩ : ByteArray)) ++ (strOfNums y205)) ++ (⟨#[32]⟩ : ByteArray)).size + t197.size ≤ 9223372036854775807 then (if (((((x3_1 ++ t194) ++ (⟨#[32]⟩ : ByteArray)) ++ (strOfNums y205)) ++ (⟨#[32]⟩ : ByteArray)) ++ t197).size + 1 ≤ 9223372036854775807 then (if ((((((x3_1 ++ t194) ++ (⟨#[32]⟩ : ByteArray)) ++ (strOfNums y205)) ++ (⟨#[32]⟩ : ByteArray)) ++ t197) ++ (⟨#[32]⟩ : ByteArray)).size + t200.size ≤ 9223372036854775807 then (if (((((((x3_1 ++ t194) ++ (⟨#[32]⟩ : ByteArray)) ++ (strOfNums y205)) ++ (⟨#[32]⟩ : ByteArray)) ++ t197) ++ (⟨#[32]⟩ : ByteArray)) ++ t200).size + 1 ≤ 9223372036854775807 then (guichetref12_TableText.l0 k1 l0 ((((((((x3_1 ++ t194) ++ (⟨#[32]⟩ : ByteArray)) ++ (strOfNums y205)) ++ (⟨#[32]⟩ : ByteArray)) ++ t197) ++ (⟨#[32]⟩ : ByteArray)) ++ t200) ++ (⟨#[10]⟩ : ByteArray)) (wrap64 (x4_1 + 1))) else (none)) else (none)) else (none)) else (none)) else (none)) else (none))) else (none)) else (none)) else (some (⟨#[]⟩ : ByteArray))) = some r := H
        have A10 := Aside0.mk A100
        clear A100
        by_cases c11 : t203 = true
        ·subst c11
         have H1 : (if x3_1.size + t194.size ≤ 9223372036854775807 then (if (x3_1 ++ t194).size + 1 ≤ 9223372036854775807 then ((some (([(rd_T34 l0 x4_1).f1] : List Int) : List Int)).bind fun y205 => (if ((x3_1 ++ t194) ++ (⟨#[32]⟩ : ByteArray)).size + (strOfNums y205).size ≤ 9223372036854775807 then (if (((x3_1 ++ t194) ++ (⟨#[32]⟩ : ByteArray)) ++ (strOfNums y205)).size + 1 ≤ 9223372036854775807 then (if ((((x3_1 ++ t194) ++ (⟨#[32]⟩ : ByteArray)) ++ (strOfNums y205)) ++ (⟨#[32]⟩ : ByteArray)).size + t197.size ≤ 9223372036854775807 then (if (((((x3_1 ++ t194) ++ (⟨#[32]⟩ : ByteArray)) ++ (strOfNums y205)) ++ (⟨#[32]⟩ : ByteArray)) ++ t197).size + 1 ≤ 9223372036854775807 then (if ((((((x3_1 ++ t194) ++ (⟨#[32]⟩ : ByteArray)) ++ (strOfNums y205)) ++ (⟨#[32]⟩ : ByteArray)) ++ t197) ++ (⟨#[32]⟩ : ByteArray)).size + t200.size ≤ 9223372036854775807 then (if (((((((x3_1 ++ t194) ++ (⟨#[32]⟩ : ByteArray)) ++ (strOfNums y205)) ++ (⟨#[32]⟩ : ByteArray)) ++ t197) ++ (⟨#[32]⟩ : ByteArray)) ++ t200).size + 1 ≤ 9223372036854775807 then (guichetref12_TableText.l0 k1 l0 ((((((((x3_1 ++ t194) ++ (⟨#[32]⟩ : ByteArray)) ++ (strOfNums y205)) ++ (⟨#[32]⟩ : ByteArray)) ++ t197) ++ (⟨#[32]⟩ : ByteArray)) ++ t200) ++ (⟨#[10]⟩ : ByteArray)) (wrap64 (x4_1 + 1))) else (none)) else (none)) else (none)) else (none)) else (none)) else (none))) else (none)) else (none)) = some r := by rw [if_pos rfl] at H; exact H
         clear H
         have H := H1
         clear H1
         by_cases c12 : x3_1.size + t194.size ≤ 9223372036854775807
         ·rw [if_pos c12] at H
          have c12b0 := eq_true c12
          have c12b1 : decide (x3_1.size + t194.size ≤ 9223372036854775807) = true := decide_eq_true c12
          try have c12b2 : (9223372036854775807 < x3_1.size + t194.size) = False := eq_false (Nat.not_lt.2 c12)
          by_cases c13 : (x3_1 ++ t194).size + 1 ≤ 9223372036854775807
          ·rw [if_pos c13] at H
           have c13b0 := eq_true c13
           have c13b1 : decide ((x3_1 ++ t194).size + 1 ≤ 9223372036854775807) = true := decide_eq_true c13
           (try have c13b5 : (9223372036854775807 < x3_1.size + t194.size + 1) = False := (by rw [show x3_1.size + t194.size + 1 = (x3_1 ++ t194).size + 1 from (by first | (simp only [ByteArray.size_append]; done) | (simp only [ByteArray.size_append]; rfl))]; exact eq_false (Nat.not_lt.2 c13)))
           try have c13b2 : (9223372036854775807 < (x3_1 ++ t194).size + 1) = False := eq_false (Nat.not_lt.2 c13)
           obtain ⟨y205, hy205⟩ : ∃ y_ : List Int, y_ = (([(rd_T34 l0 x4_1).f1] : List Int)) := ⟨_, rfl⟩
           replace H : (if ((x3_1 ++ t194) ++ (⟨#[32]⟩ : ByteArray)).size + (strOfNums y205).size ≤ 9223372036854775807 then (if (((x3_1 ++ t194) ++ (⟨#[32]⟩ : ByteArray)) ++ (strOfNums y205)).size + 1 ≤ 9223372036854775807 then (if ((((x3_1 ++ t194) ++ (⟨#[32]⟩ : ByteArray)) ++ (strOfNums y205)) ++ (⟨#[32]⟩ : ByteArray)).size + t197.size ≤ 9223372036854775807 then (if (((((x3_1 ++ t194) ++ (⟨#[32]⟩ : ByteArray)) ++ (strOfNums y205)) ++ (⟨#[32]⟩ : ByteArray)) ++ t197).size + 1 ≤ 9223372036854775807 then (if ((((((x3_1 ++ t194) ++ (⟨#[32]⟩ : ByteArray)) ++ (strOfNums y205)) ++ (⟨#[32]⟩ : ByteArray)) ++ t197) ++ (⟨#[32]⟩ : ByteArray)).size + t200.size ≤ 9223372036854775807 then (if (((((((x3_1 ++ t194) ++ (⟨#[32]⟩ : ByteArray)) ++ (strOfNums y205)) ++ (⟨#[32]⟩ : ByteArray)) ++ t197) ++ (⟨#[32]⟩ : ByteArray)) ++ t200).size + 1 ≤ 9223372036854775807 then (guichetref12_TableText.l0 k1 l0 ((((((((x3_1 ++ t194) ++ (⟨#[32]⟩ : ByteArray)) ++ (strOfNums y205)) ++ (⟨#[32]⟩ : ByteArray)) ++ t197) ++ (⟨#[32]⟩ : ByteArray)) ++ t200) ++ (⟨#[10]⟩ : ByteArray)) (wrap64 (x4_1 + 1))) else (none)) else (none)) else (none)) else (none)) else (none)) else (none)) = some r := by first | (rw [hy205]; with_reducible exact H) | (have H2_ := (Option.bind_some _ _).symm.trans H; rw [hy205]; with_reducible exact H2_) | (have H2_ := (Option.bind_some _ _).symm.trans H; with_reducible exact H2_) | with_reducible exact H | (rw [hy205]; exact H) | exact H
           have Ny205 := Aside0.mk hy205
           clear hy205
           by_cases c14 : ((x3_1 ++ t194) ++ (⟨#[32]⟩ : ByteArray)).size + (strOfNums y205).size ≤ 9223372036854775807
           ·rw [if_pos c14] at H
            have c14b0 := eq_true c14
            have c14b1 : decide (((x3_1 ++ t194) ++ (⟨#[32]⟩ : ByteArray)).size + (strOfNums y205).size ≤ 9223372036854775807) = true := decide_eq_true c14
            (try have c14b5 : (9223372036854775807 < x3_1.size + t194.size + 1 + (strOfNums y205).size) = False := (by rw [show x3_1.size + t194.size + 1 + (strOfNums y205).size = ((x3_1 ++ t194) ++ (⟨#[32]⟩ : ByteArray)).size + (strOfNums y205).size from (by first | (simp only [ByteArray.size_append]; done) | (simp only [ByteArray.size_append]; rfl))]; exact eq_false (Nat.not_lt.2 c14)))
            try have c14b2 : (9223372036854775807 < ((x3_1 ++ t194) ++ (⟨#[32]⟩ : ByteArray)).size + (strOfNums y205).size) = False := eq_false (Nat.not_lt.2 c14)
            by_cases c15 : (((x3_1 ++ t194) ++ (⟨#[32]⟩ : ByteArray)) ++ (strOfNums y205)).size + 1 ≤ 9223372036854775807
            ·rw [if_pos c15] at H
             have c15b0 := eq_true c15
             have c15b1 : decide ((((x3_1 ++ t194) ++ (⟨#[32]⟩ : ByteArray)) ++ (strOfNums y205)).size + 1 ≤ 9223372036854775807) = true := decide_eq_true c15
             (try have c15b5 : (9223372036854775807 < x3_1.size + t194.size + 1 + (strOfNums y205).size + 1) = False := (by rw [show x3_1.size + t194.size + 1 + (strOfNums y205).size + 1 = (((x3_1 ++ t194) ++ (⟨#[32]⟩ : ByteArray)) ++ (strOfNums y205)).size + 1 from (by first | (simp only [ByteArray.size_append]; done) | (simp only [ByteArray.size_append]; rfl))]; exact eq_false (Nat.not_lt.2 c15)))
             try have c15b2 : (9223372036854775807 < (((x3_1 ++ t194) ++ (⟨#[32]⟩ : ByteArray)) ++ (strOfNums y205)).size + 1) = False := eq_false (Nat.not_lt.2 c15)
             by_cases c16 : ((((x3_1 ++ t194) ++ (⟨#[32]⟩ : ByteArray)) ++ (strOfNums y205)) ++ (⟨#[32]⟩ : ByteArray)).size + t197.size ≤ 9223372036854775807
             ·rw [if_pos c16] at H
              have c16b0 := eq_true c16
              have c16b1 : decide (((((x3_1 ++ t194) ++ (⟨#[32]⟩ : ByteArray)) ++ (strOfNums y205)) ++ (⟨#[32]⟩ : ByteArray)).size + t197.size ≤ 9223372036854775807) = true := decide_eq_true c16
              (try have c16b5 : (9223372036854775807 < x3_1.size + t194.size + 1 + (strOfNums y205).size + 1 + t197.size) = False := (by rw [show x3_1.size + t194.size + 1 + (strOfNums y205).size + 1 + t197.size = ((((x3_1 ++ t194) ++ (⟨#[32]⟩ : ByteArray)) ++ (strOfNums y205)) ++ (⟨#[32]⟩ : ByteArray)).size + t197.size from (by first | (simp only [ByteArray.size_append]; done) | (simp only [ByteArray.size_append]; rfl))]; exact eq_false (Nat.not_lt.2 c16)))
              try have c16b2 : (9223372036854775807 < ((((x3_1 ++ t194) ++ (⟨#[32]⟩ : ByteArray)) ++ (strOfNums y205)) ++ (⟨#[32]⟩ : ByteArray)).size + t197.size) = False := eq_false (Nat.not_lt.2 c16)
              by_cases c17 : (((((x3_1 ++ t194) ++ (⟨#[32]⟩ : ByteArray)) ++ (strOfNums y205)) ++ (⟨#[32]⟩ : ByteArray)) ++ t197).size + 1 ≤ 9223372036854775807
              ·rw [if_pos c17] at H
               have c17b0 := eq_true c17
               have c17b1 : decide ((((((x3_1 ++ t194) ++ (⟨#[32]⟩ : ByteArray)) ++ (strOfNums y205)) ++ (⟨#[32]⟩ : ByteArray)) ++ t197).size + 1 ≤ 9223372036854775807) = true := decide_eq_true c17
               (try have c17b5 : (9223372036854775807 < x3_1.size + t194.size + 1 + (strOfNums y205).size + 1 + t197.size + 1) = False := (by rw [show x3_1.size + t194.size + 1 + (strOfNums y205).size + 1 + t197.size + 1 = (((((x3_1 ++ t194) ++ (⟨#[32]⟩ : ByteArray)) ++ (strOfNums y205)) ++ (⟨#[32]⟩ : ByteArray)) ++ t197).size + 1 from (by first | (simp only [ByteArray.size_append]; done) | (simp only [ByteArray.size_append]; rfl))]; exact eq_false (Nat.not_lt.2 c17)))
               try have c17b2 : (9223372036854775807 < (((((x3_1 ++ t194) ++ (⟨#[32]⟩ : ByteArray)) ++ (strOfNums y205)) ++ (⟨#[32]⟩ : ByteArray)) ++ t197).size + 1) = False := eq_false (Nat.not_lt.2 c17)
               by_cases c18 : ((((((x3_1 ++ t194) ++ (⟨#[32]⟩ : ByteArray)) ++ (strOfNums y205)) ++ (⟨#[32]⟩ : ByteArray)) ++ t197) ++ (⟨#[32]⟩ : ByteArray)).size + t200.size ≤ 9223372036854775807
               ·rw [if_pos c18] at H
                have c18b0 := eq_true c18
                have c18b1 : decide (((((((x3_1 ++ t194) ++ (⟨#[32]⟩ : ByteArray)) ++ (strOfNums y205)) ++ (⟨#[32]⟩ : ByteArray)) ++ t197) ++ (⟨#[32]⟩ : ByteArray)).size + t200.size ≤ 9223372036854775807) = true := decide_eq_true c18
                (try have c18b5 : (9223372036854775807 < x3_1.size + t194.size + 1 + (strOfNums y205).size + 1 + t197.size + 1 + t200.size) = False := (by rw [show x3_1.size + t194.size + 1 + (strOfNums y205).size + 1 + t197.size + 1 + t200.size = ((((((x3_1 ++ t194) ++ (⟨#[32]⟩ : ByteArray)) ++ (strOfNums y205)) ++ (⟨#[32]⟩ : ByteArray)) ++ t197) ++ (⟨#[32]⟩ : ByteArray)).size + t200.size from (by first | (simp only [ByteArray.size_append]; done) | (simp only [ByteArray.size_append]; rfl))]; exact eq_false (Nat.not_lt.2 c18)))
                try have c18b2 : (9223372036854775807 < ((((((x3_1 ++ t194) ++ (⟨#[32]⟩ : ByteArray)) ++ (strOfNums y205)) ++ (⟨#[32]⟩ : ByteArray)) ++ t197) ++ (⟨#[32]⟩ : ByteArray)).size + t200.size) = False := eq_false (Nat.not_lt.2 c18)
                by_cases c19 : (((((((x3_1 ++ t194) ++ (⟨#[32]⟩ : ByteArray)) ++ (strOfNums y205)) ++ (⟨#[32]⟩ : ByteArray)) ++ t197) ++ (⟨#[32]⟩ : ByteArray)) ++ t200).size + 1 ≤ 9223372036854775807
                ·rw [if_pos c19] at H
                 have c19b0 := eq_true c19
                 have c19b1 : decide ((((((((x3_1 ++ t194) ++ (⟨#[32]⟩ : ByteArray)) ++ (strOfNums y205)) ++ (⟨#[32]⟩ : ByteArray)) ++ t197) ++ (⟨#[32]⟩ : ByteArray)) ++ t200).size + 1 ≤ 9223372036854775807) = true := decide_eq_true c19
                 (try have c19b5 : (9223372036854775807 < x3_1.size + t194.size + 1 + (strOfNums y205).size + 1 + t197.size + 1 + t200.size + 1) = False := (by rw [show x3_1.size + t194.size + 1 + (strOfNums y205).size + 1 + t197.size + 1 + t200.size + 1 = (((((((x3_1 ++ t194) ++ (⟨#[32]⟩ : ByteArray)) ++ (strOfNums y205)) ++ (⟨#[32]⟩ : ByteArray)) ++ t197) ++ (⟨#[32]⟩ : ByteArray)) ++ t200).size + 1 from (by first | (simp only [ByteArray.size_append]; done) | (simp only [ByteArray.size_append]; rfl))]; exact eq_false (Nat.not_lt.2 c19)))
                 try have c19b2 : (9223372036854775807 < (((((((x3_1 ++ t194) ++ (⟨#[32]⟩ : ByteArray)) ++ (strOfNums y205)) ++ (⟨#[32]⟩ : ByteArray)) ++ t197) ++ (⟨#[32]⟩ : ByteArray)) ++ t200).size + 1) = False := eq_false (Nat.not_lt.2 c19)
                 have H' := Aside0.mk H
                 clear H
                 have p193 : 0 ≤ (x4_1 : Int) := of_decide_eq_true (by first | (with_reducible assumption) | assumption)
                 have q193 : x4_1 < (l0.length : Int) := of_decide_eq_true (by first | (with_reducible assumption) | assumption)
                 obtain ⟨ad193, e193, hx193_0, hx193_1, hx193_2, hx193_3⟩ := at_T34 HR0.out x4_1 p193 q193
                 cases e193
                 replace hx193_0 := (HB.out.cell (World.block_lt_of_cell? w _ hx193_0)).trans hx193_0
                 replace hx193_1 := (HB.out.cell (World.block_lt_of_cell? w _ hx193_1)).trans hx193_1
                 replace hx193_2 := (HB.out.cell (World.block_lt_of_cell? w _ hx193_2)).trans hx193_2
                 replace hx193_3 := (HB.out.cell (World.block_lt_of_cell? w _ hx193_3)).trans hx193_3
                 replace p193 := eq_true p193
                 replace q193 := eq_true q193
                 go_wp2_with (first | ((with_reducible refine gate_callee (f := 25) rfl ?_); refine goesL_ (some 23) rfl rfl Tryd.func25 (by kernel_rfl) rfl #[.int .i64 ((rd_T34 l0 x4_1).f0), .int .i64 3] rfl (by (try simp only [List.map_toArray, List.map_cons, List.map_nil]); first | done | rfl | (simp only [List.length_drop, List.length_take]; rfl) | (rw [hsame_])) ?_; (with_reducible refine (guichetref1_Digits.calls k1 ((rd_T34 l0 x4_1).f0) 3 t194 true _ A4.out).mono ?_); rintro e w' ⟨rfl, ⟨nd, rfl⟩⟩; refine ⟨_, rfl, ?_⟩; have p196 : 0 ≤ (x4_1 : Int) := of_decide_eq_true (by first | (with_reducible assumption) | assumption); have q196 : x4_1 < (l0.length : Int) := of_decide_eq_true (by first | (with_reducible assumption) | assumption); obtain ⟨ad196, e196, hx196_0, hx196_1, hx196_2, hx196_3⟩ := at_T34 HR0.out x4_1 p196 q196; obtain rfl : ad193 = ad196 := (by injection e196); replace hx196_0 := (HB.out.cell (World.block_lt_of_cell? w _ hx196_0)).trans hx196_0; replace hx196_1 := (HB.out.cell (World.block_lt_of_cell? w _ hx196_1)).trans hx196_1; replace hx196_2 := (HB.out.cell (World.block_lt_of_cell? w _ hx196_2)).trans hx196_2; replace hx196_3 := (HB.out.cell (World.block_lt_of_cell? w _ hx196_3)).trans hx196_3; replace p196 := eq_true p196; replace q196 := eq_true q196) | ((with_reducible refine gate_callee (f := 25) rfl ?_); refine goesL_ (some 32) rfl rfl Tryd.func25 (by kernel_rfl) rfl #[.int .i64 ((rd_T34 l0 x4_1).f2), .int .i64 3] rfl (by (try simp only [List.map_toArray, List.map_cons, List.map_nil]); first | done | rfl | (simp only [List.length_drop, List.length_take]; rfl) | (rw [hsame_])) ?_; (with_reducible refine (guichetref1_Digits.calls k1 ((rd_T34 l0 x4_1).f2) 3 t197 true _ A5.out).mono ?_); rintro e w' ⟨rfl, ⟨nd, rfl⟩⟩; refine ⟨_, rfl, ?_⟩; have p199 : 0 ≤ (x4_1 : Int) := of_decide_eq_true (by first | (with_reducible assumption) | assumption); have q199 : x4_1 < (l0.length : Int) := of_decide_eq_true (by first | (with_reducible assumption) | assumption); obtain ⟨ad199, e199, hx199_0, hx199_1, hx199_2, hx199_3⟩ := at_T34 HR0.out x4_1 p199 q199; obtain rfl : ad193 = ad199 := (by injection e199); replace hx199_0 := (HB.out.cell (World.block_lt_of_cell? w _ hx199_0)).trans hx199_0; replace hx199_1 := (HB.out.cell (World.block_lt_of_cell? w _ hx199_1)).trans hx199_1; replace hx199_2 := (HB.out.cell (World.block_lt_of_cell? w _ hx199_2)).trans hx199_2; replace hx199_3 := (HB.out.cell (World.block_lt_of_cell? w _ hx199_3)).trans hx199_3; replace p199 := eq_true p199; replace q199 := eq_true q199) | ((with_reducible refine gate_callee (f := 25) rfl ?_); refine goesL_ (some 41) rfl rfl Tryd.func25 (by kernel_rfl) rfl #[.int .i64 ((rd_T34 l0 x4_1).f3), .int .i64 3] rfl (by (try simp only [List.map_toArray, List.map_cons, List.map_nil]); first | done | rfl | (simp only [List.length_drop, List.length_take]; rfl) | (rw [hsame_])) ?_; (with_reducible refine (guichetref1_Digits.calls k1 ((rd_T34 l0 x4_1).f3) 3 t200 true _ A6.out).mono ?_); rintro e w' ⟨rfl, ⟨nd, rfl⟩⟩; refine ⟨_, rfl, ?_⟩; have p202 : 0 ≤ (x4_1 : Int) := of_decide_eq_true (by first | (with_reducible assumption) | assumption); have q202 : x4_1 < (l0.length : Int) := of_decide_eq_true (by first | (with_reducible assumption) | assumption); obtain ⟨ad202, e202, hx202_0, hx202_1, hx202_2, hx202_3⟩ := at_T34 HR0.out x4_1 p202 q202; obtain rfl : ad193 = ad202 := (by injection e202); replace hx202_0 := (HB.out.cell (World.block_lt_of_cell? w _ hx202_0)).trans hx202_0; replace hx202_1 := (HB.out.cell (World.block_lt_of_cell? w _ hx202_1)).trans hx202_1; replace hx202_2 := (HB.out.cell (World.block_lt_of_cell? w _ hx202_2)).trans hx202_2; replace hx202_3 := (HB.out.cell (World.block_lt_of_cell? w _ hx202_3)).trans hx202_3; replace p202 := eq_true p202; replace q202 := eq_true q202) | (go_at_call 26; (with_reducible refine (guichetref12_kind.calls k1 ((rd_T34 l0 x4_1).f1) true _ A10.out).mono ?_); rintro e w' ⟨rfl, ⟨nd, rfl⟩⟩; have p204 : 0 ≤ (x4_1 : Int) := of_decide_eq_true (by first | (with_reducible assumption) | assumption); have q204 : x4_1 < (l0.length : Int) := of_decide_eq_true (by first | (with_reducible assumption) | assumption); obtain ⟨ad204, e204, hx204_0, hx204_1, hx204_2, hx204_3⟩ := at_T34 HR0.out x4_1 p204 q204; obtain rfl : ad193 = ad204 := (by injection e204); replace hx204_0 := (HB.out.cell (World.block_lt_of_cell? w _ hx204_0)).trans hx204_0; replace hx204_1 := (HB.out.cell (World.block_lt_of_cell? w _ hx204_1)).trans hx204_1; replace hx204_2 := (HB.out.cell (World.block_lt_of_cell? w _ hx204_2)).trans hx204_2; replace hx204_3 := (HB.out.cell (World.block_lt_of_cell? w _ hx204_3)).trans hx204_3; replace p204 := eq_true p204; replace q204 := eq_true q204) | ((with_reducible refine gate_dst (N := 72) rfl ?_); refine Kd.R_lit (Kd.int .u8) _ 5 ?hg (N := 72) ?hd (xs := ([(rd_T34 l0 x4_1).f1] : List Int)) (inner := [.int .u8 ((rd_T34 l0 x4_1).f1)]) (ok := fun _ => True) (okp := fun _ => True) ?hr ?hp (fun _ hk => hk) trivial (Below.refl _ _) (Nat.le_refl _) (by simp) ?_; (case hd => rfl); (case hg => rfl); (case hr => first | (go_simp; done) | (go_simp; rfl)); (case hp => exact (Reps.one (show Kd.M (Kd.int .u8) _ _ _ ((rd_T34 l0 x4_1).f1) [.int .u8 ((rd_T34 l0 x4_1).f1)] from rfl) (Reps.none _ _))); intro v206 w20 ho21 hb hg_ hnew_; clear hg_ hnew_; (first | rw [← Ny205.out] at ho21 | (simp only [Int.reduceToNat] at ho21; rw [← Ny205.out] at ho21)); have n0_ := Aside0.mk (Kd.R_lower ho21 (below_size (by repeat (first | (with_reducible first | exact HB.out | apply below_alloc | apply pw_below_drewN | apply below_drew1) | exact HB.out)))); have n1_ := Aside0.mk (below_step (by repeat (first | (with_reducible first | exact HB.out | apply below_alloc | apply pw_below_drewN | apply below_drew1) | exact HB.out)) hb); clear HB; have HO207 := n0_; have HB := n1_; clear n0_ n1_; clear hb ho21; have hcv22 : (convert 40 9 (v206)).run Tryd.prog _ = .ok (.string (strOfNums y205)) _ := own_string (P := Tryd.prog) Tryd.underlying40 Tryd.underlying5 Tryd.underlying9 (Kd.own_of_R HO207.out)))
                 go_roundg k1
                 case measure => have := HK1.out; omega
                 case rel => exact ⟨((((((((x3_1 ++ t194) ++ (⟨#[32]⟩ : ByteArray)) ++ (strOfNums y205)) ++ (⟨#[32]⟩ : ByteArray)) ++ t197) ++ (⟨#[32]⟩ : ByteArray)) ++ t200) ++ (⟨#[10]⟩ : ByteArray)), (wrap64 (x4_1 + 1)), (by first | rfl | (simp; done) | (simp [*]; done)), (by first | rfl | (simp; done) | (simp [*]; done)), H', ⟨by have := HK1.out; omega⟩, ⟨by repeat (first | (with_reducible first | exact HB.out | apply below_alloc | apply pw_below_drewN | apply below_drew1) | exact HB.out)⟩⟩
                ·rw [if_neg c19] at H
                 exact absurd H (by simp)
               ·rw [if_neg c18] at H
                exact absurd H (by simp)
              ·rw [if_neg c17] at H
               exact absurd H (by simp)
             ·rw [if_neg c16] at H
              exact absurd H (by simp)
            ·rw [if_neg c15] at H
             exact absurd H (by simp)
           ·rw [if_neg c14] at H
            exact absurd H (by simp)
          ·rw [if_neg c13] at H
           exact absurd H (by simp)
         ·rw [if_neg c12] at H
          exact absurd H (by simp)
        ·replace c11 := Bool.eq_false_iff.mpr c11
         subst c11
         have H1 : (some (⟨#[]⟩ : ByteArray)) = some r := by rw [if_neg (show ¬ (false = true) by decide)] at H; exact H
         clear H
         have H := H1
         clear H1
         obtain rfl := Option.some.inj H
         have p193 : 0 ≤ (x4_1 : Int) := of_decide_eq_true (by first | (with_reducible assumption) | assumption)
         have q193 : x4_1 < (l0.length : Int) := of_decide_eq_true (by first | (with_reducible assumption) | assumption)
         obtain ⟨ad193, e193, hx193_0, hx193_1, hx193_2, hx193_3⟩ := at_T34 HR0.out x4_1 p193 q193
         cases e193
         replace hx193_0 := (HB.out.cell (World.block_lt_of_cell? w _ hx193_0)).trans hx193_0
         replace hx193_1 := (HB.out.cell (World.block_lt_of_cell? w _ hx193_1)).trans hx193_1
         replace hx193_2 := (HB.out.cell (World.block_lt_of_cell? w _ hx193_2)).trans hx193_2
         replace hx193_3 := (HB.out.cell (World.block_lt_of_cell? w _ hx193_3)).trans hx193_3
         replace p193 := eq_true p193
         replace q193 := eq_true q193
         go_wp2_with (first | ((with_reducible refine gate_callee (f := 25) rfl ?_); refine goesL_ (some 23) rfl rfl Tryd.func25 (by kernel_rfl) rfl #[.int .i64 ((rd_T34 l0 x4_1).f0), .int .i64 3] rfl (by (try simp only [List.map_toArray, List.map_cons, List.map_nil]); first | done | rfl | (simp only [List.length_drop, List.length_take]; rfl) | (rw [hsame_])) ?_; (with_reducible refine (guichetref1_Digits.calls k1 ((rd_T34 l0 x4_1).f0) 3 t194 true _ A4.out).mono ?_); rintro e w' ⟨rfl, ⟨nd, rfl⟩⟩; refine ⟨_, rfl, ?_⟩; have p196 : 0 ≤ (x4_1 : Int) := of_decide_eq_true (by first | (with_reducible assumption) | assumption); have q196 : x4_1 < (l0.length : Int) := of_decide_eq_true (by first | (with_reducible assumption) | assumption); obtain ⟨ad196, e196, hx196_0, hx196_1, hx196_2, hx196_3⟩ := at_T34 HR0.out x4_1 p196 q196; obtain rfl : ad193 = ad196 := (by injection e196); replace hx196_0 := (HB.out.cell (World.block_lt_of_cell? w _ hx196_0)).trans hx196_0; replace hx196_1 := (HB.out.cell (World.block_lt_of_cell? w _ hx196_1)).trans hx196_1; replace hx196_2 := (HB.out.cell (World.block_lt_of_cell? w _ hx196_2)).trans hx196_2; replace hx196_3 := (HB.out.cell (World.block_lt_of_cell? w _ hx196_3)).trans hx196_3; replace p196 := eq_true p196; replace q196 := eq_true q196) | ((with_reducible refine gate_callee (f := 25) rfl ?_); refine goesL_ (some 32) rfl rfl Tryd.func25 (by kernel_rfl) rfl #[.int .i64 ((rd_T34 l0 x4_1).f2), .int .i64 3] rfl (by (try simp only [List.map_toArray, List.map_cons, List.map_nil]); first | done | rfl | (simp only [List.length_drop, List.length_take]; rfl) | (rw [hsame_])) ?_; (with_reducible refine (guichetref1_Digits.calls k1 ((rd_T34 l0 x4_1).f2) 3 t197 true _ A5.out).mono ?_); rintro e w' ⟨rfl, ⟨nd, rfl⟩⟩; refine ⟨_, rfl, ?_⟩; have p199 : 0 ≤ (x4_1 : Int) := of_decide_eq_true (by first | (with_reducible assumption) | assumption); have q199 : x4_1 < (l0.length : Int) := of_decide_eq_true (by first | (with_reducible assumption) | assumption); obtain ⟨ad199, e199, hx199_0, hx199_1, hx199_2, hx199_3⟩ := at_T34 HR0.out x4_1 p199 q199; obtain rfl : ad193 = ad199 := (by injection e199); replace hx199_0 := (HB.out.cell (World.block_lt_of_cell? w _ hx199_0)).trans hx199_0; replace hx199_1 := (HB.out.cell (World.block_lt_of_cell? w _ hx199_1)).trans hx199_1; replace hx199_2 := (HB.out.cell (World.block_lt_of_cell? w _ hx199_2)).trans hx199_2; replace hx199_3 := (HB.out.cell (World.block_lt_of_cell? w _ hx199_3)).trans hx199_3; replace p199 := eq_true p199; replace q199 := eq_true q199) | ((with_reducible refine gate_callee (f := 25) rfl ?_); refine goesL_ (some 41) rfl rfl Tryd.func25 (by kernel_rfl) rfl #[.int .i64 ((rd_T34 l0 x4_1).f3), .int .i64 3] rfl (by (try simp only [List.map_toArray, List.map_cons, List.map_nil]); first | done | rfl | (simp only [List.length_drop, List.length_take]; rfl) | (rw [hsame_])) ?_; (with_reducible refine (guichetref1_Digits.calls k1 ((rd_T34 l0 x4_1).f3) 3 t200 true _ A6.out).mono ?_); rintro e w' ⟨rfl, ⟨nd, rfl⟩⟩; refine ⟨_, rfl, ?_⟩; have p202 : 0 ≤ (x4_1 : Int) := of_decide_eq_true (by first | (with_reducible assumption) | assumption); have q202 : x4_1 < (l0.length : Int) := of_decide_eq_true (by first | (with_reducible assumption) | assumption); obtain ⟨ad202, e202, hx202_0, hx202_1, hx202_2, hx202_3⟩ := at_T34 HR0.out x4_1 p202 q202; obtain rfl : ad193 = ad202 := (by injection e202); replace hx202_0 := (HB.out.cell (World.block_lt_of_cell? w _ hx202_0)).trans hx202_0; replace hx202_1 := (HB.out.cell (World.block_lt_of_cell? w _ hx202_1)).trans hx202_1; replace hx202_2 := (HB.out.cell (World.block_lt_of_cell? w _ hx202_2)).trans hx202_2; replace hx202_3 := (HB.out.cell (World.block_lt_of_cell? w _ hx202_3)).trans hx202_3; replace p202 := eq_true p202; replace q202 := eq_true q202) | (go_at_call 26; (with_reducible refine (guichetref12_kind.calls k1 ((rd_T34 l0 x4_1).f1) false _ A10.out).mono ?_); rintro e w' ⟨rfl, ⟨nd, rfl⟩⟩))
         go_ret
         exact ⟨by first | rfl | (simp [errW_none, errW_some] <;> rfl) | (simp [*, errW_none, errW_some] <;> rfl), by repeat (first | (with_reducible first | exact HB.out | apply below_alloc | apply pw_below_drewN | apply below_drew1) | exact HB.out)⟩
       ·replace c9 := Bool.eq_false_iff.mpr c9
        subst c9
        have H1 : (some (⟨#[]⟩ : ByteArray)) = some r := by rw [if_neg (show ¬ (false = true) by decide)] at H; exact H
        clear H
        have H := H1
        clear H1
        obtain rfl := Option.some.inj H
        have p193 : 0 ≤ (x4_1 : Int) := of_decide_eq_true (by first | (with_reducible assumption) | assumption)
        have q193 : x4_1 < (l0.length : Int) := of_decide_eq_true (by first | (with_reducible assumption) | assumption)
        obtain ⟨ad193, e193, hx193_0, hx193_1, hx193_2, hx193_3⟩ := at_T34 HR0.out x4_1 p193 q193
        cases e193
        replace hx193_0 := (HB.out.cell (World.block_lt_of_cell? w _ hx193_0)).trans hx193_0
        replace hx193_1 := (HB.out.cell (World.block_lt_of_cell? w _ hx193_1)).trans hx193_1
        replace hx193_2 := (HB.out.cell (World.block_lt_of_cell? w _ hx193_2)).trans hx193_2
        replace hx193_3 := (HB.out.cell (World.block_lt_of_cell? w _ hx193_3)).trans hx193_3
        replace p193 := eq_true p193
        replace q193 := eq_true q193
        go_wp2_with (first | ((with_reducible refine gate_callee (f := 25) rfl ?_); refine goesL_ (some 23) rfl rfl Tryd.func25 (by kernel_rfl) rfl #[.int .i64 ((rd_T34 l0 x4_1).f0), .int .i64 3] rfl (by (try simp only [List.map_toArray, List.map_cons, List.map_nil]); first | done | rfl | (simp only [List.length_drop, List.length_take]; rfl) | (rw [hsame_])) ?_; (with_reducible refine (guichetref1_Digits.calls k1 ((rd_T34 l0 x4_1).f0) 3 t194 true _ A4.out).mono ?_); rintro e w' ⟨rfl, ⟨nd, rfl⟩⟩; refine ⟨_, rfl, ?_⟩; have p196 : 0 ≤ (x4_1 : Int) := of_decide_eq_true (by first | (with_reducible assumption) | assumption); have q196 : x4_1 < (l0.length : Int) := of_decide_eq_true (by first | (with_reducible assumption) | assumption); obtain ⟨ad196, e196, hx196_0, hx196_1, hx196_2, hx196_3⟩ := at_T34 HR0.out x4_1 p196 q196; obtain rfl : ad193 = ad196 := (by injection e196); replace hx196_0 := (HB.out.cell (World.block_lt_of_cell? w _ hx196_0)).trans hx196_0; replace hx196_1 := (HB.out.cell (World.block_lt_of_cell? w _ hx196_1)).trans hx196_1; replace hx196_2 := (HB.out.cell (World.block_lt_of_cell? w _ hx196_2)).trans hx196_2; replace hx196_3 := (HB.out.cell (World.block_lt_of_cell? w _ hx196_3)).trans hx196_3; replace p196 := eq_true p196; replace q196 := eq_true q196) | ((with_reducible refine gate_callee (f := 25) rfl ?_); refine goesL_ (some 32) rfl rfl Tryd.func25 (by kernel_rfl) rfl #[.int .i64 ((rd_T34 l0 x4_1).f2), .int .i64 3] rfl (by (try simp only [List.map_toArray, List.map_cons, List.map_nil]); first | done | rfl | (simp only [List.length_drop, List.length_take]; rfl) | (rw [hsame_])) ?_; (with_reducible refine (guichetref1_Digits.calls k1 ((rd_T34 l0 x4_1).f2) 3 t197 true _ A5.out).mono ?_); rintro e w' ⟨rfl, ⟨nd, rfl⟩⟩; refine ⟨_, rfl, ?_⟩; have p199 : 0 ≤ (x4_1 : Int) := of_decide_eq_true (by first | (with_reducible assumption) | assumption); have q199 : x4_1 < (l0.length : Int) := of_decide_eq_true (by first | (with_reducible assumption) | assumption); obtain ⟨ad199, e199, hx199_0, hx199_1, hx199_2, hx199_3⟩ := at_T34 HR0.out x4_1 p199 q199; obtain rfl : ad193 = ad199 := (by injection e199); replace hx199_0 := (HB.out.cell (World.block_lt_of_cell? w _ hx199_0)).trans hx199_0; replace hx199_1 := (HB.out.cell (World.block_lt_of_cell? w _ hx199_1)).trans hx199_1; replace hx199_2 := (HB.out.cell (World.block_lt_of_cell? w _ hx199_2)).trans hx199_2; replace hx199_3 := (HB.out.cell (World.block_lt_of_cell? w _ hx199_3)).trans hx199_3; replace p199 := eq_true p199; replace q199 := eq_true q199) | ((with_reducible refine gate_callee (f := 25) rfl ?_); refine goesL_ (some 41) rfl rfl Tryd.func25 (by kernel_rfl) rfl #[.int .i64 ((rd_T34 l0 x4_1).f3), .int .i64 3] rfl (by (try simp only [List.map_toArray, List.map_cons, List.map_nil]); first | done | rfl | (simp only [List.length_drop, List.length_take]; rfl) | (rw [hsame_])) ?_; (with_reducible refine (guichetref1_Digits.calls k1 ((rd_T34 l0 x4_1).f3) 3 t200 false _ A6.out).mono ?_); rintro e w' ⟨rfl, ⟨nd, rfl⟩⟩; refine ⟨_, rfl, ?_⟩))
        go_ret
        exact ⟨by first | rfl | (simp [errW_none, errW_some] <;> rfl) | (simp [*, errW_none, errW_some] <;> rfl), by repeat (first | (with_reducible first | exact HB.out | apply below_alloc | apply pw_below_drewN | apply below_drew1) | exact HB.out)⟩
      ·replace c8 := Bool.eq_false_iff.mpr c8
       subst c8
       have H1 : (some (⟨#[]⟩ : ByteArray)) = some r := by rw [if_neg (show ¬ (false = true) by decide)] at H; exact H
       clear H
       have H := H1
       clear H1
       obtain rfl := Option.some.inj H
       have p193 : 0 ≤ (x4_1 : Int) := of_decide_eq_true (by first | (with_reducible assumption) | assumption)
       have q193 : x4_1 < (l0.length : Int) := of_decide_eq_true (by first | (with_reducible assumption) | assumption)
       obtain ⟨ad193, e193, hx193_0, hx193_1, hx193_2, hx193_3⟩ := at_T34 HR0.out x4_1 p193 q193
       cases e193
       replace hx193_0 := (HB.out.cell (World.block_lt_of_cell? w _ hx193_0)).trans hx193_0
       replace hx193_1 := (HB.out.cell (World.block_lt_of_cell? w _ hx193_1)).trans hx193_1
       replace hx193_2 := (HB.out.cell (World.block_lt_of_cell? w _ hx193_2)).trans hx193_2
       replace hx193_3 := (HB.out.cell (World.block_lt_of_cell? w _ hx193_3)).trans hx193_3
       replace p193 := eq_true p193
       replace q193 := eq_true q193
       go_wp2_with (first | ((with_reducible refine gate_callee (f := 25) rfl ?_); refine goesL_ (some 23) rfl rfl Tryd.func25 (by kernel_rfl) rfl #[.int .i64 ((rd_T34 l0 x4_1).f0), .int .i64 3] rfl (by (try simp only [List.map_toArray, List.map_cons, List.map_nil]); first | done | rfl | (simp only [List.length_drop, List.length_take]; rfl) | (rw [hsame_])) ?_; (with_reducible refine (guichetref1_Digits.calls k1 ((rd_T34 l0 x4_1).f0) 3 t194 true _ A4.out).mono ?_); rintro e w' ⟨rfl, ⟨nd, rfl⟩⟩; refine ⟨_, rfl, ?_⟩; have p196 : 0 ≤ (x4_1 : Int) := of_decide_eq_true (by first | (with_reducible assumption) | assumption); have q196 : x4_1 < (l0.length : Int) := of_decide_eq_true (by first | (with_reducible assumption) | assumption); obtain ⟨ad196, e196, hx196_0, hx196_1, hx196_2, hx196_3⟩ := at_T34 HR0.out x4_1 p196 q196; obtain rfl : ad193 = ad196 := (by injection e196); replace hx196_0 := (HB.out.cell (World.block_lt_of_cell? w _ hx196_0)).trans hx196_0; replace hx196_1 := (HB.out.cell (World.block_lt_of_cell? w _ hx196_1)).trans hx196_1; replace hx196_2 := (HB.out.cell (World.block_lt_of_cell? w _ hx196_2)).trans hx196_2; replace hx196_3 := (HB.out.cell (World.block_lt_of_cell? w _ hx196_3)).trans hx196_3; replace p196 := eq_true p196; replace q196 := eq_true q196) | ((with_reducible refine gate_callee (f := 25) rfl ?_); refine goesL_ (some 32) rfl rfl Tryd.func25 (by kernel_rfl) rfl #[.int .i64 ((rd_T34 l0 x4_1).f2), .int .i64 3] rfl (by (try simp only [List.map_toArray, List.map_cons, List.map_nil]); first | done | rfl | (simp only [List.length_drop, List.length_take]; rfl) | (rw [hsame_])) ?_; (with_reducible refine (guichetref1_Digits.calls k1 ((rd_T34 l0 x4_1).f2) 3 t197 false _ A5.out).mono ?_); rintro e w' ⟨rfl, ⟨nd, rfl⟩⟩; refine ⟨_, rfl, ?_⟩; have p199 : 0 ≤ (x4_1 : Int) := of_decide_eq_true (by first | (with_reducible assumption) | assumption); have q199 : x4_1 < (l0.length : Int) := of_decide_eq_true (by first | (with_reducible assumption) | assumption); obtain ⟨ad199, e199, hx199_0, hx199_1, hx199_2, hx199_3⟩ := at_T34 HR0.out x4_1 p199 q199; obtain rfl : ad193 = ad199 := (by injection e199); replace hx199_0 := (HB.out.cell (World.block_lt_of_cell? w _ hx199_0)).trans hx199_0; replace hx199_1 := (HB.out.cell (World.block_lt_of_cell? w _ hx199_1)).trans hx199_1; replace hx199_2 := (HB.out.cell (World.block_lt_of_cell? w _ hx199_2)).trans hx199_2; replace hx199_3 := (HB.out.cell (World.block_lt_of_cell? w _ hx199_3)).trans hx199_3; replace p199 := eq_true p199; replace q199 := eq_true q199) | ((with_reducible refine gate_callee (f := 25) rfl ?_); refine goesL_ (some 41) rfl rfl Tryd.func25 (by kernel_rfl) rfl #[.int .i64 ((rd_T34 l0 x4_1).f3), .int .i64 3] rfl (by (try simp only [List.map_toArray, List.map_cons, List.map_nil]); first | done | rfl | (simp only [List.length_drop, List.length_take]; rfl) | (rw [hsame_])) ?_; (with_reducible refine (guichetref1_Digits.calls k1 ((rd_T34 l0 x4_1).f3) 3 t200 t201 _ A6.out).mono ?_); rintro e w' ⟨rfl, ⟨nd, rfl⟩⟩; refine ⟨_, rfl, ?_⟩))
       go_ret
       exact ⟨by first | rfl | (simp [errW_none, errW_some] <;> rfl) | (simp [*, errW_none, errW_some] <;> rfl), by repeat (first | (with_reducible first | exact HB.out | apply below_alloc | apply pw_below_drewN | apply below_drew1) | exact HB.out)⟩
     ·replace c7 := Bool.eq_false_iff.mpr c7
      subst c7
      have H1 : (some (⟨#[]⟩ : ByteArray)) = some r := by rw [if_neg (show ¬ (false = true) by decide)] at H; exact H
      clear H
      have H := H1
      clear H1
      obtain rfl := Option.some.inj H
      have p193 : 0 ≤ (x4_1 : Int) := of_decide_eq_true (by first | (with_reducible assumption) | assumption)
      have q193 : x4_1 < (l0.length : Int) := of_decide_eq_true (by first | (with_reducible assumption) | assumption)
      obtain ⟨ad193, e193, hx193_0, hx193_1, hx193_2, hx193_3⟩ := at_T34 HR0.out x4_1 p193 q193
      cases e193
      replace hx193_0 := (HB.out.cell (World.block_lt_of_cell? w _ hx193_0)).trans hx193_0
      replace hx193_1 := (HB.out.cell (World.block_lt_of_cell? w _ hx193_1)).trans hx193_1
      replace hx193_2 := (HB.out.cell (World.block_lt_of_cell? w _ hx193_2)).trans hx193_2
      replace hx193_3 := (HB.out.cell (World.block_lt_of_cell? w _ hx193_3)).trans hx193_3
      replace p193 := eq_true p193
      replace q193 := eq_true q193
      go_wp2_with (first | ((with_reducible refine gate_callee (f := 25) rfl ?_); refine goesL_ (some 23) rfl rfl Tryd.func25 (by kernel_rfl) rfl #[.int .i64 ((rd_T34 l0 x4_1).f0), .int .i64 3] rfl (by (try simp only [List.map_toArray, List.map_cons, List.map_nil]); first | done | rfl | (simp only [List.length_drop, List.length_take]; rfl) | (rw [hsame_])) ?_; (with_reducible refine (guichetref1_Digits.calls k1 ((rd_T34 l0 x4_1).f0) 3 t194 false _ A4.out).mono ?_); rintro e w' ⟨rfl, ⟨nd, rfl⟩⟩; refine ⟨_, rfl, ?_⟩; have p196 : 0 ≤ (x4_1 : Int) := of_decide_eq_true (by first | (with_reducible assumption) | assumption); have q196 : x4_1 < (l0.length : Int) := of_decide_eq_true (by first | (with_reducible assumption) | assumption); obtain ⟨ad196, e196, hx196_0, hx196_1, hx196_2, hx196_3⟩ := at_T34 HR0.out x4_1 p196 q196; obtain rfl : ad193 = ad196 := (by injection e196); replace hx196_0 := (HB.out.cell (World.block_lt_of_cell? w _ hx196_0)).trans hx196_0; replace hx196_1 := (HB.out.cell (World.block_lt_of_cell? w _ hx196_1)).trans hx196_1; replace hx196_2 := (HB.out.cell (World.block_lt_of_cell? w _ hx196_2)).trans hx196_2; replace hx196_3 := (HB.out.cell (World.block_lt_of_cell? w _ hx196_3)).trans hx196_3; replace p196 := eq_true p196; replace q196 := eq_true q196) | ((with_reducible refine gate_callee (f := 25) rfl ?_); refine goesL_ (some 32) rfl rfl Tryd.func25 (by kernel_rfl) rfl #[.int .i64 ((rd_T34 l0 x4_1).f2), .int .i64 3] rfl (by (try simp only [List.map_toArray, List.map_cons, List.map_nil]); first | done | rfl | (simp only [List.length_drop, List.length_take]; rfl) | (rw [hsame_])) ?_; (with_reducible refine (guichetref1_Digits.calls k1 ((rd_T34 l0 x4_1).f2) 3 t197 t198 _ A5.out).mono ?_); rintro e w' ⟨rfl, ⟨nd, rfl⟩⟩; refine ⟨_, rfl, ?_⟩; have p199 : 0 ≤ (x4_1 : Int) := of_decide_eq_true (by first | (with_reducible assumption) | assumption); have q199 : x4_1 < (l0.length : Int) := of_decide_eq_true (by first | (with_reducible assumption) | assumption); obtain ⟨ad199, e199, hx199_0, hx199_1, hx199_2, hx199_3⟩ := at_T34 HR0.out x4_1 p199 q199; obtain rfl : ad193 = ad199 := (by injection e199); replace hx199_0 := (HB.out.cell (World.block_lt_of_cell? w _ hx199_0)).trans hx199_0; replace hx199_1 := (HB.out.cell (World.block_lt_of_cell? w _ hx199_1)).trans hx199_1; replace hx199_2 := (HB.out.cell (World.block_lt_of_cell? w _ hx199_2)).trans hx199_2; replace hx199_3 := (HB.out.cell (World.block_lt_of_cell? w _ hx199_3)).trans hx199_3; replace p199 := eq_true p199; replace q199 := eq_true q199) | ((with_reducible refine gate_callee (f := 25) rfl ?_); refine goesL_ (some 41) rfl rfl Tryd.func25 (by kernel_rfl) rfl #[.int .i64 ((rd_T34 l0 x4_1).f3), .int .i64 3] rfl (by (try simp only [List.map_toArray, List.map_cons, List.map_nil]); first | done | rfl | (simp only [List.length_drop, List.length_take]; rfl) | (rw [hsame_])) ?_; (with_reducible refine (guichetref1_Digits.calls k1 ((rd_T34 l0 x4_1).f3) 3 t200 t201 _ A6.out).mono ?_); rintro e w' ⟨rfl, ⟨nd, rfl⟩⟩; refine ⟨_, rfl, ?_⟩))
      go_ret
      exact ⟨by first | rfl | (simp [errW_none, errW_some] <;> rfl) | (simp [*, errW_none, errW_some] <;> rfl), by repeat (first | (with_reducible first | exact HB.out | apply below_alloc | apply pw_below_drewN | apply below_drew1) | exact HB.out)⟩
    ·rw [if_neg c3] at H
     exact absurd H (by simp)
   ·rw [if_neg c2] at H
    have c2b0 : decide (x4_1 < (l0.length : Int)) = false := decide_eq_false c2
    clear c2
    obtain rfl := Option.some.inj H
    go_wp2
    go_ret
    exact ⟨by first | rfl | (simp [errW_none, errW_some] <;> rfl) | (simp [*, errW_none, errW_some] <;> rfl), by repeat (first | (with_reducible first | exact HB.out | apply below_alloc | apply pw_below_drewN | apply below_drew1) | exact HB.out)⟩

/-! ### guichetref1_AllDigits: function 43 -/
def guichetref1_AllDigits.l0 : Nat → ByteArray → Int → Option (Bool)
 | 0, _, _ => none
 | k + 1, x0, x3 => if x3 < (x0.size : Int) then (if 0 ≤ x3 then (if (bt x0 x3) < 48 then (some false) else (if (bt x0 x3) > 57 then (some false) else (guichetref1_AllDigits.l0 k x0 (wrap64 (x3 + 1))))) else (none)) else (some true)
def guichetref1_AllDigits.f (k : Nat) (a0 : ByteArray) : Option (Bool) := guichetref1_AllDigits.l0 k a0 0
theorem guichetref1_AllDigits.mono_l : ∀ k, (∀ y0 y1, LeO (guichetref1_AllDigits.l0 k y0 y1) (guichetref1_AllDigits.l0 (k + 1) y0 y1))
 | 0 => fun _ _ r h => by simp [guichetref1_AllDigits.l0] at h
 | k + 1 => by
  have ih0 := guichetref1_AllDigits.mono_l k
  ·intro y0 y1
   unfold guichetref1_AllDigits.l0
   repeat' first
   | (with_reducible exact ih0 _ _)
   | (with_reducible exact LeO.refl _)
   | (with_reducible exact LeO.none _)
   | (with_reducible refine LeO.ite ?_ ?_)
   | (with_reducible refine LeO.bind ?_ (fun _ => ?_))
   | exact ih0 _ _
   | exact LeO.none _
   | refine LeO.ite ?_ ?_
   | refine LeO.bind ?_ (fun _ => ?_)
theorem guichetref1_AllDigits.mono : ∀ a0 k, LeO (guichetref1_AllDigits.f k a0) (guichetref1_AllDigits.f (k + 1) a0) := by
 intro a0 k
 have ih0 := guichetref1_AllDigits.mono_l k
 unfold guichetref1_AllDigits.f
 repeat' first
   | (with_reducible exact ih0 _ _)
   | (with_reducible exact LeO.refl _)
   | (with_reducible exact LeO.none _)
   | (with_reducible refine LeO.ite ?_ ?_)
   | (with_reducible refine LeO.bind ?_ (fun _ => ?_))
   | exact ih0 _ _
   | exact LeO.none _
   | refine LeO.ite ?_ ?_
   | refine LeO.bind ?_ (fun _ => ?_)
set_option maxHeartbeats 8000000 in
set_option maxRecDepth 100000 in
theorem guichetref1_AllDigits.calls (k : Nat) (a0 : ByteArray) (r : Bool) (w : World) (h : guichetref1_AllDigits.f k a0 = some r) :
  Calls Tryd.prog 43 #[.string a0] w fun e w' => e = .returned (.bool r) ∧ Drawn0 w w' := by
 have H : (guichetref1_AllDigits.l0 k a0 0) = some r := h
 clear h
 have H' := Aside0.mk H
 clear H
 go_enter Tryd.func43, Tryd.ntmps43
 go_wp2
 go_loopg [3] k (fun kq v3 w' => ∃ (x3_1 : Int), v3 = .int .i64 x3_1 ∧ Aside0 (guichetref1_AllDigits.l0 kq a0 x3_1 = some r) ∧ Aside0 (kq ≤ k) ∧ Drawn0 w w')
 case atStart => exact ⟨(0), (by first | rfl | (simp; done) | (simp [*]; done)), H', ⟨Nat.le_refl _⟩, by repeat (first | exact Drawn0.refl _ | apply Drawn0.step)⟩
 case round =>
  clear H'
  obtain ⟨x3_1, rfl, HA, HK1, ⟨m1, rfl⟩⟩ := hrel
  cases gk with
  | zero => exact absurd HA.out (by simp [guichetref1_AllDigits.l0])
  | succ k1 =>
   have H := HA.out
   clear HA
   simp only [guichetref1_AllDigits.l0] at H
   by_cases c2 : x3_1 < (a0.size : Int)
   ·rw [if_pos c2] at H
    have c2b0 : decide (x3_1 < (a0.size : Int)) = true := decide_eq_true c2
    clear c2
    by_cases c3 : 0 ≤ x3_1
    ·rw [if_pos c3] at H
     have c3b0 : decide (0 ≤ x3_1) = true := decide_eq_true c3
     clear c3
     by_cases c5 : (bt a0 x3_1) < 48
     ·rw [if_pos c5] at H
      have c5b0 : decide ((bt a0 x3_1) < 48) = true := decide_eq_true c5
      clear c5
      obtain rfl := Option.some.inj H
      have p4 : 0 ≤ (x3_1 : Int) := of_decide_eq_true (by first | (with_reducible assumption) | assumption)
      have q4 : x3_1 < (a0.size : Int) := of_decide_eq_true (by first | (with_reducible assumption) | assumption)
      have hx4 := bt_at a0 x3_1
      replace p4 := eq_true p4
      replace q4 := eq_true q4
      go_wp2
      go_ret
      exact ⟨by first | rfl | (simp; done) | (simp [*]; done), by repeat (first | exact Drawn0.refl _ | apply Drawn0.step)⟩
     ·rw [if_neg c5] at H
      have c5b0 : decide ((bt a0 x3_1) < 48) = false := decide_eq_false c5
      clear c5
      by_cases c7 : (bt a0 x3_1) > 57
      ·rw [if_pos c7] at H
       have c7b0 : decide (57 < (bt a0 x3_1)) = true := decide_eq_true c7
       clear c7
       obtain rfl := Option.some.inj H
       have p4 : 0 ≤ (x3_1 : Int) := of_decide_eq_true (by first | (with_reducible assumption) | assumption)
       have q4 : x3_1 < (a0.size : Int) := of_decide_eq_true (by first | (with_reducible assumption) | assumption)
       have hx4 := bt_at a0 x3_1
       replace p4 := eq_true p4
       replace q4 := eq_true q4
       have p6 : 0 ≤ (x3_1 : Int) := of_decide_eq_true (by first | (with_reducible assumption) | assumption)
       have q6 : x3_1 < (a0.size : Int) := of_decide_eq_true (by first | (with_reducible assumption) | assumption)
       have hx6 := bt_at a0 x3_1
       replace p6 := eq_true p6
       replace q6 := eq_true q6
       go_wp2
       go_ret
       exact ⟨by first | rfl | (simp; done) | (simp [*]; done), by repeat (first | exact Drawn0.refl _ | apply Drawn0.step)⟩
      ·rw [if_neg c7] at H
       have c7b0 : decide (57 < (bt a0 x3_1)) = false := decide_eq_false c7
       clear c7
       have H' := Aside0.mk H
       clear H
       have p4 : 0 ≤ (x3_1 : Int) := of_decide_eq_true (by first | (with_reducible assumption) | assumption)
       have q4 : x3_1 < (a0.size : Int) := of_decide_eq_true (by first | (with_reducible assumption) | assumption)
       have hx4 := bt_at a0 x3_1
       replace p4 := eq_true p4
       replace q4 := eq_true q4
       have p6 : 0 ≤ (x3_1 : Int) := of_decide_eq_true (by first | (with_reducible assumption) | assumption)
       have q6 : x3_1 < (a0.size : Int) := of_decide_eq_true (by first | (with_reducible assumption) | assumption)
       have hx6 := bt_at a0 x3_1
       replace p6 := eq_true p6
       replace q6 := eq_true q6
       go_wp2
       go_roundg k1
       case measure => have := HK1.out; omega
       case rel => exact ⟨(wrap64 (x3_1 + 1)), (by first | rfl | (simp; done) | (simp [*]; done)), H', ⟨by have := HK1.out; omega⟩, by repeat (first | exact Drawn0.refl _ | apply Drawn0.step)⟩
    ·rw [if_neg c3] at H
     exact absurd H (by simp)
   ·rw [if_neg c2] at H
    have c2b0 : decide (x3_1 < (a0.size : Int)) = false := decide_eq_false c2
    clear c2
    obtain rfl := Option.some.inj H
    go_wp2
    go_ret
    exact ⟨by first | rfl | (simp; done) | (simp [*]; done), by repeat (first | exact Drawn0.refl _ | apply Drawn0.step)⟩

end Go.Proofs.YthajndlkibpncaaDoor.PAll
