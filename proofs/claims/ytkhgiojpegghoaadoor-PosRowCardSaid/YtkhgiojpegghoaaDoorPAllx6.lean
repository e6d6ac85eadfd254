-- written by xprint.py out of the translation. Not trusted: Lean checks it.
import Derived.Test.YtkhgiojpegghoaaDoorPAllx0
import Derived.Test.YtkhgiojpegghoaaDoorPAllx5
namespace Go.Proofs.YtkhgiojpegghoaaDoor.PAll
open Go.RowKit Go.Proofs.YtkhgiojpegghoaaDoorW.PrintWords Go.Proofs.YtkhgiojpegghoaaDoorW.PrintLast Go.Proofs.YtkhgiojpegghoaaDoorW.PrintMore
attribute [local go_sem] max2_int min2_int max_two min_two max_three min_three max_four min_four   -- for this text's walks alone
set_option linter.unusedVariables false
set_option linter.unusedSimpArgs false

/-! ### guichetref1_Digits: function 18 -/
mutual
def guichetref1_Digits.j0 : Nat → Int → Int → Bool → Option (ByteArray × Bool)
 | 0, _, _, _ => none
 | k + 1, x0, x1, x17 => if x17 = true then (some ((⟨#[]⟩ : ByteArray), false)) else (guichetref1_Digits.l0 k x0 x1 (⟨#[]⟩ : ByteArray) 0)
def guichetref1_Digits.l0 : Nat → Int → Int → ByteArray → Int → Option (ByteArray × Bool)
 | 0, _, _, _, _ => none
 | k + 1, x0, x1, x6, x7 => if x7 < x1 then (if 0 ≤ (Int.tmod x0 10) then (if (Int.tmod x0 10) ≤ (wrap64 ((Int.tmod x0 10) + 1)) then (if (wrap64 ((Int.tmod x0 10) + 1)) ≤ 10 then (if ((⟨#[48, 49, 50, 51, 52, 53, 54, 55, 56, 57]⟩ : ByteArray).extract ((Int.tmod x0 10) : Int).toNat ((wrap64 ((Int.tmod x0 10) + 1)) : Int).toNat).size + x6.size ≤ 9223372036854775807 then (guichetref1_Digits.l0 k (wrap64 (Int.tdiv x0 10)) x1 (((⟨#[48, 49, 50, 51, 52, 53, 54, 55, 56, 57]⟩ : ByteArray).extract ((Int.tmod x0 10) : Int).toNat ((wrap64 ((Int.tmod x0 10) + 1)) : Int).toNat) ++ x6) (wrap64 (x7 + 1))) else (none)) else (none)) else (none)) else (none)) else (if x0 > 0 then (some ((⟨#[]⟩ : ByteArray), false)) else (some (x6, true)))
end
def guichetref1_Digits.f (k : Nat) (a0 : Int) (a1 : Int) : Option (ByteArray × Bool) := if a1 < 1 then (guichetref1_Digits.j0 k a0 a1 true) else (if a1 > 18 then (guichetref1_Digits.j0 k a0 a1 true) else (guichetref1_Digits.j0 k a0 a1 (decide (a0 < 0))))
theorem guichetref1_Digits.mono_l : ∀ k, (∀ y0 y1 y2, LeO (guichetref1_Digits.j0 k y0 y1 y2) (guichetref1_Digits.j0 (k + 1) y0 y1 y2)) ∧ (∀ y0 y1 y2 y3, LeO (guichetref1_Digits.l0 k y0 y1 y2 y3) (guichetref1_Digits.l0 (k + 1) y0 y1 y2 y3))
 | 0 => ⟨fun _ _ _ r h => by simp [guichetref1_Digits.j0] at h, fun _ _ _ _ r h => by simp [guichetref1_Digits.l0] at h⟩
 | k + 1 => by
  obtain ⟨ih0, ih1⟩ := guichetref1_Digits.mono_l k
  refine ⟨?_, ?_⟩
  ·intro y0 y1 y2
   unfold guichetref1_Digits.j0
   repeat' first
   | (with_reducible exact ih0 _ _ _)
   | (with_reducible exact ih1 _ _ _ _)
   | (with_reducible exact LeO.refl _)
   | (with_reducible exact LeO.none _)
   | (with_reducible refine LeO.ite ?_ ?_)
   | (with_reducible refine LeO.bind ?_ (fun _ => ?_))
   | exact ih0 _ _ _
   | exact ih1 _ _ _ _
   | exact LeO.none _
   | refine LeO.ite ?_ ?_
   | refine LeO.bind ?_ (fun _ => ?_)
  ·intro y0 y1 y2 y3
   unfold guichetref1_Digits.l0
   repeat' first
   | (with_reducible exact ih0 _ _ _)
   | (with_reducible exact ih1 _ _ _ _)
   | (with_reducible exact LeO.refl _)
   | (with_reducible exact LeO.none _)
   | (with_reducible refine LeO.ite ?_ ?_)
   | (with_reducible refine LeO.bind ?_ (fun _ => ?_))
   | exact ih0 _ _ _
   | exact ih1 _ _ _ _
   | exact LeO.none _
   | refine LeO.ite ?_ ?_
   | refine LeO.bind ?_ (fun _ => ?_)
theorem guichetref1_Digits.mono : ∀ a0 a1 k, LeO (guichetref1_Digits.f k a0 a1) (guichetref1_Digits.f (k + 1) a0 a1) := by
 intro a0 a1 k
 obtain ⟨ih0, ih1⟩ := guichetref1_Digits.mono_l k
 unfold guichetref1_Digits.f
 repeat' first
   | (with_reducible exact ih0 _ _ _)
   | (with_reducible exact ih1 _ _ _ _)
   | (with_reducible exact LeO.refl _)
   | (with_reducible exact LeO.none _)
   | (with_reducible refine LeO.ite ?_ ?_)
   | (with_reducible refine LeO.bind ?_ (fun _ => ?_))
   | exact ih0 _ _ _
   | exact ih1 _ _ _ _
   | exact LeO.none _
   | refine LeO.ite ?_ ?_
   | refine LeO.bind ?_ (fun _ => ?_)
set_option maxHeartbeats 8000000 in
set_option maxRecDepth 100000 in
theorem guichetref1_Digits.calls (k : Nat) (a0 : Int) (a1 : Int) (r1 : ByteArray) (r2 : Bool) (w : World) (h : guichetref1_Digits.f k a0 a1 = some (r1, r2)) :
  Calls Tryd.prog 18 #[.int .i64 a0, .int .i64 a1] w fun e w' => e = .returned (.tuple #[.string r1, .bool r2]) ∧ Drawn0 w w' := by
 have H : (if a1 < 1 then (guichetref1_Digits.j0 k a0 a1 true) else (if a1 > 18 then (guichetref1_Digits.j0 k a0 a1 true) else (guichetref1_Digits.j0 k a0 a1 (decide (a0 < 0))))) = some (r1, r2) := h
 clear h
 have HC3 := Aside0.mk H
 clear H
 go_enter Tryd.func18, Tryd.ntmps18
 go_upto_region 1 with (fail)
 go_cut [17] (fun v17 wc => ∃ (kq : Nat) (x17_2 : Bool), v17 = .bool x17_2 ∧ Aside0 (guichetref1_Digits.j0 kq a0 a1 x17_2 = some (r1, r2)) ∧ Aside0 (kq ≤ k) ∧ Drawn0 w wc)
 case first =>
  have H := HC3.out
  clear HC3
  by_cases c4 : a1 < 1
  ·rw [if_pos c4] at H
   have c4b0 : decide (a1 < 1) = true := decide_eq_true c4
   clear c4
   (first | rw [c4b0] | (simp only [i64_w, i32_w]; rw [c4b0]) | skip)
   have H' := Aside0.mk H
   clear H
   go_wp2
   go_meet
   case rel => exact ⟨_, (true), (by first | rfl | (simp; done) | (simp [*]; done)), H', ⟨by first | omega | exact Nat.le_refl _⟩, by repeat (first | exact Drawn0.refl _ | apply Drawn0.step)⟩
  ·rw [if_neg c4] at H
   have c4b0 : decide (a1 < 1) = false := decide_eq_false c4
   clear c4
   (first | rw [c4b0] | (simp only [i64_w, i32_w]; rw [c4b0]) | skip)
   by_cases c5 : a1 > 18
   ·rw [if_pos c5] at H
    have c5b0 : decide (18 < a1) = true := decide_eq_true c5
    clear c5
    have H' := Aside0.mk H
    clear H
    go_wp2
    go_meet
    case rel => exact ⟨_, (true), (by first | rfl | (simp; done) | (simp [*]; done)), H', ⟨by first | omega | exact Nat.le_refl _⟩, by repeat (first | exact Drawn0.refl _ | apply Drawn0.step)⟩
   ·rw [if_neg c5] at H
    have c5b0 : decide (18 < a1) = false := decide_eq_false c5
    clear c5
    have H' := Aside0.mk H
    clear H
    go_wp2
    go_meet
    case rel => exact ⟨_, (decide (a0 < 0)), (by first | rfl | (simp; done) | (simp [*]; done)), H', ⟨by first | omega | exact Nat.le_refl _⟩, by repeat (first | exact Drawn0.refl _ | apply Drawn0.step)⟩
 case rest =>
  clear HC3
  try clear c1
  try clear p2
  try clear c4
  try clear c4b0
  try clear c5
  try clear c5b0
  obtain ⟨kq, x17_2, rfl, HA, HJ2, ⟨mc2, rfl⟩⟩ := hcut
  cases kq with
  | zero => exact absurd HA.out (by simp [guichetref1_Digits.j0])
  | succ kj2 =>
   have H := HA.out
   clear HA
   simp only [guichetref1_Digits.j0] at H
   by_cases c6 : x17_2 = true
   ·subst c6
    have H1 : (some ((⟨#[]⟩ : ByteArray), false)) = some (r1, r2) := by rw [if_pos rfl] at H; exact H
    clear H
    have H := H1
    clear H1
    simp only [Option.some.injEq, Prod.mk.injEq] at H
    obtain ⟨rfl, rfl⟩ := H
    go_wp2
    go_ret2
    exact ⟨by first | rfl | (simp; done) | (simp [*]; done), by repeat (first | exact Drawn0.refl _ | apply Drawn0.step)⟩
   ·replace c6 := Bool.eq_false_iff.mpr c6
    subst c6
    have H1 : (guichetref1_Digits.l0 kj2 a0 a1 (⟨#[]⟩ : ByteArray) 0) = some (r1, r2) := by rw [if_neg (show ¬ (false = true) by decide)] at H; exact H
    clear H
    have H := H1
    clear H1
    have H' := Aside0.mk H
    clear H
    go_wp2
    go_loopg [0, 6, 7] kj2 (fun kq v0 v6 v7 w' => ∃ (x0_2 : Int) (x6_2 : ByteArray) (x7_2 : Int), v0 = .int .i64 x0_2 ∧ v6 = .string x6_2 ∧ v7 = .int .i64 x7_2 ∧ Aside0 (guichetref1_Digits.l0 kq x0_2 a1 x6_2 x7_2 = some (r1, r2)) ∧ Aside0 (kq ≤ kj2) ∧ Drawn0 w w')
    case atStart => exact ⟨(a0), ((⟨#[]⟩ : ByteArray)), (0), (by first | rfl | (simp; done) | (simp [*]; done)), (by first | rfl | (simp; done) | (simp [*]; done)), (by first | rfl | (simp; done) | (simp [*]; done)), H', ⟨Nat.le_refl _⟩, by repeat (first | exact Drawn0.refl _ | apply Drawn0.step)⟩
    case round =>
     clear H'
     try clear c1
     try clear c2
     try clear p2
     try clear c4
     try clear c4b0
     try clear c5
     try clear c5b0
     try clear c6
     try clear p2
     obtain ⟨x0_2, x6_2, x7_2, rfl, rfl, rfl, HA, HK2, ⟨m2, rfl⟩⟩ := hrel
     cases gk with
     | zero => exact absurd HA.out (by simp [guichetref1_Digits.l0])
     | succ k2 =>
      have H := HA.out
      clear HA
      simp only [guichetref1_Digits.l0] at H
      by_cases c7 : x7_2 < a1
      ·rw [if_pos c7] at H
       have c7b0 : decide (x7_2 < a1) = true := decide_eq_true c7
       clear c7
       obtain ⟨ji8, hji8⟩ : ∃ j_ : Int, (Int.tmod x0_2 10) = j_ := ⟨_, rfl⟩
       replace H : (if 0 ≤ (ji8) then (if (ji8) ≤ (wrap64 ((ji8) + 1)) then (if (wrap64 ((ji8) + 1)) ≤ 10 then (if ((⟨#[48, 49, 50, 51, 52, 53, 54, 55, 56, 57]⟩ : ByteArray).extract ((ji8) : Int).toNat ((wrap64 ((ji8) + 1)) : Int).toNat).size + x6_2.size ≤ 9223372036854775807 then (guichetref1_Digits.l0 k2 (wrap64 (Int.tdiv x0_2 10)) a1 (((⟨#[48, 49, 50, 51, 52, 53, 54, 55, 56, 57]⟩ : ByteArray).extract ((ji8) : Int).toNat ((wrap64 ((ji8) + 1)) : Int).toNat) ++ x6_2) (wrap64 (x7_2 + 1))) else (none)) else (none)) else (none)) else (none)) = some (r1, r2) := by first | (rw [hji8] at H; exact H) | (simp only [hji8] at H ⊢; exact H)
       by_cases c9 : 0 ≤ (ji8)
       ·rw [if_pos c9] at H
        have c9b0 := eq_true c9
        have c9b1 : decide (0 ≤ (ji8)) = true := decide_eq_true c9
        clear c9
        by_cases c10 : (ji8) ≤ (wrap64 ((ji8) + 1))
        ·rw [if_pos c10] at H
         have c10b0 := eq_true c10
         have c10b1 : decide ((ji8) ≤ (wrap64 ((ji8) + 1))) = true := decide_eq_true c10
         by_cases c11 : (wrap64 ((ji8) + 1)) ≤ 10
         ·rw [if_pos c11] at H
          have c11b0 := eq_true c11
          have c11b1 : decide ((wrap64 ((ji8) + 1)) ≤ 10) = true := decide_eq_true c11
          by_cases c12 : ((⟨#[48, 49, 50, 51, 52, 53, 54, 55, 56, 57]⟩ : ByteArray).extract ((ji8) : Int).toNat ((wrap64 ((ji8) + 1)) : Int).toNat).size + x6_2.size ≤ 9223372036854775807
          ·rw [if_pos c12] at H
           have c12b0 := eq_true c12
           have c12b1 : decide (((⟨#[48, 49, 50, 51, 52, 53, 54, 55, 56, 57]⟩ : ByteArray).extract ((ji8) : Int).toNat ((wrap64 ((ji8) + 1)) : Int).toNat).size + x6_2.size ≤ 9223372036854775807) = true := decide_eq_true c12
           have c12b3 : (9223372036854775807 < (((wrap64 ((ji8) + 1)) : Int).toNat - ((ji8) : Int).toNat) + x6_2.size) = False := eq_false (by have hb0_ : ((wrap64 ((ji8) + 1)) : Int) ≤ 10 := of_decide_eq_true (by first | (with_reducible assumption) | assumption); have h_ := c12; simp only [ByteArray.size_extract, ByteArray.size_append] at h_ ⊢; have hk_ : ∀ l_ : Array UInt8, (⟨l_⟩ : ByteArray).size = l_.size := fun _ => rfl; simp only [hk_, List.size_toArray, List.length_cons, List.length_nil] at h_ ⊢; omega)
           try have c12b2 : (9223372036854775807 < ((⟨#[48, 49, 50, 51, 52, 53, 54, 55, 56, 57]⟩ : ByteArray).extract ((ji8) : Int).toNat ((wrap64 ((ji8) + 1)) : Int).toNat).size + x6_2.size) = False := eq_false (Nat.not_lt.2 c12)
           have H' := Aside0.mk H
           clear H
           go_wp2
           go_roundg k2
           case measure => have := HJ2.out; have := HK2.out; omega
           case rel => exact ⟨(wrap64 (Int.tdiv x0_2 10)), (((⟨#[48, 49, 50, 51, 52, 53, 54, 55, 56, 57]⟩ : ByteArray).extract ((ji8) : Int).toNat ((wrap64 ((ji8) + 1)) : Int).toNat) ++ x6_2), (wrap64 (x7_2 + 1)), (by first | rfl | (simp; done) | (simp [*]; done)), (by first | rfl | (simp; done) | (simp only [← hji8] <;> (first | rfl | simp)) | (simp [*]; done)), (by first | rfl | (simp; done) | (simp [*]; done)), H', ⟨by have := HJ2.out; have := HK2.out; omega⟩, by repeat (first | exact Drawn0.refl _ | apply Drawn0.step)⟩
          ·rw [if_neg c12] at H
           exact absurd H (by simp)
         ·rw [if_neg c11] at H
          exact absurd H (by simp)
        ·rw [if_neg c10] at H
         exact absurd H (by simp)
       ·rw [if_neg c9] at H
        exact absurd H (by simp)
      ·rw [if_neg c7] at H
       have c7b0 : decide (x7_2 < a1) = false := decide_eq_false c7
       clear c7
       by_cases c13 : x0_2 > 0
       ·rw [if_pos c13] at H
        have c13b0 : decide (0 < x0_2) = true := decide_eq_true c13
        clear c13
        simp only [Option.some.injEq, Prod.mk.injEq] at H
        obtain ⟨rfl, rfl⟩ := H
        go_wp2
        go_ret2
        exact ⟨by first | rfl | (simp; done) | (simp [*]; done), by repeat (first | exact Drawn0.refl _ | apply Drawn0.step)⟩
       ·rw [if_neg c13] at H
        have c13b0 : decide (0 < x0_2) = false := decide_eq_false c13
        clear c13
        simp only [Option.some.injEq, Prod.mk.injEq] at H
        obtain ⟨rfl, rfl⟩ := H
        go_wp2
        go_ret2
        exact ⟨by first | rfl | (simp; done) | (simp [*]; done), by repeat (first | exact Drawn0.refl _ | apply Drawn0.step)⟩

/-! ### guichetref12_PosPut: function 9 -/
def guichetref12_PosPut.f (k : Nat) (a0_0 : Int) (a0_1 : Int) (a0_2 : ByteArray) (a0_3 : Int) : Option (List Int × Int) := (guichetref12_PosRight.f k a0_0 a0_1 a0_2 a0_3).bind fun t217 => (if t217 = true then ((guichetref1_Digits.f k (wrap64 (a0_0)) 5).bind fun bt218 => ((guichetref1_Digits.f k (wrap64 (a0_1)) 6).bind fun bt220 => ((guichetref1_Digits.f k a0_3 12).bind fun bt222 => (if 1 + bt218.1.size ≤ 9223372036854775807 then (if ((⟨#[80]⟩ : ByteArray) ++ bt218.1).size + bt220.1.size ≤ 9223372036854775807 then (if (((⟨#[80]⟩ : ByteArray) ++ bt218.1) ++ bt220.1).size + bt222.1.size ≤ 9223372036854775807 then (if ((((⟨#[80]⟩ : ByteArray) ++ bt218.1) ++ bt220.1) ++ bt222.1).size + a0_2.size ≤ 9223372036854775807 then ((convBytes.f (((((⟨#[80]⟩ : ByteArray) ++ bt218.1) ++ bt220.1) ++ bt222.1) ++ a0_2)).bind fun t224 => ((guichetref1_Frame.f k t224).bind fun bt227 => (some (bt227.1, 0)))) else (none)) else (none)) else (none)) else (none))))) else (some (([] : List Int), 27)))
theorem guichetref12_PosPut.mono : ∀ a0 a1 a2 a3 k, LeO (guichetref12_PosPut.f k a0 a1 a2 a3) (guichetref12_PosPut.f (k + 1) a0 a1 a2 a3) := by
 intro a0 a1 a2 a3 k
 unfold guichetref12_PosPut.f
 repeat' first
   | (with_reducible exact guichetref12_PosRight.mono _ _ _ _ _)
   | (with_reducible exact guichetref1_Digits.mono _ _ _)
   | (with_reducible exact guichetref1_Frame.mono _ _)
   | (with_reducible exact LeO.refl _)
   | (with_reducible exact LeO.none _)
   | (with_reducible refine LeO.ite ?_ ?_)
   | (with_reducible refine LeO.bind ?_ (fun _ => ?_))
   | exact guichetref12_PosRight.mono _ _ _ _ _
   | exact guichetref1_Digits.mono _ _ _
   | exact guichetref1_Frame.mono _ _
   | exact LeO.none _
   | refine LeO.ite ?_ ?_
   | refine LeO.bind ?_ (fun _ => ?_)
set_option maxHeartbeats 8000000 in
set_option maxRecDepth 100000 in
theorem guichetref12_PosPut.calls (k : Nat) (a0_0 : Int) (a0_1 : Int) (a0_2 : ByteArray) (a0_3 : Int) (r1 : List Int) (r2 : Int) (w : World) (h : guichetref12_PosPut.f k a0_0 a0_1 a0_2 a0_3 = some (r1, r2)) :
  Calls Tryd.prog 9 #[.agg #[.int .u16 a0_0, .int .u32 a0_1, .string a0_2, .int .i64 a0_3]] w fun e w' => ∃ v0_ : Value, e = .returned (.tuple #[v0_, .int .i64 r2]) ∧ Kd.R (Kd.int .u8) 5 w' w.heap.size (fun _ => True) v0_ r1 ∧ Below w.heap.size w w' := by
 have hu25 := Tryd.underlying25
 have HB := Aside0.mk (Below.refl w.heap.size w)
 have H : ((guichetref12_PosRight.f k a0_0 a0_1 a0_2 a0_3).bind fun t217 => (if t217 = true then ((guichetref1_Digits.f k (wrap64 (a0_0)) 5).bind fun bt218 => ((guichetref1_Digits.f k (wrap64 (a0_1)) 6).bind fun bt220 => ((guichetref1_Digits.f k a0_3 12).bind fun bt222 => (if 1 + bt218.1.size ≤ 9223372036854775807 then (if ((⟨#[80]⟩ : ByteArray) ++ bt218.1).size + bt220.1.size ≤ 9223372036854775807 then (if (((⟨#[80]⟩ : ByteArray) ++ bt218.1) ++ bt220.1).size + bt222.1.size ≤ 9223372036854775807 then (if ((((⟨#[80]⟩ : ByteArray) ++ bt218.1) ++ bt220.1) ++ bt222.1).size + a0_2.size ≤ 9223372036854775807 then ((convBytes.f (((((⟨#[80]⟩ : ByteArray) ++ bt218.1) ++ bt220.1) ++ bt222.1) ++ a0_2)).bind fun t224 => ((guichetref1_Frame.f k t224).bind fun bt227 => (some (bt227.1, 0)))) else (none)) else (none)) else (none)) else (none))))) else (some (([] : List Int), 27)))) = some (r1, r2) := h
 clear h
 replace H := Option.bind_eq_some_iff.mp H
 obtain ⟨t217, A20, H⟩ := H
 replace H : (if t217 = true then ((guichetref1_Digits.f k (wrap64 (a0_0)) 5).bind fun bt218 => ((guichetref1_Digits.f k (wrap64 (a0_1)) 6).bind fun bt220 => ((guichetref1_Digits.f k a0_3 12).bind fun bt222 => (if 1 + bt218.1.size ≤ 9223372036854775807 then (if ((⟨#[80]⟩ : ByteArray) ++ bt218.1).size + bt220.1.size ≤ 9223372036854775807 then (if (((⟨#[80]⟩ : ByteArray) ++ bt218.1) ++ bt220.1).size + bt222.1.size ≤ 9223372036854775807 then (if ((((⟨#[80]⟩ : ByteArray) ++ bt218.1) ++ bt220.1) ++ bt222.1).size + a0_2.size ≤ 9223372036854775807 then ((convBytes.f (((((⟨#[80]⟩ : ByteArray) ++ bt218.1) ++ bt220.1) ++ bt222.1) ++ a0_2)).bind fun t224 => ((guichetref1_Frame.f k t224).bind fun bt227 => (some (bt227.1, 0)))) else (none)) else (none)) else (none)) else (none))))) else (some (([] : List Int), 27))) = some (r1, r2) := H
 have A2 := Aside0.mk A20
 clear A20
 by_cases c3 : t217 = true
 ·subst c3
  have H1 : ((guichetref1_Digits.f k (wrap64 (a0_0)) 5).bind fun bt218 => ((guichetref1_Digits.f k (wrap64 (a0_1)) 6).bind fun bt220 => ((guichetref1_Digits.f k a0_3 12).bind fun bt222 => (if 1 + bt218.1.size ≤ 9223372036854775807 then (if ((⟨#[80]⟩ : ByteArray) ++ bt218.1).size + bt220.1.size ≤ 9223372036854775807 then (if (((⟨#[80]⟩ : ByteArray) ++ bt218.1) ++ bt220.1).size + bt222.1.size ≤ 9223372036854775807 then (if ((((⟨#[80]⟩ : ByteArray) ++ bt218.1) ++ bt220.1) ++ bt222.1).size + a0_2.size ≤ 9223372036854775807 then ((convBytes.f (((((⟨#[80]⟩ : ByteArray) ++ bt218.1) ++ bt220.1) ++ bt222.1) ++ a0_2)).bind fun t224 => ((guichetref1_Frame.f k t224).bind fun bt227 => (some (bt227.1, 0)))) else (none)) else (none)) else (none)) else (none))))) = some (r1, r2) := by rw [if_pos rfl] at H; exact H
  clear H
  have H := H1
  clear H1
  replace H := Option.bind_eq_some_iff.mp H
  obtain ⟨⟨t218, t219⟩, A40, H⟩ := H
  replace H : ((guichetref1_Digits.f k (wrap64 (a0_1)) 6).bind fun bt220 => ((guichetref1_Digits.f k a0_3 12).bind fun bt222 => (if 1 + t218.size ≤ 9223372036854775807 then (if ((⟨#[80]⟩ : ByteArray) ++ t218).size + bt220.1.size ≤ 9223372036854775807 then (if (((⟨#[80]⟩ : ByteArray) ++ t218) ++ bt220.1).size + bt222.1.size ≤ 9223372036854775807 then (if ((((⟨#[80]⟩ : ByteArray) ++ t218) ++ bt220.1) ++ bt222.1).size + a0_2.size ≤ 9223372036854775807 then ((convBytes.f (((((⟨#[80]⟩ : ByteArray) ++ t218) ++ bt220.1) ++ bt222.1) ++ a0_2)).bind fun t224 => ((guichetref1_Frame.f k t224).bind fun bt227 => (some (bt227.1, 0)))) else (none)) else (none)) else (none)) else (none)))) = some (r1, r2) := H
  have A4 := Aside0.mk A40
  clear A40
  replace H := Option.bind_eq_some_iff.mp H
  obtain ⟨⟨t220, t221⟩, A50, H⟩ := H
  replace H : ((guichetref1_Digits.f k a0_3 12).bind fun bt222 => (if 1 + t218.size ≤ 9223372036854775807 then (if ((⟨#[80]⟩ : ByteArray) ++ t218).size + t220.size ≤ 9223372036854775807 then (if (((⟨#[80]⟩ : ByteArray) ++ t218) ++ t220).size + bt222.1.size ≤ 9223372036854775807 then (if ((((⟨#[80]⟩ : ByteArray) ++ t218) ++ t220) ++ bt222.1).size + a0_2.size ≤ 9223372036854775807 then ((convBytes.f (((((⟨#[80]⟩ : ByteArray) ++ t218) ++ t220) ++ bt222.1) ++ a0_2)).bind fun t224 => ((guichetref1_Frame.f k t224).bind fun bt227 => (some (bt227.1, 0)))) else (none)) else (none)) else (none)) else (none))) = some (r1, r2) := H
  have A5 := Aside0.mk A50
  clear A50
  replace H := Option.bind_eq_some_iff.mp H
  obtain ⟨⟨t222, t223⟩, A60, H⟩ := H
  replace H : (if 1 + t218.size ≤ 9223372036854775807 then (if ((⟨#[80]⟩ : ByteArray) ++ t218).size + t220.size ≤ 9223372036854775807 then (if (((⟨#[80]⟩ : ByteArray) ++ t218) ++ t220).size + t222.size ≤ 9223372036854775807 then (if ((((⟨#[80]⟩ : ByteArray) ++ t218) ++ t220) ++ t222).size + a0_2.size ≤ 9223372036854775807 then ((convBytes.f (((((⟨#[80]⟩ : ByteArray) ++ t218) ++ t220) ++ t222) ++ a0_2)).bind fun t224 => ((guichetref1_Frame.f k t224).bind fun bt227 => (some (bt227.1, 0)))) else (none)) else (none)) else (none)) else (none)) = some (r1, r2) := H
  have A6 := Aside0.mk A60
  clear A60
  by_cases c7 : 1 + t218.size ≤ 9223372036854775807
  ·rw [if_pos c7] at H
   have c7b0 := eq_true c7
   have c7b1 : decide (1 + t218.size ≤ 9223372036854775807) = true := decide_eq_true c7
   try have c7b2 : (9223372036854775807 < 1 + t218.size) = False := eq_false (Nat.not_lt.2 c7)
   by_cases c8 : ((⟨#[80]⟩ : ByteArray) ++ t218).size + t220.size ≤ 9223372036854775807
   ·rw [if_pos c8] at H
    have c8b0 := eq_true c8
    have c8b1 : decide (((⟨#[80]⟩ : ByteArray) ++ t218).size + t220.size ≤ 9223372036854775807) = true := decide_eq_true c8
    (try have c8b5 : (9223372036854775807 < 1 + t218.size + t220.size) = False := (by rw [show 1 + t218.size + t220.size = ((⟨#[80]⟩ : ByteArray) ++ t218).size + t220.size from by simp only [ByteArray.size_append]; rfl]; exact eq_false (Nat.not_lt.2 c8)))
    try have c8b2 : (9223372036854775807 < ((⟨#[80]⟩ : ByteArray) ++ t218).size + t220.size) = False := eq_false (Nat.not_lt.2 c8)
    by_cases c9 : (((⟨#[80]⟩ : ByteArray) ++ t218) ++ t220).size + t222.size ≤ 9223372036854775807
    ·rw [if_pos c9] at H
     have c9b0 := eq_true c9
     have c9b1 : decide ((((⟨#[80]⟩ : ByteArray) ++ t218) ++ t220).size + t222.size ≤ 9223372036854775807) = true := decide_eq_true c9
     (try have c9b5 : (9223372036854775807 < 1 + t218.size + t220.size + t222.size) = False := (by rw [show 1 + t218.size + t220.size + t222.size = (((⟨#[80]⟩ : ByteArray) ++ t218) ++ t220).size + t222.size from by simp only [ByteArray.size_append]; rfl]; exact eq_false (Nat.not_lt.2 c9)))
     try have c9b2 : (9223372036854775807 < (((⟨#[80]⟩ : ByteArray) ++ t218) ++ t220).size + t222.size) = False := eq_false (Nat.not_lt.2 c9)
     by_cases c10 : ((((⟨#[80]⟩ : ByteArray) ++ t218) ++ t220) ++ t222).size + a0_2.size ≤ 9223372036854775807
     ·rw [if_pos c10] at H
      have c10b0 := eq_true c10
      have c10b1 : decide (((((⟨#[80]⟩ : ByteArray) ++ t218) ++ t220) ++ t222).size + a0_2.size ≤ 9223372036854775807) = true := decide_eq_true c10
      (try have c10b5 : (9223372036854775807 < 1 + t218.size + t220.size + t222.size + a0_2.size) = False := (by rw [show 1 + t218.size + t220.size + t222.size + a0_2.size = ((((⟨#[80]⟩ : ByteArray) ++ t218) ++ t220) ++ t222).size + a0_2.size from by simp only [ByteArray.size_append]; rfl]; exact eq_false (Nat.not_lt.2 c10)))
      try have c10b2 : (9223372036854775807 < ((((⟨#[80]⟩ : ByteArray) ++ t218) ++ t220) ++ t222).size + a0_2.size) = False := eq_false (Nat.not_lt.2 c10)
      replace H := Option.bind_eq_some_iff.mp H
      obtain ⟨t224, A110, H⟩ := H
      replace H : ((guichetref1_Frame.f k t224).bind fun bt227 => (some (bt227.1, 0))) = some (r1, r2) := H
      have A11 := Aside0.mk A110
      clear A110
      replace H := Option.bind_eq_some_iff.mp H
      obtain ⟨⟨t227, t228⟩, A120, H⟩ := H
      replace H : (some (t227, 0)) = some (r1, r2) := H
      have A12 := Aside0.mk A120
      clear A120
      simp only [Option.some.injEq, Prod.mk.injEq] at H
      obtain ⟨rfl, rfl⟩ := H
      go_enter Tryd.func9, Tryd.ntmps9
      go_wp2_with (first | ((with_reducible refine gate_dst (N := 1) rfl ?_); refine box_event ?hg (N := 1) ?hd (cs := #[.int .u16 a0_0, .int .u32 a0_1, .string a0_2, .int .i64 a0_3]) (t := 25) ?hr ?_; (case hd => rfl); (case hg => rfl); (case hr => first | (go_simp; done) | (go_simp; rfl)); intro gb216 hg w13 hbox hb; have n0_ := Aside0.mk (below_step (by repeat (first | (with_reducible first | exact HB.out | apply below_alloc | apply pw_below_drewN | apply below_drew1) | exact HB.out)) hb); have n1_ := Aside0.mk (hbox); have n2_ := Aside0.mk ((by rw [hg]; exact (below_size (by repeat (first | (with_reducible first | exact HB.out | apply below_alloc | apply pw_below_drewN | apply below_drew1) | exact HB.out))) : w.heap.size ≤ gb216)); have n3_ := Aside0.mk ((by rw [hg]; exact (below_size (by repeat (first | (with_reducible first | exact HB.out | apply below_alloc | apply pw_below_drewN | apply below_drew1) | exact HB.out))) : w.heap.size ≤ gb216)); clear HB; have HB := n0_; have BK216 := n1_; have GW216 := n2_; have GE216 := n3_; clear n0_ n1_ n2_ n3_; clear hb hbox hg; have hcz14_0 : w13.cell? ⟨gb216, 0, none⟩ = some (.int .u16 a0_0) := (blk_cell BK216.out 0).trans rfl; have hcz14_1 : w13.cell? ⟨gb216, 1, none⟩ = some (.int .u32 a0_1) := (blk_cell BK216.out 1).trans rfl; have hcz14_2 : w13.cell? ⟨gb216, 2, none⟩ = some (.string a0_2) := (blk_cell BK216.out 2).trans rfl; have hcz14_3 : w13.cell? ⟨gb216, 3, none⟩ = some (.int .i64 a0_3) := (blk_cell BK216.out 3).trans rfl; have hfz14_0 := blk_frozen BK216.out 0; have hfz14_1 := blk_frozen BK216.out 1; have hfz14_2 := blk_frozen BK216.out 2; have hfz14_3 := blk_frozen BK216.out 3) | ((with_reducible refine gate_callee (f := 11) rfl ?_); refine goesL_ (some 13) rfl rfl Tryd.func11 (by kernel_rfl) rfl #[.agg #[.int .u16 a0_0, .int .u32 a0_1, .string a0_2, .int .i64 a0_3]] rfl (by (try simp only [List.map_toArray, List.map_cons, List.map_nil]); first | done | rfl | (simp only [List.length_drop, List.length_take]; rfl) | (rw [hsame_])) ?_; (with_reducible refine (guichetref12_PosRight.calls k a0_0 a0_1 a0_2 a0_3 true _ A2.out).mono ?_); rintro e w15 ⟨rfl, hb⟩; refine ⟨_, rfl, ?_⟩; have n0_ := Aside0.mk (blk_below (g := gb216) (o := .cells #[.int .u16 a0_0, .int .u32 a0_1, .string a0_2, .int .i64 a0_3] 25 (0, 0)) (by (with_reducible repeat (first | refine blk_drewN ?_ _ | refine blk_drew ?_ | refine blk_alloc ?_ _)); exact BK216.out) hb); have n1_ := Aside0.mk (below_step (by repeat (first | (with_reducible first | exact HB.out | apply below_alloc | apply pw_below_drewN | apply below_drew1 | refine below_set ?_ GE216.out) | exact HB.out)) hb); clear BK216; clear HB; have BK216 := n0_; have HB := n1_; clear n0_ n1_; (try clear hb); (try clear hb2); (try clear hk); (try clear hi); have hcz16_0 : w15.cell? ⟨gb216, 0, none⟩ = some (.int .u16 a0_0) := (blk_cell BK216.out 0).trans rfl; have hcz16_1 : w15.cell? ⟨gb216, 1, none⟩ = some (.int .u32 a0_1) := (blk_cell BK216.out 1).trans rfl; have hcz16_2 : w15.cell? ⟨gb216, 2, none⟩ = some (.string a0_2) := (blk_cell BK216.out 2).trans rfl; have hcz16_3 : w15.cell? ⟨gb216, 3, none⟩ = some (.int .i64 a0_3) := (blk_cell BK216.out 3).trans rfl; have hfz16_0 := blk_frozen BK216.out 0; have hfz16_1 := blk_frozen BK216.out 1; have hfz16_2 := blk_frozen BK216.out 2; have hfz16_3 := blk_frozen BK216.out 3) | ((with_reducible refine gate_callee (f := 18) rfl ?_); refine goesL_ (some 19) rfl rfl Tryd.func18 (by kernel_rfl) rfl #[.int .i64 (wrap64 (a0_0)), .int .i64 5] rfl (by (try simp only [List.map_toArray, List.map_cons, List.map_nil]); first | done | rfl | (simp only [List.length_drop, List.length_take]; rfl) | (rw [hsame_])) ?_; (with_reducible refine (guichetref1_Digits.calls k (wrap64 (a0_0)) 5 t218 t219 _ A4.out).mono ?_); rintro e w' ⟨rfl, ⟨nd, rfl⟩⟩; refine ⟨_, rfl, ?_⟩) | ((with_reducible refine gate_callee (f := 18) rfl ?_); refine goesL_ (some 26) rfl rfl Tryd.func18 (by kernel_rfl) rfl #[.int .i64 (wrap64 (a0_1)), .int .i64 6] rfl (by (try simp only [List.map_toArray, List.map_cons, List.map_nil]); first | done | rfl | (simp only [List.length_drop, List.length_take]; rfl) | (rw [hsame_])) ?_; (with_reducible refine (guichetref1_Digits.calls k (wrap64 (a0_1)) 6 t220 t221 _ A5.out).mono ?_); rintro e w' ⟨rfl, ⟨nd, rfl⟩⟩; refine ⟨_, rfl, ?_⟩) | ((with_reducible refine gate_callee (f := 18) rfl ?_); refine goesL_ (some 32) rfl rfl Tryd.func18 (by kernel_rfl) rfl #[.int .i64 a0_3, .int .i64 12] rfl (by (try simp only [List.map_toArray, List.map_cons, List.map_nil]); first | done | rfl | (simp only [List.length_drop, List.length_take]; rfl) | (rw [hsame_])) ?_; (with_reducible refine (guichetref1_Digits.calls k a0_3 12 t222 t223 _ A6.out).mono ?_); rintro e w' ⟨rfl, ⟨nd, rfl⟩⟩; refine ⟨_, rfl, ?_⟩) | ((with_reducible refine gate_conv (s := 9) (t := 26) rfl ?_); refine conv_law rfl 9 26 5 _ rfl Tryd.underlying9 Tryd.underlying26 Tryd.underlying5 _ _ rfl A11.out ?_; intro v225 w17 ho0 hb; have n0_ := Aside0.mk (Kd.V_lower (Kd.V_mono (ok' := fun k_ => k_ ≠ gb216) ho0 (fun k_ hk_ => (Kd.freshB (g := gb216) (o := .cells #[.int .u16 a0_0, .int .u32 a0_1, .string a0_2, .int .i64 a0_3] 25 (0, 0)) (by (with_reducible repeat (first | refine blk_drewN ?_ _ | refine blk_drew ?_ | refine blk_alloc ?_ _)); exact BK216.out) k_ hk_))) (below_size (by repeat (first | (with_reducible first | exact HB.out | apply below_alloc | apply pw_below_drewN | apply below_drew1 | refine below_set ?_ GE216.out) | exact HB.out)))); have n1_ := Aside0.mk (blk_below (g := gb216) (o := .cells #[.int .u16 a0_0, .int .u32 a0_1, .string a0_2, .int .i64 a0_3] 25 (0, 0)) (by (with_reducible repeat (first | refine blk_drewN ?_ _ | refine blk_drew ?_ | refine blk_alloc ?_ _)); exact BK216.out) hb); have n2_ := Aside0.mk (below_step (by repeat (first | (with_reducible first | exact HB.out | apply below_alloc | apply pw_below_drewN | apply below_drew1 | refine below_set ?_ GE216.out) | exact HB.out)) hb); clear BK216; clear HB; have HO226 := n0_; have BK216 := n1_; have HB := n2_; clear n0_ n1_ n2_; (try clear hb); (try clear hb2); (try clear hk); (try clear hi); (try clear ho0); obtain ⟨Ao18, co18, eo18⟩ := Kd.V_slice HO226.out; subst eo18) | ((with_reducible refine gate_callee (f := 15) rfl ?_); refine goesL_ (some 46) rfl rfl Tryd.func15 (by kernel_rfl) rfl #[.slice Ao18 t224.length co18] rfl (by (try simp only [List.map_toArray, List.map_cons, List.map_nil]); first | done | rfl | (simp only [List.length_drop, List.length_take]; rfl) | (rw [hsame_])) ?_; (with_reducible refine (guichetref1_Frame.calls k _ _ t224 t227 t228 _ ?side1 ?side2 A12.out).mono ?_); (case side1 => repeat (first | exact (Kd.V_reads' HO226.out).2.2 | (with_reducible refine Kd.C_alloc ?_ _) | (with_reducible refine Kd.C_drewN ?_ _) | (with_reducible refine Kd.C_drew ?_))); (case side2 => exact (Kd.V_reads' HO226.out).2.1); rintro e w19 ⟨v229, rfl, ho0, hb⟩; refine ⟨_, rfl, ?_⟩; have n0_ := Aside0.mk (Kd.V_elder' (by (with_reducible repeat (first | apply Kd.V_alloc | apply Kd.V_drewN | apply Kd.V_drew)); exact HO226.out) (Kd.R_base ho0) hb); have n1_ := Aside0.mk (Kd.R_lower ho0 (below_size (by repeat (first | (with_reducible first | exact HB.out | apply below_alloc | apply pw_below_drewN | apply below_drew1 | refine below_set ?_ GE216.out) | exact HB.out)))); have n2_ := Aside0.mk (blk_below (g := gb216) (o := .cells #[.int .u16 a0_0, .int .u32 a0_1, .string a0_2, .int .i64 a0_3] 25 (0, 0)) (by (with_reducible repeat (first | refine blk_drewN ?_ _ | refine blk_drew ?_ | refine blk_alloc ?_ _)); exact BK216.out) hb); have n3_ := Aside0.mk (below_step (by repeat (first | (with_reducible first | exact HB.out | apply below_alloc | apply pw_below_drewN | apply below_drew1 | refine below_set ?_ GE216.out) | exact HB.out)) hb); clear HO226; clear BK216; clear HB; have HO226 := n0_; have HO230 := n1_; have BK216 := n2_; have HB := n3_; clear n0_ n1_ n2_ n3_; (try clear hb); (try clear hb2); (try clear hk); (try clear hi); (try clear ho0)))
      go_ret2
      exact ⟨_, by first | rfl | (simp [errW_none, errW_some] <;> rfl) | (simp [*, errW_none, errW_some] <;> rfl), by (with_reducible repeat (first | apply Kd.R_alloc | apply Kd.R_drewN | apply Kd.R_drew)); exact HO230.out, by repeat (first | (with_reducible first | exact HB.out | apply below_alloc | apply pw_below_drewN | apply below_drew1 | refine below_set ?_ GE216.out) | exact HB.out)⟩
     ·rw [if_neg c10] at H
      exact absurd H (by simp)
    ·rw [if_neg c9] at H
     exact absurd H (by simp)
   ·rw [if_neg c8] at H
    exact absurd H (by simp)
  ·rw [if_neg c7] at H
   exact absurd H (by simp)
 ·replace c3 := Bool.eq_false_iff.mpr c3
  subst c3
  have H1 : (some (([] : List Int), 27)) = some (r1, r2) := by rw [if_neg (show ¬ (false = true) by decide)] at H; exact H
  clear H
  have H := H1
  clear H1
  simp only [Option.some.injEq, Prod.mk.injEq] at H
  obtain ⟨rfl, rfl⟩ := H
  go_enter Tryd.func9, Tryd.ntmps9
  go_wp2_with (first | ((with_reducible refine gate_dst (N := 1) rfl ?_); refine box_event ?hg (N := 1) ?hd (cs := #[.int .u16 a0_0, .int .u32 a0_1, .string a0_2, .int .i64 a0_3]) (t := 25) ?hr ?_; (case hd => rfl); (case hg => rfl); (case hr => first | (go_simp; done) | (go_simp; rfl)); intro gb216 hg w20 hbox hb; have n0_ := Aside0.mk (below_step (by repeat (first | (with_reducible first | exact HB.out | apply below_alloc | apply pw_below_drewN | apply below_drew1) | exact HB.out)) hb); have n1_ := Aside0.mk (hbox); have n2_ := Aside0.mk ((by rw [hg]; exact (below_size (by repeat (first | (with_reducible first | exact HB.out | apply below_alloc | apply pw_below_drewN | apply below_drew1) | exact HB.out))) : w.heap.size ≤ gb216)); have n3_ := Aside0.mk ((by rw [hg]; exact (below_size (by repeat (first | (with_reducible first | exact HB.out | apply below_alloc | apply pw_below_drewN | apply below_drew1) | exact HB.out))) : w.heap.size ≤ gb216)); clear HB; have HB := n0_; have BK216 := n1_; have GW216 := n2_; have GE216 := n3_; clear n0_ n1_ n2_ n3_; clear hb hbox hg; have hcz21_0 : w20.cell? ⟨gb216, 0, none⟩ = some (.int .u16 a0_0) := (blk_cell BK216.out 0).trans rfl; have hcz21_1 : w20.cell? ⟨gb216, 1, none⟩ = some (.int .u32 a0_1) := (blk_cell BK216.out 1).trans rfl; have hcz21_2 : w20.cell? ⟨gb216, 2, none⟩ = some (.string a0_2) := (blk_cell BK216.out 2).trans rfl; have hcz21_3 : w20.cell? ⟨gb216, 3, none⟩ = some (.int .i64 a0_3) := (blk_cell BK216.out 3).trans rfl; have hfz21_0 := blk_frozen BK216.out 0; have hfz21_1 := blk_frozen BK216.out 1; have hfz21_2 := blk_frozen BK216.out 2; have hfz21_3 := blk_frozen BK216.out 3) | ((with_reducible refine gate_callee (f := 11) rfl ?_); refine goesL_ (some 13) rfl rfl Tryd.func11 (by kernel_rfl) rfl #[.agg #[.int .u16 a0_0, .int .u32 a0_1, .string a0_2, .int .i64 a0_3]] rfl (by (try simp only [List.map_toArray, List.map_cons, List.map_nil]); first | done | rfl | (simp only [List.length_drop, List.length_take]; rfl) | (rw [hsame_])) ?_; (with_reducible refine (guichetref12_PosRight.calls k a0_0 a0_1 a0_2 a0_3 false _ A2.out).mono ?_); rintro e w22 ⟨rfl, hb⟩; refine ⟨_, rfl, ?_⟩; have n0_ := Aside0.mk (blk_below (g := gb216) (o := .cells #[.int .u16 a0_0, .int .u32 a0_1, .string a0_2, .int .i64 a0_3] 25 (0, 0)) (by (with_reducible repeat (first | refine blk_drewN ?_ _ | refine blk_drew ?_ | refine blk_alloc ?_ _)); exact BK216.out) hb); have n1_ := Aside0.mk (below_step (by repeat (first | (with_reducible first | exact HB.out | apply below_alloc | apply pw_below_drewN | apply below_drew1 | refine below_set ?_ GE216.out) | exact HB.out)) hb); clear BK216; clear HB; have BK216 := n0_; have HB := n1_; clear n0_ n1_; (try clear hb); (try clear hb2); (try clear hk); (try clear hi)))
  go_ret2
  exact ⟨_, by first | rfl | (simp [errW_none, errW_some] <;> rfl) | (simp [*, errW_none, errW_some] <;> rfl), by first | exact Kd.R_nil _ _ _ _ _ | exact Kd.N_nil _ _ _ _ _ | exact Kd.V_nil _ _ _ _ _ | exact Kd.Q_nil _ _ _ _ _ | exact Kd.S_nil _ _ _ _ _, by repeat (first | (with_reducible first | exact HB.out | apply below_alloc | apply pw_below_drewN | apply below_drew1 | refine below_set ?_ GE216.out) | exact HB.out)⟩

/-! ### guichetref1_Unframe: function 23 -/
mutual
def guichetref1_Unframe.l0 : Nat → List Int → Int → Int → Option (List Int × Int × Bool)
 | 0, _, _, _ => none
 | k + 1, x0, x5, x6 => if x6 < (x0.length : Int) then (if 0 ≤ x6 then (if (rd x0 x6) = 2 then (guichetref1_Unframe.j1 k x0 x6 x6) else (guichetref1_Unframe.j1 k x0 x5 x6)) else (none)) else (some (([] : List Int), 0, false))
def guichetref1_Unframe.j1 : Nat → List Int → Int → Int → Option (List Int × Int × Bool)
 | 0, _, _, _ => none
 | k + 1, x0, x5, x6 => if 0 ≤ x6 then (if x6 < (x0.length : Int) then (if (rd x0 x6) = 3 then (guichetref1_Unframe.j2 k x0 x5 x6 (decide (x5 < 0))) else (guichetref1_Unframe.j2 k x0 x5 x6 true)) else (none)) else (none)
def guichetref1_Unframe.j2 : Nat → List Int → Int → Int → Bool → Option (List Int × Int × Bool)
 | 0, _, _, _, _ => none
 | k + 1, x0, x5, x6, x28 => if x28 = true then (guichetref1_Unframe.l0 k x0 x5 (wrap64 (x6 + 1))) else (if 0 ≤ (wrap64 (x5 + 1)) then (if (wrap64 (x5 + 1)) ≤ x6 then (if x6 ≤ (x0.length : Int) then ((some ((x0.take (x6 : Int).toNat).drop ((wrap64 (x5 + 1)) : Int).toNat : List Int)).bind fun y233 => (if (wrap64 (x6 + 1)) < (x0.length : Int) then (if (y233.length : Int) ≤ 500 then (if 0 ≤ (wrap64 (x6 + 1)) then ((guichetref1_Lrc.f k y233).bind fun t236 => (if (rd x0 (wrap64 (x6 + 1))) = (Go.bits .xor .u8 t236 3) then (if ([] : List Int).length + y233.length < 140737488355328 then (some ((([] : List Int) ++ y233), wrap64 (x6 + 2), true)) else (none)) else (guichetref1_Unframe.l0 k x0 (-1) (wrap64 (x6 + 1))))) else (none)) else (guichetref1_Unframe.l0 k x0 (-1) (wrap64 (x6 + 1)))) else (guichetref1_Unframe.l0 k x0 (-1) (wrap64 (x6 + 1))))) else (none)) else (none)) else (none))
end
def guichetref1_Unframe.f (k : Nat) (l0 : List Int) : Option (List Int × Int × Bool) := guichetref1_Unframe.l0 k l0 (-1) 0
theorem guichetref1_Unframe.mono_l : ∀ k, (∀ y0 y1 y2, LeO (guichetref1_Unframe.l0 k y0 y1 y2) (guichetref1_Unframe.l0 (k + 1) y0 y1 y2)) ∧ (∀ y0 y1 y2, LeO (guichetref1_Unframe.j1 k y0 y1 y2) (guichetref1_Unframe.j1 (k + 1) y0 y1 y2)) ∧ (∀ y0 y1 y2 y3, LeO (guichetref1_Unframe.j2 k y0 y1 y2 y3) (guichetref1_Unframe.j2 (k + 1) y0 y1 y2 y3))
 | 0 => ⟨fun _ _ _ r h => by simp [guichetref1_Unframe.l0] at h, fun _ _ _ r h => by simp [guichetref1_Unframe.j1] at h, fun _ _ _ _ r h => by simp [guichetref1_Unframe.j2] at h⟩
 | k + 1 => by
  obtain ⟨ih0, ih1, ih2⟩ := guichetref1_Unframe.mono_l k
  refine ⟨?_, ?_, ?_⟩
  ·intro y0 y1 y2
   unfold guichetref1_Unframe.l0
   repeat' first
   | (with_reducible exact ih0 _ _ _)
   | (with_reducible exact ih1 _ _ _)
   | (with_reducible exact ih2 _ _ _ _)
   | (with_reducible exact guichetref1_Lrc.mono _ _)
   | (with_reducible exact LeO.refl _)
   | (with_reducible exact LeO.none _)
   | (with_reducible refine LeO.ite ?_ ?_)
   | (with_reducible refine LeO.bind ?_ (fun _ => ?_))
   | exact ih0 _ _ _
   | exact ih1 _ _ _
   | exact ih2 _ _ _ _
   | exact guichetref1_Lrc.mono _ _
   | exact LeO.none _
   | refine LeO.ite ?_ ?_
   | refine LeO.bind ?_ (fun _ => ?_)
  ·intro y0 y1 y2
   unfold guichetref1_Unframe.j1
   repeat' first
   | (with_reducible exact ih0 _ _ _)
   | (with_reducible exact ih1 _ _ _)
   | (with_reducible exact ih2 _ _ _ _)
   | (with_reducible exact guichetref1_Lrc.mono _ _)
   | (with_reducible exact LeO.refl _)
   | (with_reducible exact LeO.none _)
   | (with_reducible refine LeO.ite ?_ ?_)
   | (with_reducible refine LeO.bind ?_ (fun _ => ?_))
   | exact ih0 _ _ _
   | exact ih1 _ _ _
   | exact ih2 _ _ _ _
   | exact guichetref1_Lrc.mono _ _
   | exact LeO.none _
   | refine LeO.ite ?_ ?_
   | refine LeO.bind ?_ (fun _ => ?_)
  ·intro y0 y1 y2 y3
   unfold guichetref1_Unframe.j2
   repeat' first
   | (with_reducible exact ih0 _ _ _)
   | (with_reducible exact ih1 _ _ _)
   | (with_reducible exact ih2 _ _ _ _)
   | (with_reducible exact guichetref1_Lrc.mono _ _)
   | (with_reducible exact LeO.refl _)
   | (with_reducible exact LeO.none _)
   | (with_reducible refine LeO.ite ?_ ?_)
   | (with_reducible refine LeO.bind ?_ (fun _ => ?_))
   | exact ih0 _ _ _
   | exact ih1 _ _ _
   | exact ih2 _ _ _ _
   | exact guichetref1_Lrc.mono _ _
   | exact LeO.none _
   | refine LeO.ite ?_ ?_
   | refine LeO.bind ?_ (fun _ => ?_)
theorem guichetref1_Unframe.mono : ∀ a0 k, LeO (guichetref1_Unframe.f k a0) (guichetref1_Unframe.f (k + 1) a0) := by
 intro a0 k
 obtain ⟨ih0, ih1, ih2⟩ := guichetref1_Unframe.mono_l k
 unfold guichetref1_Unframe.f
 repeat' first
   | (with_reducible exact ih0 _ _ _)
   | (with_reducible exact ih1 _ _ _)
   | (with_reducible exact ih2 _ _ _ _)
   | (with_reducible exact guichetref1_Lrc.mono _ _)
   | (with_reducible exact LeO.refl _)
   | (with_reducible exact LeO.none _)
   | (with_reducible refine LeO.ite ?_ ?_)
   | (with_reducible refine LeO.bind ?_ (fun _ => ?_))
   | exact ih0 _ _ _
   | exact ih1 _ _ _
   | exact ih2 _ _ _ _
   | exact guichetref1_Lrc.mono _ _
   | exact LeO.none _
   | refine LeO.ite ?_ ?_
   | refine LeO.bind ?_ (fun _ => ?_)
set_option maxHeartbeats 8000000 in
set_option maxRecDepth 100000 in
theorem guichetref1_Unframe.calls (k : Nat) (A0 : Option Addr) (c0 : Nat) (l0 : List Int) (r1 : List Int) (r2 : Int) (r3 : Bool) (w : World) (hr0 : Kd.C (Kd.int .u8) w A0 l0.length l0) (hc0 : l0.length ≤ c0) (h : guichetref1_Unframe.f k l0 = some (r1, r2, r3)) :
  Calls Tryd.prog 23 #[.slice A0 l0.length c0] w fun e w' => ∃ v0_ : Value, e = .returned (.tuple #[v0_, .int .i64 r2, .bool r3]) ∧ Kd.R (Kd.int .u8) 5 w' w.heap.size (fun _ => True) v0_ r1 ∧ Below w.heap.size w w' := by
 have HR0 := Aside0.mk hr0
 have HC0 := Aside0.mk hc0
 clear hr0 hc0
 have HB := Aside0.mk (Below.refl w.heap.size w)
 have H : (guichetref1_Unframe.l0 k l0 (-1) 0) = some (r1, r2, r3) := h
 clear h
 have H' := Aside0.mk H
 clear H
 go_enter Tryd.func23, Tryd.ntmps23
 go_wp2
 repeat (go_quiet (fail); try go_wp2)
 go_loopg [5, 6] k (fun kq v5 v6 w' => ∃ (x5_1 : Int) (x6_1 : Int), v5 = .int .i64 x5_1 ∧ v6 = .int .i64 x6_1 ∧ Aside0 (guichetref1_Unframe.l0 kq l0 x5_1 x6_1 = some (r1, r2, r3)) ∧ Aside0 (kq ≤ k) ∧ Aside0 (Below w.heap.size w w'))
 case atStart => exact ⟨((-1)), (0), (by first | rfl | (simp; done) | (simp [*]; done)), (by first | rfl | (simp; done) | (simp [*]; done)), H', ⟨Nat.le_refl _⟩, ⟨by repeat (first | (with_reducible first | exact HB.out | apply below_alloc | apply pw_below_drewN | apply below_drew1) | exact HB.out)⟩⟩
 case round =>
  clear H'
  obtain ⟨x5_1, x6_1, rfl, rfl, HA, HK1, HB⟩ := hrel
  cases gk with
  | zero => exact absurd HA.out (by simp [guichetref1_Unframe.l0])
  | succ k1 =>
   have H := HA.out
   clear HA
   simp only [guichetref1_Unframe.l0] at H
   by_cases c2 : x6_1 < (l0.length : Int)
   ·rw [if_pos c2] at H
    have c2b0 : decide (x6_1 < (l0.length : Int)) = true := decide_eq_true c2
    clear c2
    by_cases c3 : 0 ≤ x6_1
    ·rw [if_pos c3] at H
     have c3b0 : decide (0 ≤ x6_1) = true := decide_eq_true c3
     clear c3
     have HC4 := Aside0.mk H
     clear H
     have p231 : 0 ≤ (x6_1 : Int) := of_decide_eq_true (by first | (with_reducible assumption) | assumption)
     have q231 : x6_1 < (l0.length : Int) := of_decide_eq_true (by first | (with_reducible assumption) | assumption)
     obtain ⟨ad231, e231, hx231_0⟩ := Kd.at_int HR0.out x6_1 p231 q231
     cases e231
     replace hx231_0 := (HB.out.cell (World.block_lt_of_cell? w _ hx231_0)).trans hx231_0
     replace p231 := eq_true p231
     replace q231 := eq_true q231
     go_upto_if 18 with (fail)
     repeat (go_quiet (fail); go_upto_if 18 with (fail))
     go_cut [5] (fun v5 wc => ∃ (kq : Nat) (x5_3 : Int), v5 = .int .i64 x5_3 ∧ Aside0 (guichetref1_Unframe.j1 kq l0 x5_3 x6_1 = some (r1, r2, r3)) ∧ Aside0 (kq ≤ k1) ∧ Aside0 (Below w.heap.size w wc))
     case first =>
      have H := HC4.out
      clear HC4
      by_cases c5 : (rd l0 x6_1) = 2
      ·rw [if_pos c5] at H
       have c5b0 : ((rd l0 x6_1) == 2) = true := beq_iff_eq.mpr c5
       have c5b1 : ((rd l0 x6_1) != 2) = false := bne_eq_false_iff_eq.mpr c5
       clear c5
       (first | rw [c5b0] | (simp only [i64_w, i32_w]; rw [c5b0]) | skip)
       have H' := Aside0.mk H
       clear H
       go_wp2
       repeat (go_quiet (fail); try go_wp2)
       go_meet
       case rel => exact ⟨_, (x6_1), (by first | rfl | (simp; done) | (simp [*]; done)), H', ⟨by have := HK1.out; first | omega | exact Nat.le_refl _⟩, ⟨by repeat (first | (with_reducible first | exact HB.out | apply below_alloc | apply pw_below_drewN | apply below_drew1) | exact HB.out)⟩⟩
      ·rw [if_neg c5] at H
       have c5b0 : ((rd l0 x6_1) == 2) = false := beq_eq_false_iff_ne.mpr c5
       have c5b1 : ((rd l0 x6_1) != 2) = true := bne_iff_ne.mpr c5
       (first | rw [c5b0] | (simp only [i64_w, i32_w]; rw [c5b0]) | skip)
       have H' := Aside0.mk H
       clear H
       go_wp2
       repeat (go_quiet (fail); try go_wp2)
       go_meet
       case rel => exact ⟨_, (x5_1), (by first | rfl | (simp; done) | (simp [*]; done)), H', ⟨by have := HK1.out; first | omega | exact Nat.le_refl _⟩, ⟨by repeat (first | (with_reducible first | exact HB.out | apply below_alloc | apply pw_below_drewN | apply below_drew1) | exact HB.out)⟩⟩
     case rest =>
      clear HC4
      try clear c2
      try clear c2b0
      try clear p2
      try clear q2
      try clear hx2
      try clear c3
      try clear c3b0
      try clear c5
      try clear c5b0
      try clear c5b1
      try clear hx231_0
      try clear p231
      try clear q231
      obtain ⟨kq, x5_3, rfl, HA, HJ3, HB⟩ := hcut
      cases kq with
      | zero => exact absurd HA.out (by simp [guichetref1_Unframe.j1])
      | succ kj3 =>
       have H := HA.out
       clear HA
       simp only [guichetref1_Unframe.j1] at H
       have HC6 := Aside0.mk H
       clear H
       go_upto_region 7 with (fail)
       repeat (go_quiet (fail); go_upto_region 7 with (fail))
       go_cut [28] (fun v28 wc => ∃ (kq : Nat) (x28_5 : Bool), v28 = .bool x28_5 ∧ Aside0 (guichetref1_Unframe.j2 kq l0 x5_3 x6_1 x28_5 = some (r1, r2, r3)) ∧ Aside0 (kq ≤ kj3) ∧ Aside0 (Below w.heap.size w wc))
       case first =>
        have H := HC6.out
        clear HC6
        by_cases c7 : 0 ≤ x6_1
        ·rw [if_pos c7] at H
         have c7b0 : decide (0 ≤ x6_1) = true := decide_eq_true c7
         clear c7
         (first | rw [c7b0] | (simp only [i64_w, i32_w]; rw [c7b0]) | skip)
         by_cases c8 : x6_1 < (l0.length : Int)
         ·rw [if_pos c8] at H
          have c8b0 : decide (x6_1 < (l0.length : Int)) = true := decide_eq_true c8
          clear c8
          by_cases c9 : (rd l0 x6_1) = 3
          ·rw [if_pos c9] at H
           have c9b0 : ((rd l0 x6_1) == 3) = true := beq_iff_eq.mpr c9
           have c9b1 : ((rd l0 x6_1) != 3) = false := bne_eq_false_iff_eq.mpr c9
           clear c9
           have H' := Aside0.mk H
           clear H
           have p232 : 0 ≤ (x6_1 : Int) := of_decide_eq_true (by first | (with_reducible assumption) | assumption)
           have q232 : x6_1 < (l0.length : Int) := of_decide_eq_true (by first | (with_reducible assumption) | assumption)
           obtain ⟨ad232, e232, hx232_0⟩ := Kd.at_int HR0.out x6_1 p232 q232
           obtain rfl : ad231 = ad232 := (by injection e232)
           replace hx232_0 := (HB.out.cell (World.block_lt_of_cell? w _ hx232_0)).trans hx232_0
           replace p232 := eq_true p232
           replace q232 := eq_true q232
           go_wp2
           repeat (go_quiet (fail); try go_wp2)
           go_meet
           case rel => exact ⟨_, (decide (x5_3 < 0)), (by first | rfl | (simp; done) | (simp [*]; done)), H', ⟨by have := HK1.out; have := HJ3.out; first | omega | exact Nat.le_refl _⟩, ⟨by repeat (first | (with_reducible first | exact HB.out | apply below_alloc | apply pw_below_drewN | apply below_drew1) | exact HB.out)⟩⟩
          ·rw [if_neg c9] at H
           have c9b0 : ((rd l0 x6_1) == 3) = false := beq_eq_false_iff_ne.mpr c9
           have c9b1 : ((rd l0 x6_1) != 3) = true := bne_iff_ne.mpr c9
           have H' := Aside0.mk H
           clear H
           have p232 : 0 ≤ (x6_1 : Int) := of_decide_eq_true (by first | (with_reducible assumption) | assumption)
           have q232 : x6_1 < (l0.length : Int) := of_decide_eq_true (by first | (with_reducible assumption) | assumption)
           obtain ⟨ad232, e232, hx232_0⟩ := Kd.at_int HR0.out x6_1 p232 q232
           obtain rfl : ad231 = ad232 := (by injection e232)
           replace hx232_0 := (HB.out.cell (World.block_lt_of_cell? w _ hx232_0)).trans hx232_0
           replace p232 := eq_true p232
           replace q232 := eq_true q232
           go_wp2
           repeat (go_quiet (fail); try go_wp2)
           go_meet
           case rel => exact ⟨_, (true), (by first | rfl | (simp; done) | (simp [*]; done)), H', ⟨by have := HK1.out; have := HJ3.out; first | omega | exact Nat.le_refl _⟩, ⟨by repeat (first | (with_reducible first | exact HB.out | apply below_alloc | apply pw_below_drewN | apply below_drew1) | exact HB.out)⟩⟩
         ·rw [if_neg c8] at H
          exact absurd H (by simp)
        ·rw [if_neg c7] at H
         exact absurd H (by simp)
       case rest =>
        clear HC6
        try clear c2
        try clear c2b0
        try clear p2
        try clear q2
        try clear hx2
        try clear c3
        try clear c3b0
        try clear c5
        try clear c5b0
        try clear c5b1
        try clear c7
        try clear c7b0
        try clear c8
        try clear c8b0
        try clear c9
        try clear c9b0
        try clear c9b1
        try clear hx231_0
        try clear hx232_0
        try clear p2
        try clear p231
        try clear p232
        try clear q2
        try clear q231
        try clear q232
        obtain ⟨kq, x28_5, rfl, HA, HJ5, HB⟩ := hcut
        cases kq with
        | zero => exact absurd HA.out (by simp [guichetref1_Unframe.j2])
        | succ kj5 =>
         have H := HA.out
         clear HA
         simp only [guichetref1_Unframe.j2] at H
         by_cases c10 : x28_5 = true
         ·subst c10
          have H1 : (guichetref1_Unframe.l0 kj5 l0 x5_3 (wrap64 (x6_1 + 1))) = some (r1, r2, r3) := by rw [if_pos rfl] at H; exact H
          clear H
          have H := H1
          clear H1
          have H' := Aside0.mk H
          clear H
          go_wp2
          repeat (go_quiet (fail); try go_wp2)
          go_roundg kj5
          case measure => have := HK1.out; have := HJ3.out; have := HJ5.out; omega
          case rel => exact ⟨(x5_3), (wrap64 (x6_1 + 1)), (by first | rfl | (simp; done) | (simp [*]; done)), (by first | rfl | (simp; done) | (simp [*]; done)), H', ⟨by have := HK1.out; have := HJ3.out; have := HJ5.out; omega⟩, ⟨by repeat (first | (with_reducible first | exact HB.out | apply below_alloc | apply pw_below_drewN | apply below_drew1) | exact HB.out)⟩⟩
         ·replace c10 := Bool.eq_false_iff.mpr c10
          subst c10
          have H1 : (if 0 ≤ (wrap64 (x5_3 + 1)) then (if (wrap64 (x5_3 + 1)) ≤ x6_1 then (if x6_1 ≤ (l0.length : Int) then ((some ((l0.take (x6_1 : Int).toNat).drop ((wrap64 (x5_3 + 1)) : Int).toNat : List Int)).bind fun y233 => (if (wrap64 (x6_1 + 1)) < (l0.length : Int) then (if (y233.length : Int) ≤ 500 then (if 0 ≤ (wrap64 (x6_1 + 1)) then ((guichetref1_Lrc.f kj5 y233).bind fun t236 => (if (rd l0 (wrap64 (x6_1 + 1))) = (Go.bits .xor .u8 t236 3) then (if ([] : List Int).length + y233.length < 140737488355328 then (some ((([] : List Int) ++ y233), wrap64 (x6_1 + 2), true)) else (none)) else (guichetref1_Unframe.l0 kj5 l0 (-1) (wrap64 (x6_1 + 1))))) else (none)) else (guichetref1_Unframe.l0 kj5 l0 (-1) (wrap64 (x6_1 + 1)))) else (guichetref1_Unframe.l0 kj5 l0 (-1) (wrap64 (x6_1 + 1))))) else (none)) else (none)) else (none)) = some (r1, r2, r3) := by rw [if_neg (show ¬ (false = true) by decide)] at H; exact H
          clear H
          have H := H1
          clear H1
          obtain ⟨ji11, hji11⟩ : ∃ j_ : Int, (wrap64 (x5_3 + 1)) = j_ := ⟨_, rfl⟩
          replace H : (if 0 ≤ (ji11) then (if (ji11) ≤ x6_1 then (if x6_1 ≤ (l0.length : Int) then ((some ((l0.take (x6_1 : Int).toNat).drop ((ji11) : Int).toNat : List Int)).bind fun y233 => (if (wrap64 (x6_1 + 1)) < (l0.length : Int) then (if (y233.length : Int) ≤ 500 then (if 0 ≤ (wrap64 (x6_1 + 1)) then ((guichetref1_Lrc.f kj5 y233).bind fun t236 => (if (rd l0 (wrap64 (x6_1 + 1))) = (Go.bits .xor .u8 t236 3) then (if ([] : List Int).length + y233.length < 140737488355328 then (some ((([] : List Int) ++ y233), wrap64 (x6_1 + 2), true)) else (none)) else (guichetref1_Unframe.l0 kj5 l0 (-1) (wrap64 (x6_1 + 1))))) else (none)) else (guichetref1_Unframe.l0 kj5 l0 (-1) (wrap64 (x6_1 + 1)))) else (guichetref1_Unframe.l0 kj5 l0 (-1) (wrap64 (x6_1 + 1))))) else (none)) else (none)) else (none)) = some (r1, r2, r3) := by first | (rw [hji11] at H; exact H) | (simp only [hji11] at H ⊢; exact H)
          have hji11w : (IntKind.i64.wrap (x5_3 + 1)) = ji11 := (i64_w _).trans hji11
          by_cases c12 : 0 ≤ (ji11)
          ·rw [if_pos c12] at H
           have c12b0 := eq_true c12
           have c12b1 : decide (0 ≤ (ji11)) = true := decide_eq_true c12
           clear c12
           by_cases c13 : (ji11) ≤ x6_1
           ·rw [if_pos c13] at H
            have c13b0 := eq_true c13
            have c13b1 : decide ((ji11) ≤ x6_1) = true := decide_eq_true c13
            clear c13
            by_cases c14 : x6_1 ≤ (l0.length : Int)
            ·rw [if_pos c14] at H
             have c14b0 := eq_true c14
             have c14b1 : decide (x6_1 ≤ (l0.length : Int)) = true := decide_eq_true c14
             clear c14
             obtain ⟨y233, hy233⟩ : ∃ y_ : List Int, y_ = ((l0.take (x6_1 : Int).toNat).drop ((ji11) : Int).toNat) := ⟨_, rfl⟩
             replace H : (if (wrap64 (x6_1 + 1)) < (l0.length : Int) then (if (y233.length : Int) ≤ 500 then (if 0 ≤ (wrap64 (x6_1 + 1)) then ((guichetref1_Lrc.f kj5 y233).bind fun t236 => (if (rd l0 (wrap64 (x6_1 + 1))) = (Go.bits .xor .u8 t236 3) then (if ([] : List Int).length + y233.length < 140737488355328 then (some ((([] : List Int) ++ y233), wrap64 (x6_1 + 2), true)) else (none)) else (guichetref1_Unframe.l0 kj5 l0 (-1) (wrap64 (x6_1 + 1))))) else (none)) else (guichetref1_Unframe.l0 kj5 l0 (-1) (wrap64 (x6_1 + 1)))) else (guichetref1_Unframe.l0 kj5 l0 (-1) (wrap64 (x6_1 + 1)))) = some (r1, r2, r3) := by first | (rw [hy233]; with_reducible exact H) | (have H2_ := (Option.bind_some _ _).symm.trans H; rw [hy233]; with_reducible exact H2_) | (have H2_ := (Option.bind_some _ _).symm.trans H; with_reducible exact H2_) | with_reducible exact H | (rw [hy233]; exact H) | exact H
             have Ny233 := Aside0.mk hy233
             clear hy233
             by_cases c15 : (wrap64 (x6_1 + 1)) < (l0.length : Int)
             ·rw [if_pos c15] at H
              have c15b0 : decide ((wrap64 (x6_1 + 1)) < (l0.length : Int)) = true := decide_eq_true c15
              clear c15
              by_cases c16 : (y233.length : Int) ≤ 500
              ·rw [if_pos c16] at H
               have c16b0 : decide ((y233.length : Int) ≤ 500) = true := decide_eq_true c16
               have c16b1 : decide (y233.length ≤ 500) = true := decide_eq_true (by omega)
               clear c16
               obtain ⟨ji17, hji17⟩ : ∃ j_ : Int, (wrap64 (x6_1 + 1)) = j_ := ⟨_, rfl⟩
               replace H : (if 0 ≤ (ji17) then ((guichetref1_Lrc.f kj5 y233).bind fun t236 => (if (rd l0 (ji17)) = (Go.bits .xor .u8 t236 3) then (if ([] : List Int).length + y233.length < 140737488355328 then (some ((([] : List Int) ++ y233), wrap64 (x6_1 + 2), true)) else (none)) else (guichetref1_Unframe.l0 kj5 l0 (-1) ji17))) else (none)) = some (r1, r2, r3) := by first | (rw [hji17] at H; exact H) | (simp only [hji17] at H ⊢; exact H)
               (try rw [hji17] at c15b0)
               have hji17w : (IntKind.i64.wrap (x6_1 + 1)) = ji17 := (i64_w _).trans hji17
               by_cases c18 : 0 ≤ (ji17)
               ·rw [if_pos c18] at H
                have c18b0 : decide (0 ≤ (ji17)) = true := decide_eq_true c18
                clear c18
                replace H := Option.bind_eq_some_iff.mp H
                obtain ⟨t236, A190, H⟩ := H
                replace H : (if (rd l0 (ji17)) = (Go.bits .xor .u8 t236 3) then (if ([] : List Int).length + y233.length < 140737488355328 then (some ((([] : List Int) ++ y233), wrap64 (x6_1 + 2), true)) else (none)) else (guichetref1_Unframe.l0 kj5 l0 (-1) ji17)) = some (r1, r2, r3) := H
                have A19 := Aside0.mk A190
                clear A190
                by_cases c20 : (rd l0 (ji17)) = (Go.bits .xor .u8 t236 3)
                ·rw [if_pos c20] at H
                 have c20b0 : ((rd l0 (ji17)) == (Go.bits .xor .u8 t236 3)) = true := beq_iff_eq.mpr c20
                 have c20b1 : ((rd l0 (ji17)) != (Go.bits .xor .u8 t236 3)) = false := bne_eq_false_iff_eq.mpr c20
                 clear c20
                 by_cases c21 : ([] : List Int).length + y233.length < 140737488355328
                 ·rw [if_pos c21] at H
                  have LMc21 := Aside0.mk c21
                  clear c21
                  obtain ⟨y237, hy237⟩ : ∃ y_ : List Int, y_ = (([] : List Int) ++ y233) := ⟨_, rfl⟩
                  replace H : (some (y237, wrap64 (x6_1 + 2), true)) = some (r1, r2, r3) := by first | (rw [hy237]; with_reducible exact H) | (have H2_ := (Option.bind_some _ _).symm.trans H; rw [hy237]; with_reducible exact H2_) | (have H2_ := (Option.bind_some _ _).symm.trans H; with_reducible exact H2_) | with_reducible exact H | (rw [hy237]; exact H) | exact H
                  have Ny237 := Aside0.mk hy237
                  clear hy237
                  simp only [Option.some.injEq, Prod.mk.injEq] at H
                  obtain ⟨rfl, rfl, rfl⟩ := H
                  obtain ⟨i022, hi022, _, hsz22, _⟩ := info_parts info5
                  obtain ⟨A22, hcut22, hA22, hC22⟩ := print_mid_of (P := Tryd.prog) (Value.int .u8) 0 26 5 .i64 .i64 Tryd.underlying26 hi022 hsz22 (some ad231) c0 l0 (ji11) x6_1 (of_decide_eq_true (by first | (with_reducible assumption) | assumption)) (by first | omega | exact of_decide_eq_true (by first | (with_reducible assumption) | assumption)) (of_decide_eq_true (by first | (with_reducible assumption) | assumption)) HC0.out
                  rw [← Ny233.out] at hcut22 hA22 hC22
                  skip
                  have HR234 := Aside0.mk (Kd.C_of_reads (h1 := fun _ => rfl) (hA22 _ (Kd.reads_of_C HR0.out)))
                  have HC234 := Aside0.mk hC22
                  clear hA22 hC22 hi022 hsz22
                  have p235 : 0 ≤ ((ji17) : Int) := of_decide_eq_true (by first | (with_reducible assumption) | assumption)
                  have q235 : (ji17) < (l0.length : Int) := of_decide_eq_true (by first | (with_reducible assumption) | assumption)
                  obtain ⟨ad235, e235, hx235_0⟩ := Kd.at_int HR0.out (ji17) p235 q235
                  obtain rfl : ad231 = ad235 := (by injection e235)
                  replace hx235_0 := (HB.out.cell (World.block_lt_of_cell? w _ hx235_0)).trans hx235_0
                  replace p235 := eq_true p235
                  replace q235 := eq_true q235
                  go_wp2_with (first | (go_at_call 14; (with_reducible refine (guichetref1_Lrc.calls kj5 _ _ y233 t236 _ ?side1 ?side2 A19.out).mono ?_); (case side1 => repeat (first | exact (Kd.C_below HR234.out HB.out) | (with_reducible refine Kd.C_alloc ?_ _) | (with_reducible refine Kd.C_drewN ?_ _) | (with_reducible refine Kd.C_drew ?_))); (case side2 => exact HC234.out); rintro e w' ⟨rfl, ⟨nd, rfl⟩⟩; (try first | exact ⟨rfl, _, World.drewN_drewN _ _ _⟩ | exact ⟨rfl, _, Eq.trans (World.drewN_drewN _ _ _) (congrArg (World.drewN _) (Nat.add_assoc _ _ _))⟩)) | ((with_reducible refine gate_builtin (b := .append) (xs := #[.const (.slice none 0 0), .tmp 55]) rfl ?_); (try (refine gate_guard (by rfl) ?_; dsimp only)); at_builtin; refine Kd.R_append_rows (Kd.int .u8) (w0 := w) w.heap.size rfl (.const (.slice none 0 0)) (.tmp 55) 26 5 (.int .u8 0) 1 rfl Tryd.underlying26 info5 rfl (by decide) (by omega) (.slice none 0 0) ([] : List Int) y233 _ _ _ (fun _ => True) (fun _ => False) rfl rfl ?aO ?aR (fun _ _ h => h) (fun _ h => h.elim) ?aF ?aB ?aS ?aL ?_; (case aR => repeat (first | exact (Kd.C_below HR234.out (by repeat (first | (with_reducible first | exact HB.out | apply below_alloc | apply pw_below_drewN | apply below_drew1) | exact HB.out))) | (with_reducible refine Kd.C_alloc ?_ _) | (with_reducible refine Kd.C_drewN ?_ _) | (with_reducible refine Kd.C_drew ?_))); (case aB => exact (by repeat (first | (with_reducible first | exact HB.out | apply below_alloc | apply pw_below_drewN | apply below_drew1) | exact HB.out))); (case aF => exact (fun _ _ => trivial)); (case aO => exact ((Kd.R_nil _ _ _ _ (fun _ => True)))); (case aS => exact (below_size (by repeat (first | (with_reducible first | exact HB.out | apply below_alloc | apply pw_below_drewN | apply below_drew1) | exact HB.out)))); (case aL => have := LMc21.out; omega); intro v238 w23 ho hb hg hat; rw [← Ny237.out] at ho; have n0_ := Aside0.mk (hb); have n1_ := Aside0.mk (ho); clear HB; have HB := n0_; have HO239 := n1_; clear n0_ n1_; clear ho hb hg hat))
                  repeat (go_quiet (first | (go_at_call 14; (with_reducible refine (guichetref1_Lrc.calls kj5 _ _ y233 t236 _ ?side1 ?side2 A19.out).mono ?_); (case side1 => repeat (first | exact (Kd.C_below HR234.out HB.out) | (with_reducible refine Kd.C_alloc ?_ _) | (with_reducible refine Kd.C_drewN ?_ _) | (with_reducible refine Kd.C_drew ?_))); (case side2 => exact HC234.out); rintro e w' ⟨rfl, ⟨nd, rfl⟩⟩; (try first | exact ⟨rfl, _, World.drewN_drewN _ _ _⟩ | exact ⟨rfl, _, Eq.trans (World.drewN_drewN _ _ _) (congrArg (World.drewN _) (Nat.add_assoc _ _ _))⟩)) | ((with_reducible refine gate_builtin (b := .append) (xs := #[.const (.slice none 0 0), .tmp 55]) rfl ?_); (try (refine gate_guard (by rfl) ?_; dsimp only)); at_builtin; refine Kd.R_append_rows (Kd.int .u8) (w0 := w) w.heap.size rfl (.const (.slice none 0 0)) (.tmp 55) 26 5 (.int .u8 0) 1 rfl Tryd.underlying26 info5 rfl (by decide) (by omega) (.slice none 0 0) ([] : List Int) y233 _ _ _ (fun _ => True) (fun _ => False) rfl rfl ?aO ?aR (fun _ _ h => h) (fun _ h => h.elim) ?aF ?aB ?aS ?aL ?_; (case aR => repeat (first | exact (Kd.C_below HR234.out (by repeat (first | (with_reducible first | exact HB.out | apply below_alloc | apply pw_below_drewN | apply below_drew1) | exact HB.out))) | (with_reducible refine Kd.C_alloc ?_ _) | (with_reducible refine Kd.C_drewN ?_ _) | (with_reducible refine Kd.C_drew ?_))); (case aB => exact (by repeat (first | (with_reducible first | exact HB.out | apply below_alloc | apply pw_below_drewN | apply below_drew1) | exact HB.out))); (case aF => exact (fun _ _ => trivial)); (case aO => exact ((Kd.R_nil _ _ _ _ (fun _ => True)))); (case aS => exact (below_size (by repeat (first | (with_reducible first | exact HB.out | apply below_alloc | apply pw_below_drewN | apply below_drew1) | exact HB.out)))); (case aL => have := LMc21.out; omega); intro v238 w23 ho hb hg hat; rw [← Ny237.out] at ho; have n0_ := Aside0.mk (hb); have n1_ := Aside0.mk (ho); clear HB; have HB := n0_; have HO239 := n1_; clear n0_ n1_; clear ho hb hg hat)); try go_wp2_with (first | (go_at_call 14; (with_reducible refine (guichetref1_Lrc.calls kj5 _ _ y233 t236 _ ?side1 ?side2 A19.out).mono ?_); (case side1 => repeat (first | exact (Kd.C_below HR234.out HB.out) | (with_reducible refine Kd.C_alloc ?_ _) | (with_reducible refine Kd.C_drewN ?_ _) | (with_reducible refine Kd.C_drew ?_))); (case side2 => exact HC234.out); rintro e w' ⟨rfl, ⟨nd, rfl⟩⟩; (try first | exact ⟨rfl, _, World.drewN_drewN _ _ _⟩ | exact ⟨rfl, _, Eq.trans (World.drewN_drewN _ _ _) (congrArg (World.drewN _) (Nat.add_assoc _ _ _))⟩)) | ((with_reducible refine gate_builtin (b := .append) (xs := #[.const (.slice none 0 0), .tmp 55]) rfl ?_); (try (refine gate_guard (by rfl) ?_; dsimp only)); at_builtin; refine Kd.R_append_rows (Kd.int .u8) (w0 := w) w.heap.size rfl (.const (.slice none 0 0)) (.tmp 55) 26 5 (.int .u8 0) 1 rfl Tryd.underlying26 info5 rfl (by decide) (by omega) (.slice none 0 0) ([] : List Int) y233 _ _ _ (fun _ => True) (fun _ => False) rfl rfl ?aO ?aR (fun _ _ h => h) (fun _ h => h.elim) ?aF ?aB ?aS ?aL ?_; (case aR => repeat (first | exact (Kd.C_below HR234.out (by repeat (first | (with_reducible first | exact HB.out | apply below_alloc | apply pw_below_drewN | apply below_drew1) | exact HB.out))) | (with_reducible refine Kd.C_alloc ?_ _) | (with_reducible refine Kd.C_drewN ?_ _) | (with_reducible refine Kd.C_drew ?_))); (case aB => exact (by repeat (first | (with_reducible first | exact HB.out | apply below_alloc | apply pw_below_drewN | apply below_drew1) | exact HB.out))); (case aF => exact (fun _ _ => trivial)); (case aO => exact ((Kd.R_nil _ _ _ _ (fun _ => True)))); (case aS => exact (below_size (by repeat (first | (with_reducible first | exact HB.out | apply below_alloc | apply pw_below_drewN | apply below_drew1) | exact HB.out)))); (case aL => have := LMc21.out; omega); intro v238 w23 ho hb hg hat; rw [← Ny237.out] at ho; have n0_ := Aside0.mk (hb); have n1_ := Aside0.mk (ho); clear HB; have HB := n0_; have HO239 := n1_; clear n0_ n1_; clear ho hb hg hat)))
                  go_ret3
                  exact ⟨_, by first | rfl | (simp [errW_none, errW_some] <;> rfl) | (simp only [← hji11, ← hji17]; first | rfl | (simp [errW_none, errW_some] <;> rfl)) | (simp [*, errW_none, errW_some] <;> rfl), by (with_reducible repeat (first | apply Kd.R_alloc | apply Kd.R_drewN | apply Kd.R_drew)); exact HO239.out, by repeat (first | (with_reducible first | exact HB.out | apply below_alloc | apply pw_below_drewN | apply below_drew1) | exact HB.out)⟩
                 ·rw [if_neg c21] at H
                  exact absurd H (by simp)
                ·rw [if_neg c20] at H
                 have c20b0 : ((rd l0 (ji17)) == (Go.bits .xor .u8 t236 3)) = false := beq_eq_false_iff_ne.mpr c20
                 have c20b1 : ((rd l0 (ji17)) != (Go.bits .xor .u8 t236 3)) = true := bne_iff_ne.mpr c20
                 have H' := Aside0.mk H
                 clear H
                 obtain ⟨i024, hi024, _, hsz24, _⟩ := info_parts info5
                 obtain ⟨A24, hcut24, hA24, hC24⟩ := print_mid_of (P := Tryd.prog) (Value.int .u8) 0 26 5 .i64 .i64 Tryd.underlying26 hi024 hsz24 (some ad231) c0 l0 (ji11) x6_1 (of_decide_eq_true (by first | (with_reducible assumption) | assumption)) (by first | omega | exact of_decide_eq_true (by first | (with_reducible assumption) | assumption)) (of_decide_eq_true (by first | (with_reducible assumption) | assumption)) HC0.out
                 rw [← Ny233.out] at hcut24 hA24 hC24
                 (try have hsame_ := cut_same (hcut22 w) (hcut24 w))
                 have HR234 := Aside0.mk (Kd.C_of_reads (h1 := fun _ => rfl) (hA24 _ (Kd.reads_of_C HR0.out)))
                 have HC234 := Aside0.mk hC24
                 clear hA24 hC24 hi024 hsz24
                 have p235 : 0 ≤ ((ji17) : Int) := of_decide_eq_true (by first | (with_reducible assumption) | assumption)
                 have q235 : (ji17) < (l0.length : Int) := of_decide_eq_true (by first | (with_reducible assumption) | assumption)
                 obtain ⟨ad235, e235, hx235_0⟩ := Kd.at_int HR0.out (ji17) p235 q235
                 obtain rfl : ad231 = ad235 := (by injection e235)
                 replace hx235_0 := (HB.out.cell (World.block_lt_of_cell? w _ hx235_0)).trans hx235_0
                 replace p235 := eq_true p235
                 replace q235 := eq_true q235
                 go_wp2_with (first | (go_at_call 14; (with_reducible refine (guichetref1_Lrc.calls kj5 _ _ y233 t236 _ ?side1 ?side2 A19.out).mono ?_); (case side1 => repeat (first | exact (Kd.C_below HR234.out HB.out) | (with_reducible refine Kd.C_alloc ?_ _) | (with_reducible refine Kd.C_drewN ?_ _) | (with_reducible refine Kd.C_drew ?_))); (case side2 => exact HC234.out); rintro e w' ⟨rfl, ⟨nd, rfl⟩⟩; (try first | exact ⟨rfl, _, World.drewN_drewN _ _ _⟩ | exact ⟨rfl, _, Eq.trans (World.drewN_drewN _ _ _) (congrArg (World.drewN _) (Nat.add_assoc _ _ _))⟩)))
                 repeat (go_quiet (first | (go_at_call 14; (with_reducible refine (guichetref1_Lrc.calls kj5 _ _ y233 t236 _ ?side1 ?side2 A19.out).mono ?_); (case side1 => repeat (first | exact (Kd.C_below HR234.out HB.out) | (with_reducible refine Kd.C_alloc ?_ _) | (with_reducible refine Kd.C_drewN ?_ _) | (with_reducible refine Kd.C_drew ?_))); (case side2 => exact HC234.out); rintro e w' ⟨rfl, ⟨nd, rfl⟩⟩; (try first | exact ⟨rfl, _, World.drewN_drewN _ _ _⟩ | exact ⟨rfl, _, Eq.trans (World.drewN_drewN _ _ _) (congrArg (World.drewN _) (Nat.add_assoc _ _ _))⟩))); try go_wp2_with (first | (go_at_call 14; (with_reducible refine (guichetref1_Lrc.calls kj5 _ _ y233 t236 _ ?side1 ?side2 A19.out).mono ?_); (case side1 => repeat (first | exact (Kd.C_below HR234.out HB.out) | (with_reducible refine Kd.C_alloc ?_ _) | (with_reducible refine Kd.C_drewN ?_ _) | (with_reducible refine Kd.C_drew ?_))); (case side2 => exact HC234.out); rintro e w' ⟨rfl, ⟨nd, rfl⟩⟩; (try first | exact ⟨rfl, _, World.drewN_drewN _ _ _⟩ | exact ⟨rfl, _, Eq.trans (World.drewN_drewN _ _ _) (congrArg (World.drewN _) (Nat.add_assoc _ _ _))⟩))))
                 go_roundg kj5
                 case measure => have := HK1.out; have := HJ3.out; have := HJ5.out; omega
                 case rel => exact ⟨((-1)), (ji17), (by first | rfl | (simp; done) | (simp [*]; done)), (by first | rfl | (simp; done) | (simp only [← hji17] <;> (first | rfl | simp)) | (simp [*]; done)), H', ⟨by have := HK1.out; have := HJ3.out; have := HJ5.out; omega⟩, ⟨by repeat (first | (with_reducible first | exact HB.out | apply below_alloc | apply pw_below_drewN | apply below_drew1) | exact HB.out)⟩⟩
               ·rw [if_neg c18] at H
                exact absurd H (by simp)
              ·rw [if_neg c16] at H
               have c16b0 : decide ((y233.length : Int) ≤ 500) = false := decide_eq_false c16
               have c16b1 : decide (y233.length ≤ 500) = false := decide_eq_false (by omega)
               clear c16
               have H' := Aside0.mk H
               clear H
               obtain ⟨i025, hi025, _, hsz25, _⟩ := info_parts info5
               obtain ⟨A25, hcut25, hA25, hC25⟩ := print_mid_of (P := Tryd.prog) (Value.int .u8) 0 26 5 .i64 .i64 Tryd.underlying26 hi025 hsz25 (some ad231) c0 l0 (ji11) x6_1 (of_decide_eq_true (by first | (with_reducible assumption) | assumption)) (by first | omega | exact of_decide_eq_true (by first | (with_reducible assumption) | assumption)) (of_decide_eq_true (by first | (with_reducible assumption) | assumption)) HC0.out
               rw [← Ny233.out] at hcut25 hA25 hC25
               (try have hsame_ := cut_same (hcut24 w) (hcut25 w))
               have HR234 := Aside0.mk (Kd.C_of_reads (h1 := fun _ => rfl) (hA25 _ (Kd.reads_of_C HR0.out)))
               have HC234 := Aside0.mk hC25
               clear hA25 hC25 hi025 hsz25
               go_wp2
               repeat (go_quiet (fail); try go_wp2)
               go_roundg kj5
               case measure => have := HK1.out; have := HJ3.out; have := HJ5.out; omega
               case rel => exact ⟨((-1)), (wrap64 (x6_1 + 1)), (by first | rfl | (simp; done) | (simp [*]; done)), (by first | rfl | (simp; done) | (simp [*]; done)), H', ⟨by have := HK1.out; have := HJ3.out; have := HJ5.out; omega⟩, ⟨by repeat (first | (with_reducible first | exact HB.out | apply below_alloc | apply pw_below_drewN | apply below_drew1) | exact HB.out)⟩⟩
             ·rw [if_neg c15] at H
              have c15b0 : decide ((wrap64 (x6_1 + 1)) < (l0.length : Int)) = false := decide_eq_false c15
              clear c15
              have H' := Aside0.mk H
              clear H
              obtain ⟨i026, hi026, _, hsz26, _⟩ := info_parts info5
              obtain ⟨A26, hcut26, hA26, hC26⟩ := print_mid_of (P := Tryd.prog) (Value.int .u8) 0 26 5 .i64 .i64 Tryd.underlying26 hi026 hsz26 (some ad231) c0 l0 (ji11) x6_1 (of_decide_eq_true (by first | (with_reducible assumption) | assumption)) (by first | omega | exact of_decide_eq_true (by first | (with_reducible assumption) | assumption)) (of_decide_eq_true (by first | (with_reducible assumption) | assumption)) HC0.out
              rw [← Ny233.out] at hcut26 hA26 hC26
              (try have hsame_ := cut_same (hcut25 w) (hcut26 w))
              have HR234 := Aside0.mk (Kd.C_of_reads (h1 := fun _ => rfl) (hA26 _ (Kd.reads_of_C HR0.out)))
              have HC234 := Aside0.mk hC26
              clear hA26 hC26 hi026 hsz26
              go_wp2
              repeat (go_quiet (fail); try go_wp2)
              go_roundg kj5
              case measure => have := HK1.out; have := HJ3.out; have := HJ5.out; omega
              case rel => exact ⟨((-1)), (wrap64 (x6_1 + 1)), (by first | rfl | (simp; done) | (simp [*]; done)), (by first | rfl | (simp; done) | (simp [*]; done)), H', ⟨by have := HK1.out; have := HJ3.out; have := HJ5.out; omega⟩, ⟨by repeat (first | (with_reducible first | exact HB.out | apply below_alloc | apply pw_below_drewN | apply below_drew1) | exact HB.out)⟩⟩
            ·rw [if_neg c14] at H
             exact absurd H (by simp)
           ·rw [if_neg c13] at H
            exact absurd H (by simp)
          ·rw [if_neg c12] at H
           exact absurd H (by simp)
    ·rw [if_neg c3] at H
     exact absurd H (by simp)
   ·rw [if_neg c2] at H
    have c2b0 : decide (x6_1 < (l0.length : Int)) = false := decide_eq_false c2
    clear c2
    simp only [Option.some.injEq, Prod.mk.injEq] at H
    obtain ⟨rfl, rfl, rfl⟩ := H
    go_wp2
    repeat (go_quiet (fail); try go_wp2)
    go_ret3
    exact ⟨_, by first | rfl | (simp [errW_none, errW_some] <;> rfl) | (simp [*, errW_none, errW_some] <;> rfl), by first | exact Kd.R_nil _ _ _ _ _ | exact Kd.N_nil _ _ _ _ _ | exact Kd.V_nil _ _ _ _ _ | exact Kd.Q_nil _ _ _ _ _ | exact Kd.S_nil _ _ _ _ _, by repeat (first | (with_reducible first | exact HB.out | apply below_alloc | apply pw_below_drewN | apply below_drew1) | exact HB.out)⟩

end Go.Proofs.YtkhgiojpegghoaaDoor.PAll
