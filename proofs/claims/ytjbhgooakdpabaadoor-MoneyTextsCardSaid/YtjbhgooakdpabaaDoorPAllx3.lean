-- written by xprint.py out of the translation. Not trusted: Lean checks it.
import Derived.Test.YtjbhgooakdpabaaDoorPAllx0
import Derived.Test.YtjbhgooakdpabaaDoorPAllx2
namespace Go.Proofs.YtjbhgooakdpabaaDoor.PAll
open Go.RowKit Go.Proofs.YtjbhgooakdpabaaDoorW.PrintWords Go.Proofs.YtjbhgooakdpabaaDoorW.PrintLast Go.Proofs.YtjbhgooakdpabaaDoorW.PrintMore
attribute [local go_sem] max2_int min2_int max_two min_two max_three min_three max_four min_four   -- for this text's walks alone
set_option linter.unusedVariables false
set_option linter.unusedSimpArgs false

/-! ### guichetref12_MoneyText: function 11 -/
mutual
def guichetref12_MoneyText.j0 : Nat → ByteArray → ByteArray → Option (ByteArray)
 | 0, _, _ => none
 | k + 1, x3, x4 => guichetref12_MoneyText.l0 k x3 x4
def guichetref12_MoneyText.l0 : Nat → ByteArray → ByteArray → Option (ByteArray)
 | 0, _, _ => none
 | k + 1, x3, x4 => if (x3.size : Int) < 3 then (if 1 + x3.size ≤ 9223372036854775807 then (guichetref12_MoneyText.l0 k ((⟨#[48]⟩ : ByteArray) ++ x3) x4) else (none)) else (if 0 ≤ (wrap64 ((x3.size : Int) - 2)) then (if (wrap64 ((x3.size : Int) - 2)) ≤ (x3.size : Int) then (if x4.size + (x3.extract 0 ((wrap64 ((x3.size : Int) - 2)) : Int).toNat).size ≤ 9223372036854775807 then (if (x4 ++ (x3.extract 0 ((wrap64 ((x3.size : Int) - 2)) : Int).toNat)).size + 1 ≤ 9223372036854775807 then (if ((x4 ++ (x3.extract 0 ((wrap64 ((x3.size : Int) - 2)) : Int).toNat)) ++ (⟨#[46]⟩ : ByteArray)).size + (x3.extract ((wrap64 ((x3.size : Int) - 2)) : Int).toNat x3.size).size ≤ 9223372036854775807 then (some (((x4 ++ (x3.extract 0 ((wrap64 ((x3.size : Int) - 2)) : Int).toNat)) ++ (⟨#[46]⟩ : ByteArray)) ++ (x3.extract ((wrap64 ((x3.size : Int) - 2)) : Int).toNat x3.size))) else (none)) else (none)) else (none)) else (none)) else (none))
end
def guichetref12_MoneyText.f (k : Nat) (a0 : Int) : Option (ByteArray) := (guichetref1_Dec.f k a0).bind fun t112 => (if a0 < 0 then (if 1 ≤ (t112.size : Int) then (guichetref12_MoneyText.j0 k (t112.extract 1 t112.size) (⟨#[45]⟩ : ByteArray)) else (none)) else (guichetref12_MoneyText.j0 k t112 (⟨#[]⟩ : ByteArray)))
theorem guichetref12_MoneyText.mono_l : ∀ k, (∀ y0 y1, LeO (guichetref12_MoneyText.j0 k y0 y1) (guichetref12_MoneyText.j0 (k + 1) y0 y1)) ∧ (∀ y0 y1, LeO (guichetref12_MoneyText.l0 k y0 y1) (guichetref12_MoneyText.l0 (k + 1) y0 y1))
 | 0 => ⟨fun _ _ r h => by simp [guichetref12_MoneyText.j0] at h, fun _ _ r h => by simp [guichetref12_MoneyText.l0] at h⟩
 | k + 1 => by
  obtain ⟨ih0, ih1⟩ := guichetref12_MoneyText.mono_l k
  refine ⟨?_, ?_⟩
  ·intro y0 y1
   unfold guichetref12_MoneyText.j0
   repeat' first
   | (with_reducible exact ih0 _ _)
   | (with_reducible exact ih1 _ _)
   | (with_reducible exact guichetref1_Dec.mono _ _)
   | (with_reducible exact LeO.refl _)
   | (with_reducible exact LeO.none _)
   | (with_reducible refine LeO.ite ?_ ?_)
   | (with_reducible refine LeO.bind ?_ (fun _ => ?_))
   | exact ih0 _ _
   | exact ih1 _ _
   | exact guichetref1_Dec.mono _ _
   | exact LeO.none _
   | refine LeO.ite ?_ ?_
   | refine LeO.bind ?_ (fun _ => ?_)
  ·intro y0 y1
   unfold guichetref12_MoneyText.l0
   repeat' first
   | (with_reducible exact ih0 _ _)
   | (with_reducible exact ih1 _ _)
   | (with_reducible exact guichetref1_Dec.mono _ _)
   | (with_reducible exact LeO.refl _)
   | (with_reducible exact LeO.none _)
   | (with_reducible refine LeO.ite ?_ ?_)
   | (with_reducible refine LeO.bind ?_ (fun _ => ?_))
   | exact ih0 _ _
   | exact ih1 _ _
   | exact guichetref1_Dec.mono _ _
   | exact LeO.none _
   | refine LeO.ite ?_ ?_
   | refine LeO.bind ?_ (fun _ => ?_)
theorem guichetref12_MoneyText.mono : ∀ a0 k, LeO (guichetref12_MoneyText.f k a0) (guichetref12_MoneyText.f (k + 1) a0) := by
 intro a0 k
 obtain ⟨ih0, ih1⟩ := guichetref12_MoneyText.mono_l k
 unfold guichetref12_MoneyText.f
 repeat' first
   | (with_reducible exact ih0 _ _)
   | (with_reducible exact ih1 _ _)
   | (with_reducible exact guichetref1_Dec.mono _ _)
   | (with_reducible exact LeO.refl _)
   | (with_reducible exact LeO.none _)
   | (with_reducible refine LeO.ite ?_ ?_)
   | (with_reducible refine LeO.bind ?_ (fun _ => ?_))
   | exact ih0 _ _
   | exact ih1 _ _
   | exact guichetref1_Dec.mono _ _
   | exact LeO.none _
   | refine LeO.ite ?_ ?_
   | refine LeO.bind ?_ (fun _ => ?_)
set_option maxHeartbeats 8000000 in
set_option maxRecDepth 100000 in
theorem guichetref12_MoneyText.calls (k : Nat) (a0 : Int) (r : ByteArray) (w : World) (h : guichetref12_MoneyText.f k a0 = some r) :
  Calls Tryd.prog 11 #[.int .i64 a0] w fun e w' => e = .returned (.string r) ∧ Below w.heap.size w w' := by
 have HB := Aside0.mk (Below.refl w.heap.size w)
 have H : ((guichetref1_Dec.f k a0).bind fun t112 => (if a0 < 0 then (if 1 ≤ (t112.size : Int) then (guichetref12_MoneyText.j0 k (t112.extract 1 t112.size) (⟨#[45]⟩ : ByteArray)) else (none)) else (guichetref12_MoneyText.j0 k t112 (⟨#[]⟩ : ByteArray)))) = some r := h
 clear h
 replace H := Option.bind_eq_some_iff.mp H
 obtain ⟨t112, A20, H⟩ := H
 replace H : (if a0 < 0 then (if 1 ≤ (t112.size : Int) then (guichetref12_MoneyText.j0 k (t112.extract 1 t112.size) (⟨#[45]⟩ : ByteArray)) else (none)) else (guichetref12_MoneyText.j0 k t112 (⟨#[]⟩ : ByteArray))) = some r := H
 have A2 := Aside0.mk A20
 clear A20
 have HC3 := Aside0.mk H
 clear H
 go_enter Tryd.func11, Tryd.ntmps11
 go_upto_if 8 with (first | (go_at_call 18; (with_reducible refine (guichetref1_Dec.calls k a0 t112 _ A2.out).mono ?_); rintro e w4 ⟨rfl, hb⟩; have n0_ := Aside0.mk (below_step (by repeat (first | (with_reducible first | exact HB.out | apply below_alloc | apply pw_below_drewN | apply below_drew1) | exact HB.out)) hb); clear HB; have HB := n0_; clear n0_; (try clear hb); (try clear hb2); (try clear hk); (try clear hi)))
 repeat (go_quiet (first | (go_at_call 18; (with_reducible refine (guichetref1_Dec.calls k a0 t112 _ A2.out).mono ?_); rintro e w4 ⟨rfl, hb⟩; have n0_ := Aside0.mk (below_step (by repeat (first | (with_reducible first | exact HB.out | apply below_alloc | apply pw_below_drewN | apply below_drew1) | exact HB.out)) hb); clear HB; have HB := n0_; clear n0_; (try clear hb); (try clear hb2); (try clear hk); (try clear hi))); go_upto_if 8 with (first | (go_at_call 18; (with_reducible refine (guichetref1_Dec.calls k a0 t112 _ A2.out).mono ?_); rintro e w4 ⟨rfl, hb⟩; have n0_ := Aside0.mk (below_step (by repeat (first | (with_reducible first | exact HB.out | apply below_alloc | apply pw_below_drewN | apply below_drew1) | exact HB.out)) hb); clear HB; have HB := n0_; clear n0_; (try clear hb); (try clear hb2); (try clear hk); (try clear hi))))
 (try simp only [Act.put, List.setIfInBounds_toArray, List.set_cons_zero, List.set_cons_succ])
 go_cut [3, 4] (fun v3 v4 wc => ∃ (kq : Nat) (x3_2 : ByteArray) (x4_2 : ByteArray), v3 = .string x3_2 ∧ v4 = .string x4_2 ∧ Aside0 (guichetref12_MoneyText.j0 kq x3_2 x4_2 = some r) ∧ Aside0 (kq ≤ k) ∧ Aside0 (Below w.heap.size w wc))
 case first =>
  have H := HC3.out
  clear HC3
  by_cases c5 : a0 < 0
  ·rw [if_pos c5] at H
   have c5b0 : decide (a0 < 0) = true := decide_eq_true c5
   clear c5
   (first | rw [c5b0] | rw [c5b1] | (simp only [i64_w, i32_w]; rw [c5b0]) | skip)
   by_cases c6 : 1 ≤ (t112.size : Int)
   ·rw [if_pos c6] at H
    have c6b0 := eq_true c6
    have c6b1 : decide (1 ≤ (t112.size : Int)) = true := decide_eq_true c6
    clear c6
    have H' := Aside0.mk H
    clear H
    go_wp2
    repeat (go_quiet (fail); try go_wp2)
    go_meet
    case rel => exact ⟨_, (t112.extract 1 t112.size), ((⟨#[45]⟩ : ByteArray)), (by first | rfl | (simp; done) | (simp [*]; done)), (by first | rfl | (simp; done) | (simp [*]; done)), H', ⟨by first | omega | exact Nat.le_refl _⟩, ⟨by repeat (first | (with_reducible first | exact HB.out | apply below_alloc | apply pw_below_drewN | apply below_drew1) | exact HB.out)⟩⟩
   ·rw [if_neg c6] at H
    exact absurd H (by simp)
  ·rw [if_neg c5] at H
   have c5b0 : decide (a0 < 0) = false := decide_eq_false c5
   clear c5
   (first | rw [c5b0] | rw [c5b1] | (simp only [i64_w, i32_w]; rw [c5b0]) | skip)
   have H' := Aside0.mk H
   clear H
   go_wp2
   repeat (go_quiet (fail); try go_wp2)
   go_meet
   case rel => exact ⟨_, (t112), ((⟨#[]⟩ : ByteArray)), (by first | rfl | (simp; done) | (simp [*]; done)), (by first | rfl | (simp; done) | (simp [*]; done)), H', ⟨by first | omega | exact Nat.le_refl _⟩, ⟨by repeat (first | (with_reducible first | exact HB.out | apply below_alloc | apply pw_below_drewN | apply below_drew1) | exact HB.out)⟩⟩
 case rest =>
  clear HC3
  try clear c1
  try clear p2
  try clear c5
  try clear c5b0
  try clear c5b1
  try clear c6
  try clear c6b0
  try clear c6b1
  obtain ⟨kq, x3_2, x4_2, rfl, rfl, HA, HJ2, HB⟩ := hcut
  cases kq with
  | zero => exact absurd HA.out (by simp [guichetref12_MoneyText.j0])
  | succ kj2 =>
   have H := HA.out
   clear HA
   simp only [guichetref12_MoneyText.j0] at H
   have H' := Aside0.mk H
   clear H
   go_wp2
   repeat (go_quiet (fail); try go_wp2)
   go_loopg [3] kj2 (fun kq v3 w' => ∃ (x3_2 : ByteArray), v3 = .string x3_2 ∧ Aside0 (guichetref12_MoneyText.l0 kq x3_2 x4_2 = some r) ∧ Aside0 (kq ≤ kj2) ∧ Aside0 (Below w.heap.size w w'))
   case atStart => exact ⟨(x3_2), (by first | rfl | (simp; done) | (simp [*]; done)), H', ⟨Nat.le_refl _⟩, ⟨by repeat (first | (with_reducible first | exact HB.out | apply below_alloc | apply pw_below_drewN | apply below_drew1) | exact HB.out)⟩⟩
   case round =>
    clear H'
    try clear c1
    try clear p2
    try clear c5
    try clear c5b0
    try clear c5b1
    try clear c6
    try clear c6b0
    try clear c6b1
    try clear p2
    obtain ⟨x3_2, rfl, HA, HK2, HB⟩ := hrel
    cases gk with
    | zero => exact absurd HA.out (by simp [guichetref12_MoneyText.l0])
    | succ k2 =>
     have H := HA.out
     clear HA
     simp only [guichetref12_MoneyText.l0] at H
     by_cases c7 : (x3_2.size : Int) < 3
     ·rw [if_pos c7] at H
      have c7b0 : decide ((x3_2.size : Int) < 3) = true := decide_eq_true c7
      have c7b1 : decide (x3_2.size < 3) = true := decide_eq_true (by omega)
      clear c7
      by_cases c8 : 1 + x3_2.size ≤ 9223372036854775807
      ·rw [if_pos c8] at H
       have c8b0 := eq_true c8
       have c8b1 : decide (1 + x3_2.size ≤ 9223372036854775807) = true := decide_eq_true c8
       try have c8b2 : (9223372036854775807 < 1 + x3_2.size) = False := eq_false (Nat.not_lt.2 c8)
       have H' := Aside0.mk H
       clear H
       go_wp2
       repeat (go_quiet (fail); try go_wp2)
       go_roundg k2
       case measure => have := HJ2.out; have := HK2.out; omega
       case rel => exact ⟨((⟨#[48]⟩ : ByteArray) ++ x3_2), (by first | rfl | (simp; done) | (simp [*]; done)), H', ⟨by have := HJ2.out; have := HK2.out; omega⟩, ⟨by repeat (first | (with_reducible first | exact HB.out | apply below_alloc | apply pw_below_drewN | apply below_drew1) | exact HB.out)⟩⟩
      ·rw [if_neg c8] at H
       exact absurd H (by simp)
     ·rw [if_neg c7] at H
      have c7b0 : decide ((x3_2.size : Int) < 3) = false := decide_eq_false c7
      have c7b1 : decide (x3_2.size < 3) = false := decide_eq_false (by omega)
      clear c7
      obtain ⟨ji9, hji9⟩ : ∃ j_ : Int, (wrap64 ((x3_2.size : Int) - 2)) = j_ := ⟨_, rfl⟩
      replace H : (if 0 ≤ (ji9) then (if (ji9) ≤ (x3_2.size : Int) then (if x4_2.size + (x3_2.extract 0 ((ji9) : Int).toNat).size ≤ 9223372036854775807 then (if (x4_2 ++ (x3_2.extract 0 ((ji9) : Int).toNat)).size + 1 ≤ 9223372036854775807 then (if ((x4_2 ++ (x3_2.extract 0 ((ji9) : Int).toNat)) ++ (⟨#[46]⟩ : ByteArray)).size + (x3_2.extract ((ji9) : Int).toNat x3_2.size).size ≤ 9223372036854775807 then (some (((x4_2 ++ (x3_2.extract 0 ((ji9) : Int).toNat)) ++ (⟨#[46]⟩ : ByteArray)) ++ (x3_2.extract ((ji9) : Int).toNat x3_2.size))) else (none)) else (none)) else (none)) else (none)) else (none)) = some r := by first | (rw [hji9] at H; exact H) | (simp only [hji9] at H ⊢; exact H)
      have hji9w : (IntKind.i64.wrap ((x3_2.size : Int) - 2)) = ji9 := (i64_w _).trans hji9
      by_cases c10 : 0 ≤ (ji9)
      ·rw [if_pos c10] at H
       have c10b0 := eq_true c10
       have c10b1 : decide (0 ≤ (ji9)) = true := decide_eq_true c10
       clear c10
       by_cases c11 : (ji9) ≤ (x3_2.size : Int)
       ·rw [if_pos c11] at H
        have c11b0 := eq_true c11
        have c11b1 : decide ((ji9) ≤ (x3_2.size : Int)) = true := decide_eq_true c11
        clear c11
        by_cases c12 : x4_2.size + (x3_2.extract 0 ((ji9) : Int).toNat).size ≤ 9223372036854775807
        ·rw [if_pos c12] at H
         have c12b0 := eq_true c12
         have c12b1 : decide (x4_2.size + (x3_2.extract 0 ((ji9) : Int).toNat).size ≤ 9223372036854775807) = true := decide_eq_true c12
         (try have c12b5 : (9223372036854775807 < x4_2.size + ji9.toNat) = False := eq_false (by have h_ := c12; (try have hb0_ : (ji9 : Int) ≤ (x3_2.size : Int) := of_decide_eq_true (by first | (with_reducible assumption) | assumption)); simp only [ByteArray.size_append, ByteArray.size_extract] at h_; omega))
         try have c12b2 : (9223372036854775807 < x4_2.size + (x3_2.extract 0 ((ji9) : Int).toNat).size) = False := eq_false (Nat.not_lt.2 c12)
         by_cases c13 : (x4_2 ++ (x3_2.extract 0 ((ji9) : Int).toNat)).size + 1 ≤ 9223372036854775807
         ·rw [if_pos c13] at H
          have c13b0 := eq_true c13
          have c13b1 : decide ((x4_2 ++ (x3_2.extract 0 ((ji9) : Int).toNat)).size + 1 ≤ 9223372036854775807) = true := decide_eq_true c13
          (try have c13b5 : (9223372036854775807 < x4_2.size + ji9.toNat + 1) = False := eq_false (by have h_ := c13; (try have hb0_ : (ji9 : Int) ≤ (x3_2.size : Int) := of_decide_eq_true (by first | (with_reducible assumption) | assumption)); simp only [ByteArray.size_append, ByteArray.size_extract] at h_; omega))
          try have c13b2 : (9223372036854775807 < (x4_2 ++ (x3_2.extract 0 ((ji9) : Int).toNat)).size + 1) = False := eq_false (Nat.not_lt.2 c13)
          have c14b0 := eq_true (of_decide_eq_true (by first | (with_reducible assumption) | assumption) : 0 ≤ (ji9))
          have c15b0 := eq_true (of_decide_eq_true (by first | (with_reducible assumption) | assumption) : (ji9) ≤ (x3_2.size : Int))
          by_cases c16 : ((x4_2 ++ (x3_2.extract 0 ((ji9) : Int).toNat)) ++ (⟨#[46]⟩ : ByteArray)).size + (x3_2.extract ((ji9) : Int).toNat x3_2.size).size ≤ 9223372036854775807
          ·rw [if_pos c16] at H
           have c16b0 := eq_true c16
           have c16b1 : decide (((x4_2 ++ (x3_2.extract 0 ((ji9) : Int).toNat)) ++ (⟨#[46]⟩ : ByteArray)).size + (x3_2.extract ((ji9) : Int).toNat x3_2.size).size ≤ 9223372036854775807) = true := decide_eq_true c16
           (try have c16b5 : (9223372036854775807 < x4_2.size + ji9.toNat + 1 + (x3_2.size - ji9.toNat)) = False := eq_false (by have h_ := c16; (try have hb0_ : (ji9 : Int) ≤ (x3_2.size : Int) := of_decide_eq_true (by first | (with_reducible assumption) | assumption)); simp only [ByteArray.size_append, ByteArray.size_extract] at h_; omega))
           try have c16b2 : (9223372036854775807 < ((x4_2 ++ (x3_2.extract 0 ((ji9) : Int).toNat)) ++ (⟨#[46]⟩ : ByteArray)).size + (x3_2.extract ((ji9) : Int).toNat x3_2.size).size) = False := eq_false (Nat.not_lt.2 c16)
           obtain rfl := Option.some.inj H
           go_wp2
           repeat (go_quiet (fail); try go_wp2)
           go_ret
           exact ⟨by first | rfl | (simp [errW_none, errW_some] <;> rfl) | (simp only [← hji9]; first | rfl | (simp [errW_none, errW_some] <;> rfl)) | (simp [*, errW_none, errW_some] <;> rfl), by repeat (first | (with_reducible first | exact HB.out | apply below_alloc | apply pw_below_drewN | apply below_drew1) | exact HB.out)⟩
          ·rw [if_neg c16] at H
           exact absurd H (by simp)
         ·rw [if_neg c13] at H
          exact absurd H (by simp)
        ·rw [if_neg c12] at H
         exact absurd H (by simp)
       ·rw [if_neg c11] at H
        exact absurd H (by simp)
      ·rw [if_neg c10] at H
       exact absurd H (by simp)

/-! ### guichetref1_AllDigits: function 23 -/
def guichetref1_AllDigits.l0 : Nat → ByteArray → Int → Option (Bool)
 | 0, _, _ => none
 | k + 1, x0, x3 => if x3 < (x0.size : Int) then (if 0 ≤ x3 then (if (bt x0 x3) < 48 then (some false) else (if (bt x0 x3) > 57 then (some false) else (guichetref1_AllDigits.l0 k x0 (wrap64 (x3 + 1))))) else (none)) else (some true)
def guichetref1_AllDigits.f (k : Nat) (a0 : ByteArray) : Option (Bool) := guichetref1_AllDigits.l0 k a0 0
theorem guichetref1_AllDigits.mono_l : ∀ k, (∀ y0 y1, LeO (guichetref1_AllDigits.l0 k y0 y1) (guichetref1_AllDigits.l0 (k + 1) y0 y1))
 | 0 => fun _ _ r h => by simp [guichetref1_AllDigits.l0] at h
 | k + 1 => by
  have ih0 := guichetref1_AllDigits.mono_l k
  ·intro y0 y1
   unfold guichetref1_AllDigits.l0
   repeat' first
   | (with_reducible exact ih0 _ _)
   | (with_reducible exact LeO.refl _)
   | (with_reducible exact LeO.none _)
   | (with_reducible refine LeO.ite ?_ ?_)
   | (with_reducible refine LeO.bind ?_ (fun _ => ?_))
   | exact ih0 _ _
   | exact LeO.none _
   | refine LeO.ite ?_ ?_
   | refine LeO.bind ?_ (fun _ => ?_)
theorem guichetref1_AllDigits.mono : ∀ a0 k, LeO (guichetref1_AllDigits.f k a0) (guichetref1_AllDigits.f (k + 1) a0) := by
 intro a0 k
 have ih0 := guichetref1_AllDigits.mono_l k
 unfold guichetref1_AllDigits.f
 repeat' first
   | (with_reducible exact ih0 _ _)
   | (with_reducible exact LeO.refl _)
   | (with_reducible exact LeO.none _)
   | (with_reducible refine LeO.ite ?_ ?_)
   | (with_reducible refine LeO.bind ?_ (fun _ => ?_))
   | exact ih0 _ _
   | exact LeO.none _
   | refine LeO.ite ?_ ?_
   | refine LeO.bind ?_ (fun _ => ?_)
set_option maxHeartbeats 8000000 in
set_option maxRecDepth 100000 in
theorem guichetref1_AllDigits.calls (k : Nat) (a0 : ByteArray) (r : Bool) (w : World) (h : guichetref1_AllDigits.f k a0 = some r) :
  Calls Tryd.prog 23 #[.string a0] w fun e w' => e = .returned (.bool r) ∧ Drawn0 w w' := by
 have H : (guichetref1_AllDigits.l0 k a0 0) = some r := h
 clear h
 have H' := Aside0.mk H
 clear H
 go_enter Tryd.func23, Tryd.ntmps23
 go_wp2
 go_loopg [3] k (fun kq v3 w' => ∃ (x3_1 : Int), v3 = .int .i64 x3_1 ∧ Aside0 (guichetref1_AllDigits.l0 kq a0 x3_1 = some r) ∧ Aside0 (kq ≤ k) ∧ Drawn0 w w')
 case atStart => exact ⟨(0), (by first | rfl | (simp; done) | (simp [*]; done)), H', ⟨Nat.le_refl _⟩, by repeat (first | exact Drawn0.refl _ | apply Drawn0.step)⟩
 case round =>
  clear H'
  obtain ⟨x3_1, rfl, HA, HK1, ⟨m1, rfl⟩⟩ := hrel
  cases gk with
  | zero => exact absurd HA.out (by simp [guichetref1_AllDigits.l0])
  | succ k1 =>
   have H := HA.out
   clear HA
   simp only [guichetref1_AllDigits.l0] at H
   by_cases c2 : x3_1 < (a0.size : Int)
   ·rw [if_pos c2] at H
    have c2b0 : decide (x3_1 < (a0.size : Int)) = true := decide_eq_true c2
    clear c2
    by_cases c3 : 0 ≤ x3_1
    ·rw [if_pos c3] at H
     have c3b0 : decide (0 ≤ x3_1) = true := decide_eq_true c3
     clear c3
     by_cases c5 : (bt a0 x3_1) < 48
     ·rw [if_pos c5] at H
      have c5b0 : decide ((bt a0 x3_1) < 48) = true := decide_eq_true c5
      clear c5
      obtain rfl := Option.some.inj H
      have p4 : 0 ≤ (x3_1 : Int) := of_decide_eq_true (by first | (with_reducible assumption) | assumption)
      have q4 : x3_1 < (a0.size : Int) := of_decide_eq_true (by first | (with_reducible assumption) | assumption)
      have hx4 := bt_at a0 x3_1
      replace p4 := eq_true p4
      replace q4 := eq_true q4
      go_wp2
      go_ret
      exact ⟨by first | rfl | (simp; done) | (simp [*]; done), by repeat (first | exact Drawn0.refl _ | apply Drawn0.step)⟩
     ·rw [if_neg c5] at H
      have c5b0 : decide ((bt a0 x3_1) < 48) = false := decide_eq_false c5
      clear c5
      by_cases c7 : (bt a0 x3_1) > 57
      ·rw [if_pos c7] at H
       have c7b0 : decide (57 < (bt a0 x3_1)) = true := decide_eq_true c7
       clear c7
       obtain rfl := Option.some.inj H
       have p4 : 0 ≤ (x3_1 : Int) := of_decide_eq_true (by first | (with_reducible assumption) | assumption)
       have q4 : x3_1 < (a0.size : Int) := of_decide_eq_true (by first | (with_reducible assumption) | assumption)
       have hx4 := bt_at a0 x3_1
       replace p4 := eq_true p4
       replace q4 := eq_true q4
       have p6 : 0 ≤ (x3_1 : Int) := of_decide_eq_true (by first | (with_reducible assumption) | assumption)
       have q6 : x3_1 < (a0.size : Int) := of_decide_eq_true (by first | (with_reducible assumption) | assumption)
       have hx6 := bt_at a0 x3_1
       replace p6 := eq_true p6
       replace q6 := eq_true q6
       go_wp2
       go_ret
       exact ⟨by first | rfl | (simp; done) | (simp [*]; done), by repeat (first | exact Drawn0.refl _ | apply Drawn0.step)⟩
      ·rw [if_neg c7] at H
       have c7b0 : decide (57 < (bt a0 x3_1)) = false := decide_eq_false c7
       clear c7
       have H' := Aside0.mk H
       clear H
       have p4 : 0 ≤ (x3_1 : Int) := of_decide_eq_true (by first | (with_reducible assumption) | assumption)
       have q4 : x3_1 < (a0.size : Int) := of_decide_eq_true (by first | (with_reducible assumption) | assumption)
       have hx4 := bt_at a0 x3_1
       replace p4 := eq_true p4
       replace q4 := eq_true q4
       have p6 : 0 ≤ (x3_1 : Int) := of_decide_eq_true (by first | (with_reducible assumption) | assumption)
       have q6 : x3_1 < (a0.size : Int) := of_decide_eq_true (by first | (with_reducible assumption) | assumption)
       have hx6 := bt_at a0 x3_1
       replace p6 := eq_true p6
       replace q6 := eq_true q6
       go_wp2
       go_roundg k1
       case measure => have := HK1.out; omega
       case rel => exact ⟨(wrap64 (x3_1 + 1)), (by first | rfl | (simp; done) | (simp [*]; done)), H', ⟨by have := HK1.out; omega⟩, by repeat (first | exact Drawn0.refl _ | apply Drawn0.step)⟩
    ·rw [if_neg c3] at H
     exact absurd H (by simp)
   ·rw [if_neg c2] at H
    have c2b0 : decide (x3_1 < (a0.size : Int)) = false := decide_eq_false c2
    clear c2
    obtain rfl := Option.some.inj H
    go_wp2
    go_ret
    exact ⟨by first | rfl | (simp; done) | (simp [*]; done), by repeat (first | exact Drawn0.refl _ | apply Drawn0.step)⟩

end Go.Proofs.YtjbhgooakdpabaaDoor.PAll
