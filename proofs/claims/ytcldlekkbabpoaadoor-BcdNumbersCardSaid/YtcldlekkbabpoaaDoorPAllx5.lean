-- written by xprint.py out of the translation. Not trusted: Lean checks it.
import Derived.Test.YtcldlekkbabpoaaDoorPAllx0
import Derived.Test.YtcldlekkbabpoaaDoorPAllx1
import Derived.Test.YtcldlekkbabpoaaDoorPAllx2
import Derived.Test.YtcldlekkbabpoaaDoorPAllx3
import Derived.Test.YtcldlekkbabpoaaDoorPAllx4
namespace Go.Proofs.YtcldlekkbabpoaaDoor.PAll
open Go.RowKit Go.Proofs.YtcldlekkbabpoaaDoorW.PrintWords Go.Proofs.YtcldlekkbabpoaaDoorW.PrintLast Go.Proofs.YtcldlekkbabpoaaDoorW.PrintMore
attribute [local go_sem] max2_int min2_int max_two min_two max_three min_three max_four min_four   -- for this text's walks alone
set_option linter.unusedVariables false
set_option linter.unusedSimpArgs false

/-! ### guichetlaw6_BcdNumbers: function 3 -/
mutual
def guichetlaw6_BcdNumbers.l0 : Nat → Int → Int → Int → List ByteArray → Int → Int → Option (Bool)
  | 0, _, _, _, _, _, _ => none
  | k + 1, x1, x2, x3, x37, x38, x39 => if x39 < x38 then (if 0 ≤ x39 then (if x39 < (x37.length : Int) then ((bcd_Number.f k (rdOf ByteArray.empty x37 x39)).bind fun bt143 => ((guichetref1_Num.f k (rdOf ByteArray.empty x37 x39)).bind fun bt145 => (if bt143.1 = bt145.1 then (if (bt143.2 != bt145.2) = true then (some false) else (guichetlaw6_BcdNumbers.l0 k x1 x2 x3 x37 x38 (wrap64 (x39 + 1)))) else (some false)))) else (none)) else (none)) else ((some (([x2, Go.bits .and .i64 x2 31] : List Int) : List Int)).bind fun y147 => (guichetlaw6_BcdNumbers.l1 k x1 x3 y147 (y147.length : Int) 0))
def guichetlaw6_BcdNumbers.l1 : Nat → Int → Int → List Int → Int → Int → Option (Bool)
  | 0, _, _, _, _, _ => none
  | k + 1, x1, x3, x65, x66, x67 => if x67 < x66 then (if 0 ≤ x67 then (if x67 < (x65.length : Int) then (if 0 ≤ (Go.bits .and .u8 x3 63) then ((some (([x1, shr .i64 x1 (Go.bits .and .u8 x3 63)] : List Int) : List Int)).bind fun y151 => (guichetlaw6_BcdNumbers.l2 k x1 x3 (rd x65 x67) x65 x66 x67 y151 (y151.length : Int) 0)) else (none)) else (none)) else (none)) else (some true)
def guichetlaw6_BcdNumbers.l2 : Nat → Int → Int → Int → List Int → Int → Int → List Int → Int → Int → Option (Bool)
  | 0, _, _, _, _, _, _, _, _, _ => none
  | k + 1, x1, x3, x16, x65, x66, x67, x76, x77, x78 => if x78 < x77 then (if 0 ≤ x78 then (if x78 < (x76.length : Int) then ((bcd_Digits.f (rd x76 x78) x16).bind fun bt155 => ((guichetref1_Digits.f k (rd x76 x78) x16).bind fun bt157 => (if bt155.1.toList = bt157.1.toList then (guichetlaw6_BcdNumbers.j3 k x1 x3 x16 (rd x76 x78) bt155.1 bt155.2 x65 x66 x67 x76 x77 x78 (bt155.2 != bt157.2)) else (guichetlaw6_BcdNumbers.j3 k x1 x3 x16 (rd x76 x78) bt155.1 bt155.2 x65 x66 x67 x76 x77 x78 true)))) else (none)) else (none)) else (guichetlaw6_BcdNumbers.l1 k x1 x3 x65 x66 (wrap64 (x67 + 1)))
def guichetlaw6_BcdNumbers.j3 : Nat → Int → Int → Int → Int → ByteArray → Bool → List Int → Int → Int → List Int → Int → Int → Bool → Option (Bool)
  | 0, _, _, _, _, _, _, _, _, _, _, _, _, _ => none
  | k + 1, x1, x3, x16, x18, x19, x20, x65, x66, x67, x76, x77, x78, x101 => if x101 = true then (some false) else ((bcd_Number.f k x19).bind fun bt159 => (if x20 = true then (if bt159.2 = true then (if bt159.1 = x18 then (guichetlaw6_BcdNumbers.l2 k x1 x3 x16 x65 x66 x67 x76 x77 (wrap64 (x78 + 1))) else (some false)) else (some false)) else (guichetlaw6_BcdNumbers.l2 k x1 x3 x16 x65 x66 x67 x76 x77 (wrap64 (x78 + 1)))))
end
def guichetlaw6_BcdNumbers.f (k : Nat) (a0 : ByteArray) (a1 : Int) (a2 : Int) (a3 : Int) : Option (Bool) := (guichetlaw6_known.f k).bind fun t137 => (if t137 = true then (if (a0.size : Int) > 60 then (some true) else ((guichetseat_Digits.f k (IntKind.u64.wrap (a1)) (wrap64 (Int.tmod a3 22))).bind fun t138 => ((some (([a0, t138] : List ByteArray) : List ByteArray)).bind fun y139 => (guichetlaw6_BcdNumbers.l0 k a1 a2 a3 y139 (y139.length : Int) 0)))) else (some false))
theorem guichetlaw6_BcdNumbers.mono_l : ∀ k, (∀ y0 y1 y2 y3 y4 y5, LeO (guichetlaw6_BcdNumbers.l0 k y0 y1 y2 y3 y4 y5) (guichetlaw6_BcdNumbers.l0 (k + 1) y0 y1 y2 y3 y4 y5)) ∧ (∀ y0 y1 y2 y3 y4, LeO (guichetlaw6_BcdNumbers.l1 k y0 y1 y2 y3 y4) (guichetlaw6_BcdNumbers.l1 (k + 1) y0 y1 y2 y3 y4)) ∧ (∀ y0 y1 y2 y3 y4 y5 y6 y7 y8, LeO (guichetlaw6_BcdNumbers.l2 k y0 y1 y2 y3 y4 y5 y6 y7 y8) (guichetlaw6_BcdNumbers.l2 (k + 1) y0 y1 y2 y3 y4 y5 y6 y7 y8)) ∧ (∀ y0 y1 y2 y3 y4 y5 y6 y7 y8 y9 y10 y11 y12, LeO (guichetlaw6_BcdNumbers.j3 k y0 y1 y2 y3 y4 y5 y6 y7 y8 y9 y10 y11 y12) (guichetlaw6_BcdNumbers.j3 (k + 1) y0 y1 y2 y3 y4 y5 y6 y7 y8 y9 y10 y11 y12))
  | 0 => ⟨fun _ _ _ _ _ _ r h => by simp [guichetlaw6_BcdNumbers.l0] at h, fun _ _ _ _ _ r h => by simp [guichetlaw6_BcdNumbers.l1] at h, fun _ _ _ _ _ _ _ _ _ r h => by simp [guichetlaw6_BcdNumbers.l2] at h, fun _ _ _ _ _ _ _ _ _ _ _ _ _ r h => by simp [guichetlaw6_BcdNumbers.j3] at h⟩
  | k + 1 => by
    obtain ⟨ih0, ih1, ih2, ih3⟩ := guichetlaw6_BcdNumbers.mono_l k
    refine ⟨?_, ?_, ?_, ?_⟩
    · intro y0 y1 y2 y3 y4 y5
      unfold guichetlaw6_BcdNumbers.l0
      repeat' first
      | (with_reducible exact ih0 _ _ _ _ _ _)
      | (with_reducible exact ih1 _ _ _ _ _)
      | (with_reducible exact ih2 _ _ _ _ _ _ _ _ _)
      | (with_reducible exact ih3 _ _ _ _ _ _ _ _ _ _ _ _ _)
      | (with_reducible exact bcd_Number.mono _ _)
      | (with_reducible exact guichetlaw6_known.mono _)
      | (with_reducible exact guichetref1_Digits.mono _ _ _)
      | (with_reducible exact guichetref1_Num.mono _ _)
      | (with_reducible exact guichetseat_Digits.mono _ _ _)
      | (with_reducible exact LeO.refl _)
      | (with_reducible exact LeO.none _)
      | (with_reducible refine LeO.ite ?_ ?_)
      | (with_reducible refine LeO.bind ?_ (fun _ => ?_))
      | exact ih0 _ _ _ _ _ _
      | exact ih1 _ _ _ _ _
      | exact ih2 _ _ _ _ _ _ _ _ _
      | exact ih3 _ _ _ _ _ _ _ _ _ _ _ _ _
      | exact bcd_Number.mono _ _
      | exact guichetlaw6_known.mono _
      | exact guichetref1_Digits.mono _ _ _
      | exact guichetref1_Num.mono _ _
      | exact guichetseat_Digits.mono _ _ _
      | exact LeO.none _
      | refine LeO.ite ?_ ?_
      | refine LeO.bind ?_ (fun _ => ?_)
    · intro y0 y1 y2 y3 y4
      unfold guichetlaw6_BcdNumbers.l1
      repeat' first
      | (with_reducible exact ih0 _ _ _ _ _ _)
      | (with_reducible exact ih1 _ _ _ _ _)
      | (with_reducible exact ih2 _ _ _ _ _ _ _ _ _)
      | (with_reducible exact ih3 _ _ _ _ _ _ _ _ _ _ _ _ _)
      | (with_reducible exact bcd_Number.mono _ _)
      | (with_reducible exact guichetlaw6_known.mono _)
      | (with_reducible exact guichetref1_Digits.mono _ _ _)
      | (with_reducible exact guichetref1_Num.mono _ _)
      | (with_reducible exact guichetseat_Digits.mono _ _ _)
      | (with_reducible exact LeO.refl _)
      | (with_reducible exact LeO.none _)
      | (with_reducible refine LeO.ite ?_ ?_)
      | (with_reducible refine LeO.bind ?_ (fun _ => ?_))
      | exact ih0 _ _ _ _ _ _
      | exact ih1 _ _ _ _ _
      | exact ih2 _ _ _ _ _ _ _ _ _
      | exact ih3 _ _ _ _ _ _ _ _ _ _ _ _ _
      | exact bcd_Number.mono _ _
      | exact guichetlaw6_known.mono _
      | exact guichetref1_Digits.mono _ _ _
      | exact guichetref1_Num.mono _ _
      | exact guichetseat_Digits.mono _ _ _
      | exact LeO.none _
      | refine LeO.ite ?_ ?_
      | refine LeO.bind ?_ (fun _ => ?_)
    · intro y0 y1 y2 y3 y4 y5 y6 y7 y8
      unfold guichetlaw6_BcdNumbers.l2
      repeat' first
      | (with_reducible exact ih0 _ _ _ _ _ _)
      | (with_reducible exact ih1 _ _ _ _ _)
      | (with_reducible exact ih2 _ _ _ _ _ _ _ _ _)
      | (with_reducible exact ih3 _ _ _ _ _ _ _ _ _ _ _ _ _)
      | (with_reducible exact bcd_Number.mono _ _)
      | (with_reducible exact guichetlaw6_known.mono _)
      | (with_reducible exact guichetref1_Digits.mono _ _ _)
      | (with_reducible exact guichetref1_Num.mono _ _)
      | (with_reducible exact guichetseat_Digits.mono _ _ _)
      | (with_reducible exact LeO.refl _)
      | (with_reducible exact LeO.none _)
      | (with_reducible refine LeO.ite ?_ ?_)
      | (with_reducible refine LeO.bind ?_ (fun _ => ?_))
      | exact ih0 _ _ _ _ _ _
      | exact ih1 _ _ _ _ _
      | exact ih2 _ _ _ _ _ _ _ _ _
      | exact ih3 _ _ _ _ _ _ _ _ _ _ _ _ _
      | exact bcd_Number.mono _ _
      | exact guichetlaw6_known.mono _
      | exact guichetref1_Digits.mono _ _ _
      | exact guichetref1_Num.mono _ _
      | exact guichetseat_Digits.mono _ _ _
      | exact LeO.none _
      | refine LeO.ite ?_ ?_
      | refine LeO.bind ?_ (fun _ => ?_)
    · intro y0 y1 y2 y3 y4 y5 y6 y7 y8 y9 y10 y11 y12
      unfold guichetlaw6_BcdNumbers.j3
      repeat' first
      | (with_reducible exact ih0 _ _ _ _ _ _)
      | (with_reducible exact ih1 _ _ _ _ _)
      | (with_reducible exact ih2 _ _ _ _ _ _ _ _ _)
      | (with_reducible exact ih3 _ _ _ _ _ _ _ _ _ _ _ _ _)
      | (with_reducible exact bcd_Number.mono _ _)
      | (with_reducible exact guichetlaw6_known.mono _)
      | (with_reducible exact guichetref1_Digits.mono _ _ _)
      | (with_reducible exact guichetref1_Num.mono _ _)
      | (with_reducible exact guichetseat_Digits.mono _ _ _)
      | (with_reducible exact LeO.refl _)
      | (with_reducible exact LeO.none _)
      | (with_reducible refine LeO.ite ?_ ?_)
      | (with_reducible refine LeO.bind ?_ (fun _ => ?_))
      | exact ih0 _ _ _ _ _ _
      | exact ih1 _ _ _ _ _
      | exact ih2 _ _ _ _ _ _ _ _ _
      | exact ih3 _ _ _ _ _ _ _ _ _ _ _ _ _
      | exact bcd_Number.mono _ _
      | exact guichetlaw6_known.mono _
      | exact guichetref1_Digits.mono _ _ _
      | exact guichetref1_Num.mono _ _
      | exact guichetseat_Digits.mono _ _ _
      | exact LeO.none _
      | refine LeO.ite ?_ ?_
      | refine LeO.bind ?_ (fun _ => ?_)
theorem guichetlaw6_BcdNumbers.mono : ∀ a0 a1 a2 a3 k, LeO (guichetlaw6_BcdNumbers.f k a0 a1 a2 a3) (guichetlaw6_BcdNumbers.f (k + 1) a0 a1 a2 a3) := by
  intro a0 a1 a2 a3 k
  obtain ⟨ih0, ih1, ih2, ih3⟩ := guichetlaw6_BcdNumbers.mono_l k
  unfold guichetlaw6_BcdNumbers.f
  repeat' first
      | (with_reducible exact ih0 _ _ _ _ _ _)
      | (with_reducible exact ih1 _ _ _ _ _)
      | (with_reducible exact ih2 _ _ _ _ _ _ _ _ _)
      | (with_reducible exact ih3 _ _ _ _ _ _ _ _ _ _ _ _ _)
      | (with_reducible exact bcd_Number.mono _ _)
      | (with_reducible exact guichetlaw6_known.mono _)
      | (with_reducible exact guichetref1_Digits.mono _ _ _)
      | (with_reducible exact guichetref1_Num.mono _ _)
      | (with_reducible exact guichetseat_Digits.mono _ _ _)
      | (with_reducible exact LeO.refl _)
      | (with_reducible exact LeO.none _)
      | (with_reducible refine LeO.ite ?_ ?_)
      | (with_reducible refine LeO.bind ?_ (fun _ => ?_))
      | exact ih0 _ _ _ _ _ _
      | exact ih1 _ _ _ _ _
      | exact ih2 _ _ _ _ _ _ _ _ _
      | exact ih3 _ _ _ _ _ _ _ _ _ _ _ _ _
      | exact bcd_Number.mono _ _
      | exact guichetlaw6_known.mono _
      | exact guichetref1_Digits.mono _ _ _
      | exact guichetref1_Num.mono _ _
      | exact guichetseat_Digits.mono _ _ _
      | exact LeO.none _
      | refine LeO.ite ?_ ?_
      | refine LeO.bind ?_ (fun _ => ?_)
set_option maxHeartbeats 8000000 in
set_option maxRecDepth 100000 in
theorem guichetlaw6_BcdNumbers.calls (k : Nat) (a0 : ByteArray) (a1 : Int) (a2 : Int) (a3 : Int) (r : Bool) (w : World) (hT : TAB w) (h : guichetlaw6_BcdNumbers.f k a0 a1 a2 a3 = some r) :
    Calls Tryd.prog 3 #[.string a0, .int .i64 a1, .int .i64 a2, .int .u8 a3] w fun e w' => e = .returned (.bool r) ∧ Below w.heap.size w w' := by
  have HT := Aside0.mk hT
  clear hT
  have HB := Aside0.mk (Below.refl w.heap.size w)
  have H : ((guichetlaw6_known.f k).bind fun t137 => (if t137 = true then (if (a0.size : Int) > 60 then (some true) else ((guichetseat_Digits.f k (IntKind.u64.wrap (a1)) (wrap64 (Int.tmod a3 22))).bind fun t138 => ((some (([a0, t138] : List ByteArray) : List ByteArray)).bind fun y139 => (guichetlaw6_BcdNumbers.l0 k a1 a2 a3 y139 (y139.length : Int) 0)))) else (some false))) = some r := h
  clear h
  replace H := Option.bind_eq_some_iff.mp H
  obtain ⟨t137, A50, H⟩ := H
  replace H : (if t137 = true then (if (a0.size : Int) > 60 then (some true) else ((guichetseat_Digits.f k (IntKind.u64.wrap (a1)) (wrap64 (Int.tmod a3 22))).bind fun t138 => ((some (([a0, t138] : List ByteArray) : List ByteArray)).bind fun y139 => (guichetlaw6_BcdNumbers.l0 k a1 a2 a3 y139 (y139.length : Int) 0)))) else (some false)) = some r := H
  have A5 := Aside0.mk A50
  clear A50
  by_cases c6 : t137 = true
  · subst c6
    have H1 : (if (a0.size : Int) > 60 then (some true) else ((guichetseat_Digits.f k (IntKind.u64.wrap (a1)) (wrap64 (Int.tmod a3 22))).bind fun t138 => ((some (([a0, t138] : List ByteArray) : List ByteArray)).bind fun y139 => (guichetlaw6_BcdNumbers.l0 k a1 a2 a3 y139 (y139.length : Int) 0)))) = some r := by rw [if_pos rfl] at H; exact H
    clear H
    have H := H1
    clear H1
    by_cases c7 : (a0.size : Int) > 60
    · rw [if_pos c7] at H
      have c7b0 : decide (60 < (a0.size : Int)) = true := decide_eq_true c7
      have c7b1 : decide (60 < a0.size) = true := decide_eq_true (by omega)
      clear c7
      obtain rfl := Option.some.inj H
      go_enter Tryd.func3, Tryd.ntmps3
      go_wp2_with (first | ((with_reducible refine gate_callee (f := 6) rfl ?_); refine goesL_ (some 25) rfl rfl Tryd.func6 (by kernel_rfl) rfl #[] rfl (by (try simp only [List.map_toArray, List.map_cons, List.map_nil]); first | done | rfl | (simp only [List.length_drop, List.length_take]; rfl)) ?_; (with_reducible refine (guichetlaw6_known.calls k  true _ ?side1 A5.out).mono ?_); (case side1 => exact tab_at HT.out (by repeat (first | (with_reducible first | exact HB.out | apply below_alloc | apply pw_below_drewN | apply below_drew1) | exact HB.out))); rintro e w8 ⟨rfl, hb⟩; refine ⟨_, rfl, ?_⟩; have n0_ := Aside0.mk (below_step (by repeat (first | (with_reducible first | exact HB.out | apply below_alloc | apply pw_below_drewN | apply below_drew1) | exact HB.out)) hb); clear HB; have HB := n0_; clear n0_; (try clear hb); (try clear hb2); (try clear hk); (try clear hi)))
      go_ret
      exact ⟨by first | rfl | (simp [errW_none, errW_some] <;> rfl) | (simp [*, errW_none, errW_some] <;> rfl), by repeat (first | (with_reducible first | exact HB.out | apply below_alloc | apply pw_below_drewN | apply below_drew1) | exact HB.out)⟩
    · rw [if_neg c7] at H
      have c7b0 : decide (60 < (a0.size : Int)) = false := decide_eq_false c7
      have c7b1 : decide (60 < a0.size) = false := decide_eq_false (by omega)
      clear c7
      replace H := Option.bind_eq_some_iff.mp H
      obtain ⟨t138, A90, H⟩ := H
      replace H : ((some (([a0, t138] : List ByteArray) : List ByteArray)).bind fun y139 => (guichetlaw6_BcdNumbers.l0 k a1 a2 a3 y139 (y139.length : Int) 0)) = some r := H
      have A9 := Aside0.mk A90
      clear A90
      obtain ⟨y139, hy139⟩ : ∃ y_ : List ByteArray, y_ = (([a0, t138] : List ByteArray)) := ⟨_, rfl⟩
      replace H : (guichetlaw6_BcdNumbers.l0 k a1 a2 a3 y139 (y139.length : Int) 0) = some r := by first | (rw [hy139]; with_reducible exact H) | (have H2_ := (Option.bind_some _ _).symm.trans H; rw [hy139]; with_reducible exact H2_) | (have H2_ := (Option.bind_some _ _).symm.trans H; with_reducible exact H2_) | with_reducible exact H | (rw [hy139]; exact H) | exact H
      have Ny139 := Aside0.mk hy139
      clear hy139
      have H' := Aside0.mk H
      clear H
      go_enter Tryd.func3, Tryd.ntmps3
      go_wp2_with (first | ((with_reducible refine gate_callee (f := 6) rfl ?_); refine goesL_ (some 25) rfl rfl Tryd.func6 (by kernel_rfl) rfl #[] rfl (by (try simp only [List.map_toArray, List.map_cons, List.map_nil]); first | done | rfl | (simp only [List.length_drop, List.length_take]; rfl)) ?_; (with_reducible refine (guichetlaw6_known.calls k  true _ ?side1 A5.out).mono ?_); (case side1 => exact tab_at HT.out (by repeat (first | (with_reducible first | exact HB.out | apply below_alloc | apply pw_below_drewN | apply below_drew1) | exact HB.out))); rintro e w10 ⟨rfl, hb⟩; refine ⟨_, rfl, ?_⟩; have n0_ := Aside0.mk (below_step (by repeat (first | (with_reducible first | exact HB.out | apply below_alloc | apply pw_below_drewN | apply below_drew1) | exact HB.out)) hb); clear HB; have HB := n0_; clear n0_; (try clear hb); (try clear hb2); (try clear hk); (try clear hi)) | ((with_reducible refine gate_callee (f := 7) rfl ?_); refine goesL_ (some 36) rfl rfl Tryd.func7 (by kernel_rfl) rfl #[.int .u64 (IntKind.u64.wrap (a1)), .int .i64 (wrap64 (Int.tmod a3 22))] rfl (by (try simp only [List.map_toArray, List.map_cons, List.map_nil]); first | done | rfl | (simp only [List.length_drop, List.length_take]; rfl)) ?_; (with_reducible refine (guichetseat_Digits.calls k (IntKind.u64.wrap (a1)) (wrap64 (Int.tmod a3 22)) t138 _ A9.out).mono ?_); rintro e w11 ⟨rfl, hb⟩; refine ⟨_, rfl, ?_⟩; have n0_ := Aside0.mk (below_step (by repeat (first | (with_reducible first | exact HB.out | apply below_alloc | apply pw_below_drewN | apply below_drew1) | exact HB.out)) hb); clear HB; have HB := n0_; clear n0_; (try clear hb); (try clear hb2); (try clear hk); (try clear hi)) | ((with_reducible refine gate_dst (N := 37) rfl ?_); refine Kd.R_lit Kd.string _ 9 ?hg (N := 37) ?hd (xs := ([a0, t138] : List ByteArray)) (inner := [.string a0, .string t138]) (ok := fun _ => True) (okp := fun _ => True) ?hr ?hp (fun _ hk => hk) trivial (Below.refl _ _) (Nat.le_refl _) (by simp) ?_; (case hd => rfl); (case hg => rfl); (case hr => first | (go_simp; done) | (go_simp; rfl)); (case hp => exact (Reps.one (show Kd.M Kd.string _ _ _ a0 [.string a0] from rfl) (Reps.one (show Kd.M Kd.string _ _ _ t138 [.string t138] from rfl) (Reps.none _ _)))); intro v140 w12 ho13 hb hg_ hnew_; clear hg_ hnew_; (first | rw [← Ny139.out] at ho13 | (simp only [Int.reduceToNat] at ho13; rw [← Ny139.out] at ho13)); have n0_ := Aside0.mk (Kd.R_lower ho13 (below_size (by repeat (first | (with_reducible first | exact HB.out | apply below_alloc | apply pw_below_drewN | apply below_drew1) | exact HB.out)))); have n1_ := Aside0.mk (below_step (by repeat (first | (with_reducible first | exact HB.out | apply below_alloc | apply pw_below_drewN | apply below_drew1) | exact HB.out)) hb); clear HB; have HO141 := n0_; have HB := n1_; clear n0_ n1_; clear hb ho13; obtain ⟨Ao14, co14, eo14⟩ := Kd.R_slice HO141.out; subst eo14))
      go_loopg [39] k (fun kq v39 w' => ∃ (x39_1 : Int), v39 = .int .i64 x39_1 ∧ Aside0 (guichetlaw6_BcdNumbers.l0 kq a1 a2 a3 y139 (y139.length : Int) x39_1 = some r) ∧ Aside0 (kq ≤ k) ∧ Aside0 (Kd.R Kd.string 9 w' w.heap.size (fun _ => True) (.slice Ao14 y139.length co14) y139) ∧ Aside0 (Below w.heap.size w w'))
      case atStart => exact ⟨(0), (by first | rfl | (simp; done) | (simp [*]; done)), H', ⟨Nat.le_refl _⟩, ⟨by (with_reducible repeat (first | apply Kd.R_alloc | apply Kd.R_drewN | apply Kd.R_drew)); exact HO141.out⟩, ⟨by repeat (first | (with_reducible first | exact HB.out | apply below_alloc | apply pw_below_drewN | apply below_drew1) | exact HB.out)⟩⟩
      case round =>
        clear H'
        try clear p2
        try clear c3
        try clear c6
        try clear p6
        try clear c7
        try clear c7b0
        try clear c7b1
        obtain ⟨x39_1, rfl, HA, HK1, HO_37, HB⟩ := hrel
        cases gk with
        | zero => exact absurd HA.out (by simp [guichetlaw6_BcdNumbers.l0])
        | succ k1 =>
          have H := HA.out
          clear HA
          simp only [guichetlaw6_BcdNumbers.l0] at H
          by_cases c15 : x39_1 < (y139.length : Int)
          · rw [if_pos c15] at H
            have c15b0 : decide (x39_1 < (y139.length : Int)) = true := decide_eq_true c15
            clear c15
            by_cases c16 : 0 ≤ x39_1
            · rw [if_pos c16] at H
              have c16b0 : decide (0 ≤ x39_1) = true := decide_eq_true c16
              clear c16
              by_cases c17 : x39_1 < (y139.length : Int)
              · rw [if_pos c17] at H
                have c17b0 : decide (x39_1 < (y139.length : Int)) = true := decide_eq_true c17
                clear c17
                replace H := Option.bind_eq_some_iff.mp H
                obtain ⟨⟨t143, t144⟩, A180, H⟩ := H
                replace H : ((guichetref1_Num.f k1 (rdOf ByteArray.empty y139 x39_1)).bind fun bt145 => (if t143 = bt145.1 then (if (t144 != bt145.2) = true then (some false) else (guichetlaw6_BcdNumbers.l0 k1 a1 a2 a3 y139 (y139.length : Int) (wrap64 (x39_1 + 1)))) else (some false))) = some r := H
                have A18 := Aside0.mk A180
                clear A180
                replace H := Option.bind_eq_some_iff.mp H
                obtain ⟨⟨t145, t146⟩, A190, H⟩ := H
                replace H : (if t143 = t145 then (if (t144 != t146) = true then (some false) else (guichetlaw6_BcdNumbers.l0 k1 a1 a2 a3 y139 (y139.length : Int) (wrap64 (x39_1 + 1)))) else (some false)) = some r := H
                have A19 := Aside0.mk A190
                clear A190
                by_cases c20 : t143 = t145
                · rw [if_pos c20] at H
                  have c20b0 : (t143 == t145) = true := beq_iff_eq.mpr c20
                  have c20b1 : (t143 != t145) = false := bne_eq_false_iff_eq.mpr c20
                  clear c20
                  by_cases c21 : (t144 != t146) = true
                  · rw [if_pos c21] at H
                    have c21b0 : (t144 != t146) = true := c21
                    (try (have c21b1 : decide (t144 = t146) = false := by simpa using c21))
                    (try (have c21b2 : (t144 == t146) = false := by simpa using c21))
                    (try (have c21b3 : ¬ (t144 = t146) := by simpa using c21))
                    clear c21
                    obtain rfl := Option.some.inj H
                    have p142 : 0 ≤ (x39_1 : Int) := of_decide_eq_true (by first | (with_reducible assumption) | assumption)
                    have q142 : x39_1 < (y139.length : Int) := of_decide_eq_true (by first | (with_reducible assumption) | assumption)
                    obtain ⟨ad142, e142, hx142_0⟩ := Kd.at_string (Kd.R_reads' HO_37.out).2.2 x39_1 p142 q142
                    cases e142
                    replace p142 := eq_true p142
                    replace q142 := eq_true q142
                    go_wp2_with (first | ((with_reducible refine gate_callee (f := 8) rfl ?_); refine goesL_ (some 45) rfl rfl Tryd.func8 (by kernel_rfl) rfl #[.string (rdOf ByteArray.empty y139 x39_1)] rfl (by (try simp only [List.map_toArray, List.map_cons, List.map_nil]); first | done | rfl | (simp only [List.length_drop, List.length_take]; rfl)) ?_; (with_reducible refine (bcd_Number.calls k1 (rdOf ByteArray.empty y139 x39_1) t143 t144 _ A18.out).mono ?_); rintro e w22 ⟨rfl, hb⟩; refine ⟨_, rfl, ?_⟩; have n0_ := Aside0.mk (Kd.R_below (by (with_reducible repeat (first | apply Kd.R_alloc | apply Kd.R_drewN | apply Kd.R_drew)); exact HO_37.out) hb); have n1_ := Aside0.mk (below_step (by repeat (first | (with_reducible first | exact HB.out | apply below_alloc | apply pw_below_drewN | apply below_drew1) | exact HB.out)) hb); clear HO_37; clear HB; have HO_37 := n0_; have HB := n1_; clear n0_ n1_; (try clear hb); (try clear hb2); (try clear hk); (try clear hi)) | ((with_reducible refine gate_callee (f := 9) rfl ?_); refine goesL_ (some 50) rfl rfl Tryd.func9 (by kernel_rfl) rfl #[.string (rdOf ByteArray.empty y139 x39_1)] rfl (by (try simp only [List.map_toArray, List.map_cons, List.map_nil]); first | done | rfl | (simp only [List.length_drop, List.length_take]; rfl)) ?_; (with_reducible refine (guichetref1_Num.calls k1 (rdOf ByteArray.empty y139 x39_1) t145 t146 _ A19.out).mono ?_); rintro e w' ⟨rfl, ⟨nd, rfl⟩⟩; refine ⟨_, rfl, ?_⟩))
                    go_ret
                    exact ⟨by first | rfl | (simp [errW_none, errW_some] <;> rfl) | (simp [*, errW_none, errW_some] <;> rfl), by repeat (first | (with_reducible first | exact HB.out | apply below_alloc | apply pw_below_drewN | apply below_drew1) | exact HB.out)⟩
                  · rw [if_neg c21] at H
                    have c21b0 : (t144 != t146) = false := by simpa using c21
                    (try (have c21b1 : decide (t144 = t146) = true := by simpa using c21))
                    (try (have c21b2 : (t144 == t146) = true := by simpa using c21))
                    clear c21
                    have H' := Aside0.mk H
                    clear H
                    have p142 : 0 ≤ (x39_1 : Int) := of_decide_eq_true (by first | (with_reducible assumption) | assumption)
                    have q142 : x39_1 < (y139.length : Int) := of_decide_eq_true (by first | (with_reducible assumption) | assumption)
                    obtain ⟨ad142, e142, hx142_0⟩ := Kd.at_string (Kd.R_reads' HO_37.out).2.2 x39_1 p142 q142
                    cases e142
                    replace p142 := eq_true p142
                    replace q142 := eq_true q142
                    go_wp2_with (first | ((with_reducible refine gate_callee (f := 8) rfl ?_); refine goesL_ (some 45) rfl rfl Tryd.func8 (by kernel_rfl) rfl #[.string (rdOf ByteArray.empty y139 x39_1)] rfl (by (try simp only [List.map_toArray, List.map_cons, List.map_nil]); first | done | rfl | (simp only [List.length_drop, List.length_take]; rfl)) ?_; (with_reducible refine (bcd_Number.calls k1 (rdOf ByteArray.empty y139 x39_1) t143 t144 _ A18.out).mono ?_); rintro e w23 ⟨rfl, hb⟩; refine ⟨_, rfl, ?_⟩; have n0_ := Aside0.mk (Kd.R_below (by (with_reducible repeat (first | apply Kd.R_alloc | apply Kd.R_drewN | apply Kd.R_drew)); exact HO_37.out) hb); have n1_ := Aside0.mk (below_step (by repeat (first | (with_reducible first | exact HB.out | apply below_alloc | apply pw_below_drewN | apply below_drew1) | exact HB.out)) hb); clear HO_37; clear HB; have HO_37 := n0_; have HB := n1_; clear n0_ n1_; (try clear hb); (try clear hb2); (try clear hk); (try clear hi)) | ((with_reducible refine gate_callee (f := 9) rfl ?_); refine goesL_ (some 50) rfl rfl Tryd.func9 (by kernel_rfl) rfl #[.string (rdOf ByteArray.empty y139 x39_1)] rfl (by (try simp only [List.map_toArray, List.map_cons, List.map_nil]); first | done | rfl | (simp only [List.length_drop, List.length_take]; rfl)) ?_; (with_reducible refine (guichetref1_Num.calls k1 (rdOf ByteArray.empty y139 x39_1) t145 t146 _ A19.out).mono ?_); rintro e w' ⟨rfl, ⟨nd, rfl⟩⟩; refine ⟨_, rfl, ?_⟩))
                    go_roundg k1
                    case measure => have := HK1.out; omega
                    case rel => exact ⟨(wrap64 (x39_1 + 1)), (by first | rfl | (simp; done) | (simp [*]; done)), H', ⟨by have := HK1.out; omega⟩, ⟨by (with_reducible repeat (first | apply Kd.R_alloc | apply Kd.R_drewN | apply Kd.R_drew)); exact HO_37.out⟩, ⟨by repeat (first | (with_reducible first | exact HB.out | apply below_alloc | apply pw_below_drewN | apply below_drew1) | exact HB.out)⟩⟩
                · rw [if_neg c20] at H
                  have c20b0 : (t143 == t145) = false := beq_eq_false_iff_ne.mpr c20
                  have c20b1 : (t143 != t145) = true := bne_iff_ne.mpr c20
                  obtain rfl := Option.some.inj H
                  have p142 : 0 ≤ (x39_1 : Int) := of_decide_eq_true (by first | (with_reducible assumption) | assumption)
                  have q142 : x39_1 < (y139.length : Int) := of_decide_eq_true (by first | (with_reducible assumption) | assumption)
                  obtain ⟨ad142, e142, hx142_0⟩ := Kd.at_string (Kd.R_reads' HO_37.out).2.2 x39_1 p142 q142
                  cases e142
                  replace p142 := eq_true p142
                  replace q142 := eq_true q142
                  go_wp2_with (first | ((with_reducible refine gate_callee (f := 8) rfl ?_); refine goesL_ (some 45) rfl rfl Tryd.func8 (by kernel_rfl) rfl #[.string (rdOf ByteArray.empty y139 x39_1)] rfl (by (try simp only [List.map_toArray, List.map_cons, List.map_nil]); first | done | rfl | (simp only [List.length_drop, List.length_take]; rfl)) ?_; (with_reducible refine (bcd_Number.calls k1 (rdOf ByteArray.empty y139 x39_1) t143 t144 _ A18.out).mono ?_); rintro e w24 ⟨rfl, hb⟩; refine ⟨_, rfl, ?_⟩; have n0_ := Aside0.mk (Kd.R_below (by (with_reducible repeat (first | apply Kd.R_alloc | apply Kd.R_drewN | apply Kd.R_drew)); exact HO_37.out) hb); have n1_ := Aside0.mk (below_step (by repeat (first | (with_reducible first | exact HB.out | apply below_alloc | apply pw_below_drewN | apply below_drew1) | exact HB.out)) hb); clear HO_37; clear HB; have HO_37 := n0_; have HB := n1_; clear n0_ n1_; (try clear hb); (try clear hb2); (try clear hk); (try clear hi)) | ((with_reducible refine gate_callee (f := 9) rfl ?_); refine goesL_ (some 50) rfl rfl Tryd.func9 (by kernel_rfl) rfl #[.string (rdOf ByteArray.empty y139 x39_1)] rfl (by (try simp only [List.map_toArray, List.map_cons, List.map_nil]); first | done | rfl | (simp only [List.length_drop, List.length_take]; rfl)) ?_; (with_reducible refine (guichetref1_Num.calls k1 (rdOf ByteArray.empty y139 x39_1) t145 t146 _ A19.out).mono ?_); rintro e w' ⟨rfl, ⟨nd, rfl⟩⟩; refine ⟨_, rfl, ?_⟩))
                  go_ret
                  exact ⟨by first | rfl | (simp [errW_none, errW_some] <;> rfl) | (simp [*, errW_none, errW_some] <;> rfl), by repeat (first | (with_reducible first | exact HB.out | apply below_alloc | apply pw_below_drewN | apply below_drew1) | exact HB.out)⟩
              · rw [if_neg c17] at H
                exact absurd H (by simp)
            · rw [if_neg c16] at H
              exact absurd H (by simp)
          · rw [if_neg c15] at H
            have c15b0 : decide (x39_1 < (y139.length : Int)) = false := decide_eq_false c15
            clear c15
            obtain ⟨y147, hy147⟩ : ∃ y_ : List Int, y_ = (([a2, Go.bits .and .i64 a2 31] : List Int)) := ⟨_, rfl⟩
            replace H : (guichetlaw6_BcdNumbers.l1 k1 a1 a3 y147 (y147.length : Int) 0) = some r := by first | (rw [hy147]; with_reducible exact H) | (have H2_ := (Option.bind_some _ _).symm.trans H; rw [hy147]; with_reducible exact H2_) | (have H2_ := (Option.bind_some _ _).symm.trans H; with_reducible exact H2_) | with_reducible exact H | (rw [hy147]; exact H) | exact H
            have Ny147 := Aside0.mk hy147
            clear hy147
            have H' := Aside0.mk H
            clear H
            go_wp2_with (first | ((with_reducible refine gate_dst (N := 65) rfl ?_); refine Kd.R_lit (Kd.int .i64) _ 3 ?hg (N := 65) ?hd (xs := ([a2, Go.bits .and .i64 a2 31] : List Int)) (inner := [.int .i64 a2, .int .i64 (Go.bits .and .i64 a2 31)]) (ok := fun _ => True) (okp := fun _ => True) ?hr ?hp (fun _ hk => hk) trivial (Below.refl _ _) (Nat.le_refl _) (by simp) ?_; (case hd => rfl); (case hg => rfl); (case hr => first | (go_simp; done) | (go_simp; rfl)); (case hp => exact (Reps.one (show Kd.M (Kd.int .i64) _ _ _ a2 [.int .i64 a2] from rfl) (Reps.one (show Kd.M (Kd.int .i64) _ _ _ (Go.bits .and .i64 a2 31) [.int .i64 (Go.bits .and .i64 a2 31)] from rfl) (Reps.none _ _)))); intro v148 w25 ho26 hb hg_ hnew_; clear hg_ hnew_; (first | rw [← Ny147.out] at ho26 | (simp only [Int.reduceToNat] at ho26; rw [← Ny147.out] at ho26)); have n0_ := Aside0.mk (Kd.R_below (by (with_reducible repeat (first | apply Kd.R_alloc | apply Kd.R_drewN | apply Kd.R_drew)); exact HO_37.out) hb); have n1_ := Aside0.mk (Kd.R_lower ho26 (below_size (by repeat (first | (with_reducible first | exact HB.out | apply below_alloc | apply pw_below_drewN | apply below_drew1) | exact HB.out)))); have n2_ := Aside0.mk (below_step (by repeat (first | (with_reducible first | exact HB.out | apply below_alloc | apply pw_below_drewN | apply below_drew1) | exact HB.out)) hb); clear HO_37; clear HB; have HO_37 := n0_; have HO149 := n1_; have HB := n2_; clear n0_ n1_ n2_; clear hb ho26; obtain ⟨Ao27, co27, eo27⟩ := Kd.R_slice HO149.out; subst eo27))
            go_loopg [67] k1 (fun kq v67 w' => ∃ (x67_2 : Int), v67 = .int .i64 x67_2 ∧ Aside0 (guichetlaw6_BcdNumbers.l1 kq a1 a3 y147 (y147.length : Int) x67_2 = some r) ∧ Aside0 (kq ≤ k1) ∧ Aside0 (Kd.R (Kd.int .i64) 3 w' w.heap.size (fun _ => True) (.slice Ao27 y147.length co27) y147) ∧ Aside0 (Below w.heap.size w w'))
            case atStart => exact ⟨(0), (by first | rfl | (simp; done) | (simp [*]; done)), H', ⟨Nat.le_refl _⟩, ⟨by (with_reducible repeat (first | apply Kd.R_alloc | apply Kd.R_drewN | apply Kd.R_drew)); exact HO149.out⟩, ⟨by repeat (first | (with_reducible first | exact HB.out | apply below_alloc | apply pw_below_drewN | apply below_drew1) | exact HB.out)⟩⟩
            case round =>
              clear H'
              try clear c1
              try clear p1
              try clear q1
              try clear hx1
              try clear c2
              try clear p2
              try clear c3
              try clear c6
              try clear p6
              try clear c7
              try clear c7b0
              try clear c7b1
              try clear c8
              try clear c9
              try clear p14
              try clear q14
              try clear hx14
              try clear c15
              try clear c15b0
              try clear c16
              try clear c16b0
              try clear c17
              try clear c17b0
              try clear c20
              try clear c20b0
              try clear c20b1
              try clear c21
              try clear c21b0
              try clear c21b1
              try clear c21b2
              try clear hx142_0
              try clear p142
              try clear p2
              try clear p6
              try clear q142
              obtain ⟨x67_2, rfl, HA, HK2, HO_65, HB⟩ := hrel
              cases gk with
              | zero => exact absurd HA.out (by simp [guichetlaw6_BcdNumbers.l1])
              | succ k2 =>
                have H := HA.out
                clear HA
                simp only [guichetlaw6_BcdNumbers.l1] at H
                by_cases c28 : x67_2 < (y147.length : Int)
                · rw [if_pos c28] at H
                  have c28b0 : decide (x67_2 < (y147.length : Int)) = true := decide_eq_true c28
                  clear c28
                  by_cases c29 : 0 ≤ x67_2
                  · rw [if_pos c29] at H
                    have c29b0 : decide (0 ≤ x67_2) = true := decide_eq_true c29
                    clear c29
                    by_cases c30 : x67_2 < (y147.length : Int)
                    · rw [if_pos c30] at H
                      have c30b0 : decide (x67_2 < (y147.length : Int)) = true := decide_eq_true c30
                      clear c30
                      by_cases c31 : 0 ≤ (Go.bits .and .u8 a3 63)
                      · rw [if_pos c31] at H
                        have c31b0 := eq_true c31
                        have c31b1 : decide (0 ≤ (Go.bits .and .u8 a3 63)) = true := decide_eq_true c31
                        clear c31
                        obtain ⟨ji32, hji32⟩ : ∃ j_ : Int, (shr .i64 a1 (Go.bits .and .u8 a3 63)) = j_ := ⟨_, rfl⟩
                        replace H : ((some (([a1, ji32] : List Int) : List Int)).bind fun y151 => (guichetlaw6_BcdNumbers.l2 k2 a1 a3 (rd y147 x67_2) y147 (y147.length : Int) x67_2 y151 (y151.length : Int) 0)) = some r := by first | (rw [hji32] at H; exact H) | (simp only [hji32] at H ⊢; exact H)
                        have hji32_ : (a1 / 2 ^ min (Go.bits .and .u8 a3 63).toNat 64) = ji32 := hji32
                        have hji32z : (Go.bits .and .u8 a3 63) ≤ 64 → (a1 / 2 ^ (Go.bits .and .u8 a3 63).toNat) = ji32 := shr_small hji32
                        obtain ⟨y151, hy151⟩ : ∃ y_ : List Int, y_ = (([a1, ji32] : List Int)) := ⟨_, rfl⟩
                        replace H : (guichetlaw6_BcdNumbers.l2 k2 a1 a3 (rd y147 x67_2) y147 (y147.length : Int) x67_2 y151 (y151.length : Int) 0) = some r := by first | (rw [hy151]; with_reducible exact H) | (have H2_ := (Option.bind_some _ _).symm.trans H; rw [hy151]; with_reducible exact H2_) | (have H2_ := (Option.bind_some _ _).symm.trans H; with_reducible exact H2_) | with_reducible exact H | (rw [hy151]; exact H) | exact H
                        have Ny151 := Aside0.mk hy151
                        clear hy151
                        have H' := Aside0.mk H
                        clear H
                        have p150 : 0 ≤ (x67_2 : Int) := of_decide_eq_true (by first | (with_reducible assumption) | assumption)
                        have q150 : x67_2 < (y147.length : Int) := of_decide_eq_true (by first | (with_reducible assumption) | assumption)
                        obtain ⟨ad150, e150, hx150_0⟩ := Kd.at_int (Kd.R_reads' HO_65.out).2.2 x67_2 p150 q150
                        cases e150
                        replace p150 := eq_true p150
                        replace q150 := eq_true q150
                        go_wp2_with (first | ((with_reducible refine gate_dst (N := 76) rfl ?_); refine Kd.R_lit (Kd.int .i64) _ 2 ?hg (N := 76) ?hd (xs := ([a1, ji32] : List Int)) (inner := [.int .i64 a1, .int .i64 ji32]) (ok := fun _ => True) (okp := fun _ => True) ?hr ?hp (fun _ hk => hk) trivial (Below.refl _ _) (Nat.le_refl _) (by simp) ?_; (case hd => rfl); (case hg => rfl); (case hr => first | (go_simp; done) | (go_simp; rfl)); (case hp => exact (Reps.one (show Kd.M (Kd.int .i64) _ _ _ a1 [.int .i64 a1] from rfl) (Reps.one (show Kd.M (Kd.int .i64) _ _ _ ji32 [.int .i64 ji32] from rfl) (Reps.none _ _)))); intro v152 w33 ho34 hb hg_ hnew_; clear hg_ hnew_; (first | rw [← Ny151.out] at ho34 | (simp only [Int.reduceToNat] at ho34; rw [← Ny151.out] at ho34)); have n0_ := Aside0.mk (Kd.R_below (by (with_reducible repeat (first | apply Kd.R_alloc | apply Kd.R_drewN | apply Kd.R_drew)); exact HO_65.out) hb); have n1_ := Aside0.mk (Kd.R_lower ho34 (below_size (by repeat (first | (with_reducible first | exact HB.out | apply below_alloc | apply pw_below_drewN | apply below_drew1) | exact HB.out)))); have n2_ := Aside0.mk (below_step (by repeat (first | (with_reducible first | exact HB.out | apply below_alloc | apply pw_below_drewN | apply below_drew1) | exact HB.out)) hb); clear HO_65; clear HB; have HO_65 := n0_; have HO153 := n1_; have HB := n2_; clear n0_ n1_ n2_; clear hb ho34; obtain ⟨Ao35, co35, eo35⟩ := Kd.R_slice HO153.out; subst eo35))
                        go_loopg [78] k2 (fun kq v78 w' => ∃ (x78_3 : Int), v78 = .int .i64 x78_3 ∧ Aside0 (guichetlaw6_BcdNumbers.l2 kq a1 a3 (rd y147 x67_2) y147 (y147.length : Int) x67_2 y151 (y151.length : Int) x78_3 = some r) ∧ Aside0 (kq ≤ k2) ∧ Aside0 (Kd.R (Kd.int .i64) 3 w' w.heap.size (fun _ => True) (.slice (some ad150) y147.length co27) y147) ∧ Aside0 (Kd.R (Kd.int .i64) 2 w' w.heap.size (fun _ => True) (.slice Ao35 y151.length co35) y151) ∧ Aside0 (Below w.heap.size w w'))
                        case atStart => exact ⟨(0), (by first | rfl | (simp; done) | (simp [*]; done)), H', ⟨Nat.le_refl _⟩, ⟨by (with_reducible repeat (first | apply Kd.R_alloc | apply Kd.R_drewN | apply Kd.R_drew)); exact HO_65.out⟩, ⟨by (with_reducible repeat (first | apply Kd.R_alloc | apply Kd.R_drewN | apply Kd.R_drew)); exact HO153.out⟩, ⟨by repeat (first | (with_reducible first | exact HB.out | apply below_alloc | apply pw_below_drewN | apply below_drew1) | exact HB.out)⟩⟩
                        case round =>
                          clear H'
                          try clear c1
                          try clear p1
                          try clear q1
                          try clear hx1
                          try clear c2
                          try clear p2
                          try clear c3
                          try clear c6
                          try clear p6
                          try clear c7
                          try clear c7b0
                          try clear c7b1
                          try clear c8
                          try clear c9
                          try clear p14
                          try clear q14
                          try clear hx14
                          try clear c15
                          try clear c15b0
                          try clear p15
                          try clear q15
                          try clear hx15
                          try clear c16
                          try clear c16b0
                          try clear c17
                          try clear c17b0
                          try clear c20
                          try clear c20b0
                          try clear c20b1
                          try clear c21
                          try clear c21b0
                          try clear c21b1
                          try clear c21b2
                          try clear c28
                          try clear c28b0
                          try clear c29
                          try clear c29b0
                          try clear c30
                          try clear c30b0
                          try clear c31
                          try clear c31b0
                          try clear c31b1
                          try clear hx142_0
                          try clear hx150_0
                          try clear p1
                          try clear p14
                          try clear p142
                          try clear p150
                          try clear p2
                          try clear p6
                          try clear q1
                          try clear q14
                          try clear q142
                          try clear q150
                          obtain ⟨x78_3, rfl, HA, HK3, HO_65, HO_76, HB⟩ := hrel
                          cases gk with
                          | zero => exact absurd HA.out (by simp [guichetlaw6_BcdNumbers.l2])
                          | succ k3 =>
                            have H := HA.out
                            clear HA
                            simp only [guichetlaw6_BcdNumbers.l2] at H
                            by_cases c36 : x78_3 < (y151.length : Int)
                            · rw [if_pos c36] at H
                              have c36b0 : decide (x78_3 < (y151.length : Int)) = true := decide_eq_true c36
                              clear c36
                              by_cases c37 : 0 ≤ x78_3
                              · rw [if_pos c37] at H
                                have c37b0 : decide (0 ≤ x78_3) = true := decide_eq_true c37
                                clear c37
                                by_cases c38 : x78_3 < (y151.length : Int)
                                · rw [if_pos c38] at H
                                  have c38b0 : decide (x78_3 < (y151.length : Int)) = true := decide_eq_true c38
                                  clear c38
                                  replace H := Option.bind_eq_some_iff.mp H
                                  obtain ⟨⟨t155, t156⟩, A390, H⟩ := H
                                  replace H : ((guichetref1_Digits.f k3 (rd y151 x78_3) (rd y147 x67_2)).bind fun bt157 => (if t155.toList = bt157.1.toList then (guichetlaw6_BcdNumbers.j3 k3 a1 a3 (rd y147 x67_2) (rd y151 x78_3) t155 t156 y147 (y147.length : Int) x67_2 y151 (y151.length : Int) x78_3 (t156 != bt157.2)) else (guichetlaw6_BcdNumbers.j3 k3 a1 a3 (rd y147 x67_2) (rd y151 x78_3) t155 t156 y147 (y147.length : Int) x67_2 y151 (y151.length : Int) x78_3 true))) = some r := H
                                  have A39 := Aside0.mk A390
                                  clear A390
                                  replace H := Option.bind_eq_some_iff.mp H
                                  obtain ⟨⟨t157, t158⟩, A400, H⟩ := H
                                  replace H : (if t155.toList = t157.toList then (guichetlaw6_BcdNumbers.j3 k3 a1 a3 (rd y147 x67_2) (rd y151 x78_3) t155 t156 y147 (y147.length : Int) x67_2 y151 (y151.length : Int) x78_3 (t156 != t158)) else (guichetlaw6_BcdNumbers.j3 k3 a1 a3 (rd y147 x67_2) (rd y151 x78_3) t155 t156 y147 (y147.length : Int) x67_2 y151 (y151.length : Int) x78_3 true)) = some r := H
                                  have A40 := Aside0.mk A400
                                  clear A400
                                  have HC41 := Aside0.mk H
                                  clear H
                                  have p154 : 0 ≤ (x78_3 : Int) := of_decide_eq_true (by first | (with_reducible assumption) | assumption)
                                  have q154 : x78_3 < (y151.length : Int) := of_decide_eq_true (by first | (with_reducible assumption) | assumption)
                                  obtain ⟨ad154, e154, hx154_0⟩ := Kd.at_int (Kd.R_reads' HO_76.out).2.2 x78_3 p154 q154
                                  cases e154
                                  replace p154 := eq_true p154
                                  replace q154 := eq_true q154
                                  go_upto_region 21 with (first | ((with_reducible refine gate_callee (f := 10) rfl ?_); refine goesL_ (some 85) rfl rfl Tryd.func10 (by kernel_rfl) rfl #[.int .i64 (rd y151 x78_3), .int .i64 (rd y147 x67_2)] rfl (by (try simp only [List.map_toArray, List.map_cons, List.map_nil]); first | done | rfl | (simp only [List.length_drop, List.length_take]; rfl)) ?_; (with_reducible refine (bcd_Digits.calls (rd y151 x78_3) (rd y147 x67_2) t155 t156 _ ?side1 A39.out).mono ?_); (case side1 => exact tab_at HT.out (by repeat (first | (with_reducible first | exact HB.out | apply below_alloc | apply pw_below_drewN | apply below_drew1) | exact HB.out))); rintro e w42 ⟨rfl, hb⟩; refine ⟨_, rfl, ?_⟩; have n0_ := Aside0.mk (Kd.R_below (by (with_reducible repeat (first | apply Kd.R_alloc | apply Kd.R_drewN | apply Kd.R_drew)); exact HO_65.out) hb); have n1_ := Aside0.mk (Kd.R_below (by (with_reducible repeat (first | apply Kd.R_alloc | apply Kd.R_drewN | apply Kd.R_drew)); exact HO_76.out) hb); have n2_ := Aside0.mk (below_step (by repeat (first | (with_reducible first | exact HB.out | apply below_alloc | apply pw_below_drewN | apply below_drew1) | exact HB.out)) hb); clear HO_65; clear HO_76; clear HB; have HO_65 := n0_; have HO_76 := n1_; have HB := n2_; clear n0_ n1_ n2_; (try clear hb); (try clear hb2); (try clear hk); (try clear hi)) | ((with_reducible refine gate_callee (f := 11) rfl ?_); refine goesL_ (some 91) rfl rfl Tryd.func11 (by kernel_rfl) rfl #[.int .i64 (rd y151 x78_3), .int .i64 (rd y147 x67_2)] rfl (by (try simp only [List.map_toArray, List.map_cons, List.map_nil]); first | done | rfl | (simp only [List.length_drop, List.length_take]; rfl)) ?_; (with_reducible refine (guichetref1_Digits.calls k3 (rd y151 x78_3) (rd y147 x67_2) t157 t158 _ A40.out).mono ?_); rintro e w' ⟨rfl, ⟨nd, rfl⟩⟩; refine ⟨_, rfl, ?_⟩))
                                  (try simp only [Act.put, List.setIfInBounds_toArray, List.set_cons_zero, List.set_cons_succ])
                                  go_cut [101] (fun v101 wc => ∃ (kq : Nat) (x101_40 : Bool), v101 = .bool x101_40 ∧ Aside0 (guichetlaw6_BcdNumbers.j3 kq a1 a3 (rd y147 x67_2) (rd y151 x78_3) t155 t156 y147 (y147.length : Int) x67_2 y151 (y151.length : Int) x78_3 x101_40 = some r) ∧ Aside0 (kq ≤ k3) ∧ Aside0 (Kd.R (Kd.int .i64) 3 wc w.heap.size (fun _ => True) (.slice (some ad150) y147.length co27) y147) ∧ Aside0 (Kd.R (Kd.int .i64) 2 wc w.heap.size (fun _ => True) (.slice (some ad154) y151.length co35) y151) ∧ Aside0 (Below w.heap.size w wc))
                                  case first =>
                                    have H := HC41.out
                                    clear HC41
                                    by_cases c43 : t155.toList = t157.toList
                                    · rw [if_pos c43] at H
                                      have c43b0 : (t155.toList == t157.toList) = true := beq_iff_eq.mpr c43
                                      have c43b1 : (t155.toList != t157.toList) = false := bne_eq_false_iff_eq.mpr c43
                                      clear c43
                                      (first | rw [c43b0] | (simp only [i64_w, i32_w]; rw [c43b0]) | skip)
                                      have H' := Aside0.mk H
                                      clear H
                                      go_wp2
                                      go_meet
                                      case rel => exact ⟨_, ((t156 != t158)), (by first | rfl | (simp; done) | (simp [*]; done)), H', ⟨by have := HK1.out; have := HK2.out; have := HK3.out; first | omega | exact Nat.le_refl _⟩, ⟨by (with_reducible repeat (first | apply Kd.R_alloc | apply Kd.R_drewN | apply Kd.R_drew)); exact HO_65.out⟩, ⟨by (with_reducible repeat (first | apply Kd.R_alloc | apply Kd.R_drewN | apply Kd.R_drew)); exact HO_76.out⟩, ⟨by repeat (first | (with_reducible first | exact HB.out | apply below_alloc | apply pw_below_drewN | apply below_drew1) | exact HB.out)⟩⟩
                                    · rw [if_neg c43] at H
                                      have c43b0 : (t155.toList == t157.toList) = false := beq_eq_false_iff_ne.mpr c43
                                      have c43b1 : (t155.toList != t157.toList) = true := bne_iff_ne.mpr c43
                                      (first | rw [c43b0] | (simp only [i64_w, i32_w]; rw [c43b0]) | skip)
                                      have H' := Aside0.mk H
                                      clear H
                                      go_wp2
                                      go_meet
                                      case rel => exact ⟨_, (true), (by first | rfl | (simp; done) | (simp [*]; done)), H', ⟨by have := HK1.out; have := HK2.out; have := HK3.out; first | omega | exact Nat.le_refl _⟩, ⟨by (with_reducible repeat (first | apply Kd.R_alloc | apply Kd.R_drewN | apply Kd.R_drew)); exact HO_65.out⟩, ⟨by (with_reducible repeat (first | apply Kd.R_alloc | apply Kd.R_drewN | apply Kd.R_drew)); exact HO_76.out⟩, ⟨by repeat (first | (with_reducible first | exact HB.out | apply below_alloc | apply pw_below_drewN | apply below_drew1) | exact HB.out)⟩⟩
                                  case rest =>
                                    clear HC41
                                    try clear c1
                                    try clear p1
                                    try clear q1
                                    try clear hx1
                                    try clear c2
                                    try clear p2
                                    try clear c3
                                    try clear c4
                                    try clear c6
                                    try clear p6
                                    try clear c7
                                    try clear c7b0
                                    try clear c7b1
                                    try clear c8
                                    try clear c9
                                    try clear c10
                                    try clear c11
                                    try clear p14
                                    try clear q14
                                    try clear hx14
                                    try clear c15
                                    try clear c15b0
                                    try clear p15
                                    try clear q15
                                    try clear hx15
                                    try clear c16
                                    try clear c16b0
                                    try clear c17
                                    try clear c17b0
                                    try clear c20
                                    try clear c20b0
                                    try clear c20b1
                                    try clear c21
                                    try clear c21b0
                                    try clear c21b1
                                    try clear c21b2
                                    try clear c28
                                    try clear c28b0
                                    try clear c29
                                    try clear c29b0
                                    try clear c30
                                    try clear c30b0
                                    try clear c31
                                    try clear c31b0
                                    try clear c31b1
                                    try clear c36
                                    try clear c36b0
                                    try clear c37
                                    try clear c37b0
                                    try clear c38
                                    try clear c38b0
                                    try clear c43
                                    try clear c43b0
                                    try clear c43b1
                                    try clear hx142_0
                                    try clear hx150_0
                                    try clear hx154_0
                                    try clear p1
                                    try clear p14
                                    try clear p142
                                    try clear p15
                                    try clear p150
                                    try clear p154
                                    try clear p2
                                    try clear p6
                                    try clear q1
                                    try clear q14
                                    try clear q142
                                    try clear q15
                                    try clear q150
                                    try clear q154
                                    obtain ⟨kq, x101_40, rfl, HA, HJ40, HO_65, HO_76, HB⟩ := hcut
                                    cases kq with
                                    | zero => exact absurd HA.out (by simp [guichetlaw6_BcdNumbers.j3])
                                    | succ kj40 =>
                                      have H := HA.out
                                      clear HA
                                      simp only [guichetlaw6_BcdNumbers.j3] at H
                                      by_cases c44 : x101_40 = true
                                      · subst c44
                                        have H1 : (some false) = some r := by rw [if_pos rfl] at H; exact H
                                        clear H
                                        have H := H1
                                        clear H1
                                        obtain rfl := Option.some.inj H
                                        go_wp2
                                        go_ret
                                        exact ⟨by first | rfl | (simp [errW_none, errW_some] <;> rfl) | (simp only [← hji32]; first | rfl | (simp [errW_none, errW_some] <;> rfl)) | (simp [*, errW_none, errW_some] <;> rfl), by repeat (first | (with_reducible first | exact HB.out | apply below_alloc | apply pw_below_drewN | apply below_drew1) | exact HB.out)⟩
                                      · replace c44 := Bool.eq_false_iff.mpr c44
                                        subst c44
                                        have H1 : ((bcd_Number.f kj40 t155).bind fun bt159 => (if t156 = true then (if bt159.2 = true then (if bt159.1 = (rd y151 x78_3) then (guichetlaw6_BcdNumbers.l2 kj40 a1 a3 (rd y147 x67_2) y147 (y147.length : Int) x67_2 y151 (y151.length : Int) (wrap64 (x78_3 + 1))) else (some false)) else (some false)) else (guichetlaw6_BcdNumbers.l2 kj40 a1 a3 (rd y147 x67_2) y147 (y147.length : Int) x67_2 y151 (y151.length : Int) (wrap64 (x78_3 + 1))))) = some r := by rw [if_neg (show ¬ (false = true) by decide)] at H; exact H
                                        clear H
                                        have H := H1
                                        clear H1
                                        replace H := Option.bind_eq_some_iff.mp H
                                        obtain ⟨⟨t159, t160⟩, A450, H⟩ := H
                                        replace H : (if t156 = true then (if t160 = true then (if t159 = (rd y151 x78_3) then (guichetlaw6_BcdNumbers.l2 kj40 a1 a3 (rd y147 x67_2) y147 (y147.length : Int) x67_2 y151 (y151.length : Int) (wrap64 (x78_3 + 1))) else (some false)) else (some false)) else (guichetlaw6_BcdNumbers.l2 kj40 a1 a3 (rd y147 x67_2) y147 (y147.length : Int) x67_2 y151 (y151.length : Int) (wrap64 (x78_3 + 1)))) = some r := H
                                        have A45 := Aside0.mk A450
                                        clear A450
                                        by_cases c46 : t156 = true
                                        · subst c46
                                          have H1 : (if t160 = true then (if t159 = (rd y151 x78_3) then (guichetlaw6_BcdNumbers.l2 kj40 a1 a3 (rd y147 x67_2) y147 (y147.length : Int) x67_2 y151 (y151.length : Int) (wrap64 (x78_3 + 1))) else (some false)) else (some false)) = some r := by rw [if_pos rfl] at H; exact H
                                          clear H
                                          have H := H1
                                          clear H1
                                          by_cases c47 : t160 = true
                                          · subst c47
                                            have H1 : (if t159 = (rd y151 x78_3) then (guichetlaw6_BcdNumbers.l2 kj40 a1 a3 (rd y147 x67_2) y147 (y147.length : Int) x67_2 y151 (y151.length : Int) (wrap64 (x78_3 + 1))) else (some false)) = some r := by rw [if_pos rfl] at H; exact H
                                            clear H
                                            have H := H1
                                            clear H1
                                            by_cases c48 : t159 = (rd y151 x78_3)
                                            · rw [if_pos c48] at H
                                              have c48b0 : (t159 == (rd y151 x78_3)) = true := beq_iff_eq.mpr c48
                                              have c48b1 : (t159 != (rd y151 x78_3)) = false := bne_eq_false_iff_eq.mpr c48
                                              clear c48
                                              have H' := Aside0.mk H
                                              clear H
                                              go_wp2_with (first | ((with_reducible refine gate_callee (f := 8) rfl ?_); refine goesL_ (some 104) rfl rfl Tryd.func8 (by kernel_rfl) rfl #[.string t155] rfl (by (try simp only [List.map_toArray, List.map_cons, List.map_nil]); first | done | rfl | (simp only [List.length_drop, List.length_take]; rfl)) ?_; (with_reducible refine (bcd_Number.calls kj40 t155 t159 true _ A45.out).mono ?_); rintro e w49 ⟨rfl, hb⟩; refine ⟨_, rfl, ?_⟩; have n0_ := Aside0.mk (Kd.R_below (by (with_reducible repeat (first | apply Kd.R_alloc | apply Kd.R_drewN | apply Kd.R_drew)); exact HO_65.out) hb); have n1_ := Aside0.mk (Kd.R_below (by (with_reducible repeat (first | apply Kd.R_alloc | apply Kd.R_drewN | apply Kd.R_drew)); exact HO_76.out) hb); have n2_ := Aside0.mk (below_step (by repeat (first | (with_reducible first | exact HB.out | apply below_alloc | apply pw_below_drewN | apply below_drew1) | exact HB.out)) hb); clear HO_65; clear HO_76; clear HB; have HO_65 := n0_; have HO_76 := n1_; have HB := n2_; clear n0_ n1_ n2_; (try clear hb); (try clear hb2); (try clear hk); (try clear hi)))
                                              go_roundg kj40
                                              case measure => have := HK1.out; have := HK2.out; have := HK3.out; have := HJ40.out; omega
                                              case rel => exact ⟨(wrap64 (x78_3 + 1)), (by first | rfl | (simp; done) | (simp [*]; done)), H', ⟨by have := HK1.out; have := HK2.out; have := HK3.out; have := HJ40.out; omega⟩, ⟨by (with_reducible repeat (first | apply Kd.R_alloc | apply Kd.R_drewN | apply Kd.R_drew)); exact HO_65.out⟩, ⟨by (with_reducible repeat (first | apply Kd.R_alloc | apply Kd.R_drewN | apply Kd.R_drew)); exact HO_76.out⟩, ⟨by repeat (first | (with_reducible first | exact HB.out | apply below_alloc | apply pw_below_drewN | apply below_drew1) | exact HB.out)⟩⟩
                                            · rw [if_neg c48] at H
                                              have c48b0 : (t159 == (rd y151 x78_3)) = false := beq_eq_false_iff_ne.mpr c48
                                              have c48b1 : (t159 != (rd y151 x78_3)) = true := bne_iff_ne.mpr c48
                                              obtain rfl := Option.some.inj H
                                              go_wp2_with (first | ((with_reducible refine gate_callee (f := 8) rfl ?_); refine goesL_ (some 104) rfl rfl Tryd.func8 (by kernel_rfl) rfl #[.string t155] rfl (by (try simp only [List.map_toArray, List.map_cons, List.map_nil]); first | done | rfl | (simp only [List.length_drop, List.length_take]; rfl)) ?_; (with_reducible refine (bcd_Number.calls kj40 t155 t159 true _ A45.out).mono ?_); rintro e w50 ⟨rfl, hb⟩; refine ⟨_, rfl, ?_⟩; have n0_ := Aside0.mk (Kd.R_below (by (with_reducible repeat (first | apply Kd.R_alloc | apply Kd.R_drewN | apply Kd.R_drew)); exact HO_65.out) hb); have n1_ := Aside0.mk (Kd.R_below (by (with_reducible repeat (first | apply Kd.R_alloc | apply Kd.R_drewN | apply Kd.R_drew)); exact HO_76.out) hb); have n2_ := Aside0.mk (below_step (by repeat (first | (with_reducible first | exact HB.out | apply below_alloc | apply pw_below_drewN | apply below_drew1) | exact HB.out)) hb); clear HO_65; clear HO_76; clear HB; have HO_65 := n0_; have HO_76 := n1_; have HB := n2_; clear n0_ n1_ n2_; (try clear hb); (try clear hb2); (try clear hk); (try clear hi)))
                                              go_ret
                                              exact ⟨by first | rfl | (simp [errW_none, errW_some] <;> rfl) | (simp only [← hji32]; first | rfl | (simp [errW_none, errW_some] <;> rfl)) | (simp [*, errW_none, errW_some] <;> rfl), by repeat (first | (with_reducible first | exact HB.out | apply below_alloc | apply pw_below_drewN | apply below_drew1) | exact HB.out)⟩
                                          · replace c47 := Bool.eq_false_iff.mpr c47
                                            subst c47
                                            have H1 : (some false) = some r := by rw [if_neg (show ¬ (false = true) by decide)] at H; exact H
                                            clear H
                                            have H := H1
                                            clear H1
                                            obtain rfl := Option.some.inj H
                                            go_wp2_with (first | ((with_reducible refine gate_callee (f := 8) rfl ?_); refine goesL_ (some 104) rfl rfl Tryd.func8 (by kernel_rfl) rfl #[.string t155] rfl (by (try simp only [List.map_toArray, List.map_cons, List.map_nil]); first | done | rfl | (simp only [List.length_drop, List.length_take]; rfl)) ?_; (with_reducible refine (bcd_Number.calls kj40 t155 t159 false _ A45.out).mono ?_); rintro e w51 ⟨rfl, hb⟩; refine ⟨_, rfl, ?_⟩; have n0_ := Aside0.mk (Kd.R_below (by (with_reducible repeat (first | apply Kd.R_alloc | apply Kd.R_drewN | apply Kd.R_drew)); exact HO_65.out) hb); have n1_ := Aside0.mk (Kd.R_below (by (with_reducible repeat (first | apply Kd.R_alloc | apply Kd.R_drewN | apply Kd.R_drew)); exact HO_76.out) hb); have n2_ := Aside0.mk (below_step (by repeat (first | (with_reducible first | exact HB.out | apply below_alloc | apply pw_below_drewN | apply below_drew1) | exact HB.out)) hb); clear HO_65; clear HO_76; clear HB; have HO_65 := n0_; have HO_76 := n1_; have HB := n2_; clear n0_ n1_ n2_; (try clear hb); (try clear hb2); (try clear hk); (try clear hi)))
                                            go_ret
                                            exact ⟨by first | rfl | (simp [errW_none, errW_some] <;> rfl) | (simp only [← hji32]; first | rfl | (simp [errW_none, errW_some] <;> rfl)) | (simp [*, errW_none, errW_some] <;> rfl), by repeat (first | (with_reducible first | exact HB.out | apply below_alloc | apply pw_below_drewN | apply below_drew1) | exact HB.out)⟩
                                        · replace c46 := Bool.eq_false_iff.mpr c46
                                          subst c46
                                          have H1 : (guichetlaw6_BcdNumbers.l2 kj40 a1 a3 (rd y147 x67_2) y147 (y147.length : Int) x67_2 y151 (y151.length : Int) (wrap64 (x78_3 + 1))) = some r := by rw [if_neg (show ¬ (false = true) by decide)] at H; exact H
                                          clear H
                                          have H := H1
                                          clear H1
                                          have H' := Aside0.mk H
                                          clear H
                                          go_wp2_with (first | ((with_reducible refine gate_callee (f := 8) rfl ?_); refine goesL_ (some 104) rfl rfl Tryd.func8 (by kernel_rfl) rfl #[.string t155] rfl (by (try simp only [List.map_toArray, List.map_cons, List.map_nil]); first | done | rfl | (simp only [List.length_drop, List.length_take]; rfl)) ?_; (with_reducible refine (bcd_Number.calls kj40 t155 t159 t160 _ A45.out).mono ?_); rintro e w52 ⟨rfl, hb⟩; refine ⟨_, rfl, ?_⟩; have n0_ := Aside0.mk (Kd.R_below (by (with_reducible repeat (first | apply Kd.R_alloc | apply Kd.R_drewN | apply Kd.R_drew)); exact HO_65.out) hb); have n1_ := Aside0.mk (Kd.R_below (by (with_reducible repeat (first | apply Kd.R_alloc | apply Kd.R_drewN | apply Kd.R_drew)); exact HO_76.out) hb); have n2_ := Aside0.mk (below_step (by repeat (first | (with_reducible first | exact HB.out | apply below_alloc | apply pw_below_drewN | apply below_drew1) | exact HB.out)) hb); clear HO_65; clear HO_76; clear HB; have HO_65 := n0_; have HO_76 := n1_; have HB := n2_; clear n0_ n1_ n2_; (try clear hb); (try clear hb2); (try clear hk); (try clear hi)))
                                          go_roundg kj40
                                          case measure => have := HK1.out; have := HK2.out; have := HK3.out; have := HJ40.out; omega
                                          case rel => exact ⟨(wrap64 (x78_3 + 1)), (by first | rfl | (simp; done) | (simp [*]; done)), H', ⟨by have := HK1.out; have := HK2.out; have := HK3.out; have := HJ40.out; omega⟩, ⟨by (with_reducible repeat (first | apply Kd.R_alloc | apply Kd.R_drewN | apply Kd.R_drew)); exact HO_65.out⟩, ⟨by (with_reducible repeat (first | apply Kd.R_alloc | apply Kd.R_drewN | apply Kd.R_drew)); exact HO_76.out⟩, ⟨by repeat (first | (with_reducible first | exact HB.out | apply below_alloc | apply pw_below_drewN | apply below_drew1) | exact HB.out)⟩⟩
                                · rw [if_neg c38] at H
                                  exact absurd H (by simp)
                              · rw [if_neg c37] at H
                                exact absurd H (by simp)
                            · rw [if_neg c36] at H
                              have c36b0 : decide (x78_3 < (y151.length : Int)) = false := decide_eq_false c36
                              clear c36
                              have H' := Aside0.mk H
                              clear H
                              go_wp2
                              go_roundg k3
                              case measure => have := HK1.out; have := HK2.out; have := HK3.out; omega
                              case rel => exact ⟨(wrap64 (x67_2 + 1)), (by first | rfl | (simp; done) | (simp [*]; done)), H', ⟨by have := HK1.out; have := HK2.out; have := HK3.out; omega⟩, ⟨by (with_reducible repeat (first | apply Kd.R_alloc | apply Kd.R_drewN | apply Kd.R_drew)); exact HO_65.out⟩, ⟨by repeat (first | (with_reducible first | exact HB.out | apply below_alloc | apply pw_below_drewN | apply below_drew1) | exact HB.out)⟩⟩
                      · rw [if_neg c31] at H
                        exact absurd H (by simp)
                    · rw [if_neg c30] at H
                      exact absurd H (by simp)
                  · rw [if_neg c29] at H
                    exact absurd H (by simp)
                · rw [if_neg c28] at H
                  have c28b0 : decide (x67_2 < (y147.length : Int)) = false := decide_eq_false c28
                  clear c28
                  obtain rfl := Option.some.inj H
                  go_wp2
                  go_ret
                  exact ⟨by first | rfl | (simp [errW_none, errW_some] <;> rfl) | (simp [*, errW_none, errW_some] <;> rfl), by repeat (first | (with_reducible first | exact HB.out | apply below_alloc | apply pw_below_drewN | apply below_drew1) | exact HB.out)⟩
  · replace c6 := Bool.eq_false_iff.mpr c6
    subst c6
    have H1 : (some false) = some r := by rw [if_neg (show ¬ (false = true) by decide)] at H; exact H
    clear H
    have H := H1
    clear H1
    obtain rfl := Option.some.inj H
    go_enter Tryd.func3, Tryd.ntmps3
    go_wp2_with (first | ((with_reducible refine gate_callee (f := 6) rfl ?_); refine goesL_ (some 25) rfl rfl Tryd.func6 (by kernel_rfl) rfl #[] rfl (by (try simp only [List.map_toArray, List.map_cons, List.map_nil]); first | done | rfl | (simp only [List.length_drop, List.length_take]; rfl)) ?_; (with_reducible refine (guichetlaw6_known.calls k  false _ ?side1 A5.out).mono ?_); (case side1 => exact tab_at HT.out (by repeat (first | (with_reducible first | exact HB.out | apply below_alloc | apply pw_below_drewN | apply below_drew1) | exact HB.out))); rintro e w53 ⟨rfl, hb⟩; refine ⟨_, rfl, ?_⟩; have n0_ := Aside0.mk (below_step (by repeat (first | (with_reducible first | exact HB.out | apply below_alloc | apply pw_below_drewN | apply below_drew1) | exact HB.out)) hb); clear HB; have HB := n0_; clear n0_; (try clear hb); (try clear hb2); (try clear hk); (try clear hi)))
    go_ret
    exact ⟨by first | rfl | (simp [errW_none, errW_some] <;> rfl) | (simp [*, errW_none, errW_some] <;> rfl), by repeat (first | (with_reducible first | exact HB.out | apply below_alloc | apply pw_below_drewN | apply below_drew1) | exact HB.out)⟩

/-- THE ONE PURE STATEMENT of guichetlaw6_BcdNumbers. -/
def guichetlaw6_BcdNumbers.Pure : Prop := ∀ (a0 : ByteArray) (a1 : Int) (a2 : Int) (a3 : Int), a0.size ≤ 140737488351232 → (Lit.int .i64 a1).wf = true → (Lit.int .i64 a2).wf = true → (Lit.int .u8 a3).wf = true → ∃ k, guichetlaw6_BcdNumbers.f k a0 a1 a2 a3 = some true
theorem guichetlaw6_BcdNumbers.walk (P : guichetlaw6_BcdNumbers.Pure) (a0 : ByteArray) (a1 : Int) (a2 : Int) (a3 : Int) (w : World) (hT : TAB w) (w0 : a0.size ≤ 140737488351232) (w1 : (Lit.int .i64 a1).wf = true) (w2 : (Lit.int .i64 a2).wf = true) (w3 : (Lit.int .u8 a3).wf = true) :
    Calls Tryd.prog 3 #[.string a0, .int .i64 a1, .int .i64 a2, .int .u8 a3] w fun e w' => e = .returned (.bool true) ∧ Below w.heap.size w w' := by
  obtain ⟨k, h⟩ := P a0 a1 a2 a3 w0 w1 w2 w3
  refine (guichetlaw6_BcdNumbers.calls k a0 a1 a2 a3 true w hT h).mono ?_
  rintro e w' ⟨rfl, hd⟩
  exact ⟨rfl, hd⟩

end Go.Proofs.YtcldlekkbabpoaaDoor.PAll
