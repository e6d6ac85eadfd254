-- written by xprint.py out of the translation. Not trusted: Lean checks it.
import Derived.Test.YtonodamokacgiaaDoorPAllx0
namespace Go.Proofs.YtonodamokacgiaaDoor.PAll
open Go.RowKit Go.Proofs.YtonodamokacgiaaDoorW.PrintWords Go.Proofs.YtonodamokacgiaaDoorW.PrintLast Go.Proofs.YtonodamokacgiaaDoorW.PrintMore
attribute [local go_sem] max2_int min2_int max_two min_two max_three min_three max_four min_four   -- for this text's walks alone
set_option linter.unusedVariables false
set_option linter.unusedSimpArgs false

/-! ### guichetlaw8_number: function 8 -/
def guichetlaw8_number.f (a0 : Int) : Option (Int) := (some (([2, 3, 4, 7, 10, 11, 12, 13, 37, 38, 39, 41, 42, 49, 54, 60, 70, 90, 95, 5] : List Int) : List Int)).bind fun y215 => (if (y215.length : Int) = 0 then (none) else (if 0 ≤ (Int.tmod (wrap64 (a0)) (y215.length : Int)) then (if (Int.tmod (wrap64 (a0)) (y215.length : Int)) < (y215.length : Int) then (some (rd y215 (Int.tmod (wrap64 (a0)) (y215.length : Int)))) else (none)) else (none)))
set_option maxHeartbeats 8000000 in
set_option maxRecDepth 100000 in
theorem guichetlaw8_number.calls (a0 : Int) (r : Int) (w : World) (h : guichetlaw8_number.f a0 = some r) :
    Calls Tryd.prog 8 #[.int .u8 a0] w fun e w' => e = .returned (.int .i64 r) ∧ Below w.heap.size w w' := by
  have HB := Aside0.mk (Below.refl w.heap.size w)
  have H : ((some (([2, 3, 4, 7, 10, 11, 12, 13, 37, 38, 39, 41, 42, 49, 54, 60, 70, 90, 95, 5] : List Int) : List Int)).bind fun y215 => (if (y215.length : Int) = 0 then (none) else (if 0 ≤ (Int.tmod (wrap64 (a0)) (y215.length : Int)) then (if (Int.tmod (wrap64 (a0)) (y215.length : Int)) < (y215.length : Int) then (some (rd y215 (Int.tmod (wrap64 (a0)) (y215.length : Int)))) else (none)) else (none)))) = some r := h
  clear h
  obtain ⟨y215, hy215⟩ : ∃ y_ : List Int, y_ = (([2, 3, 4, 7, 10, 11, 12, 13, 37, 38, 39, 41, 42, 49, 54, 60, 70, 90, 95, 5] : List Int)) := ⟨_, rfl⟩
  replace H : (if (y215.length : Int) = 0 then (none) else (if 0 ≤ (Int.tmod (wrap64 (a0)) (y215.length : Int)) then (if (Int.tmod (wrap64 (a0)) (y215.length : Int)) < (y215.length : Int) then (some (rd y215 (Int.tmod (wrap64 (a0)) (y215.length : Int)))) else (none)) else (none))) = some r := by first | (rw [hy215]; with_reducible exact H) | (have H2_ := (Option.bind_some _ _).symm.trans H; rw [hy215]; with_reducible exact H2_) | (have H2_ := (Option.bind_some _ _).symm.trans H; with_reducible exact H2_) | with_reducible exact H | (rw [hy215]; exact H) | exact H
  have Ny215 := Aside0.mk hy215
  clear hy215
  by_cases c2 : (y215.length : Int) = 0
  · rw [if_pos c2] at H
    exact absurd H (by simp)
  · rw [if_neg c2] at H
    have c2b0 : ((y215.length : Int) == 0) = false := beq_eq_false_iff_ne.mpr c2
    have c2b1 : ((y215.length : Int) != 0) = true := bne_iff_ne.mpr c2
    have c2b2 : ¬ (y215 = []) := fun h_ => c2 (by rw [h_]; rfl)
    obtain ⟨ji3, hji3⟩ : ∃ j_ : Int, (Int.tmod (wrap64 (a0)) (y215.length : Int)) = j_ := ⟨_, rfl⟩
    replace H : (if 0 ≤ (ji3) then (if (ji3) < (y215.length : Int) then (some (rd y215 (ji3))) else (none)) else (none)) = some r := by first | (rw [hji3] at H; exact H) | (simp only [hji3] at H ⊢; exact H)
    by_cases c4 : 0 ≤ (ji3)
    · rw [if_pos c4] at H
      have c4b0 : decide (0 ≤ (ji3)) = true := decide_eq_true c4
      clear c4
      by_cases c5 : (ji3) < (y215.length : Int)
      · rw [if_pos c5] at H
        have c5b0 : decide ((ji3) < (y215.length : Int)) = true := decide_eq_true c5
        clear c5
        obtain rfl := Option.some.inj H
        go_enter Tryd.func8, Tryd.ntmps8
        go_wp2_with (first | ((with_reducible refine gate_dst (N := 4) rfl ?_); refine Kd.R_lit (Kd.int .i64) _ 3 ?hg (N := 4) ?hd (xs := ([2, 3, 4, 7, 10, 11, 12, 13, 37, 38, 39, 41, 42, 49, 54, 60, 70, 90, 95, 5] : List Int)) (inner := [.int .i64 2, .int .i64 3, .int .i64 4, .int .i64 7, .int .i64 10, .int .i64 11, .int .i64 12, .int .i64 13, .int .i64 37, .int .i64 38, .int .i64 39, .int .i64 41, .int .i64 42, .int .i64 49, .int .i64 54, .int .i64 60, .int .i64 70, .int .i64 90, .int .i64 95, .int .i64 5]) (ok := fun _ => True) (okp := fun _ => True) ?hr ?hp (fun _ hk => hk) trivial (Below.refl _ _) (Nat.le_refl _) (by simp) ?_; (case hd => rfl); (case hg => rfl); (case hr => first | (go_simp; done) | (go_simp; rfl)); (case hp => exact (Reps.one (show Kd.M (Kd.int .i64) _ _ _ 2 [.int .i64 2] from rfl) (Reps.one (show Kd.M (Kd.int .i64) _ _ _ 3 [.int .i64 3] from rfl) (Reps.one (show Kd.M (Kd.int .i64) _ _ _ 4 [.int .i64 4] from rfl) (Reps.one (show Kd.M (Kd.int .i64) _ _ _ 7 [.int .i64 7] from rfl) (Reps.one (show Kd.M (Kd.int .i64) _ _ _ 10 [.int .i64 10] from rfl) (Reps.one (show Kd.M (Kd.int .i64) _ _ _ 11 [.int .i64 11] from rfl) (Reps.one (show Kd.M (Kd.int .i64) _ _ _ 12 [.int .i64 12] from rfl) (Reps.one (show Kd.M (Kd.int .i64) _ _ _ 13 [.int .i64 13] from rfl) (Reps.one (show Kd.M (Kd.int .i64) _ _ _ 37 [.int .i64 37] from rfl) (Reps.one (show Kd.M (Kd.int .i64) _ _ _ 38 [.int .i64 38] from rfl) (Reps.one (show Kd.M (Kd.int .i64) _ _ _ 39 [.int .i64 39] from rfl) (Reps.one (show Kd.M (Kd.int .i64) _ _ _ 41 [.int .i64 41] from rfl) (Reps.one (show Kd.M (Kd.int .i64) _ _ _ 42 [.int .i64 42] from rfl) (Reps.one (show Kd.M (Kd.int .i64) _ _ _ 49 [.int .i64 49] from rfl) (Reps.one (show Kd.M (Kd.int .i64) _ _ _ 54 [.int .i64 54] from rfl) (Reps.one (show Kd.M (Kd.int .i64) _ _ _ 60 [.int .i64 60] from rfl) (Reps.one (show Kd.M (Kd.int .i64) _ _ _ 70 [.int .i64 70] from rfl) (Reps.one (show Kd.M (Kd.int .i64) _ _ _ 90 [.int .i64 90] from rfl) (Reps.one (show Kd.M (Kd.int .i64) _ _ _ 95 [.int .i64 95] from rfl) (Reps.one (show Kd.M (Kd.int .i64) _ _ _ 5 [.int .i64 5] from rfl) (Reps.none _ _)))))))))))))))))))))); intro v216 w6 ho7 hb hg_ hnew_; clear hg_ hnew_; (first | rw [← Ny215.out] at ho7 | (simp only [Int.reduceToNat] at ho7; rw [← Ny215.out] at ho7)); have n0_ := Aside0.mk (Kd.R_lower ho7 (below_size (by repeat (first | (with_reducible first | exact HB.out | apply below_alloc | apply pw_below_drewN | apply below_drew1) | exact HB.out)))); have n1_ := Aside0.mk (below_step (by repeat (first | (with_reducible first | exact HB.out | apply below_alloc | apply pw_below_drewN | apply below_drew1) | exact HB.out)) hb); clear HB; have HO217 := n0_; have HB := n1_; clear n0_ n1_; clear hb ho7; obtain ⟨Ao8, co8, eo8⟩ := Kd.R_slice HO217.out; subst eo8; have p218 : 0 ≤ ((ji3) : Int) := of_decide_eq_true (by first | (with_reducible assumption) | assumption); have q218 : (ji3) < (y215.length : Int) := of_decide_eq_true (by first | (with_reducible assumption) | assumption); obtain ⟨ad218, e218, hx218_0⟩ := Kd.at_int (Kd.R_reads' HO217.out).2.2 (ji3) p218 q218; cases e218; replace p218 := eq_true p218; replace q218 := eq_true q218))
        go_ret
        exact ⟨by first | rfl | (simp [errW_none, errW_some] <;> rfl) | (simp only [← hji3]; first | rfl | (simp [errW_none, errW_some] <;> rfl)) | (simp [*, errW_none, errW_some] <;> rfl), by repeat (first | (with_reducible first | exact HB.out | apply below_alloc | apply pw_below_drewN | apply below_drew1) | exact HB.out)⟩
      · rw [if_neg c5] at H
        exact absurd H (by simp)
    · rw [if_neg c4] at H
      exact absurd H (by simp)

end Go.Proofs.YtonodamokacgiaaDoor.PAll
