-- written by xprint.py out of the translation. Not trusted: Lean checks it.
import Derived.Test.YthajndlkibpncaaDoorPAllx0
import Derived.Test.YthajndlkibpncaaDoorPAllx5
import Derived.Test.YthajndlkibpncaaDoorPAllx6
namespace Go.Proofs.YthajndlkibpncaaDoor.PAll
open Go.RowKit Go.Proofs.YthajndlkibpncaaDoorW.PrintWords Go.Proofs.YthajndlkibpncaaDoorW.PrintLast Go.Proofs.YthajndlkibpncaaDoorW.PrintMore
attribute [local go_sem] max2_int min2_int max_two min_two max_three min_three max_four min_four   -- for this text's walks alone
set_option linter.unusedVariables false
set_option linter.unusedSimpArgs false

/-! ### guichetlaw14_TableLong: function 5 -/
def guichetlaw14_TableLong.l0 : Nat → Bool → Int → ByteArray → Int → Option (Bool)
 | 0, _, _, _, _ => none
 | k + 1, x1, x5, x6, x7 => if x7 < x5 then (if x6.size + 14 ≤ 9223372036854775807 then (guichetlaw14_TableLong.l0 k x1 x5 (x6 ++ (⟨#[48, 48, 49, 32, 90, 32, 48, 48, 48, 32, 48, 48, 48, 10]⟩ : ByteArray)) (wrap64 (x7 + 1))) else (none)) else (if x1 = true then (if x6.size + 1 ≤ 9223372036854775807 then ((table_Parse.f k (x6 ++ (⟨#[63]⟩ : ByteArray))).bind fun bt200 => ((guichetref12_TableParse.f k (x6 ++ (⟨#[63]⟩ : ByteArray))).bind fun bt205 => (if bt200.2.1 = bt205.2.1 then (if bt200.2.2 = bt205.2.2 then ((guichethelp_States.f k bt200.1 bt205.1).bind fun t210 => (if t210 = true then (some true) else (none))) else (none)) else (none)))) else (none)) else ((table_Parse.f k x6).bind fun bt211 => ((guichetref12_TableParse.f k x6).bind fun bt216 => (if bt211.2.1 = bt216.2.1 then (if bt211.2.2 = bt216.2.2 then ((guichethelp_States.f k bt211.1 bt216.1).bind fun t221 => (if t221 = true then (some ((bt211.2.2 == 0) == (decide (x5 ≤ 100)))) else (none))) else (none)) else (none)))))
def guichetlaw14_TableLong.f (k : Nat) (a0 : Int) (a1 : Bool) : Option (Bool) := (guichetlaw14_known.f k).bind fun t199 => (if t199 = true then (guichetlaw14_TableLong.l0 k a1 (wrap64 (98 + (wrap64 (Int.tmod a0 5)))) (⟨#[]⟩ : ByteArray) 0) else (none))
theorem guichetlaw14_TableLong.mono_l : ∀ k, (∀ y0 y1 y2 y3, LeO (guichetlaw14_TableLong.l0 k y0 y1 y2 y3) (guichetlaw14_TableLong.l0 (k + 1) y0 y1 y2 y3))
 | 0 => fun _ _ _ _ r h => by simp [guichetlaw14_TableLong.l0] at h
 | k + 1 => by
  have ih0 := guichetlaw14_TableLong.mono_l k
  ·intro y0 y1 y2 y3
   unfold guichetlaw14_TableLong.l0
   repeat' first
   | (with_reducible exact ih0 _ _ _ _)
   | (with_reducible exact guichethelp_States.mono _ _ _)
   | (with_reducible exact guichetlaw14_known.mono _)
   | (with_reducible exact guichetref12_TableParse.mono _ _)
   | (with_reducible exact table_Parse.mono _ _)
   | (with_reducible exact LeO.refl _)
   | (with_reducible exact LeO.none _)
   | (with_reducible refine LeO.ite ?_ ?_)
   | (with_reducible refine LeO.bind ?_ (fun _ => ?_))
   | exact ih0 _ _ _ _
   | exact guichethelp_States.mono _ _ _
   | exact guichetlaw14_known.mono _
   | exact guichetref12_TableParse.mono _ _
   | exact table_Parse.mono _ _
   | exact LeO.none _
   | refine LeO.ite ?_ ?_
   | refine LeO.bind ?_ (fun _ => ?_)
theorem guichetlaw14_TableLong.mono : ∀ a0 a1 k, LeO (guichetlaw14_TableLong.f k a0 a1) (guichetlaw14_TableLong.f (k + 1) a0 a1) := by
 intro a0 a1 k
 have ih0 := guichetlaw14_TableLong.mono_l k
 unfold guichetlaw14_TableLong.f
 repeat' first
   | (with_reducible exact ih0 _ _ _ _)
   | (with_reducible exact guichethelp_States.mono _ _ _)
   | (with_reducible exact guichetlaw14_known.mono _)
   | (with_reducible exact guichetref12_TableParse.mono _ _)
   | (with_reducible exact table_Parse.mono _ _)
   | (with_reducible exact LeO.refl _)
   | (with_reducible exact LeO.none _)
   | (with_reducible refine LeO.ite ?_ ?_)
   | (with_reducible refine LeO.bind ?_ (fun _ => ?_))
   | exact ih0 _ _ _ _
   | exact guichethelp_States.mono _ _ _
   | exact guichetlaw14_known.mono _
   | exact guichetref12_TableParse.mono _ _
   | exact table_Parse.mono _ _
   | exact LeO.none _
   | refine LeO.ite ?_ ?_
   | refine LeO.bind ?_ (fun _ => ?_)
set_option maxHeartbeats 8000000 in
set_option maxRecDepth 100000 in
theorem guichetlaw14_TableLong.calls (k : Nat) (a0 : Int) (a1 : Bool) (r : Bool) (w : World) (hT : TAB w) (h : guichetlaw14_TableLong.f k a0 a1 = some r) :
  Calls Tryd.prog 5 #[.int .u8 a0, .bool a1] w fun e w' => e = .returned (.bool r) ∧ Below w.heap.size w w' := by
 have HT := Aside0.mk hT
 clear hT
 have HB := Aside0.mk (Below.refl w.heap.size w)
 have H : ((guichetlaw14_known.f k).bind fun t199 => (if t199 = true then (guichetlaw14_TableLong.l0 k a1 (wrap64 (98 + (wrap64 (Int.tmod a0 5)))) (⟨#[]⟩ : ByteArray) 0) else (none))) = some r := h
 clear h
 replace H := Option.bind_eq_some_iff.mp H
 obtain ⟨t199, A30, H⟩ := H
 replace H : (if t199 = true then (guichetlaw14_TableLong.l0 k a1 (wrap64 (98 + (wrap64 (Int.tmod a0 5)))) (⟨#[]⟩ : ByteArray) 0) else (none)) = some r := H
 have A3 := Aside0.mk A30
 clear A30
 by_cases c4 : t199 = true
 ·subst c4
  have H1 : (guichetlaw14_TableLong.l0 k a1 (wrap64 (98 + (wrap64 (Int.tmod a0 5)))) (⟨#[]⟩ : ByteArray) 0) = some r := by rw [if_pos rfl] at H; exact H
  clear H
  have H := H1
  clear H1
  have H' := Aside0.mk H
  clear H
  go_enter Tryd.func5, Tryd.ntmps5
  go_wp2_with (first | ((with_reducible refine gate_callee (f := 7) rfl ?_); refine goesL_ (some 14) rfl rfl Tryd.func7 (by kernel_rfl) rfl #[] rfl (by (try simp only [List.map_toArray, List.map_cons, List.map_nil]); first | done | rfl | (simp only [List.length_drop, List.length_take]; rfl) | (rw [hsame_])) ?_; (with_reducible refine (guichetlaw14_known.calls k  true _ ?side1 A3.out).mono ?_); (case side1 => exact tab_at HT.out (by repeat (first | (with_reducible first | exact HB.out | apply below_alloc | apply pw_below_drewN | apply below_drew1) | exact HB.out))); rintro e w5 ⟨rfl, hb⟩; refine ⟨_, rfl, ?_⟩; have n0_ := Aside0.mk (below_step (by repeat (first | (with_reducible first | exact HB.out | apply below_alloc | apply pw_below_drewN | apply below_drew1) | exact HB.out)) hb); clear HB; have HB := n0_; clear n0_; (try clear hb); (try clear hb2); (try clear hk); (try clear hi)))
  go_loopg [6, 7] k (fun kq v6 v7 w' => ∃ (x6_1 : ByteArray) (x7_1 : Int), v6 = .string x6_1 ∧ v7 = .int .i64 x7_1 ∧ Aside0 (guichetlaw14_TableLong.l0 kq a1 (wrap64 (98 + (wrap64 (Int.tmod a0 5)))) x6_1 x7_1 = some r) ∧ Aside0 (kq ≤ k) ∧ Aside0 (Below w.heap.size w w'))
  case atStart => exact ⟨((⟨#[]⟩ : ByteArray)), (0), (by first | rfl | (simp; done) | (simp [*]; done)), (by first | rfl | (simp; done) | (simp [*]; done)), H', ⟨Nat.le_refl _⟩, ⟨by repeat (first | (with_reducible first | exact HB.out | apply below_alloc | apply pw_below_drewN | apply below_drew1) | exact HB.out)⟩⟩
  case round =>
   clear H'
   try clear p2
   try clear c4
   try clear c5
   obtain ⟨x6_1, x7_1, rfl, rfl, HA, HK1, HB⟩ := hrel
   cases gk with
   | zero => exact absurd HA.out (by simp [guichetlaw14_TableLong.l0])
   | succ k1 =>
    have H := HA.out
    clear HA
    simp only [guichetlaw14_TableLong.l0] at H
    by_cases c6 : x7_1 < (wrap64 (98 + (wrap64 (Int.tmod a0 5))))
    ·rw [if_pos c6] at H
     have c6b0 : decide (x7_1 < (wrap64 (98 + (wrap64 (Int.tmod a0 5))))) = true := decide_eq_true c6
     clear c6
     by_cases c7 : x6_1.size + 14 ≤ 9223372036854775807
     ·rw [if_pos c7] at H
      have c7b0 := eq_true c7
      have c7b1 : decide (x6_1.size + 14 ≤ 9223372036854775807) = true := decide_eq_true c7
      try have c7b2 : (9223372036854775807 < x6_1.size + 14) = False := eq_false (Nat.not_lt.2 c7)
      have H' := Aside0.mk H
      clear H
      go_wp2
      go_roundg k1
      case measure => have := HK1.out; omega
      case rel => exact ⟨(x6_1 ++ (⟨#[48, 48, 49, 32, 90, 32, 48, 48, 48, 32, 48, 48, 48, 10]⟩ : ByteArray)), (wrap64 (x7_1 + 1)), (by first | rfl | (simp; done) | (simp [*]; done)), (by first | rfl | (simp; done) | (simp [*]; done)), H', ⟨by have := HK1.out; omega⟩, ⟨by repeat (first | (with_reducible first | exact HB.out | apply below_alloc | apply pw_below_drewN | apply below_drew1) | exact HB.out)⟩⟩
     ·rw [if_neg c7] at H
      exact absurd H (by simp)
    ·rw [if_neg c6] at H
     have c6b0 : decide (x7_1 < (wrap64 (98 + (wrap64 (Int.tmod a0 5))))) = false := decide_eq_false c6
     clear c6
     by_cases c8 : a1 = true
     ·subst c8
      have H1 : (if x6_1.size + 1 ≤ 9223372036854775807 then ((table_Parse.f k1 (x6_1 ++ (⟨#[63]⟩ : ByteArray))).bind fun bt200 => ((guichetref12_TableParse.f k1 (x6_1 ++ (⟨#[63]⟩ : ByteArray))).bind fun bt205 => (if bt200.2.1 = bt205.2.1 then (if bt200.2.2 = bt205.2.2 then ((guichethelp_States.f k1 bt200.1 bt205.1).bind fun t210 => (if t210 = true then (some true) else (none))) else (none)) else (none)))) else (none)) = some r := by rw [if_pos rfl] at H; exact H
      clear H
      have H := H1
      clear H1
      by_cases c9 : x6_1.size + 1 ≤ 9223372036854775807
      ·rw [if_pos c9] at H
       have c9b0 := eq_true c9
       have c9b1 : decide (x6_1.size + 1 ≤ 9223372036854775807) = true := decide_eq_true c9
       try have c9b2 : (9223372036854775807 < x6_1.size + 1) = False := eq_false (Nat.not_lt.2 c9)
       replace H := Option.bind_eq_some_iff.mp H
       obtain ⟨⟨t200, t201, t202⟩, A100, H⟩ := H
       replace H : ((guichetref12_TableParse.f k1 (x6_1 ++ (⟨#[63]⟩ : ByteArray))).bind fun bt205 => (if t201 = bt205.2.1 then (if t202 = bt205.2.2 then ((guichethelp_States.f k1 t200 bt205.1).bind fun t210 => (if t210 = true then (some true) else (none))) else (none)) else (none))) = some r := H
       have A10 := Aside0.mk A100
       clear A100
       replace H := Option.bind_eq_some_iff.mp H
       obtain ⟨⟨t205, t206, t207⟩, A110, H⟩ := H
       replace H : (if t201 = t206 then (if t202 = t207 then ((guichethelp_States.f k1 t200 t205).bind fun t210 => (if t210 = true then (some true) else (none))) else (none)) else (none)) = some r := H
       have A11 := Aside0.mk A110
       clear A110
       by_cases c12 : t201 = t206
       ·rw [if_pos c12] at H
        have c12b0 : (t201 == t206) = true := beq_iff_eq.mpr c12
        have c12b1 : (t201 != t206) = false := bne_eq_false_iff_eq.mpr c12
        clear c12
        by_cases c13 : t202 = t207
        ·rw [if_pos c13] at H
         have c13b0 : (t202 == t207) = true := beq_iff_eq.mpr c13
         have c13b1 : (t202 != t207) = false := bne_eq_false_iff_eq.mpr c13
         clear c13
         replace H := Option.bind_eq_some_iff.mp H
         obtain ⟨t210, A140, H⟩ := H
         replace H : (if t210 = true then (some true) else (none)) = some r := H
         have A14 := Aside0.mk A140
         clear A140
         by_cases c15 : t210 = true
         ·subst c15
          have H1 : (some true) = some r := by rw [if_pos rfl] at H; exact H
          clear H
          have H := H1
          clear H1
          obtain rfl := Option.some.inj H
          go_wp2_with (first | ((with_reducible refine gate_callee (f := 15) rfl ?_); refine goesL_ (some 32) rfl rfl Tryd.func15 (by kernel_rfl) rfl #[.string (x6_1 ++ (⟨#[63]⟩ : ByteArray))] rfl (by (try simp only [List.map_toArray, List.map_cons, List.map_nil]); first | done | rfl | (simp only [List.length_drop, List.length_take]; rfl) | (rw [hsame_])) ?_; (with_reducible refine (table_Parse.calls k1 (x6_1 ++ (⟨#[63]⟩ : ByteArray)) t200 t201 t202 _ ?side1 A10.out).mono ?_); (case side1 => exact tab_at HT.out (by repeat (first | (with_reducible first | exact HB.out | apply below_alloc | apply pw_below_drewN | apply below_drew1) | exact HB.out))); rintro e w16 ⟨v203, rfl, ho0, hb⟩; refine ⟨_, rfl, ?_⟩; have n0_ := Aside0.mk (Kd.R_lower ho0 (below_size (by repeat (first | (with_reducible first | exact HB.out | apply below_alloc | apply pw_below_drewN | apply below_drew1) | exact HB.out)))); have n1_ := Aside0.mk (below_step (by repeat (first | (with_reducible first | exact HB.out | apply below_alloc | apply pw_below_drewN | apply below_drew1) | exact HB.out)) hb); clear HB; have HO204 := n0_; have HB := n1_; clear n0_ n1_; (try clear hb); (try clear hb2); (try clear hk); (try clear hi); (try clear ho0)) | ((with_reducible refine gate_callee (f := 16) rfl ?_); refine goesL_ (some 38) rfl rfl Tryd.func16 (by kernel_rfl) rfl #[.string (x6_1 ++ (⟨#[63]⟩ : ByteArray))] rfl (by (try simp only [List.map_toArray, List.map_cons, List.map_nil]); first | done | rfl | (simp only [List.length_drop, List.length_take]; rfl) | (rw [hsame_])) ?_; (with_reducible refine (guichetref12_TableParse.calls k1 (x6_1 ++ (⟨#[63]⟩ : ByteArray)) t205 t206 t207 _ A11.out).mono ?_); rintro e w17 ⟨v208, rfl, ho0, hb⟩; refine ⟨_, rfl, ?_⟩; have n0_ := Aside0.mk (Kd.R_elder' (by (with_reducible repeat (first | apply Kd.R_alloc | apply Kd.R_drewN | apply Kd.R_drew)); exact HO204.out) (Kd.R_base ho0) hb); have n1_ := Aside0.mk (Kd.R_lower (Kd.R_new' ho0 (Kd.R_lt (by (with_reducible repeat (first | apply Kd.R_alloc | apply Kd.R_drewN | apply Kd.R_drew)); exact HO204.out))) (below_size (by repeat (first | (with_reducible first | exact HB.out | apply below_alloc | apply pw_below_drewN | apply below_drew1) | exact HB.out)))); have n2_ := Aside0.mk (below_step (by repeat (first | (with_reducible first | exact HB.out | apply below_alloc | apply pw_below_drewN | apply below_drew1) | exact HB.out)) hb); clear HO204; clear HB; have HO204 := n0_; have HO209 := n1_; have HB := n2_; clear n0_ n1_ n2_; (try clear hb); (try clear hb2); (try clear hk); (try clear hi); (try clear ho0); obtain ⟨Ao18, co18, eo18⟩ := Kd.R_slice HO204.out; subst eo18; obtain ⟨Ao19, co19, eo19⟩ := Kd.R_slice HO209.out; subst eo19) | (go_at_call 17; (with_reducible refine (guichethelp_States.calls k1 _ _ t200 _ _ t205 true _ ?side1 ?side2 ?side3 ?side4 A14.out).mono ?_); (case side1 => repeat (first | exact (Kd.R_reads' HO204.out).2.2 | (with_reducible refine Kd.C_alloc ?_ _) | (with_reducible refine Kd.C_drewN ?_ _) | (with_reducible refine Kd.C_drew ?_))); (case side2 => exact (Kd.R_reads' HO204.out).2.1); (case side3 => repeat (first | exact (Kd.R_reads' HO209.out).2.2 | (with_reducible refine Kd.C_alloc ?_ _) | (with_reducible refine Kd.C_drewN ?_ _) | (with_reducible refine Kd.C_drew ?_))); (case side4 => exact (Kd.R_reads' HO209.out).2.1); rintro e w' ⟨rfl, ⟨nd, rfl⟩⟩))
          go_ret
          exact ⟨by first | rfl | (simp [errW_none, errW_some] <;> rfl) | (simp [*, errW_none, errW_some] <;> rfl), by repeat (first | (with_reducible first | exact HB.out | apply below_alloc | apply pw_below_drewN | apply below_drew1) | exact HB.out)⟩
         ·replace c15 := Bool.eq_false_iff.mpr c15
          subst c15
          have H1 : (none) = some r := by rw [if_neg (show ¬ (false = true) by decide)] at H; exact H
          clear H
          have H := H1
          clear H1
          exact absurd H (by simp)
        ·rw [if_neg c13] at H
         exact absurd H (by simp)
       ·rw [if_neg c12] at H
        exact absurd H (by simp)
      ·rw [if_neg c9] at H
       exact absurd H (by simp)
     ·replace c8 := Bool.eq_false_iff.mpr c8
      subst c8
      have H1 : ((table_Parse.f k1 x6_1).bind fun bt211 => ((guichetref12_TableParse.f k1 x6_1).bind fun bt216 => (if bt211.2.1 = bt216.2.1 then (if bt211.2.2 = bt216.2.2 then ((guichethelp_States.f k1 bt211.1 bt216.1).bind fun t221 => (if t221 = true then (some ((bt211.2.2 == 0) == (decide ((wrap64 (98 + (wrap64 (Int.tmod a0 5)))) ≤ 100)))) else (none))) else (none)) else (none)))) = some r := by rw [if_neg (show ¬ (false = true) by decide)] at H; exact H
      clear H
      have H := H1
      clear H1
      replace H := Option.bind_eq_some_iff.mp H
      obtain ⟨⟨t211, t212, t213⟩, A200, H⟩ := H
      replace H : ((guichetref12_TableParse.f k1 x6_1).bind fun bt216 => (if t212 = bt216.2.1 then (if t213 = bt216.2.2 then ((guichethelp_States.f k1 t211 bt216.1).bind fun t221 => (if t221 = true then (some ((t213 == 0) == (decide ((wrap64 (98 + (wrap64 (Int.tmod a0 5)))) ≤ 100)))) else (none))) else (none)) else (none))) = some r := H
      have A20 := Aside0.mk A200
      clear A200
      replace H := Option.bind_eq_some_iff.mp H
      obtain ⟨⟨t216, t217, t218⟩, A210, H⟩ := H
      replace H : (if t212 = t217 then (if t213 = t218 then ((guichethelp_States.f k1 t211 t216).bind fun t221 => (if t221 = true then (some ((t213 == 0) == (decide ((wrap64 (98 + (wrap64 (Int.tmod a0 5)))) ≤ 100)))) else (none))) else (none)) else (none)) = some r := H
      have A21 := Aside0.mk A210
      clear A210
      by_cases c22 : t212 = t217
      ·rw [if_pos c22] at H
       have c22b0 : (t212 == t217) = true := beq_iff_eq.mpr c22
       have c22b1 : (t212 != t217) = false := bne_eq_false_iff_eq.mpr c22
       clear c22
       by_cases c23 : t213 = t218
       ·rw [if_pos c23] at H
        have c23b0 : (t213 == t218) = true := beq_iff_eq.mpr c23
        have c23b1 : (t213 != t218) = false := bne_eq_false_iff_eq.mpr c23
        clear c23
        replace H := Option.bind_eq_some_iff.mp H
        obtain ⟨t221, A240, H⟩ := H
        replace H : (if t221 = true then (some ((t213 == 0) == (decide ((wrap64 (98 + (wrap64 (Int.tmod a0 5)))) ≤ 100)))) else (none)) = some r := H
        have A24 := Aside0.mk A240
        clear A240
        by_cases c25 : t221 = true
        ·subst c25
         have H1 : (some ((t213 == 0) == (decide ((wrap64 (98 + (wrap64 (Int.tmod a0 5)))) ≤ 100)))) = some r := by rw [if_pos rfl] at H; exact H
         clear H
         have H := H1
         clear H1
         obtain rfl := Option.some.inj H
         go_wp2_with (first | ((with_reducible refine gate_callee (f := 15) rfl ?_); refine goesL_ (some 32) rfl rfl Tryd.func15 (by kernel_rfl) rfl #[.string x6_1] rfl (by (try simp only [List.map_toArray, List.map_cons, List.map_nil]); first | done | rfl | (simp only [List.length_drop, List.length_take]; rfl) | (rw [hsame_])) ?_; (with_reducible refine (table_Parse.calls k1 x6_1 t211 t212 t213 _ ?side1 A20.out).mono ?_); (case side1 => exact tab_at HT.out (by repeat (first | (with_reducible first | exact HB.out | apply below_alloc | apply pw_below_drewN | apply below_drew1) | exact HB.out))); rintro e w26 ⟨v214, rfl, ho0, hb⟩; refine ⟨_, rfl, ?_⟩; have n0_ := Aside0.mk (Kd.R_lower ho0 (below_size (by repeat (first | (with_reducible first | exact HB.out | apply below_alloc | apply pw_below_drewN | apply below_drew1) | exact HB.out)))); have n1_ := Aside0.mk (below_step (by repeat (first | (with_reducible first | exact HB.out | apply below_alloc | apply pw_below_drewN | apply below_drew1) | exact HB.out)) hb); clear HB; have HO215 := n0_; have HB := n1_; clear n0_ n1_; (try clear hb); (try clear hb2); (try clear hk); (try clear hi); (try clear ho0)) | ((with_reducible refine gate_callee (f := 16) rfl ?_); refine goesL_ (some 38) rfl rfl Tryd.func16 (by kernel_rfl) rfl #[.string x6_1] rfl (by (try simp only [List.map_toArray, List.map_cons, List.map_nil]); first | done | rfl | (simp only [List.length_drop, List.length_take]; rfl) | (rw [hsame_])) ?_; (with_reducible refine (guichetref12_TableParse.calls k1 x6_1 t216 t217 t218 _ A21.out).mono ?_); rintro e w27 ⟨v219, rfl, ho0, hb⟩; refine ⟨_, rfl, ?_⟩; have n0_ := Aside0.mk (Kd.R_elder' (by (with_reducible repeat (first | apply Kd.R_alloc | apply Kd.R_drewN | apply Kd.R_drew)); exact HO215.out) (Kd.R_base ho0) hb); have n1_ := Aside0.mk (Kd.R_lower (Kd.R_new' ho0 (Kd.R_lt (by (with_reducible repeat (first | apply Kd.R_alloc | apply Kd.R_drewN | apply Kd.R_drew)); exact HO215.out))) (below_size (by repeat (first | (with_reducible first | exact HB.out | apply below_alloc | apply pw_below_drewN | apply below_drew1) | exact HB.out)))); have n2_ := Aside0.mk (below_step (by repeat (first | (with_reducible first | exact HB.out | apply below_alloc | apply pw_below_drewN | apply below_drew1) | exact HB.out)) hb); clear HO215; clear HB; have HO215 := n0_; have HO220 := n1_; have HB := n2_; clear n0_ n1_ n2_; (try clear hb); (try clear hb2); (try clear hk); (try clear hi); (try clear ho0); obtain ⟨Ao28, co28, eo28⟩ := Kd.R_slice HO215.out; subst eo28; obtain ⟨Ao29, co29, eo29⟩ := Kd.R_slice HO220.out; subst eo29) | (go_at_call 17; (with_reducible refine (guichethelp_States.calls k1 _ _ t211 _ _ t216 true _ ?side1 ?side2 ?side3 ?side4 A24.out).mono ?_); (case side1 => repeat (first | exact (Kd.R_reads' HO215.out).2.2 | (with_reducible refine Kd.C_alloc ?_ _) | (with_reducible refine Kd.C_drewN ?_ _) | (with_reducible refine Kd.C_drew ?_))); (case side2 => exact (Kd.R_reads' HO215.out).2.1); (case side3 => repeat (first | exact (Kd.R_reads' HO220.out).2.2 | (with_reducible refine Kd.C_alloc ?_ _) | (with_reducible refine Kd.C_drewN ?_ _) | (with_reducible refine Kd.C_drew ?_))); (case side4 => exact (Kd.R_reads' HO220.out).2.1); rintro e w' ⟨rfl, ⟨nd, rfl⟩⟩))
         go_ret
         exact ⟨by first | rfl | (simp [errW_none, errW_some] <;> rfl) | (simp [*, errW_none, errW_some] <;> rfl), by repeat (first | (with_reducible first | exact HB.out | apply below_alloc | apply pw_below_drewN | apply below_drew1) | exact HB.out)⟩
        ·replace c25 := Bool.eq_false_iff.mpr c25
         subst c25
         have H1 : (none) = some r := by rw [if_neg (show ¬ (false = true) by decide)] at H; exact H
         clear H
         have H := H1
         clear H1
         exact absurd H (by simp)
       ·rw [if_neg c23] at H
        exact absurd H (by simp)
      ·rw [if_neg c22] at H
       exact absurd H (by simp)
 ·replace c4 := Bool.eq_false_iff.mpr c4
  subst c4
  have H1 : (none) = some r := by rw [if_neg (show ¬ (false = true) by decide)] at H; exact H
  clear H
  have H := H1
  clear H1
  exact absurd H (by simp)

/-- THE ONE PURE STATEMENT of guichetlaw14_TableLong. -/
def guichetlaw14_TableLong.Pure : Prop := ∀ (a0 : Int) (a1 : Bool), (Lit.int .u8 a0).wf = true → ∃ k, guichetlaw14_TableLong.f k a0 a1 = some true
theorem guichetlaw14_TableLong.walk (P : guichetlaw14_TableLong.Pure) (a0 : Int) (a1 : Bool) (w : World) (hT : TAB w) (w0 : (Lit.int .u8 a0).wf = true) :
  Calls Tryd.prog 5 #[.int .u8 a0, .bool a1] w fun e w' => e = .returned (.bool true) ∧ Below w.heap.size w w' := by
 obtain ⟨k, h⟩ := P a0 a1 w0
 refine (guichetlaw14_TableLong.calls k a0 a1 true w hT h).mono ?_
 rintro e w' ⟨rfl, hd⟩
 exact ⟨rfl, hd⟩

end Go.Proofs.YthajndlkibpncaaDoor.PAll
