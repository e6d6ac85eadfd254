-- written by xprint.py out of the translation. Not trusted: Lean checks it.
import Derived.Test.YthajndlkibpncaaDoorPAllx0
namespace Go.Proofs.YthajndlkibpncaaDoor.PAll
open Go.RowKit Go.Proofs.YthajndlkibpncaaDoorW.PrintWords Go.Proofs.YthajndlkibpncaaDoorW.PrintLast Go.Proofs.YthajndlkibpncaaDoorW.PrintMore
attribute [local go_sem] max2_int min2_int max_two min_two max_three min_three max_four min_four   -- for this text's walks alone
set_option linter.unusedVariables false
set_option linter.unusedSimpArgs false

/-! ### strings_IndexByte: function 37 -/
def strings_IndexByte.f (a0 : ByteArray) (a1 : Int) : Option (Int) := some (Lib.indexByte a0.data.toList a1.toNat.toUInt8)
theorem strings_IndexByte.calls (a0 : ByteArray) (a1 : Int) (r : Int) (w : World) (h : strings_IndexByte.f a0 a1 = some r) :
  Calls Tryd.prog 37 #[.string a0, .int .u8 a1] w fun e w' => e = .returned (.int .i64 r) ∧ Drawn0 w w' := by
 obtain rfl := Option.some.inj h
 refine (Tryd.strings_IndexByte a0 a1 w).mono ?_
 rintro e w' ⟨rfl, rfl⟩
 exact ⟨rfl, Drawn0.refl _⟩

/-! ### table_is: function 30 -/
def table_is.f (a0 : Int) (a1 : ByteArray) : Option (Bool) := (strings_IndexByte.f a1 a0).bind fun t101 => (some (decide (t101 ≥ 0)))
set_option maxHeartbeats 8000000 in
set_option maxRecDepth 100000 in
theorem table_is.calls (a0 : Int) (a1 : ByteArray) (r : Bool) (w : World) (h : table_is.f a0 a1 = some r) :
  Calls Tryd.prog 30 #[.int .u8 a0, .string a1] w fun e w' => e = .returned (.bool r) ∧ Drawn0 w w' := by
 have H : ((strings_IndexByte.f a1 a0).bind fun t101 => (some (decide (t101 ≥ 0)))) = some r := h
 clear h
 replace H := Option.bind_eq_some_iff.mp H
 obtain ⟨t101, A30, H⟩ := H
 replace H : (some (decide (t101 ≥ 0))) = some r := H
 have A3 := Aside0.mk A30
 clear A30
 obtain rfl := Option.some.inj H
 go_enter Tryd.func30, Tryd.ntmps30
 go_wp2_with (first | ((with_reducible refine gate_callee (f := 37) rfl ?_); refine goesL_ (some 7) rfl rfl Tryd.func37 (by kernel_rfl) rfl #[.string a1, .int .u8 a0] rfl (by (try simp only [List.map_toArray, List.map_cons, List.map_nil]); first | done | rfl | (simp only [List.length_drop, List.length_take]; rfl) | (rw [hsame_])) ?_; (with_reducible refine (strings_IndexByte.calls a1 a0 t101 _ A3.out).mono ?_); rintro e w' ⟨rfl, ⟨nd, rfl⟩⟩; refine ⟨_, rfl, ?_⟩))
 go_ret
 exact ⟨by first | rfl | (simp; done) | (simp [*]; done), by repeat (first | exact Drawn0.refl _ | apply Drawn0.step)⟩

/-! ### table_Leads: function 18 -/
def table_Leads.f (a0_0 : Int) (a0_1 : Int) (a0_2 : Int) (a0_3 : Int) : Option (List Int) := if a0_1 = 90 then ((table_is.f a0_1 (⟨#[66, 68, 69]⟩ : ByteArray)).bind fun t103 => (if t103 = true then (if ([] : List Int).length < 17592186044416 then (some (([] : List Int) ++ [a0_3])) else (none)) else (some ([] : List Int)))) else (if ([] : List Int).length < 17592186044416 then ((some (([] : List Int) ++ [a0_2] : List Int)).bind fun y107 => ((table_is.f a0_1 (⟨#[66, 68, 69]⟩ : ByteArray)).bind fun t110 => (if t110 = true then (if y107.length < 17592186044416 then (some (y107 ++ [a0_3])) else (none)) else (some y107)))) else (none))
set_option maxHeartbeats 8000000 in
set_option maxRecDepth 100000 in
theorem table_Leads.calls (a0_0 : Int) (a0_1 : Int) (a0_2 : Int) (a0_3 : Int) (r : List Int) (w : World) (h : table_Leads.f a0_0 a0_1 a0_2 a0_3 = some r) :
  Calls Tryd.prog 18 #[.agg #[.int .i64 a0_0, .int .u8 a0_1, .int .i64 a0_2, .int .i64 a0_3]] w fun e w' => ∃ v0_ : Value, e = .returned (v0_) ∧ Kd.R (Kd.int .i64) 3 w' w.heap.size (fun _ => True) v0_ r ∧ Below w.heap.size w w' := by
 have hu34 := Tryd.underlying34
 have HB := Aside0.mk (Below.refl w.heap.size w)
 have H : (if a0_1 = 90 then ((table_is.f a0_1 (⟨#[66, 68, 69]⟩ : ByteArray)).bind fun t103 => (if t103 = true then (if ([] : List Int).length < 17592186044416 then (some (([] : List Int) ++ [a0_3])) else (none)) else (some ([] : List Int)))) else (if ([] : List Int).length < 17592186044416 then ((some (([] : List Int) ++ [a0_2] : List Int)).bind fun y107 => ((table_is.f a0_1 (⟨#[66, 68, 69]⟩ : ByteArray)).bind fun t110 => (if t110 = true then (if y107.length < 17592186044416 then (some (y107 ++ [a0_3])) else (none)) else (some y107)))) else (none))) = some r := h
 clear h
 by_cases c2 : a0_1 = 90
 ·rw [if_pos c2] at H
  have c2b0 : (a0_1 == 90) = true := beq_iff_eq.mpr c2
  have c2b1 : (a0_1 != 90) = false := bne_eq_false_iff_eq.mpr c2
  clear c2
  replace H := Option.bind_eq_some_iff.mp H
  obtain ⟨t103, A30, H⟩ := H
  replace H : (if t103 = true then (if ([] : List Int).length < 17592186044416 then (some (([] : List Int) ++ [a0_3])) else (none)) else (some ([] : List Int))) = some r := H
  have A3 := Aside0.mk A30
  clear A30
  by_cases c4 : t103 = true
  ·subst c4
   have H1 : (if ([] : List Int).length < 17592186044416 then (some (([] : List Int) ++ [a0_3])) else (none)) = some r := by rw [if_pos rfl] at H; exact H
   clear H
   have H := H1
   clear H1
   by_cases c5 : ([] : List Int).length < 17592186044416
   ·rw [if_pos c5] at H
    have LMc5 := Aside0.mk c5
    clear c5
    obtain ⟨y104, hy104⟩ : ∃ y_ : List Int, y_ = (([] : List Int) ++ [a0_3]) := ⟨_, rfl⟩
    replace H : (some y104) = some r := by first | (rw [hy104]; with_reducible exact H) | (have H2_ := (Option.bind_some _ _).symm.trans H; rw [hy104]; with_reducible exact H2_) | (have H2_ := (Option.bind_some _ _).symm.trans H; with_reducible exact H2_) | with_reducible exact H | (rw [hy104]; exact H) | exact H
    have Ny104 := Aside0.mk hy104
    clear hy104
    obtain rfl := Option.some.inj H
    go_enter Tryd.func18, Tryd.ntmps18
    go_wp2_with (first | ((with_reducible refine gate_dst (N := 1) rfl ?_); refine box_event ?hg (N := 1) ?hd (cs := #[.int .i64 a0_0, .int .u8 a0_1, .int .i64 a0_2, .int .i64 a0_3]) (t := 34) ?hr ?_; (case hd => rfl); (case hg => rfl); (case hr => first | (go_simp; done) | (go_simp; rfl)); intro gb102 hg w6 hbox hb; have n0_ := Aside0.mk (below_step (by repeat (first | (with_reducible first | exact HB.out | apply below_alloc | apply pw_below_drewN | apply below_drew1) | exact HB.out)) hb); have n1_ := Aside0.mk (hbox); have n2_ := Aside0.mk ((by rw [hg]; exact (below_size (by repeat (first | (with_reducible first | exact HB.out | apply below_alloc | apply pw_below_drewN | apply below_drew1) | exact HB.out))) : w.heap.size ≤ gb102)); have n3_ := Aside0.mk ((by rw [hg]; exact (below_size (by repeat (first | (with_reducible first | exact HB.out | apply below_alloc | apply pw_below_drewN | apply below_drew1) | exact HB.out))) : w.heap.size ≤ gb102)); clear HB; have HB := n0_; have BK102 := n1_; have GW102 := n2_; have GE102 := n3_; clear n0_ n1_ n2_ n3_; clear hb hbox hg; have hcz7_0 : w6.cell? ⟨gb102, 0, none⟩ = some (.int .i64 a0_0) := (blk_cell BK102.out 0).trans rfl; have hcz7_1 : w6.cell? ⟨gb102, 1, none⟩ = some (.int .u8 a0_1) := (blk_cell BK102.out 1).trans rfl; have hcz7_2 : w6.cell? ⟨gb102, 2, none⟩ = some (.int .i64 a0_2) := (blk_cell BK102.out 2).trans rfl; have hcz7_3 : w6.cell? ⟨gb102, 3, none⟩ = some (.int .i64 a0_3) := (blk_cell BK102.out 3).trans rfl; have hfz7_0 := blk_frozen BK102.out 0; have hfz7_1 := blk_frozen BK102.out 1; have hfz7_2 := blk_frozen BK102.out 2; have hfz7_3 := blk_frozen BK102.out 3) | ((with_reducible refine gate_callee (f := 30) rfl ?_); refine goesL_ (some 14) rfl rfl Tryd.func30 (by kernel_rfl) rfl #[.int .u8 a0_1, .string (⟨#[66, 68, 69]⟩ : ByteArray)] rfl (by (try simp only [List.map_toArray, List.map_cons, List.map_nil]); first | done | rfl | (simp only [List.length_drop, List.length_take]; rfl) | (rw [hsame_])) ?_; (with_reducible refine (table_is.calls a0_1 (⟨#[66, 68, 69]⟩ : ByteArray) true _ A3.out).mono ?_); rintro e w' ⟨rfl, ⟨nd, rfl⟩⟩; refine ⟨_, rfl, ?_⟩) | ((with_reducible refine gate_builtin (b := .append) (xs := #[.tmp 15, .tmp 18]) rfl ?_); at_builtin; refine Kd.R_append (Kd.int .i64) (w0 := w) w.heap.size rfl (.tmp 15) (.tmp 18) 32 3 (.int .i64 0) 8 rfl Tryd.underlying32 info3 rfl (by decide) (by omega) (.slice none 0 0) ([] : List Int) a0_3 [.int .i64 a0_3] (fun _ => True) (fun _ => False) rfl rfl ?aP (fun _ hk => hk.elim) ?aF ?aO ?aB ?aS ?aL ?_; (case aP => exact rfl); (case aB => exact (by repeat (first | (with_reducible first | exact HB.out | apply below_alloc | apply pw_below_drewN | apply below_drew1 | refine below_set ?_ GE102.out) | exact HB.out))); (case aF => exact (fun _ _ => trivial)); (case aO => exact ((Kd.R_nil _ _ _ _ (fun _ => True)))); (case aS => exact (below_size (by repeat (first | (with_reducible first | exact HB.out | apply below_alloc | apply pw_below_drewN | apply below_drew1 | refine below_set ?_ GE102.out) | exact HB.out)))); (case aL => have := LMc5.out; omega); intro v105 w8 ho hb hg hat; rw [← Ny104.out] at ho; have n0_ := Aside0.mk (blk_grown (g := gb102) (o := .cells #[.int .i64 a0_0, .int .u8 a0_1, .int .i64 a0_2, .int .i64 a0_3] 34 (0, 0)) (by (with_reducible repeat (first | refine blk_drewN ?_ _ | refine blk_drew ?_ | refine blk_alloc ?_ _)); exact BK102.out) hg (by simp [Value.ownBlock])); have n1_ := Aside0.mk (hb); have n2_ := Aside0.mk (ho); clear BK102; clear HB; have BK102 := n0_; have HB := n1_; have HO106 := n2_; clear n0_ n1_ n2_; clear ho hb hg hat))
    go_ret
    exact ⟨_, by first | rfl | (simp [errW_none, errW_some] <;> rfl) | (simp [*, errW_none, errW_some] <;> rfl), by (with_reducible repeat (first | apply Kd.R_alloc | apply Kd.R_drewN | apply Kd.R_drew)); exact HO106.out, by repeat (first | (with_reducible first | exact HB.out | apply below_alloc | apply pw_below_drewN | apply below_drew1 | refine below_set ?_ GE102.out) | exact HB.out)⟩
   ·rw [if_neg c5] at H
    exact absurd H (by simp)
  ·replace c4 := Bool.eq_false_iff.mpr c4
   subst c4
   have H1 : (some ([] : List Int)) = some r := by rw [if_neg (show ¬ (false = true) by decide)] at H; exact H
   clear H
   have H := H1
   clear H1
   obtain rfl := Option.some.inj H
   go_enter Tryd.func18, Tryd.ntmps18
   go_wp2_with (first | ((with_reducible refine gate_dst (N := 1) rfl ?_); refine box_event ?hg (N := 1) ?hd (cs := #[.int .i64 a0_0, .int .u8 a0_1, .int .i64 a0_2, .int .i64 a0_3]) (t := 34) ?hr ?_; (case hd => rfl); (case hg => rfl); (case hr => first | (go_simp; done) | (go_simp; rfl)); intro gb102 hg w9 hbox hb; have n0_ := Aside0.mk (below_step (by repeat (first | (with_reducible first | exact HB.out | apply below_alloc | apply pw_below_drewN | apply below_drew1) | exact HB.out)) hb); have n1_ := Aside0.mk (hbox); have n2_ := Aside0.mk ((by rw [hg]; exact (below_size (by repeat (first | (with_reducible first | exact HB.out | apply below_alloc | apply pw_below_drewN | apply below_drew1) | exact HB.out))) : w.heap.size ≤ gb102)); have n3_ := Aside0.mk ((by rw [hg]; exact (below_size (by repeat (first | (with_reducible first | exact HB.out | apply below_alloc | apply pw_below_drewN | apply below_drew1) | exact HB.out))) : w.heap.size ≤ gb102)); clear HB; have HB := n0_; have BK102 := n1_; have GW102 := n2_; have GE102 := n3_; clear n0_ n1_ n2_ n3_; clear hb hbox hg; have hcz10_0 : w9.cell? ⟨gb102, 0, none⟩ = some (.int .i64 a0_0) := (blk_cell BK102.out 0).trans rfl; have hcz10_1 : w9.cell? ⟨gb102, 1, none⟩ = some (.int .u8 a0_1) := (blk_cell BK102.out 1).trans rfl; have hcz10_2 : w9.cell? ⟨gb102, 2, none⟩ = some (.int .i64 a0_2) := (blk_cell BK102.out 2).trans rfl; have hcz10_3 : w9.cell? ⟨gb102, 3, none⟩ = some (.int .i64 a0_3) := (blk_cell BK102.out 3).trans rfl; have hfz10_0 := blk_frozen BK102.out 0; have hfz10_1 := blk_frozen BK102.out 1; have hfz10_2 := blk_frozen BK102.out 2; have hfz10_3 := blk_frozen BK102.out 3) | ((with_reducible refine gate_callee (f := 30) rfl ?_); refine goesL_ (some 14) rfl rfl Tryd.func30 (by kernel_rfl) rfl #[.int .u8 a0_1, .string (⟨#[66, 68, 69]⟩ : ByteArray)] rfl (by (try simp only [List.map_toArray, List.map_cons, List.map_nil]); first | done | rfl | (simp only [List.length_drop, List.length_take]; rfl) | (rw [hsame_])) ?_; (with_reducible refine (table_is.calls a0_1 (⟨#[66, 68, 69]⟩ : ByteArray) false _ A3.out).mono ?_); rintro e w' ⟨rfl, ⟨nd, rfl⟩⟩; refine ⟨_, rfl, ?_⟩))
   go_ret
   exact ⟨_, by first | rfl | (simp [errW_none, errW_some] <;> rfl) | (simp [*, errW_none, errW_some] <;> rfl), by first | exact Kd.R_nil _ _ _ _ _ | exact Kd.N_nil _ _ _ _ _ | exact Kd.V_nil _ _ _ _ _ | exact Kd.Q_nil _ _ _ _ _ | exact Kd.S_nil _ _ _ _ _, by repeat (first | (with_reducible first | exact HB.out | apply below_alloc | apply pw_below_drewN | apply below_drew1 | refine below_set ?_ GE102.out) | exact HB.out)⟩
 ·rw [if_neg c2] at H
  have c2b0 : (a0_1 == 90) = false := beq_eq_false_iff_ne.mpr c2
  have c2b1 : (a0_1 != 90) = true := bne_iff_ne.mpr c2
  by_cases c11 : ([] : List Int).length < 17592186044416
  ·rw [if_pos c11] at H
   have LMc11 := Aside0.mk c11
   clear c11
   obtain ⟨y107, hy107⟩ : ∃ y_ : List Int, y_ = (([] : List Int) ++ [a0_2]) := ⟨_, rfl⟩
   replace H : ((table_is.f a0_1 (⟨#[66, 68, 69]⟩ : ByteArray)).bind fun t110 => (if t110 = true then (if y107.length < 17592186044416 then (some (y107 ++ [a0_3])) else (none)) else (some y107))) = some r := by first | (rw [hy107]; with_reducible exact H) | (have H2_ := (Option.bind_some _ _).symm.trans H; rw [hy107]; with_reducible exact H2_) | (have H2_ := (Option.bind_some _ _).symm.trans H; with_reducible exact H2_) | with_reducible exact H | (rw [hy107]; exact H) | exact H
   have Ny107 := Aside0.mk hy107
   clear hy107
   replace H := Option.bind_eq_some_iff.mp H
   obtain ⟨t110, A120, H⟩ := H
   replace H : (if t110 = true then (if y107.length < 17592186044416 then (some (y107 ++ [a0_3])) else (none)) else (some y107)) = some r := H
   have A12 := Aside0.mk A120
   clear A120
   by_cases c13 : t110 = true
   ·subst c13
    have H1 : (if y107.length < 17592186044416 then (some (y107 ++ [a0_3])) else (none)) = some r := by rw [if_pos rfl] at H; exact H
    clear H
    have H := H1
    clear H1
    by_cases c14 : y107.length < 17592186044416
    ·rw [if_pos c14] at H
     have LMc14 := Aside0.mk c14
     clear c14
     obtain ⟨y111, hy111⟩ : ∃ y_ : List Int, y_ = (y107 ++ [a0_3]) := ⟨_, rfl⟩
     replace H : (some y111) = some r := by first | (rw [hy111]; with_reducible exact H) | (have H2_ := (Option.bind_some _ _).symm.trans H; rw [hy111]; with_reducible exact H2_) | (have H2_ := (Option.bind_some _ _).symm.trans H; with_reducible exact H2_) | with_reducible exact H | (rw [hy111]; exact H) | exact H
     have Ny111 := Aside0.mk hy111
     clear hy111
     obtain rfl := Option.some.inj H
     go_enter Tryd.func18, Tryd.ntmps18
     go_wp2_with (first | ((with_reducible refine gate_dst (N := 1) rfl ?_); refine box_event ?hg (N := 1) ?hd (cs := #[.int .i64 a0_0, .int .u8 a0_1, .int .i64 a0_2, .int .i64 a0_3]) (t := 34) ?hr ?_; (case hd => rfl); (case hg => rfl); (case hr => first | (go_simp; done) | (go_simp; rfl)); intro gb102 hg w15 hbox hb; have n0_ := Aside0.mk (below_step (by repeat (first | (with_reducible first | exact HB.out | apply below_alloc | apply pw_below_drewN | apply below_drew1) | exact HB.out)) hb); have n1_ := Aside0.mk (hbox); have n2_ := Aside0.mk ((by rw [hg]; exact (below_size (by repeat (first | (with_reducible first | exact HB.out | apply below_alloc | apply pw_below_drewN | apply below_drew1) | exact HB.out))) : w.heap.size ≤ gb102)); have n3_ := Aside0.mk ((by rw [hg]; exact (below_size (by repeat (first | (with_reducible first | exact HB.out | apply below_alloc | apply pw_below_drewN | apply below_drew1) | exact HB.out))) : w.heap.size ≤ gb102)); clear HB; have HB := n0_; have BK102 := n1_; have GW102 := n2_; have GE102 := n3_; clear n0_ n1_ n2_ n3_; clear hb hbox hg; have hcz16_0 : w15.cell? ⟨gb102, 0, none⟩ = some (.int .i64 a0_0) := (blk_cell BK102.out 0).trans rfl; have hcz16_1 : w15.cell? ⟨gb102, 1, none⟩ = some (.int .u8 a0_1) := (blk_cell BK102.out 1).trans rfl; have hcz16_2 : w15.cell? ⟨gb102, 2, none⟩ = some (.int .i64 a0_2) := (blk_cell BK102.out 2).trans rfl; have hcz16_3 : w15.cell? ⟨gb102, 3, none⟩ = some (.int .i64 a0_3) := (blk_cell BK102.out 3).trans rfl; have hfz16_0 := blk_frozen BK102.out 0; have hfz16_1 := blk_frozen BK102.out 1; have hfz16_2 := blk_frozen BK102.out 2; have hfz16_3 := blk_frozen BK102.out 3) | ((with_reducible refine gate_builtin (b := .append) (xs := #[.tmp 7, .tmp 10]) rfl ?_); at_builtin; refine Kd.R_append (Kd.int .i64) (w0 := w) w.heap.size rfl (.tmp 7) (.tmp 10) 32 3 (.int .i64 0) 8 rfl Tryd.underlying32 info3 rfl (by decide) (by omega) (.slice none 0 0) ([] : List Int) a0_2 [.int .i64 a0_2] (fun _ => True) (fun _ => False) rfl rfl ?aP (fun _ hk => hk.elim) ?aF ?aO ?aB ?aS ?aL ?_; (case aP => exact rfl); (case aB => exact (by repeat (first | (with_reducible first | exact HB.out | apply below_alloc | apply pw_below_drewN | apply below_drew1 | refine below_set ?_ GE102.out) | exact HB.out))); (case aF => exact (fun _ _ => trivial)); (case aO => exact ((Kd.R_nil _ _ _ _ (fun _ => True)))); (case aS => exact (below_size (by repeat (first | (with_reducible first | exact HB.out | apply below_alloc | apply pw_below_drewN | apply below_drew1 | refine below_set ?_ GE102.out) | exact HB.out)))); (case aL => have := LMc11.out; omega); intro v108 w17 ho hb hg hat; rw [← Ny107.out] at ho; have n0_ := Aside0.mk (blk_grown (g := gb102) (o := .cells #[.int .i64 a0_0, .int .u8 a0_1, .int .i64 a0_2, .int .i64 a0_3] 34 (0, 0)) (by (with_reducible repeat (first | refine blk_drewN ?_ _ | refine blk_drew ?_ | refine blk_alloc ?_ _)); exact BK102.out) hg (by simp [Value.ownBlock])); have n1_ := Aside0.mk (hb); have n2_ := Aside0.mk (ho); clear BK102; clear HB; have BK102 := n0_; have HB := n1_; have HO109 := n2_; clear n0_ n1_ n2_; clear ho hb hg hat; have hcz18_0 : w17.cell? ⟨gb102, 0, none⟩ = some (.int .i64 a0_0) := (blk_cell BK102.out 0).trans rfl; have hcz18_1 : w17.cell? ⟨gb102, 1, none⟩ = some (.int .u8 a0_1) := (blk_cell BK102.out 1).trans rfl; have hcz18_2 : w17.cell? ⟨gb102, 2, none⟩ = some (.int .i64 a0_2) := (blk_cell BK102.out 2).trans rfl; have hcz18_3 : w17.cell? ⟨gb102, 3, none⟩ = some (.int .i64 a0_3) := (blk_cell BK102.out 3).trans rfl; have hfz18_0 := blk_frozen BK102.out 0; have hfz18_1 := blk_frozen BK102.out 1; have hfz18_2 := blk_frozen BK102.out 2; have hfz18_3 := blk_frozen BK102.out 3) | ((with_reducible refine gate_callee (f := 30) rfl ?_); refine goesL_ (some 14) rfl rfl Tryd.func30 (by kernel_rfl) rfl #[.int .u8 a0_1, .string (⟨#[66, 68, 69]⟩ : ByteArray)] rfl (by (try simp only [List.map_toArray, List.map_cons, List.map_nil]); first | done | rfl | (simp only [List.length_drop, List.length_take]; rfl) | (rw [hsame_])) ?_; (with_reducible refine (table_is.calls a0_1 (⟨#[66, 68, 69]⟩ : ByteArray) true _ A12.out).mono ?_); rintro e w' ⟨rfl, ⟨nd, rfl⟩⟩; refine ⟨_, rfl, ?_⟩) | ((with_reducible refine gate_builtin (b := .append) (xs := #[.tmp 15, .tmp 18]) rfl ?_); at_builtin; refine Kd.R_append (Kd.int .i64) (w0 := w) w.heap.size rfl (.tmp 15) (.tmp 18) 32 3 (.int .i64 0) 8 rfl Tryd.underlying32 info3 rfl (by decide) (by omega) v108 y107 a0_3 [.int .i64 a0_3] (fun _ => True) (fun _ => False) rfl rfl ?aP (fun _ hk => hk.elim) ?aF ?aO ?aB ?aS ?aL ?_; (case aP => exact rfl); (case aB => exact (by repeat (first | (with_reducible first | exact HB.out | apply below_alloc | apply pw_below_drewN | apply below_drew1 | refine below_set ?_ GE102.out) | exact HB.out))); (case aF => exact (fun _ _ => trivial)); (case aO => exact (by (with_reducible repeat (first | apply Kd.R_alloc | apply Kd.R_drewN | apply Kd.R_drew)); exact HO109.out)); (case aS => exact (below_size (by repeat (first | (with_reducible first | exact HB.out | apply below_alloc | apply pw_below_drewN | apply below_drew1 | refine below_set ?_ GE102.out) | exact HB.out)))); (case aL => have := LMc14.out; omega); intro v112 w19 ho hb hg hat; rw [← Ny111.out] at ho; have n0_ := Aside0.mk (blk_grown (g := gb102) (o := .cells #[.int .i64 a0_0, .int .u8 a0_1, .int .i64 a0_2, .int .i64 a0_3] 34 (0, 0)) (by (with_reducible repeat (first | refine blk_drewN ?_ _ | refine blk_drew ?_ | refine blk_alloc ?_ _)); exact BK102.out) hg (Kd.R_ne HO109.out BK102.out (by decide))); have n1_ := Aside0.mk (hb); have n2_ := Aside0.mk (ho); clear BK102; clear HB; clear HO109; have BK102 := n0_; have HB := n1_; have HO113 := n2_; clear n0_ n1_ n2_; clear ho hb hg hat))
     go_ret
     exact ⟨_, by first | rfl | (simp [errW_none, errW_some] <;> rfl) | (simp [*, errW_none, errW_some] <;> rfl), by (with_reducible repeat (first | apply Kd.R_alloc | apply Kd.R_drewN | apply Kd.R_drew)); exact HO113.out, by repeat (first | (with_reducible first | exact HB.out | apply below_alloc | apply pw_below_drewN | apply below_drew1 | refine below_set ?_ GE102.out) | exact HB.out)⟩
    ·rw [if_neg c14] at H
     exact absurd H (by simp)
   ·replace c13 := Bool.eq_false_iff.mpr c13
    subst c13
    have H1 : (some y107) = some r := by rw [if_neg (show ¬ (false = true) by decide)] at H; exact H
    clear H
    have H := H1
    clear H1
    obtain rfl := Option.some.inj H
    go_enter Tryd.func18, Tryd.ntmps18
    go_wp2_with (first | ((with_reducible refine gate_dst (N := 1) rfl ?_); refine box_event ?hg (N := 1) ?hd (cs := #[.int .i64 a0_0, .int .u8 a0_1, .int .i64 a0_2, .int .i64 a0_3]) (t := 34) ?hr ?_; (case hd => rfl); (case hg => rfl); (case hr => first | (go_simp; done) | (go_simp; rfl)); intro gb102 hg w20 hbox hb; have n0_ := Aside0.mk (below_step (by repeat (first | (with_reducible first | exact HB.out | apply below_alloc | apply pw_below_drewN | apply below_drew1) | exact HB.out)) hb); have n1_ := Aside0.mk (hbox); have n2_ := Aside0.mk ((by rw [hg]; exact (below_size (by repeat (first | (with_reducible first | exact HB.out | apply below_alloc | apply pw_below_drewN | apply below_drew1) | exact HB.out))) : w.heap.size ≤ gb102)); have n3_ := Aside0.mk ((by rw [hg]; exact (below_size (by repeat (first | (with_reducible first | exact HB.out | apply below_alloc | apply pw_below_drewN | apply below_drew1) | exact HB.out))) : w.heap.size ≤ gb102)); clear HB; have HB := n0_; have BK102 := n1_; have GW102 := n2_; have GE102 := n3_; clear n0_ n1_ n2_ n3_; clear hb hbox hg; have hcz21_0 : w20.cell? ⟨gb102, 0, none⟩ = some (.int .i64 a0_0) := (blk_cell BK102.out 0).trans rfl; have hcz21_1 : w20.cell? ⟨gb102, 1, none⟩ = some (.int .u8 a0_1) := (blk_cell BK102.out 1).trans rfl; have hcz21_2 : w20.cell? ⟨gb102, 2, none⟩ = some (.int .i64 a0_2) := (blk_cell BK102.out 2).trans rfl; have hcz21_3 : w20.cell? ⟨gb102, 3, none⟩ = some (.int .i64 a0_3) := (blk_cell BK102.out 3).trans rfl; have hfz21_0 := blk_frozen BK102.out 0; have hfz21_1 := blk_frozen BK102.out 1; have hfz21_2 := blk_frozen BK102.out 2; have hfz21_3 := blk_frozen BK102.out 3) | ((with_reducible refine gate_builtin (b := .append) (xs := #[.tmp 7, .tmp 10]) rfl ?_); at_builtin; refine Kd.R_append (Kd.int .i64) (w0 := w) w.heap.size rfl (.tmp 7) (.tmp 10) 32 3 (.int .i64 0) 8 rfl Tryd.underlying32 info3 rfl (by decide) (by omega) (.slice none 0 0) ([] : List Int) a0_2 [.int .i64 a0_2] (fun _ => True) (fun _ => False) rfl rfl ?aP (fun _ hk => hk.elim) ?aF ?aO ?aB ?aS ?aL ?_; (case aP => exact rfl); (case aB => exact (by repeat (first | (with_reducible first | exact HB.out | apply below_alloc | apply pw_below_drewN | apply below_drew1 | refine below_set ?_ GE102.out) | exact HB.out))); (case aF => exact (fun _ _ => trivial)); (case aO => exact ((Kd.R_nil _ _ _ _ (fun _ => True)))); (case aS => exact (below_size (by repeat (first | (with_reducible first | exact HB.out | apply below_alloc | apply pw_below_drewN | apply below_drew1 | refine below_set ?_ GE102.out) | exact HB.out)))); (case aL => have := LMc11.out; omega); intro v108 w22 ho hb hg hat; rw [← Ny107.out] at ho; have n0_ := Aside0.mk (blk_grown (g := gb102) (o := .cells #[.int .i64 a0_0, .int .u8 a0_1, .int .i64 a0_2, .int .i64 a0_3] 34 (0, 0)) (by (with_reducible repeat (first | refine blk_drewN ?_ _ | refine blk_drew ?_ | refine blk_alloc ?_ _)); exact BK102.out) hg (by simp [Value.ownBlock])); have n1_ := Aside0.mk (hb); have n2_ := Aside0.mk (ho); clear BK102; clear HB; have BK102 := n0_; have HB := n1_; have HO109 := n2_; clear n0_ n1_ n2_; clear ho hb hg hat; have hcz23_0 : w22.cell? ⟨gb102, 0, none⟩ = some (.int .i64 a0_0) := (blk_cell BK102.out 0).trans rfl; have hcz23_1 : w22.cell? ⟨gb102, 1, none⟩ = some (.int .u8 a0_1) := (blk_cell BK102.out 1).trans rfl; have hcz23_2 : w22.cell? ⟨gb102, 2, none⟩ = some (.int .i64 a0_2) := (blk_cell BK102.out 2).trans rfl; have hcz23_3 : w22.cell? ⟨gb102, 3, none⟩ = some (.int .i64 a0_3) := (blk_cell BK102.out 3).trans rfl; have hfz23_0 := blk_frozen BK102.out 0; have hfz23_1 := blk_frozen BK102.out 1; have hfz23_2 := blk_frozen BK102.out 2; have hfz23_3 := blk_frozen BK102.out 3) | ((with_reducible refine gate_callee (f := 30) rfl ?_); refine goesL_ (some 14) rfl rfl Tryd.func30 (by kernel_rfl) rfl #[.int .u8 a0_1, .string (⟨#[66, 68, 69]⟩ : ByteArray)] rfl (by (try simp only [List.map_toArray, List.map_cons, List.map_nil]); first | done | rfl | (simp only [List.length_drop, List.length_take]; rfl) | (rw [hsame_])) ?_; (with_reducible refine (table_is.calls a0_1 (⟨#[66, 68, 69]⟩ : ByteArray) false _ A12.out).mono ?_); rintro e w' ⟨rfl, ⟨nd, rfl⟩⟩; refine ⟨_, rfl, ?_⟩))
    go_ret
    exact ⟨_, by first | rfl | (simp [errW_none, errW_some] <;> rfl) | (simp [*, errW_none, errW_some] <;> rfl), by (with_reducible repeat (first | apply Kd.R_alloc | apply Kd.R_drewN | apply Kd.R_drew)); exact HO109.out, by repeat (first | (with_reducible first | exact HB.out | apply below_alloc | apply pw_below_drewN | apply below_drew1 | refine below_set ?_ GE102.out) | exact HB.out)⟩
  ·rw [if_neg c11] at H
   exact absurd H (by simp)

/-! ### table_ends: function 19 -/
/-! #### a map from integers to integers: what is there -/
section
open Go.Maps
def MF := Int → Option Int
theorem law3 : Keyed Tryd.prog 3 := int_keyed Tryd.underlying3
theorem zero3 (w : World) : (zeroValue 3).run Tryd.prog w = .ok (.int .i64 0) w := by kernel_rfl
def MF.put (M : MF) (k v : Int) : MF := fun k' => if k' = k then some v else M k'
/-- Block m of W is a map of at most n entries: M k at each key k. -/
def MapO (W : World) (m n : Nat) (M : MF) : Prop := ∃ D : DataW Unit, W.ownsMap Tryd.prog 3 (plainElem Tryd.prog 3) m n D ∧ Maps.IsMap D ∧ ∀ k, (Lit.int .i64 k).wf = true → D.atKey (.int .i64 k) (.lit (.int .i64 0)) = .lit (.int .i64 ((M k).getD 0)) ∧ Maps.has D (.int .i64 k) = (M k).isSome
theorem MapO.kept {W W' : World} {m n : Nat} {M : MF} (h : MapO W m n M) (he : W'.heap[m]? = W.heap[m]?) : MapO W' m n M := by
 obtain ⟨D, ⟨es, c, hb, r⟩, r2⟩ := h
 exact ⟨D, ⟨es, c, he.trans hb, r⟩, r2⟩
theorem MapO.lt {W : World} {m n : Nat} {M : MF} (h : MapO W m n M) : m < W.heap.size := by
 obtain ⟨D, h, _⟩ := h
 exact h.lt
theorem MapO.below {W W' : World} {m n : Nat} {M : MF} (h : MapO W m n M) (hb : Below W.heap.size W W') : MapO W' m n M := h.kept (hb.block m h.lt)
theorem MapO.mono {W : World} {m n n' : Nat} {M : MF} (h : MapO W m n M) (hn : n ≤ n') : MapO W m n' M := by
 obtain ⟨D, h3, h4⟩ := h
 exact ⟨D, h3.mono hn, h4⟩
theorem MapO.look {W : World} {m n : Nat} {M : MF} (h : MapO W m n M) {k : Int} (hk : (Lit.int .i64 k).wf = true) : (Instr.lookup 53 (.map (some m)) (.int .i64 k) false).run Tryd.prog W = .ok (.int .i64 ((M k).getD 0)) W ∧ (Lit.int .i64 ((M k).getD 0)).wf = true := by
 obtain ⟨D, h, _, hM⟩ := h
 obtain ⟨c, hrun, hat, hw⟩ := h.lookup_int law3 Tryd.underlying53 Tryd.underlying3 (zero3 _) (keyOf_int_mk Tryd.underlying3 hk)
 have e := ((hM k hk).1).symm.trans hat
 injection e with e
 injection e with _ e
 subst e
 exact ⟨hrun, hw⟩
theorem MapO.look_ok {W : World} {m n : Nat} {M : MF} (h : MapO W m n M) {k : Int} (hk : (Lit.int .i64 k).wf = true) : (Instr.lookup 53 (.map (some m)) (.int .i64 k) true).run Tryd.prog W = .ok (.tuple #[.int .i64 ((M k).getD 0), .bool (M k).isSome]) W := by
 obtain ⟨D, h, _, hM⟩ := h
 obtain ⟨v, ps, hrun, hv⟩ := h.look_ok law3 Tryd.underlying53 (zero3 _) (plainElem_int (q := .i64) (a := 0) Tryd.underlying3 (by decide)) (keyOf_int_mk Tryd.underlying3 hk)
 obtain ⟨c, rfl, hc, hwc⟩ := plainElem_int_inv Tryd.underlying3 hv
 have e : D.atKey (.int .i64 k) (.lit (.int .i64 0)) = .lit (.int .i64 c) := congrArg Prod.fst hc
 rw [(hM k hk).1] at e
 have e2 : (M k).getD 0 = c := (Lit.int.inj (DataW.lit.inj e)).2
 rw [hrun, e2, (hM k hk).2]
theorem MapO.upd {W : World} {m n : Nat} {M : MF} (h : MapO W m n M) (hn : n < maxLen) {k v : Int} (hk : (Lit.int .i64 k).wf = true) (hv : (Lit.int .i64 v).wf = true) : ∃ w', (Instr.mapUpdate 53 (.map (some m)) (.int .i64 k) (.int .i64 v)).run Tryd.prog W = .ok () w' ∧ MapO w' m (n + 1) (M.put k v) ∧ W.grownBy w' (some m) := by
 obtain ⟨D, h, hD, hM⟩ := h
 obtain ⟨w', hrun, h', hg⟩ := h.update law3 Tryd.underlying53 hn (keyOf_int_mk Tryd.underlying3 hk) (plainElem_int Tryd.underlying3 hv)
 refine ⟨w', hrun, ⟨_, h', hD.put _ _, fun k' hk' => ?_⟩, hg⟩
 unfold MF.put
 by_cases he : k' = k
 ·subst he
  rw [if_pos rfl, Maps.atKey_put_same hD (show WideAt.IsKeyLit (.int .i64 k') from trivial), Maps.has_put_same hD (show WideAt.IsKeyLit (.int .i64 k') from trivial)]
  exact ⟨rfl, rfl⟩
 ·rw [if_neg he, Maps.atKey_put_other (by intro e; injection e with _ e; exact he e), Maps.has_put_other (by intro e; injection e with _ e; exact he e)]
  exact hM k' hk'
theorem MapO.made (W : World) : MapO (W.alloc (.map #[] 0)) W.heap.size 0 (fun _ => none) := ⟨_, World.ownsMap_made W Tryd.prog 3 _, Maps.isMap_empty, fun _ _ => ⟨rfl, rfl⟩⟩
end
mutual
def table_ends.l1 : Nat → List S34 → MF → Int → List Bool → Option (List Bool)
 | 0, _, _, _, _ => none
 | k + 1, l0, M, i1, bs => if i1 < (l0.length : Int) then (table_ends.l2 k l0 M i1 0 bs) else (some bs)
def table_ends.l2 : Nat → List S34 → MF → Int → Int → List Bool → Option (List Bool)
 | 0, _, _, _, _, _ => none
 | k + 1, l0, M, i1, i, bs => if i < (l0.length : Int) then (if 0 ≤ i then (if (rd_T34 l0 i).f1 = 90 then ((table_Leads.f ((rd_T34 l0 i).f0) ((rd_T34 l0 i).f1) ((rd_T34 l0 i).f2) ((rd_T34 l0 i).f3)).bind fun ns => (table_ends.l3 k l0 M i1 i ns 0 (bs.set i.toNat true))) else ((table_Leads.f ((rd_T34 l0 i).f0) ((rd_T34 l0 i).f1) ((rd_T34 l0 i).f2) ((rd_T34 l0 i).f3)).bind fun ns => (table_ends.l3 k l0 M i1 i ns 0 bs))) else (none)) else (table_ends.l1 k l0 M (wrap64 (i1 + 1)) bs)
def table_ends.l3 : Nat → List S34 → MF → Int → Int → List Int → Int → List Bool → Option (List Bool)
 | 0, _, _, _, _, _, _, _ => none
 | k + 1, l0, M, i1, i, ns, j, bs => if j < (ns.length : Int) then (if 0 ≤ j then (if 0 ≤ i then (if i < (bs.length : Int) then (if rdOf false bs i = true then (table_ends.l3 k l0 M i1 i ns (wrap64 (j + 1)) (bs.set i.toNat true)) else (if (Lit.int .i64 (rd ns j)).wf = true then (if 0 ≤ (M (rd ns j)).getD 0 then (if (M (rd ns j)).getD 0 < (bs.length : Int) then (table_ends.l3 k l0 M i1 i ns (wrap64 (j + 1)) (bs.set i.toNat (rdOf false bs ((M (rd ns j)).getD 0)))) else (none)) else (none)) else (none))) else (none)) else (none)) else (none)) else (table_ends.l2 k l0 M i1 (wrap64 (i + 1)) bs)
end
def table_ends.f (k : Nat) (l0 : List S34) (M : MF) : Option (List Bool) := if l0.length ≤ 140737488355328 then table_ends.l1 k l0 M 0 (List.replicate l0.length false) else none
theorem table_ends.mono_l : ∀ k, (∀ l0 M i1 bs, LeO (table_ends.l1 k l0 M i1 bs) (table_ends.l1 (k + 1) l0 M i1 bs)) ∧ (∀ l0 M i1 i bs, LeO (table_ends.l2 k l0 M i1 i bs) (table_ends.l2 (k + 1) l0 M i1 i bs)) ∧ (∀ l0 M i1 i ns j bs, LeO (table_ends.l3 k l0 M i1 i ns j bs) (table_ends.l3 (k + 1) l0 M i1 i ns j bs)) := by
 intro k
 induction k with
 | zero => exact ⟨fun _ _ _ _ => by simp only [table_ends.l1]; exact LeO.none _, fun _ _ _ _ _ => by simp only [table_ends.l2]; exact LeO.none _, fun _ _ _ _ _ _ _ => by simp only [table_ends.l3]; exact LeO.none _⟩
 | succ k ih =>
  obtain ⟨h1, h2, h3⟩ := ih
  refine ⟨fun l0 M i1 bs => ?_, fun l0 M i1 i bs => ?_, fun l0 M i1 i ns j bs => ?_⟩
  ·rw [table_ends.l1, table_ends.l1]
   repeat' first
    | (with_reducible exact h2 _ _ _ _ _)
    | (with_reducible exact LeO.refl _)
    | (with_reducible exact LeO.none _)
    | (with_reducible refine LeO.ite ?_ ?_)
  ·rw [table_ends.l2, table_ends.l2]
   repeat' first
    | (with_reducible exact h1 _ _ _ _)
    | (with_reducible exact h3 _ _ _ _ _ _ _)
    | (with_reducible exact LeO.refl _)
    | (with_reducible exact LeO.none _)
    | (with_reducible refine LeO.ite ?_ ?_)
    | (with_reducible refine LeO.bind ?_ (fun _ => ?_))
  ·rw [table_ends.l3, table_ends.l3]
   repeat' first
    | (with_reducible exact h2 _ _ _ _ _)
    | (with_reducible exact h3 _ _ _ _ _ _ _)
    | (with_reducible exact LeO.refl _)
    | (with_reducible exact LeO.none _)
    | (with_reducible refine LeO.ite ?_ ?_)
theorem table_ends.mono : ∀ l0 M k, LeO (table_ends.f k l0 M) (table_ends.f (k + 1) l0 M) := by
 intro l0 M k
 unfold table_ends.f
 exact LeO.ite ((table_ends.mono_l k).1 _ _ _ _) (LeO.none _)
theorem info4 : (Tryd.prog.info? 4).map (fun i => (i.zero, i.size, i.bytes)) = some (some (.bool false), 1, 1) := by kernel_rfl
set_option maxHeartbeats 8000000 in
set_option maxRecDepth 100000 in
theorem table_ends.calls (k : Nat) (A0 : Option Addr) (c0 : Nat) (l0 : List S34) (m n : Nat) (M : MF) (r : List Bool) (w : World) (hr0 : Kd.C k34 w A0 l0.length l0) (hc0 : l0.length ≤ c0) (hM : MapO w m n M) (h : table_ends.f k l0 M = some r) :
  Calls Tryd.prog 19 #[.slice A0 l0.length c0, .map (some m)] w fun e w' => ∃ v0_ : Value, e = .returned v0_ ∧ Kd.R Kd.bool 4 w' w.heap.size (fun _ => True) v0_ r ∧ Below w.heap.size w w' := by
 have hu34 := Tryd.underlying34
 unfold table_ends.f at h
 split at h
 case isFalse => cases h
 rename_i hl1
 have HR0 := Aside0.mk hr0
 have HC0 := Aside0.mk hc0
 have HM := Aside0.mk hM
 have H' := Aside0.mk h
 have HL1 := Aside0.mk hl1
 clear hr0 hc0 hM h hl1
 rcases Nat.eq_zero_or_pos l0.length with hl0 | hl0
 ·obtain rfl : l0 = [] := List.length_eq_zero_iff.mp hl0
  clear hl0
  go_enter Tryd.func19, Tryd.ntmps19
  go_wp2_with (first | ((with_reducible refine gate_dst (N := 12) rfl ?_); refine Kd.R_make Kd.bool _ 4 rfl (N := 12) rfl 56 _ _ rfl (0 : Int) rfl rfl Tryd.underlying56 (.bool false) 1 info4 rfl (by decide) (by omega) false (ok := fun _ => True) (okp := fun _ => True) rfl (fun _ hk => hk) trivial (by decide) (by decide) (Below.refl _ _) (Nat.le_refl _) ?_; intro v1 w1 ho hb hg_ hnew_; clear hg_ hnew_; have HO := Aside0.mk ho; have HB := Aside0.mk hb; clear ho hb; have n0_ := Aside0.mk (show Kd.R Kd.bool 4 w1 w.heap.size (fun _ => True) v1 [] from HO.out); clear HO; have HO := n0_; clear n0_; obtain ⟨Av, cv, rfl⟩ := Kd.R_slice HO.out; replace HO : Aside0 (Kd.R Kd.bool 4 w1 w.heap.size (fun _ => True) (.slice Av 0 cv) []) := HO))
  go_loopg [15] k (fun kq v15 w' => v15 = .int .i64 0 ∧ Aside0 (Kd.R Kd.bool 4 w' w.heap.size (fun _ => True) (.slice Av 0 cv) []) ∧ Aside0 (Below w.heap.size w w'))
  case atStart => exact ⟨(by first | rfl | (simp; done) | (simp [*]; done)), HO, HB⟩
  case round =>
   clear HO HB
   obtain ⟨rfl, HO, HB⟩ := hrel
   have H := H'.out
   cases k with
   | zero => exact absurd H (by simp [table_ends.l1])
   | succ k =>
    simp only [table_ends.l1] at H
    rw [if_neg (by simp)] at H
    obtain rfl := Option.some.inj H
    clear H
    go_wp2
    go_ret
    exact ⟨_, rfl, HO.out, HB.out⟩
 have HL0 := Aside0.mk hl0
 clear hl0
 go_enter Tryd.func19, Tryd.ntmps19
 go_wp2_with (first | ((with_reducible refine gate_dst (N := 12) rfl ?_); refine Kd.R_make Kd.bool _ 4 rfl (N := 12) rfl 56 _ _ rfl (l0.length : Int) rfl rfl Tryd.underlying56 (.bool false) 1 info4 rfl (by decide) (by omega) false (ok := fun _ => True) (okp := fun _ => True) rfl (fun _ hk => hk) trivial (Int.natCast_nonneg _) (by have := HL1.out; rw [Int.toNat_natCast]; omega) (Below.refl _ _) (Nat.le_refl _) ?_; intro v1 w1 ho hb hg_ hnew_; clear hg_ hnew_; rw [Int.toNat_natCast] at ho; have HO := Aside0.mk ho; have HB := Aside0.mk hb; clear ho hb; obtain ⟨go, co, eo, gb, gl, cl, HG⟩ := Kd.R_form HO.out (by rw [List.length_replicate]; exact HL0.out); rw [List.length_replicate] at eo; subst eo; have GGO := Aside0.mk gb; clear gb gl HG; have n0_ := Aside0.mk (show Kd.R Kd.bool 4 w1 w.heap.size (fun k_ => k_ = go) (.slice (some ⟨go, 0, none⟩) l0.length co) (List.replicate l0.length false) from Kd.R_mono (Kd.R_tight rfl HO.out) (fun k_ hk_ => by simpa [Value.ownBlock] using hk_)); clear HO; have HO := n0_; clear n0_))
 go_loopg [15] k (fun kq v15 w' => ∃ (i1 : Int) (bs : List Bool), v15 = .int .i64 i1 ∧ Aside0 (table_ends.l1 kq l0 M i1 bs = some r) ∧ Aside0 (kq ≤ k) ∧ Aside0 (Kd.R Kd.bool 4 w' w.heap.size (fun k_ => k_ = go) (.slice (some ⟨go, 0, none⟩) l0.length co) bs) ∧ Aside0 (Below w.heap.size w w'))
 case atStart => exact ⟨0, _, rfl, H', ⟨Nat.le_refl _⟩, HO, HB⟩
 case round =>
  clear H' HO HB
  obtain ⟨i1, bs, rfl, HA, HK, HO, HB⟩ := hrel
  cases gk with
  | zero => exact absurd HA.out (by simp [table_ends.l1])
  | succ k1 =>
   have H := HA.out
   clear HA
   simp only [table_ends.l1] at H
   by_cases c1 : i1 < (l0.length : Int)
   ·rw [if_pos c1] at H
    have c1b : decide (i1 < (l0.length : Int)) = true := decide_eq_true c1
    have H' := Aside0.mk H
    clear H c1
    go_wp2
    go_loopg [19] k1 (fun kq v19 w' => ∃ (i : Int) (bs : List Bool), v19 = .int .i64 i ∧ Aside0 (table_ends.l2 kq l0 M i1 i bs = some r) ∧ Aside0 (kq ≤ k1) ∧ Aside0 (Kd.R Kd.bool 4 w' w.heap.size (fun k_ => k_ = go) (.slice (some ⟨go, 0, none⟩) l0.length co) bs) ∧ Aside0 (Below w.heap.size w w'))
    case atStart => exact ⟨0, _, rfl, H', ⟨Nat.le_refl _⟩, HO, HB⟩
    case round =>
     clear H' HO HB c1b
     obtain ⟨i, bs, rfl, HA, HK2, HO, HB⟩ := hrel
     cases gk with
     | zero => exact absurd HA.out (by simp [table_ends.l2])
     | succ k2 =>
      have H := HA.out
      clear HA
      simp only [table_ends.l2] at H
      by_cases c2 : i < (l0.length : Int)
      ·rw [if_pos c2] at H
       by_cases c3 : 0 ≤ i
       ·rw [if_pos c3] at H
        have HBL := Aside0.mk (show l0.length = bs.length from (Kd.R_reads' HO.out).1)
        have HI2 := Aside0.mk c2
        have HI3 := Aside0.mk c3
        have GL := Aside0.mk (Kd.R_lt HO.out go rfl)
        obtain ⟨ad, e_, hx0, hx1, hx2, hx3⟩ := at_T34 HR0.out i c3 c2
        cases e_
        have c2b : decide (i < (l0.length : Int)) = true := decide_eq_true c2
        have c2e := eq_true c2
        have c3e := eq_true c3
        clear c2 c3
        replace hx0 := (HB.out.cell (World.block_lt_of_cell? w _ hx0)).trans hx0
        replace hx1 := (HB.out.cell (World.block_lt_of_cell? w _ hx1)).trans hx1
        replace hx2 := (HB.out.cell (World.block_lt_of_cell? w _ hx2)).trans hx2
        replace hx3 := (HB.out.cell (World.block_lt_of_cell? w _ hx3)).trans hx3
        by_cases c4 : (rd_T34 l0 i).f1 = 90
        ·rw [if_pos c4] at H
         obtain ⟨ns, A1, H⟩ := Option.bind_eq_some_iff.mp H
         have A1 := Aside0.mk A1
         have H' := Aside0.mk H
         have c4b0 : ((rd_T34 l0 i).f1 == 90) = true := beq_iff_eq.mpr c4
         clear H c4
         go_wp2_with (first | ((with_reducible refine gate_dst (N := 7) rfl ?_); refine box_event ?hg (N := 7) ?hd (cs := #[.int .i64 0, .int .u8 0, .int .i64 0, .int .i64 0]) (t := 34) ?hr ?_; (case hd => rfl); (case hg => rfl); (case hr => first | (go_simp; done) | (go_simp; rfl)); intro g7 hg w4 hbox hb; have HC := Aside0.mk hb; have BK := Aside0.mk hbox; have GE := Aside0.mk (show wr.heap.size ≤ g7 from by rw [hg]; exact Nat.le_refl _); have hz0 : w4.cell? ⟨g7, 0, none⟩ = some (.int .i64 0) := (blk_cell hbox 0).trans rfl; have hz1 : w4.cell? ⟨g7, 1, none⟩ = some (.int .u8 0) := (blk_cell hbox 1).trans rfl; have hz2 : w4.cell? ⟨g7, 2, none⟩ = some (.int .i64 0) := (blk_cell hbox 2).trans rfl; have hz3 : w4.cell? ⟨g7, 3, none⟩ = some (.int .i64 0) := (blk_cell hbox 3).trans rfl; have hf0 := blk_frozen hbox 0; have hf1 := blk_frozen hbox 1; have hf2 := blk_frozen hbox 2; have hf3 := blk_frozen hbox 3; replace hx0 := (hb.cell (World.block_lt_of_cell? wr _ hx0)).trans hx0; replace hx1 := (hb.cell (World.block_lt_of_cell? wr _ hx1)).trans hx1; replace hx2 := (hb.cell (World.block_lt_of_cell? wr _ hx2)).trans hx2; replace hx3 := (hb.cell (World.block_lt_of_cell? wr _ hx3)).trans hx3; clear hg hbox hb) | ((with_reducible refine gate_store (t := 34) (p := 7) rfl ?_); refine store_event (t := 34) (p := 7) (v := ?vo1) (w1 := ((((w4.setCell ⟨g7, 0, none⟩ (.int .i64 ((rd_T34 l0 i).f0))).setCell ⟨g7, 1, none⟩ (.int .u8 ((rd_T34 l0 i).f1))).setCell ⟨g7, 2, none⟩ (.int .i64 ((rd_T34 l0 i).f2))).setCell ⟨g7, 3, none⟩ (.int .i64 ((rd_T34 l0 i).f3)))) ?hg ?ho ?hn ?hr ?_; (case ho => rfl); (case hg => rfl); (case hn => rfl); (case hr => first | (go_simp; done) | (go_simp; rfl)); intro w5 hw; have hq : Below wr.heap.size wr w5 := (by rw [hw]; exact below_set (below_set (below_set (below_set HC.out GE.out) GE.out) GE.out) GE.out); have hbk : w5.heap[g7]? = some (.cells #[.int .i64 ((rd_T34 l0 i).f0), .int .u8 ((rd_T34 l0 i).f1), .int .i64 ((rd_T34 l0 i).f2), .int .i64 ((rd_T34 l0 i).f3)] 34 (0, 0)) := (by rw [hw]; refine blk_put (cs := #[.int .i64 ((rd_T34 l0 i).f0), .int .u8 ((rd_T34 l0 i).f1), .int .i64 ((rd_T34 l0 i).f2), .int .i64 0]) ?_ 3 _ rfl; refine blk_put (cs := #[.int .i64 ((rd_T34 l0 i).f0), .int .u8 ((rd_T34 l0 i).f1), .int .i64 0, .int .i64 0]) ?_ 2 _ rfl; refine blk_put (cs := #[.int .i64 ((rd_T34 l0 i).f0), .int .u8 0, .int .i64 0, .int .i64 0]) ?_ 1 _ rfl; refine blk_put (cs := #[.int .i64 0, .int .u8 0, .int .i64 0, .int .i64 0]) ?_ 0 _ rfl; exact BK.out); clear hw HC BK hz0 hz1 hz2 hz3 hf0 hf1 hf2 hf3; have BK := Aside0.mk hbk; have hy0 : w5.cell? ⟨g7, 0, none⟩ = some (.int .i64 ((rd_T34 l0 i).f0)) := (blk_cell hbk 0).trans rfl; have hy1 : w5.cell? ⟨g7, 1, none⟩ = some (.int .u8 ((rd_T34 l0 i).f1)) := (blk_cell hbk 1).trans rfl; have hy2 : w5.cell? ⟨g7, 2, none⟩ = some (.int .i64 ((rd_T34 l0 i).f2)) := (blk_cell hbk 2).trans rfl; have hy3 : w5.cell? ⟨g7, 3, none⟩ = some (.int .i64 ((rd_T34 l0 i).f3)) := (blk_cell hbk 3).trans rfl; clear hx0 hx1 hx2 hx3; have n0_ := Aside0.mk (show Kd.R Kd.bool 4 w5 w.heap.size (fun k_ => k_ = go) (.slice (some ⟨go, 0, none⟩) l0.length co) bs from Kd.R_below HO.out hq); have n1_ := Aside0.mk (below_step HB.out hq); have n2_ := Aside0.mk (show g7 ≠ go from by have := GE.out; have := GL.out; omega); have n3_ := Aside0.mk (show w.heap.size ≤ g7 from by have := GE.out; have := below_size HB.out; omega); clear HO HB GE; have HO := n0_; have HB := n1_; have NE := n2_; have GE := n3_; clear n0_ n1_ n2_ n3_; obtain ⟨hxo, hfo⟩ := Kd.R_celln false HO.out i HI3.out (by have := HBL.out; have := HI2.out; omega); have n0_ := Aside0.mk (show Kd.R Kd.bool 4 (w5.setCell ⟨go, i.toNat, none⟩ (.bool true)) w.heap.size (fun k_ => k_ = go) (.slice (some ⟨go, 0, none⟩) l0.length co) (bs.set i.toNat true) from (Kd.R_putg HO.out i true).1); have n1_ := Aside0.mk (show Below w.heap.size w (w5.setCell ⟨go, i.toNat, none⟩ (.bool true)) from below_set HB.out GGO.out); have hu0 : (w5.setCell ⟨go, i.toNat, none⟩ (.bool true)).cell? ⟨g7, 0, none⟩ = some (.int .i64 ((rd_T34 l0 i).f0)) := (blk_cell (blk_far hbk NE.out _) 0).trans rfl; have hu1 : (w5.setCell ⟨go, i.toNat, none⟩ (.bool true)).cell? ⟨g7, 1, none⟩ = some (.int .u8 ((rd_T34 l0 i).f1)) := (blk_cell (blk_far hbk NE.out _) 1).trans rfl; have hu2 : (w5.setCell ⟨go, i.toNat, none⟩ (.bool true)).cell? ⟨g7, 2, none⟩ = some (.int .i64 ((rd_T34 l0 i).f2)) := (blk_cell (blk_far hbk NE.out _) 2).trans rfl; have hu3 : (w5.setCell ⟨go, i.toNat, none⟩ (.bool true)).cell? ⟨g7, 3, none⟩ = some (.int .i64 ((rd_T34 l0 i).f3)) := (blk_cell (blk_far hbk NE.out _) 3).trans rfl; have GL := Aside0.mk (show go < (w5.setCell ⟨go, i.toNat, none⟩ (.bool true)).heap.size from (Kd.R_lt n0_.out go rfl)); have HO6 := n0_; have HB6 := n1_; clear n0_ n1_; clear hq hbk) | (go_at_call 18; refine (table_Leads.calls _ _ _ _ ns _ A1.out).mono ?_; rintro e w7 ⟨v0_, rfl, hr_, hb⟩; have n0_ := Aside0.mk (show Kd.R Kd.bool 4 w7 w.heap.size (fun k_ => k_ = go) (.slice (some ⟨go, 0, none⟩) l0.length co) (bs.set i.toNat (true)) from Kd.R_below HO6.out hb); have n1_ := Aside0.mk (below_step HB6.out hb); have hr2_ := Kd.R_mono (Kd.R_bound hr_) (ok' := fun k_ => k_ ≠ go) (fun k_ hk_ => by have h1_ := hk_.2.1; have h2_ := Kd.R_lt HO6.out go rfl; omega); obtain ⟨bn, hbn⟩ : ∃ b_, b_ = (w5.setCell ⟨go, i.toNat, none⟩ (.bool true)).heap.size := ⟨_, rfl⟩; rw [← hbn] at hr2_; obtain ⟨An, cn, rfl⟩ := Kd.R_slice hr2_; have HN := Aside0.mk hr2_; clear HO HB HO6 HB6 hr_ hr2_ hb hbn; have HO := n0_; have HB := n1_; clear n0_ n1_))
         clear c2b c2e c3e
         go_loopg [33] k2 (fun kq v33 w' => ∃ (j : Int) (bs : List Bool), v33 = .int .i64 j ∧ Aside0 (table_ends.l3 kq l0 M i1 i ns j bs = some r) ∧ Aside0 (kq ≤ k2) ∧ Aside0 (Kd.R Kd.bool 4 w' w.heap.size (fun k_ => k_ = go) (.slice (some ⟨go, 0, none⟩) l0.length co) bs) ∧ Aside0 (Kd.R (Kd.int .i64) 3 w' bn (fun k_ => k_ ≠ go) (.slice An ns.length cn) ns) ∧ Aside0 (Below w.heap.size w w') ∧ Aside0 (i < (bs.length : Int)))
         case atStart => exact ⟨0, _, rfl, H', ⟨Nat.le_refl _⟩, HO, HN, HB, ⟨by have := HBL.out; have := HI2.out; first | omega | (rw [List.length_set]; omega)⟩⟩
         case round =>
          clear H' HO HB HN HBL c4b0
          obtain ⟨j, bs, rfl, HA, HK3, HO, HN, HB, HBL⟩ := hrel
          cases gk with
          | zero => exact absurd HA.out (by simp [table_ends.l3])
          | succ k3 =>
           have H := HA.out
           clear HA
           simp only [table_ends.l3] at H
           by_cases d1 : j < (ns.length : Int)
           ·rw [if_pos d1] at H
            by_cases d2 : 0 ≤ j
            ·rw [if_pos d2, if_pos HI3.out, if_pos HBL.out] at H
             obtain ⟨gn, cn', en, gbn, gln, cln, HGn⟩ := Kd.R_form HN.out (by omega)
             injection en with ea_ en_ ec_
             subst ea_
             obtain ⟨hxn, hfn⟩ := Kd.R_celln 0 HN.out j d2 d1
             replace hxn : wr.cell? ⟨gn, j.toNat, none⟩ = some (.int .i64 (rd ns j)) := hxn
             obtain ⟨hxo, hfo⟩ := Kd.R_celln false HO.out i HI3.out (by have := HO.out; have := (Kd.R_reads' HO.out).1; have := HBL.out; omega)
             have d1b : decide (j < (ns.length : Int)) = true := decide_eq_true d1
             have d1e := eq_true d1
             have d2e := eq_true d2
             have c2e := eq_true HI2.out
             have c3e := eq_true HI3.out
             clear gbn gln cln HGn ec_ en_ d1 d2
             by_cases d3 : rdOf false bs i = true
             ·rw [if_pos d3] at H
              rw [d3] at hxo
              have H' := Aside0.mk H
              clear H d3
              go_wp2
              go_roundg k3
              case measure => have := HK.out; have := HK2.out; have := HK3.out; omega
              case rel => exact ⟨wrap64 (j + 1), _, (by first | rfl | (simp; done) | (simp [*]; done)), H', ⟨by have := HK3.out; omega⟩, ⟨(Kd.R_putg HO.out i true).1⟩, ⟨Kd.R_far HN.out (fun k_ hk_ => hk_) _⟩, ⟨below_set HB.out GGO.out⟩, ⟨by rw [List.length_set]; exact HBL.out⟩⟩
             ·rw [if_neg d3] at H
              have d3b : rdOf false bs i = false := by simpa using d3
              rw [d3b] at hxo
              by_cases d4 : (Lit.int .i64 (rd ns j)).wf = true
              ·rw [if_pos d4] at H
               by_cases d5 : 0 ≤ (M (rd ns j)).getD 0
               ·rw [if_pos d5] at H
                by_cases d6 : (M (rd ns j)).getD 0 < (bs.length : Int)
                ·rw [if_pos d6] at H
                 obtain ⟨hrun, _⟩ := (HM.out.below HB.out).look d4
                 obtain ⟨hxa, hfa⟩ := Kd.R_celln false HO.out ((M (rd ns j)).getD 0) d5 (by have := (Kd.R_reads' HO.out).1; omega)
                 have d6' : (M (rd ns j)).getD 0 < (l0.length : Int) := by have := (Kd.R_reads' HO.out).1; omega
                 have d5e := eq_true d5
                 have d6e := eq_true d6'
                 have H' := Aside0.mk H
                 clear H d3 d3b d4 d5 d6 d6'
                 go_wp2
                 go_roundg k3
                 case measure => have := HK.out; have := HK2.out; have := HK3.out; omega
                 case rel => exact ⟨wrap64 (j + 1), _, (by first | rfl | (simp; done) | (simp [*]; done)), H', ⟨by have := HK3.out; omega⟩, ⟨(Kd.R_putg HO.out i (rdOf false bs ((M (rd ns j)).getD 0))).1⟩, ⟨Kd.R_far HN.out (fun k_ hk_ => hk_) _⟩, ⟨below_set HB.out GGO.out⟩, ⟨by rw [List.length_set]; exact HBL.out⟩⟩
                ·rw [if_neg d6] at H; cases H
               ·rw [if_neg d5] at H; cases H
              ·rw [if_neg d4] at H; cases H
            ·rw [if_neg d2] at H; cases H
           ·rw [if_neg d1] at H
            have d1b : decide (j < (ns.length : Int)) = false := decide_eq_false d1
            have H' := Aside0.mk H
            clear H d1
            go_wp2
            go_roundg k3
            case measure => have := HK.out; have := HK2.out; have := HK3.out; omega
            case rel => exact ⟨wrap64 (i + 1), bs, (by first | rfl | (simp; done) | (simp [*]; done)), H', ⟨by have := HK3.out; have := HK2.out; omega⟩, HO, HB⟩
        ·rw [if_neg c4] at H
         obtain ⟨ns, A1, H⟩ := Option.bind_eq_some_iff.mp H
         have A1 := Aside0.mk A1
         have H' := Aside0.mk H
         have c4b0 : ((rd_T34 l0 i).f1 == 90) = false := beq_eq_false_iff_ne.mpr c4
         clear H c4
         go_wp2_with (first | ((with_reducible refine gate_dst (N := 7) rfl ?_); refine box_event ?hg (N := 7) ?hd (cs := #[.int .i64 0, .int .u8 0, .int .i64 0, .int .i64 0]) (t := 34) ?hr ?_; (case hd => rfl); (case hg => rfl); (case hr => first | (go_simp; done) | (go_simp; rfl)); intro g7 hg w4 hbox hb; have HC := Aside0.mk hb; have BK := Aside0.mk hbox; have GE := Aside0.mk (show wr.heap.size ≤ g7 from by rw [hg]; exact Nat.le_refl _); have hz0 : w4.cell? ⟨g7, 0, none⟩ = some (.int .i64 0) := (blk_cell hbox 0).trans rfl; have hz1 : w4.cell? ⟨g7, 1, none⟩ = some (.int .u8 0) := (blk_cell hbox 1).trans rfl; have hz2 : w4.cell? ⟨g7, 2, none⟩ = some (.int .i64 0) := (blk_cell hbox 2).trans rfl; have hz3 : w4.cell? ⟨g7, 3, none⟩ = some (.int .i64 0) := (blk_cell hbox 3).trans rfl; have hf0 := blk_frozen hbox 0; have hf1 := blk_frozen hbox 1; have hf2 := blk_frozen hbox 2; have hf3 := blk_frozen hbox 3; replace hx0 := (hb.cell (World.block_lt_of_cell? wr _ hx0)).trans hx0; replace hx1 := (hb.cell (World.block_lt_of_cell? wr _ hx1)).trans hx1; replace hx2 := (hb.cell (World.block_lt_of_cell? wr _ hx2)).trans hx2; replace hx3 := (hb.cell (World.block_lt_of_cell? wr _ hx3)).trans hx3; clear hg hbox hb) | ((with_reducible refine gate_store (t := 34) (p := 7) rfl ?_); refine store_event (t := 34) (p := 7) (v := ?vo2) (w1 := ((((w4.setCell ⟨g7, 0, none⟩ (.int .i64 ((rd_T34 l0 i).f0))).setCell ⟨g7, 1, none⟩ (.int .u8 ((rd_T34 l0 i).f1))).setCell ⟨g7, 2, none⟩ (.int .i64 ((rd_T34 l0 i).f2))).setCell ⟨g7, 3, none⟩ (.int .i64 ((rd_T34 l0 i).f3)))) ?hg ?ho ?hn ?hr ?_; (case ho => rfl); (case hg => rfl); (case hn => rfl); (case hr => first | (go_simp; done) | (go_simp; rfl)); intro w5 hw; have hq : Below wr.heap.size wr w5 := (by rw [hw]; exact below_set (below_set (below_set (below_set HC.out GE.out) GE.out) GE.out) GE.out); have hbk : w5.heap[g7]? = some (.cells #[.int .i64 ((rd_T34 l0 i).f0), .int .u8 ((rd_T34 l0 i).f1), .int .i64 ((rd_T34 l0 i).f2), .int .i64 ((rd_T34 l0 i).f3)] 34 (0, 0)) := (by rw [hw]; refine blk_put (cs := #[.int .i64 ((rd_T34 l0 i).f0), .int .u8 ((rd_T34 l0 i).f1), .int .i64 ((rd_T34 l0 i).f2), .int .i64 0]) ?_ 3 _ rfl; refine blk_put (cs := #[.int .i64 ((rd_T34 l0 i).f0), .int .u8 ((rd_T34 l0 i).f1), .int .i64 0, .int .i64 0]) ?_ 2 _ rfl; refine blk_put (cs := #[.int .i64 ((rd_T34 l0 i).f0), .int .u8 0, .int .i64 0, .int .i64 0]) ?_ 1 _ rfl; refine blk_put (cs := #[.int .i64 0, .int .u8 0, .int .i64 0, .int .i64 0]) ?_ 0 _ rfl; exact BK.out); clear hw HC BK hz0 hz1 hz2 hz3 hf0 hf1 hf2 hf3; have BK := Aside0.mk hbk; have hy0 : w5.cell? ⟨g7, 0, none⟩ = some (.int .i64 ((rd_T34 l0 i).f0)) := (blk_cell hbk 0).trans rfl; have hy1 : w5.cell? ⟨g7, 1, none⟩ = some (.int .u8 ((rd_T34 l0 i).f1)) := (blk_cell hbk 1).trans rfl; have hy2 : w5.cell? ⟨g7, 2, none⟩ = some (.int .i64 ((rd_T34 l0 i).f2)) := (blk_cell hbk 2).trans rfl; have hy3 : w5.cell? ⟨g7, 3, none⟩ = some (.int .i64 ((rd_T34 l0 i).f3)) := (blk_cell hbk 3).trans rfl; clear hx0 hx1 hx2 hx3; have n0_ := Aside0.mk (show Kd.R Kd.bool 4 w5 w.heap.size (fun k_ => k_ = go) (.slice (some ⟨go, 0, none⟩) l0.length co) bs from Kd.R_below HO.out hq); have n1_ := Aside0.mk (below_step HB.out hq); have n2_ := Aside0.mk (show g7 ≠ go from by have := GE.out; have := GL.out; omega); have n3_ := Aside0.mk (show w.heap.size ≤ g7 from by have := GE.out; have := below_size HB.out; omega); clear HO HB GE; have HO := n0_; have HB := n1_; have NE := n2_; have GE := n3_; clear n0_ n1_ n2_ n3_; obtain ⟨hxo, hfo⟩ := Kd.R_celln false HO.out i HI3.out (by have := HBL.out; have := HI2.out; omega); clear hq hbk) | (go_at_call 18; refine (table_Leads.calls _ _ _ _ ns _ A1.out).mono ?_; rintro e w7 ⟨v0_, rfl, hr_, hb⟩; have n0_ := Aside0.mk (show Kd.R Kd.bool 4 w7 w.heap.size (fun k_ => k_ = go) (.slice (some ⟨go, 0, none⟩) l0.length co) bs from Kd.R_below HO.out hb); have n1_ := Aside0.mk (below_step HB.out hb); have hr2_ := Kd.R_mono (Kd.R_bound hr_) (ok' := fun k_ => k_ ≠ go) (fun k_ hk_ => by have h1_ := hk_.2.1; have h2_ := Kd.R_lt HO.out go rfl; omega); obtain ⟨bn, hbn⟩ : ∃ b_, b_ = w5.heap.size := ⟨_, rfl⟩; rw [← hbn] at hr2_; obtain ⟨An, cn, rfl⟩ := Kd.R_slice hr2_; have HN := Aside0.mk hr2_; clear HO HB hr_ hr2_ hb hbn; have HO := n0_; have HB := n1_; clear n0_ n1_))
         clear c2b c2e c3e
         go_loopg [33] k2 (fun kq v33 w' => ∃ (j : Int) (bs : List Bool), v33 = .int .i64 j ∧ Aside0 (table_ends.l3 kq l0 M i1 i ns j bs = some r) ∧ Aside0 (kq ≤ k2) ∧ Aside0 (Kd.R Kd.bool 4 w' w.heap.size (fun k_ => k_ = go) (.slice (some ⟨go, 0, none⟩) l0.length co) bs) ∧ Aside0 (Kd.R (Kd.int .i64) 3 w' bn (fun k_ => k_ ≠ go) (.slice An ns.length cn) ns) ∧ Aside0 (Below w.heap.size w w') ∧ Aside0 (i < (bs.length : Int)))
         case atStart => exact ⟨0, _, rfl, H', ⟨Nat.le_refl _⟩, HO, HN, HB, ⟨by have := HBL.out; have := HI2.out; first | omega | (rw [List.length_set]; omega)⟩⟩
         case round =>
          clear H' HO HB HN HBL c4b0
          obtain ⟨j, bs, rfl, HA, HK3, HO, HN, HB, HBL⟩ := hrel
          cases gk with
          | zero => exact absurd HA.out (by simp [table_ends.l3])
          | succ k3 =>
           have H := HA.out
           clear HA
           simp only [table_ends.l3] at H
           by_cases d1 : j < (ns.length : Int)
           ·rw [if_pos d1] at H
            by_cases d2 : 0 ≤ j
            ·rw [if_pos d2, if_pos HI3.out, if_pos HBL.out] at H
             obtain ⟨gn, cn', en, gbn, gln, cln, HGn⟩ := Kd.R_form HN.out (by omega)
             injection en with ea_ en_ ec_
             subst ea_
             obtain ⟨hxn, hfn⟩ := Kd.R_celln 0 HN.out j d2 d1
             replace hxn : wr.cell? ⟨gn, j.toNat, none⟩ = some (.int .i64 (rd ns j)) := hxn
             obtain ⟨hxo, hfo⟩ := Kd.R_celln false HO.out i HI3.out (by have := HO.out; have := (Kd.R_reads' HO.out).1; have := HBL.out; omega)
             have d1b : decide (j < (ns.length : Int)) = true := decide_eq_true d1
             have d1e := eq_true d1
             have d2e := eq_true d2
             have c2e := eq_true HI2.out
             have c3e := eq_true HI3.out
             clear gbn gln cln HGn ec_ en_ d1 d2
             by_cases d3 : rdOf false bs i = true
             ·rw [if_pos d3] at H
              rw [d3] at hxo
              have H' := Aside0.mk H
              clear H d3
              go_wp2
              go_roundg k3
              case measure => have := HK.out; have := HK2.out; have := HK3.out; omega
              case rel => exact ⟨wrap64 (j + 1), _, (by first | rfl | (simp; done) | (simp [*]; done)), H', ⟨by have := HK3.out; omega⟩, ⟨(Kd.R_putg HO.out i true).1⟩, ⟨Kd.R_far HN.out (fun k_ hk_ => hk_) _⟩, ⟨below_set HB.out GGO.out⟩, ⟨by rw [List.length_set]; exact HBL.out⟩⟩
             ·rw [if_neg d3] at H
              have d3b : rdOf false bs i = false := by simpa using d3
              rw [d3b] at hxo
              by_cases d4 : (Lit.int .i64 (rd ns j)).wf = true
              ·rw [if_pos d4] at H
               by_cases d5 : 0 ≤ (M (rd ns j)).getD 0
               ·rw [if_pos d5] at H
                by_cases d6 : (M (rd ns j)).getD 0 < (bs.length : Int)
                ·rw [if_pos d6] at H
                 obtain ⟨hrun, _⟩ := (HM.out.below HB.out).look d4
                 obtain ⟨hxa, hfa⟩ := Kd.R_celln false HO.out ((M (rd ns j)).getD 0) d5 (by have := (Kd.R_reads' HO.out).1; omega)
                 have d6' : (M (rd ns j)).getD 0 < (l0.length : Int) := by have := (Kd.R_reads' HO.out).1; omega
                 have d5e := eq_true d5
                 have d6e := eq_true d6'
                 have H' := Aside0.mk H
                 clear H d3 d3b d4 d5 d6 d6'
                 go_wp2
                 go_roundg k3
                 case measure => have := HK.out; have := HK2.out; have := HK3.out; omega
                 case rel => exact ⟨wrap64 (j + 1), _, (by first | rfl | (simp; done) | (simp [*]; done)), H', ⟨by have := HK3.out; omega⟩, ⟨(Kd.R_putg HO.out i (rdOf false bs ((M (rd ns j)).getD 0))).1⟩, ⟨Kd.R_far HN.out (fun k_ hk_ => hk_) _⟩, ⟨below_set HB.out GGO.out⟩, ⟨by rw [List.length_set]; exact HBL.out⟩⟩
                ·rw [if_neg d6] at H; cases H
               ·rw [if_neg d5] at H; cases H
              ·rw [if_neg d4] at H; cases H
            ·rw [if_neg d2] at H; cases H
           ·rw [if_neg d1] at H
            have d1b : decide (j < (ns.length : Int)) = false := decide_eq_false d1
            have H' := Aside0.mk H
            clear H d1
            go_wp2
            go_roundg k3
            case measure => have := HK.out; have := HK2.out; have := HK3.out; omega
            case rel => exact ⟨wrap64 (i + 1), bs, (by first | rfl | (simp; done) | (simp [*]; done)), H', ⟨by have := HK3.out; have := HK2.out; omega⟩, HO, HB⟩
       ·rw [if_neg c3] at H; cases H
      ·rw [if_neg c2] at H
       have c2b : decide (i < (l0.length : Int)) = false := decide_eq_false c2
       have H' := Aside0.mk H
       clear H c2
       go_wp2
       go_roundg k2
       case measure => have := HK.out; have := HK2.out; omega
       case rel => exact ⟨wrap64 (i1 + 1), bs, (by first | rfl | (simp; done) | (simp [*]; done)), H', ⟨by have := HK.out; have := HK2.out; omega⟩, HO, HB⟩
   ·rw [if_neg c1] at H
    obtain rfl := Option.some.inj H
    have c1b : decide (i1 < (l0.length : Int)) = false := decide_eq_false c1
    clear c1
    go_wp2
    go_ret
    exact ⟨_, rfl, Kd.R_mono HO.out (fun _ _ => trivial), HB.out⟩


/-! ### table_Check: function 9 -/
mutual
def table_Check.l0 : Nat → List S34 → MF → Int → Option (Int × Int)
 | 0, _, _, _ => none
 | k + 1, l0, M, i => if i < (l0.length : Int) then (if 0 ≤ i then (if (Lit.int .i64 ((rd_T34 l0 i).f0)).wf = true then (if (M ((rd_T34 l0 i).f0)).isSome = true then (some (i, 31)) else (table_Check.l0 k l0 (M.put ((rd_T34 l0 i).f0) i) (wrap64 (i + 1)))) else (none)) else (none)) else (table_Check.l1 k l0 M 0)
def table_Check.l1 : Nat → List S34 → MF → Int → Option (Int × Int)
 | 0, _, _, _ => none
 | k + 1, l0, M, i => if i < (l0.length : Int) then (if 0 ≤ i then ((table_Leads.f ((rd_T34 l0 i).f0) ((rd_T34 l0 i).f1) ((rd_T34 l0 i).f2) ((rd_T34 l0 i).f3)).bind fun ns => (table_Check.l2 k l0 M i ns 0)) else (none)) else ((table_ends.f k l0 M).bind fun bs => (table_Check.l3 k bs 0))
def table_Check.l2 : Nat → List S34 → MF → Int → List Int → Int → Option (Int × Int)
 | 0, _, _, _, _, _ => none
 | k + 1, l0, M, i, ns, j => if j < (ns.length : Int) then (if 0 ≤ j then (if (Lit.int .i64 (rd ns j)).wf = true then (if (M (rd ns j)).isSome = true then (table_Check.l2 k l0 M i ns (wrap64 (j + 1))) else (some (i, 32))) else (none)) else (none)) else (table_Check.l1 k l0 M (wrap64 (i + 1)))
def table_Check.l3 : Nat → List Bool → Int → Option (Int × Int)
 | 0, _, _ => none
 | k + 1, bs, i => if i < (bs.length : Int) then (if 0 ≤ i then (if rdOf false bs i = true then (table_Check.l3 k bs (wrap64 (i + 1))) else (some (i, 30))) else (none)) else (some (0, 0))
end
def table_Check.f (k : Nat) (l0 : List S34) : Option (Int × Int) := table_Check.l0 k l0 (fun _ => none) 0
theorem table_Check.mono_l : ∀ k, (∀ l0 M i, LeO (table_Check.l0 k l0 M i) (table_Check.l0 (k + 1) l0 M i)) ∧ (∀ l0 M i, LeO (table_Check.l1 k l0 M i) (table_Check.l1 (k + 1) l0 M i)) ∧ (∀ l0 M i ns j, LeO (table_Check.l2 k l0 M i ns j) (table_Check.l2 (k + 1) l0 M i ns j)) ∧ (∀ bs i, LeO (table_Check.l3 k bs i) (table_Check.l3 (k + 1) bs i)) := by
 intro k
 induction k with
 | zero => exact ⟨fun _ _ _ => by simp only [table_Check.l0]; exact LeO.none _, fun _ _ _ => by simp only [table_Check.l1]; exact LeO.none _, fun _ _ _ _ _ => by simp only [table_Check.l2]; exact LeO.none _, fun _ _ => by simp only [table_Check.l3]; exact LeO.none _⟩
 | succ k ih =>
  obtain ⟨h0, h1, h2, h3⟩ := ih
  refine ⟨fun l0 M i => ?_, fun l0 M i => ?_, fun l0 M i ns j => ?_, fun bs i => ?_⟩
  ·rw [table_Check.l0, table_Check.l0]
   repeat' first
    | (with_reducible exact h0 _ _ _)
    | (with_reducible exact h1 _ _ _)
    | (with_reducible exact LeO.refl _)
    | (with_reducible exact LeO.none _)
    | (with_reducible refine LeO.ite ?_ ?_)
  ·rw [table_Check.l1, table_Check.l1]
   repeat' first
    | (with_reducible exact h2 _ _ _ _ _)
    | (with_reducible exact h3 _ _)
    | (with_reducible exact table_ends.mono _ _ _)
    | (with_reducible exact LeO.refl _)
    | (with_reducible exact LeO.none _)
    | (with_reducible refine LeO.ite ?_ ?_)
    | (with_reducible refine LeO.bind ?_ (fun _ => ?_))
  ·rw [table_Check.l2, table_Check.l2]
   repeat' first
    | (with_reducible exact h1 _ _ _)
    | (with_reducible exact h2 _ _ _ _ _)
    | (with_reducible exact LeO.refl _)
    | (with_reducible exact LeO.none _)
    | (with_reducible refine LeO.ite ?_ ?_)
  ·rw [table_Check.l3, table_Check.l3]
   repeat' first
    | (with_reducible exact h3 _ _)
    | (with_reducible exact LeO.refl _)
    | (with_reducible exact LeO.none _)
    | (with_reducible refine LeO.ite ?_ ?_)
theorem table_Check.mono : ∀ l0 k, LeO (table_Check.f k l0) (table_Check.f (k + 1) l0) := fun _ k => (table_Check.mono_l k).1 _ _ _

set_option maxHeartbeats 8000000 in
set_option maxRecDepth 100000 in
theorem table_Check.calls (k : Nat) (A0 : Option Addr) (c0 : Nat) (l0 : List S34) (r1 : Int) (r2 : Int) (w : World) (hr0 : Kd.C k34 w A0 l0.length l0) (hc0 : l0.length ≤ c0) (h : table_Check.f k l0 = some (r1, r2)) :
  Calls Tryd.prog 9 #[.slice A0 l0.length c0] w fun e w' => e = .returned (.tuple #[.int .i64 r1, .int .i64 r2]) ∧ Below w.heap.size w w' := by
 have hu34 := Tryd.underlying34
 have HR0 := Aside0.mk hr0
 have HC0 := Aside0.mk hc0
 have H' := Aside0.mk (show table_Check.l0 k l0 (fun _ => none) 0 = some (r1, r2) from h)
 have HLM := Aside0.mk (Kd.C_max hr0)
 clear hr0 hc0 h
 have hmk := fun (W : World) => run_makeMap (P := Tryd.prog) 53 W
 go_enter Tryd.func9, Tryd.ntmps9
 go_wp2
 have HM := Aside0.mk (MapO.made w)
 have HB := Aside0.mk (below_alloc (Below.refl w.heap.size w) (.map #[] 0))
 obtain ⟨m, hm⟩ : ∃ m, m = w.heap.size := ⟨_, rfl⟩
 have HGM := Aside0.mk (show w.heap.size ≤ m from by rw [hm]; exact Nat.le_refl _)
 go_loopg [20] k (fun kq v20 w' => ∃ (i : Int) (M : MF) (n : Nat), v20 = .int .i64 i ∧ Aside0 (table_Check.l0 kq l0 M i = some (r1, r2)) ∧ Aside0 (kq ≤ k) ∧ Aside0 (MapO w' w.heap.size n M) ∧ Aside0 (n ≤ i.toNat) ∧ Aside0 (Below w.heap.size w w'))
 case atStart => exact ⟨0, _, 0, rfl, H', ⟨Nat.le_refl _⟩, HM, ⟨Nat.zero_le _⟩, HB⟩
 case round =>
  clear H' HM HB HGM hmk
  clear hm
  obtain ⟨i, M, n, rfl, HA, HK, HM, HN, HB⟩ := hrel
  cases gk with
  | zero => exact absurd HA.out (by simp [table_Check.l0])
  | succ k1 =>
   have H := HA.out
   clear HA
   simp only [table_Check.l0] at H
   by_cases c1 : i < (l0.length : Int)
   ·rw [if_pos c1] at H
    by_cases c2 : 0 ≤ i
    ·rw [if_pos c2] at H
     by_cases d1 : (Lit.int .i64 ((rd_T34 l0 i).f0)).wf = true
     ·rw [if_pos d1] at H
      have c1a := Aside0.mk c1
      have c2a := Aside0.mk c2
      obtain ⟨ad, e_, hx0, hx1, hx2, hx3⟩ := at_T34 HR0.out i c2 c1
      cases e_
      have c1b : decide (i < (l0.length : Int)) = true := decide_eq_true c1
      have c1e := eq_true c1
      have c2e := eq_true c2
      replace hx0 := (HB.out.cell (World.block_lt_of_cell? w _ hx0)).trans hx0
      replace hx1 := (HB.out.cell (World.block_lt_of_cell? w _ hx1)).trans hx1
      replace hx2 := (HB.out.cell (World.block_lt_of_cell? w _ hx2)).trans hx2
      replace hx3 := (HB.out.cell (World.block_lt_of_cell? w _ hx3)).trans hx3
      clear c1 c2
      by_cases d2 : (M ((rd_T34 l0 i).f0)).isSome = true
      ·rw [if_pos d2] at H
       have H1 := Prod.mk.inj (Option.some.inj H)
       obtain ⟨rfl, rfl⟩ := H1
       clear H
       go_wp2_with (first | ((with_reducible refine gate_dst (N := 6) rfl ?_); refine box_event ?hg (N := 6) ?hd (cs := #[.int .i64 0, .int .u8 0, .int .i64 0, .int .i64 0]) (t := 34) ?hr ?_; (case hd => rfl); (case hg => rfl); (case hr => first | (go_simp; done) | (go_simp; rfl)); intro g7 hg w4 hbox hb; have HC := Aside0.mk hb; have BK := Aside0.mk hbox; have GE := Aside0.mk (show wr.heap.size ≤ g7 from by rw [hg]; exact Nat.le_refl _); have hz0 : w4.cell? ⟨g7, 0, none⟩ = some (.int .i64 0) := (blk_cell hbox 0).trans rfl; have hz1 : w4.cell? ⟨g7, 1, none⟩ = some (.int .u8 0) := (blk_cell hbox 1).trans rfl; have hz2 : w4.cell? ⟨g7, 2, none⟩ = some (.int .i64 0) := (blk_cell hbox 2).trans rfl; have hz3 : w4.cell? ⟨g7, 3, none⟩ = some (.int .i64 0) := (blk_cell hbox 3).trans rfl; have hf0 := blk_frozen hbox 0; have hf1 := blk_frozen hbox 1; have hf2 := blk_frozen hbox 2; have hf3 := blk_frozen hbox 3; replace hx0 := (hb.cell (World.block_lt_of_cell? wr _ hx0)).trans hx0; replace hx1 := (hb.cell (World.block_lt_of_cell? wr _ hx1)).trans hx1; replace hx2 := (hb.cell (World.block_lt_of_cell? wr _ hx2)).trans hx2; replace hx3 := (hb.cell (World.block_lt_of_cell? wr _ hx3)).trans hx3; clear hg hbox hb) | ((with_reducible refine gate_store (t := 34) (p := 6) rfl ?_); refine store_event (t := 34) (p := 6) (v := ?vo1) (w1 := ((((w4.setCell ⟨g7, 0, none⟩ (.int .i64 ((rd_T34 l0 i).f0))).setCell ⟨g7, 1, none⟩ (.int .u8 ((rd_T34 l0 i).f1))).setCell ⟨g7, 2, none⟩ (.int .i64 ((rd_T34 l0 i).f2))).setCell ⟨g7, 3, none⟩ (.int .i64 ((rd_T34 l0 i).f3)))) ?hg ?ho ?hn ?hr ?_; (case ho => rfl); (case hg => rfl); (case hn => rfl); (case hr => first | (go_simp; done) | (go_simp; rfl)); intro w5 hw; have hq : Below wr.heap.size wr w5 := (by rw [hw]; exact below_set (below_set (below_set (below_set HC.out GE.out) GE.out) GE.out) GE.out); have hbk : w5.heap[g7]? = some (.cells #[.int .i64 ((rd_T34 l0 i).f0), .int .u8 ((rd_T34 l0 i).f1), .int .i64 ((rd_T34 l0 i).f2), .int .i64 ((rd_T34 l0 i).f3)] 34 (0, 0)) := (by rw [hw]; refine blk_put (cs := #[.int .i64 ((rd_T34 l0 i).f0), .int .u8 ((rd_T34 l0 i).f1), .int .i64 ((rd_T34 l0 i).f2), .int .i64 0]) ?_ 3 _ rfl; refine blk_put (cs := #[.int .i64 ((rd_T34 l0 i).f0), .int .u8 ((rd_T34 l0 i).f1), .int .i64 0, .int .i64 0]) ?_ 2 _ rfl; refine blk_put (cs := #[.int .i64 ((rd_T34 l0 i).f0), .int .u8 0, .int .i64 0, .int .i64 0]) ?_ 1 _ rfl; refine blk_put (cs := #[.int .i64 0, .int .u8 0, .int .i64 0, .int .i64 0]) ?_ 0 _ rfl; exact BK.out); clear hw HC BK hz0 hz1 hz2 hz3 hf0 hf1 hf2 hf3; have BK := Aside0.mk hbk; have hy0 : w5.cell? ⟨g7, 0, none⟩ = some (.int .i64 ((rd_T34 l0 i).f0)) := (blk_cell hbk 0).trans rfl; have hy1 : w5.cell? ⟨g7, 1, none⟩ = some (.int .u8 ((rd_T34 l0 i).f1)) := (blk_cell hbk 1).trans rfl; have hy2 : w5.cell? ⟨g7, 2, none⟩ = some (.int .i64 ((rd_T34 l0 i).f2)) := (blk_cell hbk 2).trans rfl; have hy3 : w5.cell? ⟨g7, 3, none⟩ = some (.int .i64 ((rd_T34 l0 i).f3)) := (blk_cell hbk 3).trans rfl; clear hx0 hx1 hx2 hx3; have n0_ := Aside0.mk (MapO.below HM.out hq); have n1_ := Aside0.mk (below_step HB.out hq); clear HM HB GE; have HM := n0_; have HB := n1_; clear n0_ n1_; have hrun := MapO.look_ok HM.out d1; rw [d2] at hrun; clear hq hbk))
       refine bodyPost_ret (results_tmp2 rfl _ _ _) rfl ?_
       exact ⟨rfl, HB.out⟩
      ·rw [if_neg d2] at H
       replace d2 : (M ((rd_T34 l0 i).f0)).isSome = false := by simpa using d2
       have H' := Aside0.mk H
       clear H
       go_wp2_with (first | ((with_reducible refine gate_dst (N := 6) rfl ?_); refine box_event ?hg (N := 6) ?hd (cs := #[.int .i64 0, .int .u8 0, .int .i64 0, .int .i64 0]) (t := 34) ?hr ?_; (case hd => rfl); (case hg => rfl); (case hr => first | (go_simp; done) | (go_simp; rfl)); intro g7 hg w4 hbox hb; have HC := Aside0.mk hb; have BK := Aside0.mk hbox; have GE := Aside0.mk (show wr.heap.size ≤ g7 from by rw [hg]; exact Nat.le_refl _); have hz0 : w4.cell? ⟨g7, 0, none⟩ = some (.int .i64 0) := (blk_cell hbox 0).trans rfl; have hz1 : w4.cell? ⟨g7, 1, none⟩ = some (.int .u8 0) := (blk_cell hbox 1).trans rfl; have hz2 : w4.cell? ⟨g7, 2, none⟩ = some (.int .i64 0) := (blk_cell hbox 2).trans rfl; have hz3 : w4.cell? ⟨g7, 3, none⟩ = some (.int .i64 0) := (blk_cell hbox 3).trans rfl; have hf0 := blk_frozen hbox 0; have hf1 := blk_frozen hbox 1; have hf2 := blk_frozen hbox 2; have hf3 := blk_frozen hbox 3; replace hx0 := (hb.cell (World.block_lt_of_cell? wr _ hx0)).trans hx0; replace hx1 := (hb.cell (World.block_lt_of_cell? wr _ hx1)).trans hx1; replace hx2 := (hb.cell (World.block_lt_of_cell? wr _ hx2)).trans hx2; replace hx3 := (hb.cell (World.block_lt_of_cell? wr _ hx3)).trans hx3; clear hg hbox hb) | ((with_reducible refine gate_store (t := 34) (p := 6) rfl ?_); refine store_event (t := 34) (p := 6) (v := ?vo2) (w1 := ((((w4.setCell ⟨g7, 0, none⟩ (.int .i64 ((rd_T34 l0 i).f0))).setCell ⟨g7, 1, none⟩ (.int .u8 ((rd_T34 l0 i).f1))).setCell ⟨g7, 2, none⟩ (.int .i64 ((rd_T34 l0 i).f2))).setCell ⟨g7, 3, none⟩ (.int .i64 ((rd_T34 l0 i).f3)))) ?hg ?ho ?hn ?hr ?_; (case ho => rfl); (case hg => rfl); (case hn => rfl); (case hr => first | (go_simp; done) | (go_simp; rfl)); intro w5 hw; have hq : Below wr.heap.size wr w5 := (by rw [hw]; exact below_set (below_set (below_set (below_set HC.out GE.out) GE.out) GE.out) GE.out); have hbk : w5.heap[g7]? = some (.cells #[.int .i64 ((rd_T34 l0 i).f0), .int .u8 ((rd_T34 l0 i).f1), .int .i64 ((rd_T34 l0 i).f2), .int .i64 ((rd_T34 l0 i).f3)] 34 (0, 0)) := (by rw [hw]; refine blk_put (cs := #[.int .i64 ((rd_T34 l0 i).f0), .int .u8 ((rd_T34 l0 i).f1), .int .i64 ((rd_T34 l0 i).f2), .int .i64 0]) ?_ 3 _ rfl; refine blk_put (cs := #[.int .i64 ((rd_T34 l0 i).f0), .int .u8 ((rd_T34 l0 i).f1), .int .i64 0, .int .i64 0]) ?_ 2 _ rfl; refine blk_put (cs := #[.int .i64 ((rd_T34 l0 i).f0), .int .u8 0, .int .i64 0, .int .i64 0]) ?_ 1 _ rfl; refine blk_put (cs := #[.int .i64 0, .int .u8 0, .int .i64 0, .int .i64 0]) ?_ 0 _ rfl; exact BK.out); clear hw HC BK hz0 hz1 hz2 hz3 hf0 hf1 hf2 hf3; have BK := Aside0.mk hbk; have hy0 : w5.cell? ⟨g7, 0, none⟩ = some (.int .i64 ((rd_T34 l0 i).f0)) := (blk_cell hbk 0).trans rfl; have hy1 : w5.cell? ⟨g7, 1, none⟩ = some (.int .u8 ((rd_T34 l0 i).f1)) := (blk_cell hbk 1).trans rfl; have hy2 : w5.cell? ⟨g7, 2, none⟩ = some (.int .i64 ((rd_T34 l0 i).f2)) := (blk_cell hbk 2).trans rfl; have hy3 : w5.cell? ⟨g7, 3, none⟩ = some (.int .i64 ((rd_T34 l0 i).f3)) := (blk_cell hbk 3).trans rfl; clear hx0 hx1 hx2 hx3; have n0_ := Aside0.mk (MapO.below HM.out hq); have n1_ := Aside0.mk (below_step HB.out hq); clear HM HB GE; have HM := n0_; have HB := n1_; clear n0_ n1_; have hrun := MapO.look_ok HM.out d1; rw [d2] at hrun; obtain ⟨w6, hupd, hm6, hgr⟩ := MapO.upd HM.out (by have := HN.out; have := HLM.out; have := c1a.out; have := c2a.out; show n < 9223372036854775807; omega) d1 (v := i) (by have := HLM.out; have := c1a.out; have := c2a.out; simp [Lit.wf, IntKind.min, IntKind.max, IntKind.bits, IntKind.signed]; omega); clear hq hbk))
       go_roundg k1
       case measure => have := HK.out; omega
       case rel => exact ⟨wrap64 (i + 1), _, n + 1, (by first | rfl | (simp; done) | (simp [*]; done)), H', ⟨by have := HK.out; omega⟩, ⟨hm6⟩, ⟨by have := HN.out; have := HLM.out; have := c1a.out; have := c2a.out; unfold wrap64; omega⟩, ⟨HB.out.grown hgr (below_size HB.out) (fun k hk => by injection hk with hk; rw [← hk]; exact Nat.le_refl _)⟩⟩
     ·rw [if_neg d1] at H; cases H
    ·rw [if_neg c2] at H; cases H
   ·rw [if_neg c1] at H
    have c1b : decide (i < (l0.length : Int)) = false := decide_eq_false c1
    have H' := Aside0.mk H
    clear H c1 HN
    go_wp2
    go_loopg [41] k1 (fun kq v41 w' => ∃ (i : Int), v41 = .int .i64 i ∧ Aside0 (table_Check.l1 kq l0 M i = some (r1, r2)) ∧ Aside0 (kq ≤ k1) ∧ Aside0 (MapO w' w.heap.size n M) ∧ Aside0 (Below w.heap.size w w'))
    case atStart => exact ⟨0, rfl, H', ⟨Nat.le_refl _⟩, HM, HB⟩
    case round =>
     clear H' HM HB c1b
     obtain ⟨i, rfl, HA, HK2, HM, HB⟩ := hrel
     cases gk with
     | zero => exact absurd HA.out (by simp [table_Check.l1])
     | succ k2 =>
      have H := HA.out
      clear HA
      simp only [table_Check.l1] at H
      by_cases c1 : i < (l0.length : Int)
      ·rw [if_pos c1] at H
       by_cases c2 : 0 ≤ i
       ·rw [if_pos c2] at H
        obtain ⟨ns, A1, H⟩ := Option.bind_eq_some_iff.mp H
        have A1 := Aside0.mk A1
        have H' := Aside0.mk H
        clear H
        obtain ⟨ad, e_, hx0, hx1, hx2, hx3⟩ := at_T34 HR0.out i c2 c1
        cases e_
        have c1b : decide (i < (l0.length : Int)) = true := decide_eq_true c1
        have c1e := eq_true c1
        have c2e := eq_true c2
        replace hx0 := (HB.out.cell (World.block_lt_of_cell? w _ hx0)).trans hx0
        replace hx1 := (HB.out.cell (World.block_lt_of_cell? w _ hx1)).trans hx1
        replace hx2 := (HB.out.cell (World.block_lt_of_cell? w _ hx2)).trans hx2
        replace hx3 := (HB.out.cell (World.block_lt_of_cell? w _ hx3)).trans hx3
        clear c1 c2
        go_wp2_with (first | ((with_reducible refine gate_dst (N := 10) rfl ?_); refine box_event ?hg (N := 10) ?hd (cs := #[.int .i64 0, .int .u8 0, .int .i64 0, .int .i64 0]) (t := 34) ?hr ?_; (case hd => rfl); (case hg => rfl); (case hr => first | (go_simp; done) | (go_simp; rfl)); intro g7 hg w4 hbox hb; have HC := Aside0.mk hb; have BK := Aside0.mk hbox; have GE := Aside0.mk (show wr.heap.size ≤ g7 from by rw [hg]; exact Nat.le_refl _); have hz0 : w4.cell? ⟨g7, 0, none⟩ = some (.int .i64 0) := (blk_cell hbox 0).trans rfl; have hz1 : w4.cell? ⟨g7, 1, none⟩ = some (.int .u8 0) := (blk_cell hbox 1).trans rfl; have hz2 : w4.cell? ⟨g7, 2, none⟩ = some (.int .i64 0) := (blk_cell hbox 2).trans rfl; have hz3 : w4.cell? ⟨g7, 3, none⟩ = some (.int .i64 0) := (blk_cell hbox 3).trans rfl; have hf0 := blk_frozen hbox 0; have hf1 := blk_frozen hbox 1; have hf2 := blk_frozen hbox 2; have hf3 := blk_frozen hbox 3; replace hx0 := (hb.cell (World.block_lt_of_cell? wr _ hx0)).trans hx0; replace hx1 := (hb.cell (World.block_lt_of_cell? wr _ hx1)).trans hx1; replace hx2 := (hb.cell (World.block_lt_of_cell? wr _ hx2)).trans hx2; replace hx3 := (hb.cell (World.block_lt_of_cell? wr _ hx3)).trans hx3; clear hg hbox hb) | ((with_reducible refine gate_store (t := 34) (p := 10) rfl ?_); refine store_event (t := 34) (p := 10) (v := ?vo3) (w1 := ((((w4.setCell ⟨g7, 0, none⟩ (.int .i64 ((rd_T34 l0 i).f0))).setCell ⟨g7, 1, none⟩ (.int .u8 ((rd_T34 l0 i).f1))).setCell ⟨g7, 2, none⟩ (.int .i64 ((rd_T34 l0 i).f2))).setCell ⟨g7, 3, none⟩ (.int .i64 ((rd_T34 l0 i).f3)))) ?hg ?ho ?hn ?hr ?_; (case ho => rfl); (case hg => rfl); (case hn => rfl); (case hr => first | (go_simp; done) | (go_simp; rfl)); intro w5 hw; have hq : Below wr.heap.size wr w5 := (by rw [hw]; exact below_set (below_set (below_set (below_set HC.out GE.out) GE.out) GE.out) GE.out); have hbk : w5.heap[g7]? = some (.cells #[.int .i64 ((rd_T34 l0 i).f0), .int .u8 ((rd_T34 l0 i).f1), .int .i64 ((rd_T34 l0 i).f2), .int .i64 ((rd_T34 l0 i).f3)] 34 (0, 0)) := (by rw [hw]; refine blk_put (cs := #[.int .i64 ((rd_T34 l0 i).f0), .int .u8 ((rd_T34 l0 i).f1), .int .i64 ((rd_T34 l0 i).f2), .int .i64 0]) ?_ 3 _ rfl; refine blk_put (cs := #[.int .i64 ((rd_T34 l0 i).f0), .int .u8 ((rd_T34 l0 i).f1), .int .i64 0, .int .i64 0]) ?_ 2 _ rfl; refine blk_put (cs := #[.int .i64 ((rd_T34 l0 i).f0), .int .u8 0, .int .i64 0, .int .i64 0]) ?_ 1 _ rfl; refine blk_put (cs := #[.int .i64 0, .int .u8 0, .int .i64 0, .int .i64 0]) ?_ 0 _ rfl; exact BK.out); clear hw HC BK hz0 hz1 hz2 hz3 hf0 hf1 hf2 hf3; have BK := Aside0.mk hbk; have hy0 : w5.cell? ⟨g7, 0, none⟩ = some (.int .i64 ((rd_T34 l0 i).f0)) := (blk_cell hbk 0).trans rfl; have hy1 : w5.cell? ⟨g7, 1, none⟩ = some (.int .u8 ((rd_T34 l0 i).f1)) := (blk_cell hbk 1).trans rfl; have hy2 : w5.cell? ⟨g7, 2, none⟩ = some (.int .i64 ((rd_T34 l0 i).f2)) := (blk_cell hbk 2).trans rfl; have hy3 : w5.cell? ⟨g7, 3, none⟩ = some (.int .i64 ((rd_T34 l0 i).f3)) := (blk_cell hbk 3).trans rfl; clear hx0 hx1 hx2 hx3; have n0_ := Aside0.mk (MapO.below HM.out hq); have n1_ := Aside0.mk (below_step HB.out hq); clear HM HB GE; have HM := n0_; have HB := n1_; clear n0_ n1_; clear hq hbk) | (go_at_call 18; refine (table_Leads.calls _ _ _ _ ns _ A1.out).mono ?_; rintro e w7 ⟨v0_, rfl, hr_, hb⟩; have n0_ := Aside0.mk (MapO.below HM.out hb); have n1_ := Aside0.mk (below_step HB.out hb); obtain ⟨bn, hbn⟩ : ∃ b_, b_ = w5.heap.size := ⟨_, rfl⟩; rw [← hbn] at hr_; obtain ⟨An, cn, rfl⟩ := Kd.R_slice hr_; have HN := Aside0.mk hr_; clear HM HB hr_ hb hbn; have HM := n0_; have HB := n1_; clear n0_ n1_))
        clear c1b c1e c2e
        go_loopg [49] k2 (fun kq v49 w' => ∃ (j : Int), v49 = .int .i64 j ∧ Aside0 (table_Check.l2 kq l0 M i ns j = some (r1, r2)) ∧ Aside0 (kq ≤ k2) ∧ Aside0 (Kd.R (Kd.int .i64) 3 w' bn (fun _ => True) (.slice An ns.length cn) ns) ∧ Aside0 (MapO w' w.heap.size n M) ∧ Aside0 (Below w.heap.size w w'))
        case atStart => exact ⟨0, rfl, H', ⟨Nat.le_refl _⟩, HN, HM, HB⟩
        case round =>
         clear H' HM HB HN
         obtain ⟨j, rfl, HA, HK3, HN, HM, HB⟩ := hrel
         cases gk with
         | zero => exact absurd HA.out (by simp [table_Check.l2])
         | succ k3 =>
          have H := HA.out
          clear HA
          simp only [table_Check.l2] at H
          by_cases d1 : j < (ns.length : Int)
          ·rw [if_pos d1] at H
           by_cases d2 : 0 ≤ j
           ·rw [if_pos d2] at H
            by_cases d3 : (Lit.int .i64 (rd ns j)).wf = true
            ·rw [if_pos d3] at H
             obtain ⟨gn, cn', en, gbn, gln, cln, HGn⟩ := Kd.R_form HN.out (by omega)
             injection en with ea_ en_ ec_
             subst ea_
             obtain ⟨hxn, hfn⟩ := Kd.R_celln 0 HN.out j d2 d1
             replace hxn : wr.cell? ⟨gn, j.toNat, none⟩ = some (.int .i64 (rd ns j)) := hxn
             have hrun := MapO.look_ok HM.out d3
             have d1b : decide (j < (ns.length : Int)) = true := decide_eq_true d1
             have d1e := eq_true d1
             have d2e := eq_true d2
             clear gbn gln cln HGn ec_ en_ d1 d2
             by_cases d4 : (M (rd ns j)).isSome = true
             ·rw [if_pos d4] at H
              rw [d4] at hrun
              have H' := Aside0.mk H
              clear H
              go_wp2
              go_roundg k3
              case measure => have := HK.out; have := HK2.out; have := HK3.out; omega
              case rel => exact ⟨wrap64 (j + 1), (by first | rfl | (simp; done) | (simp [*]; done)), H', ⟨by have := HK3.out; omega⟩, HN, HM, HB⟩
             ·rw [if_neg d4] at H
              replace d4 : (M (rd ns j)).isSome = false := by simpa using d4
              rw [d4] at hrun
              have H1 := Prod.mk.inj (Option.some.inj H)
              obtain ⟨rfl, rfl⟩ := H1
              clear H
              go_wp2
              refine bodyPost_ret (results_tmp2 rfl _ _ _) rfl ?_
              exact ⟨rfl, HB.out⟩
            ·rw [if_neg d3] at H; cases H
           ·rw [if_neg d2] at H; cases H
          ·rw [if_neg d1] at H
           have d1b : decide (j < (ns.length : Int)) = false := decide_eq_false d1
           have H' := Aside0.mk H
           clear H d1
           go_wp2
           go_roundg k3
           case measure => have := HK.out; have := HK2.out; have := HK3.out; omega
           case rel => exact ⟨wrap64 (i + 1), (by first | rfl | (simp; done) | (simp [*]; done)), H', ⟨by have := HK3.out; have := HK2.out; omega⟩, HM, HB⟩
       ·rw [if_neg c2] at H; cases H
      ·rw [if_neg c1] at H
       obtain ⟨bs, A1, H⟩ := Option.bind_eq_some_iff.mp H
       have A1 := Aside0.mk A1
       have H' := Aside0.mk H
       have c1b : decide (i < (l0.length : Int)) = false := decide_eq_false c1
       clear H c1
       go_wp2_with (first | (go_at_call 19; refine (table_ends.calls k2 _ _ l0 _ n M bs _ (Kd.C_below HR0.out HB.out) HC0.out HM.out A1.out).mono ?_; rintro e w7 ⟨v0_, rfl, hr_, hb⟩; have n1_ := Aside0.mk (below_step HB.out hb); obtain ⟨bn, hbn⟩ : ∃ b_, b_ = wr.heap.size := ⟨_, rfl⟩; rw [← hbn] at hr_; obtain ⟨An, cn, rfl⟩ := Kd.R_slice hr_; have HN := Aside0.mk hr_; clear HM HB hr_ hb hbn; have HB := n1_; clear n1_))
       go_loopg [68] k2 (fun kq v68 w' => ∃ (i : Int), v68 = .int .i64 i ∧ Aside0 (table_Check.l3 kq bs i = some (r1, r2)) ∧ Aside0 (kq ≤ k2) ∧ Aside0 (Kd.R Kd.bool 4 w' bn (fun _ => True) (.slice An bs.length cn) bs) ∧ Aside0 (Below w.heap.size w w'))
       case atStart => exact ⟨0, rfl, H', ⟨Nat.le_refl _⟩, HN, HB⟩
       case round =>
        clear H' HB HN c1b
        obtain ⟨i, rfl, HA, HK3, HN, HB⟩ := hrel
        cases gk with
        | zero => exact absurd HA.out (by simp [table_Check.l3])
        | succ k3 =>
         have H := HA.out
         clear HA
         simp only [table_Check.l3] at H
         by_cases d1 : i < (bs.length : Int)
         ·rw [if_pos d1] at H
          by_cases d2 : 0 ≤ i
          ·rw [if_pos d2] at H
           obtain ⟨gn, cn', en, gbn, gln, cln, HGn⟩ := Kd.R_form HN.out (by omega)
           injection en with ea_ en_ ec_
           subst ea_
           obtain ⟨hxn, hfn⟩ := Kd.R_celln false HN.out i d2 d1
           have d1b : decide (i < (bs.length : Int)) = true := decide_eq_true d1
           have d1e := eq_true d1
           have d2e := eq_true d2
           clear gbn gln cln HGn ec_ en_ d1 d2
           by_cases d4 : rdOf false bs i = true
           ·rw [if_pos d4] at H
            rw [d4] at hxn
            have H' := Aside0.mk H
            clear H
            go_wp2
            go_roundg k3
            case measure => have := HK.out; have := HK2.out; have := HK3.out; omega
            case rel => exact ⟨wrap64 (i + 1), (by first | rfl | (simp; done) | (simp [*]; done)), H', ⟨by have := HK3.out; omega⟩, HN, HB⟩
           ·rw [if_neg d4] at H
            replace d4 : rdOf false bs i = false := by simpa using d4
            rw [d4] at hxn
            have H1 := Prod.mk.inj (Option.some.inj H)
            obtain ⟨rfl, rfl⟩ := H1
            clear H
            go_wp2
            refine bodyPost_ret (results_tmp2 rfl _ _ _) rfl ?_
            exact ⟨rfl, HB.out⟩
          ·rw [if_neg d2] at H; cases H
         ·rw [if_neg d1] at H
          have d1b : decide (i < (bs.length : Int)) = false := decide_eq_false d1
          have H1 := Prod.mk.inj (Option.some.inj H)
          obtain ⟨rfl, rfl⟩ := H1
          clear H d1
          go_wp2
          refine bodyPost_ret (results_tmp2 rfl _ _ _) rfl ?_
          exact ⟨rfl, HB.out⟩


/-! ### table_Find: function 11 -/
def table_Find.l0 : Nat → Int → List (S34) → Int → Int → Option (Int × Int × Int × Int × Bool)
 | 0, _, _, _, _ => none
 | k + 1, x1, x8, x9, x10 => if x10 < x9 then (if 0 ≤ x10 then (if x10 < (x8.length : Int) then (if ((rd_T34 x8 x10).f0) = x1 then (some ((rd_T34 x8 x10).f0, (rd_T34 x8 x10).f1, (rd_T34 x8 x10).f2, (rd_T34 x8 x10).f3, true)) else (table_Find.l0 k x1 x8 x9 (wrap64 (x10 + 1)))) else (none)) else (none)) else (some (0, 0, 0, 0, false))
def table_Find.f (k : Nat) (l0 : List (S34)) (a1 : Int) : Option (Int × Int × Int × Int × Bool) := table_Find.l0 k a1 l0 (l0.length : Int) 0
theorem table_Find.mono_l : ∀ k, (∀ y0 y1 y2 y3, LeO (table_Find.l0 k y0 y1 y2 y3) (table_Find.l0 (k + 1) y0 y1 y2 y3))
 | 0 => fun _ _ _ _ r h => by simp [table_Find.l0] at h
 | k + 1 => by
  have ih0 := table_Find.mono_l k
  ·intro y0 y1 y2 y3
   unfold table_Find.l0
   repeat' first
   | (with_reducible exact ih0 _ _ _ _)
   | (with_reducible exact LeO.refl _)
   | (with_reducible exact LeO.none _)
   | (with_reducible refine LeO.ite ?_ ?_)
   | (with_reducible refine LeO.bind ?_ (fun _ => ?_))
   | exact ih0 _ _ _ _
   | exact LeO.none _
   | refine LeO.ite ?_ ?_
   | refine LeO.bind ?_ (fun _ => ?_)
theorem table_Find.mono : ∀ a0 a1 k, LeO (table_Find.f k a0 a1) (table_Find.f (k + 1) a0 a1) := by
 intro a0 a1 k
 have ih0 := table_Find.mono_l k
 unfold table_Find.f
 repeat' first
   | (with_reducible exact ih0 _ _ _ _)
   | (with_reducible exact LeO.refl _)
   | (with_reducible exact LeO.none _)
   | (with_reducible refine LeO.ite ?_ ?_)
   | (with_reducible refine LeO.bind ?_ (fun _ => ?_))
   | exact ih0 _ _ _ _
   | exact LeO.none _
   | refine LeO.ite ?_ ?_
   | refine LeO.bind ?_ (fun _ => ?_)
set_option maxHeartbeats 8000000 in
set_option maxRecDepth 100000 in
theorem table_Find.calls (k : Nat) (A0 : Option Addr) (c0 : Nat) (l0 : List (S34)) (a1 : Int) (r1 : Int) (r2 : Int) (r3 : Int) (r4 : Int) (r5 : Bool) (w : World) (hr0 : Kd.C k34 w A0 l0.length l0) (hc0 : l0.length ≤ c0) (h : table_Find.f k l0 a1 = some (r1, r2, r3, r4, r5)) :
  Calls Tryd.prog 11 #[.slice A0 l0.length c0, .int .i64 a1] w fun e w' => e = .returned (.tuple #[.agg #[.int .i64 r1, .int .u8 r2, .int .i64 r3, .int .i64 r4], .bool r5]) ∧ Below w.heap.size w w' := by
 have hu34 := Tryd.underlying34
 have HR0 := Aside0.mk hr0
 have HC0 := Aside0.mk hc0
 clear hr0 hc0
 have HB := Aside0.mk (Below.refl w.heap.size w)
 have H : (table_Find.l0 k a1 l0 (l0.length : Int) 0) = some (r1, r2, r3, r4, r5) := h
 clear h
 have H' := Aside0.mk H
 clear H
 go_enter Tryd.func11, Tryd.ntmps11
 go_wp2_with (first | ((with_reducible refine gate_dst (N := 4) rfl ?_); refine box_event ?hg (N := 4) ?hd (cs := #[.int .i64 0, .int .u8 0, .int .i64 0, .int .i64 0]) (t := 34) ?hr ?_; (case hd => rfl); (case hg => rfl); (case hr => first | (go_simp; done) | (go_simp; rfl)); intro gb114 hg w3 hbox hb; have n0_ := Aside0.mk (below_step (by repeat (first | (with_reducible first | exact HB.out | apply below_alloc | apply pw_below_drewN | apply below_drew1) | exact HB.out)) hb); have n1_ := Aside0.mk (hbox); have n2_ := Aside0.mk ((by rw [hg]; exact (below_size (by repeat (first | (with_reducible first | exact HB.out | apply below_alloc | apply pw_below_drewN | apply below_drew1) | exact HB.out))) : w.heap.size ≤ gb114)); have n3_ := Aside0.mk ((by rw [hg]; exact (below_size (by repeat (first | (with_reducible first | exact HB.out | apply below_alloc | apply pw_below_drewN | apply below_drew1) | exact HB.out))) : w.heap.size ≤ gb114)); clear HB; have HB := n0_; have BK114 := n1_; have GW114 := n2_; have GE114 := n3_; clear n0_ n1_ n2_ n3_; clear hb hbox hg))
 go_loopg [10] k (fun kq v10 w' => ∃ (x10_1 : Int) (x115000_1 : Int) (x115001_1 : Int) (x115002_1 : Int) (x115003_1 : Int), v10 = .int .i64 x10_1 ∧ Aside0 (table_Find.l0 kq a1 l0 (l0.length : Int) x10_1 = some (r1, r2, r3, r4, r5)) ∧ Aside0 (kq ≤ k) ∧ Aside0 (w'.heap[gb114]? = some (.cells #[.int .i64 x115000_1, .int .u8 x115001_1, .int .i64 x115002_1, .int .i64 x115003_1] 34 (0, 0))) ∧ Aside0 (Below w.heap.size w w'))
 case atStart => exact ⟨(0), (0), (0), (0), (0), (by first | rfl | (simp; done) | (simp [*]; done)), H', ⟨Nat.le_refl _⟩, ⟨by (with_reducible repeat (first | refine blk_drewN ?_ _ | refine blk_drew ?_ | refine blk_alloc ?_ _)); exact BK114.out⟩, ⟨by repeat (first | (with_reducible first | exact HB.out | apply below_alloc | apply pw_below_drewN | apply below_drew1 | refine below_set ?_ GE114.out) | exact HB.out)⟩⟩
 case round =>
  clear H'
  try clear c1
  try clear p2
  obtain ⟨x10_1, x115000_1, x115001_1, x115002_1, x115003_1, rfl, HA, HK1, BK114, HB⟩ := hrel
  cases gk with
  | zero => exact absurd HA.out (by simp [table_Find.l0])
  | succ k1 =>
   have H := HA.out
   clear HA
   simp only [table_Find.l0] at H
   by_cases c4 : x10_1 < (l0.length : Int)
   ·rw [if_pos c4] at H
    have c4b0 : decide (x10_1 < (l0.length : Int)) = true := decide_eq_true c4
    clear c4
    by_cases c5 : 0 ≤ x10_1
    ·rw [if_pos c5] at H
     have c5b0 : decide (0 ≤ x10_1) = true := decide_eq_true c5
     clear c5
     by_cases c6 : x10_1 < (l0.length : Int)
     ·rw [if_pos c6] at H
      have c6b0 : decide (x10_1 < (l0.length : Int)) = true := decide_eq_true c6
      clear c6
      by_cases c7 : ((rd_T34 l0 x10_1).f0) = a1
      ·rw [if_pos c7] at H
       have c7b0 : (((rd_T34 l0 x10_1).f0) == a1) = true := beq_iff_eq.mpr c7
       have c7b1 : (((rd_T34 l0 x10_1).f0) != a1) = false := bne_eq_false_iff_eq.mpr c7
       clear c7
       simp only [Option.some.injEq, Prod.mk.injEq] at H
       obtain ⟨rfl, rfl, rfl, rfl, rfl⟩ := H
       have p115 : 0 ≤ (x10_1 : Int) := of_decide_eq_true (by first | (with_reducible assumption) | assumption)
       have q115 : x10_1 < (l0.length : Int) := of_decide_eq_true (by first | (with_reducible assumption) | assumption)
       obtain ⟨ad115, e115, hx115_0, hx115_1, hx115_2, hx115_3⟩ := at_T34 HR0.out x10_1 p115 q115
       cases e115
       replace hx115_0 := (HB.out.cell (World.block_lt_of_cell? w _ hx115_0)).trans hx115_0
       replace hx115_1 := (HB.out.cell (World.block_lt_of_cell? w _ hx115_1)).trans hx115_1
       replace hx115_2 := (HB.out.cell (World.block_lt_of_cell? w _ hx115_2)).trans hx115_2
       replace hx115_3 := (HB.out.cell (World.block_lt_of_cell? w _ hx115_3)).trans hx115_3
       replace p115 := eq_true p115
       replace q115 := eq_true q115
       go_wp2_with (first | ((with_reducible refine gate_dst (N := 7) rfl ?_); refine box_event ?hg (N := 7) ?hd (cs := #[.int .i64 0, .int .u8 0, .int .i64 0, .int .i64 0]) (t := 34) ?hr ?_; (case hd => rfl); (case hg => rfl); (case hr => first | (go_simp; done) | (go_simp; rfl)); intro gb116 hg w8 hbox hb; have n0_ := Aside0.mk (blk_below (g := gb114) (o := .cells #[.int .i64 x115000_1, .int .u8 x115001_1, .int .i64 x115002_1, .int .i64 x115003_1] 34 (0, 0)) (by (with_reducible repeat (first | refine blk_drewN ?_ _ | refine blk_drew ?_ | refine blk_alloc ?_ _)); exact BK114.out) hb); have n1_ := Aside0.mk (below_step (by repeat (first | (with_reducible first | exact HB.out | apply below_alloc | apply pw_below_drewN | apply below_drew1 | refine below_set ?_ GE114.out) | exact HB.out)) hb); have n2_ := Aside0.mk (hbox); have n3_ := Aside0.mk ((by rw [hg]; exact (below_size (by repeat (first | (with_reducible first | exact HB.out | apply below_alloc | apply pw_below_drewN | apply below_drew1 | refine below_set ?_ GE114.out) | exact HB.out))) : w.heap.size ≤ gb116)); have n4_ := Aside0.mk ((by rw [hg]; exact (below_size (by repeat (first | (with_reducible first | exact HB.out | apply below_alloc | apply pw_below_drewN | apply below_drew1 | refine below_set ?_ GE114.out) | exact HB.out))) : w.heap.size ≤ gb116)); have n5_ := Aside0.mk ((by rw [hg]; exact Nat.ne_of_lt (blk_lt (g := gb114) (o := .cells #[.int .i64 x115000_1, .int .u8 x115001_1, .int .i64 x115002_1, .int .i64 x115003_1] 34 (0, 0)) (by (with_reducible repeat (first | refine blk_drewN ?_ _ | refine blk_drew ?_ | refine blk_alloc ?_ _)); exact BK114.out)) : gb114 ≠ gb116)); have n6_ := Aside0.mk ((by rw [hg]; exact Nat.ne_of_gt (blk_lt (g := gb114) (o := .cells #[.int .i64 x115000_1, .int .u8 x115001_1, .int .i64 x115002_1, .int .i64 x115003_1] 34 (0, 0)) (by (with_reducible repeat (first | refine blk_drewN ?_ _ | refine blk_drew ?_ | refine blk_alloc ?_ _)); exact BK114.out)) : gb116 ≠ gb114)); clear BK114; clear HB; have BK114 := n0_; have HB := n1_; have BK116 := n2_; have GW116 := n3_; have GE116 := n4_; have NB114_116 := n5_; have NB116_114 := n6_; clear n0_ n1_ n2_ n3_ n4_ n5_ n6_; clear hb hbox hg; have hnb9 := NB116_114.out; have hnc9 := NB114_116.out; have hcz10_0 : w8.cell? ⟨gb116, 0, none⟩ = some (.int .i64 0) := (blk_cell BK116.out 0).trans rfl; have hcz10_1 : w8.cell? ⟨gb116, 1, none⟩ = some (.int .u8 0) := (blk_cell BK116.out 1).trans rfl; have hcz10_2 : w8.cell? ⟨gb116, 2, none⟩ = some (.int .i64 0) := (blk_cell BK116.out 2).trans rfl; have hcz10_3 : w8.cell? ⟨gb116, 3, none⟩ = some (.int .i64 0) := (blk_cell BK116.out 3).trans rfl; have hfz10_0 := blk_frozen BK116.out 0; have hfz10_1 := blk_frozen BK116.out 1; have hfz10_2 := blk_frozen BK116.out 2; have hfz10_3 := blk_frozen BK116.out 3; have hcz11_0 : w8.cell? ⟨gb114, 0, none⟩ = some (.int .i64 x115000_1) := (blk_cell BK114.out 0).trans rfl; have hcz11_1 : w8.cell? ⟨gb114, 1, none⟩ = some (.int .u8 x115001_1) := (blk_cell BK114.out 1).trans rfl; have hcz11_2 : w8.cell? ⟨gb114, 2, none⟩ = some (.int .i64 x115002_1) := (blk_cell BK114.out 2).trans rfl; have hcz11_3 : w8.cell? ⟨gb114, 3, none⟩ = some (.int .i64 x115003_1) := (blk_cell BK114.out 3).trans rfl; have hfz11_0 := blk_frozen BK114.out 0; have hfz11_1 := blk_frozen BK114.out 1; have hfz11_2 := blk_frozen BK114.out 2; have hfz11_3 := blk_frozen BK114.out 3))
       refine bodyPost_ret (results_ct rfl _ _ gb114 34 #[.int .i64 ((rd_T34 l0 x10_1).f0), .int .u8 ((rd_T34 l0 x10_1).f1), .int .i64 ((rd_T34 l0 x10_1).f2), .int .i64 ((rd_T34 l0 x10_1).f3)] (0, 0) _ rfl (by (with_reducible repeat (first | refine blk_drewN ?_ _ | refine blk_drew ?_ | refine blk_alloc ?_ _)); refine blk_put (cs := #[.int .i64 ((rd_T34 l0 x10_1).f0), .int .u8 ((rd_T34 l0 x10_1).f1), .int .i64 ((rd_T34 l0 x10_1).f2), .int .i64 x115003_1]) ?_ 3 _ rfl; (with_reducible repeat (first | refine blk_drewN ?_ _ | refine blk_drew ?_ | refine blk_alloc ?_ _)); refine blk_put (cs := #[.int .i64 ((rd_T34 l0 x10_1).f0), .int .u8 ((rd_T34 l0 x10_1).f1), .int .i64 x115002_1, .int .i64 x115003_1]) ?_ 2 _ rfl; (with_reducible repeat (first | refine blk_drewN ?_ _ | refine blk_drew ?_ | refine blk_alloc ?_ _)); refine blk_put (cs := #[.int .i64 ((rd_T34 l0 x10_1).f0), .int .u8 x115001_1, .int .i64 x115002_1, .int .i64 x115003_1]) ?_ 1 _ rfl; (with_reducible repeat (first | refine blk_drewN ?_ _ | refine blk_drew ?_ | refine blk_alloc ?_ _)); refine blk_put (cs := #[.int .i64 x115000_1, .int .u8 x115001_1, .int .i64 x115002_1, .int .i64 x115003_1]) ?_ 0 _ rfl; (with_reducible repeat (first | refine blk_drewN ?_ _ | refine blk_drew ?_ | refine blk_alloc ?_ _)); refine blk_far ?_ NB114_116.out _; (with_reducible repeat (first | refine blk_drewN ?_ _ | refine blk_drew ?_ | refine blk_alloc ?_ _)); refine blk_far ?_ NB114_116.out _; (with_reducible repeat (first | refine blk_drewN ?_ _ | refine blk_drew ?_ | refine blk_alloc ?_ _)); refine blk_far ?_ NB114_116.out _; (with_reducible repeat (first | refine blk_drewN ?_ _ | refine blk_drew ?_ | refine blk_alloc ?_ _)); refine blk_far ?_ NB114_116.out _; (with_reducible repeat (first | refine blk_drewN ?_ _ | refine blk_drew ?_ | refine blk_alloc ?_ _)); exact BK114.out) Tryd.underlying34 rfl (by kernel_rfl)) rfl ?_
       exact ⟨by first | rfl | (simp [errW_none, errW_some] <;> rfl) | (simp [*, errW_none, errW_some] <;> rfl), by repeat (first | (with_reducible first | exact HB.out | apply below_alloc | apply pw_below_drewN | apply below_drew1 | refine below_set ?_ GE114.out | refine below_set ?_ GE116.out) | exact HB.out)⟩
      ·rw [if_neg c7] at H
       have c7b0 : (((rd_T34 l0 x10_1).f0) == a1) = false := beq_eq_false_iff_ne.mpr c7
       have c7b1 : (((rd_T34 l0 x10_1).f0) != a1) = true := bne_iff_ne.mpr c7
       have H' := Aside0.mk H
       clear H
       have p115 : 0 ≤ (x10_1 : Int) := of_decide_eq_true (by first | (with_reducible assumption) | assumption)
       have q115 : x10_1 < (l0.length : Int) := of_decide_eq_true (by first | (with_reducible assumption) | assumption)
       obtain ⟨ad115, e115, hx115_0, hx115_1, hx115_2, hx115_3⟩ := at_T34 HR0.out x10_1 p115 q115
       cases e115
       replace hx115_0 := (HB.out.cell (World.block_lt_of_cell? w _ hx115_0)).trans hx115_0
       replace hx115_1 := (HB.out.cell (World.block_lt_of_cell? w _ hx115_1)).trans hx115_1
       replace hx115_2 := (HB.out.cell (World.block_lt_of_cell? w _ hx115_2)).trans hx115_2
       replace hx115_3 := (HB.out.cell (World.block_lt_of_cell? w _ hx115_3)).trans hx115_3
       replace p115 := eq_true p115
       replace q115 := eq_true q115
       go_wp2_with (first | ((with_reducible refine gate_dst (N := 7) rfl ?_); refine box_event ?hg (N := 7) ?hd (cs := #[.int .i64 0, .int .u8 0, .int .i64 0, .int .i64 0]) (t := 34) ?hr ?_; (case hd => rfl); (case hg => rfl); (case hr => first | (go_simp; done) | (go_simp; rfl)); intro gb116 hg w12 hbox hb; have n0_ := Aside0.mk (blk_below (g := gb114) (o := .cells #[.int .i64 x115000_1, .int .u8 x115001_1, .int .i64 x115002_1, .int .i64 x115003_1] 34 (0, 0)) (by (with_reducible repeat (first | refine blk_drewN ?_ _ | refine blk_drew ?_ | refine blk_alloc ?_ _)); exact BK114.out) hb); have n1_ := Aside0.mk (below_step (by repeat (first | (with_reducible first | exact HB.out | apply below_alloc | apply pw_below_drewN | apply below_drew1 | refine below_set ?_ GE114.out) | exact HB.out)) hb); have n2_ := Aside0.mk (hbox); have n3_ := Aside0.mk ((by rw [hg]; exact (below_size (by repeat (first | (with_reducible first | exact HB.out | apply below_alloc | apply pw_below_drewN | apply below_drew1 | refine below_set ?_ GE114.out) | exact HB.out))) : w.heap.size ≤ gb116)); have n4_ := Aside0.mk ((by rw [hg]; exact (below_size (by repeat (first | (with_reducible first | exact HB.out | apply below_alloc | apply pw_below_drewN | apply below_drew1 | refine below_set ?_ GE114.out) | exact HB.out))) : w.heap.size ≤ gb116)); have n5_ := Aside0.mk ((by rw [hg]; exact Nat.ne_of_lt (blk_lt (g := gb114) (o := .cells #[.int .i64 x115000_1, .int .u8 x115001_1, .int .i64 x115002_1, .int .i64 x115003_1] 34 (0, 0)) (by (with_reducible repeat (first | refine blk_drewN ?_ _ | refine blk_drew ?_ | refine blk_alloc ?_ _)); exact BK114.out)) : gb114 ≠ gb116)); have n6_ := Aside0.mk ((by rw [hg]; exact Nat.ne_of_gt (blk_lt (g := gb114) (o := .cells #[.int .i64 x115000_1, .int .u8 x115001_1, .int .i64 x115002_1, .int .i64 x115003_1] 34 (0, 0)) (by (with_reducible repeat (first | refine blk_drewN ?_ _ | refine blk_drew ?_ | refine blk_alloc ?_ _)); exact BK114.out)) : gb116 ≠ gb114)); clear BK114; clear HB; have BK114 := n0_; have HB := n1_; have BK116 := n2_; have GW116 := n3_; have GE116 := n4_; have NB114_116 := n5_; have NB116_114 := n6_; clear n0_ n1_ n2_ n3_ n4_ n5_ n6_; clear hb hbox hg; have hnb13 := NB116_114.out; have hnc13 := NB114_116.out; have hcz14_0 : w12.cell? ⟨gb116, 0, none⟩ = some (.int .i64 0) := (blk_cell BK116.out 0).trans rfl; have hcz14_1 : w12.cell? ⟨gb116, 1, none⟩ = some (.int .u8 0) := (blk_cell BK116.out 1).trans rfl; have hcz14_2 : w12.cell? ⟨gb116, 2, none⟩ = some (.int .i64 0) := (blk_cell BK116.out 2).trans rfl; have hcz14_3 : w12.cell? ⟨gb116, 3, none⟩ = some (.int .i64 0) := (blk_cell BK116.out 3).trans rfl; have hfz14_0 := blk_frozen BK116.out 0; have hfz14_1 := blk_frozen BK116.out 1; have hfz14_2 := blk_frozen BK116.out 2; have hfz14_3 := blk_frozen BK116.out 3))
       go_roundg k1
       case measure => have := HK1.out; omega
       case rel => exact ⟨(wrap64 (x10_1 + 1)), (x115000_1), (x115001_1), (x115002_1), (x115003_1), (by first | rfl | (simp; done) | (simp [*]; done)), H', ⟨by have := HK1.out; omega⟩, ⟨by (with_reducible repeat (first | refine blk_drewN ?_ _ | refine blk_drew ?_ | refine blk_alloc ?_ _)); refine blk_far ?_ NB114_116.out _; (with_reducible repeat (first | refine blk_drewN ?_ _ | refine blk_drew ?_ | refine blk_alloc ?_ _)); refine blk_far ?_ NB114_116.out _; (with_reducible repeat (first | refine blk_drewN ?_ _ | refine blk_drew ?_ | refine blk_alloc ?_ _)); refine blk_far ?_ NB114_116.out _; (with_reducible repeat (first | refine blk_drewN ?_ _ | refine blk_drew ?_ | refine blk_alloc ?_ _)); refine blk_far ?_ NB114_116.out _; (with_reducible repeat (first | refine blk_drewN ?_ _ | refine blk_drew ?_ | refine blk_alloc ?_ _)); exact BK114.out⟩, ⟨by repeat (first | (with_reducible first | exact HB.out | apply below_alloc | apply pw_below_drewN | apply below_drew1 | refine below_set ?_ GE114.out | refine below_set ?_ GE116.out) | exact HB.out)⟩⟩
     ·rw [if_neg c6] at H
      exact absurd H (by simp)
    ·rw [if_neg c5] at H
     exact absurd H (by simp)
   ·rw [if_neg c4] at H
    have c4b0 : decide (x10_1 < (l0.length : Int)) = false := decide_eq_false c4
    clear c4
    simp only [Option.some.injEq, Prod.mk.injEq] at H
    obtain ⟨rfl, rfl, rfl, rfl, rfl⟩ := H
    have hcz15_0 : wr.cell? ⟨gb114, 0, none⟩ = some (.int .i64 x115000_1) := (blk_cell BK114.out 0).trans rfl
    have hcz15_1 : wr.cell? ⟨gb114, 1, none⟩ = some (.int .u8 x115001_1) := (blk_cell BK114.out 1).trans rfl
    have hcz15_2 : wr.cell? ⟨gb114, 2, none⟩ = some (.int .i64 x115002_1) := (blk_cell BK114.out 2).trans rfl
    have hcz15_3 : wr.cell? ⟨gb114, 3, none⟩ = some (.int .i64 x115003_1) := (blk_cell BK114.out 3).trans rfl
    have hfz15_0 := blk_frozen BK114.out 0
    have hfz15_1 := blk_frozen BK114.out 1
    have hfz15_2 := blk_frozen BK114.out 2
    have hfz15_3 := blk_frozen BK114.out 3
    go_wp2
    refine bodyPost_ret (results_ct rfl _ _ gb114 34 #[.int .i64 0, .int .u8 0, .int .i64 0, .int .i64 0] (0, 0) _ rfl (by (with_reducible repeat (first | refine blk_drewN ?_ _ | refine blk_drew ?_ | refine blk_alloc ?_ _)); refine blk_put (cs := #[.int .i64 0, .int .u8 0, .int .i64 0, .int .i64 x115003_1]) ?_ 3 _ rfl; (with_reducible repeat (first | refine blk_drewN ?_ _ | refine blk_drew ?_ | refine blk_alloc ?_ _)); refine blk_put (cs := #[.int .i64 0, .int .u8 0, .int .i64 x115002_1, .int .i64 x115003_1]) ?_ 2 _ rfl; (with_reducible repeat (first | refine blk_drewN ?_ _ | refine blk_drew ?_ | refine blk_alloc ?_ _)); refine blk_put (cs := #[.int .i64 0, .int .u8 x115001_1, .int .i64 x115002_1, .int .i64 x115003_1]) ?_ 1 _ rfl; (with_reducible repeat (first | refine blk_drewN ?_ _ | refine blk_drew ?_ | refine blk_alloc ?_ _)); refine blk_put (cs := #[.int .i64 x115000_1, .int .u8 x115001_1, .int .i64 x115002_1, .int .i64 x115003_1]) ?_ 0 _ rfl; (with_reducible repeat (first | refine blk_drewN ?_ _ | refine blk_drew ?_ | refine blk_alloc ?_ _)); exact BK114.out) Tryd.underlying34 rfl (by kernel_rfl)) rfl ?_
    exact ⟨by first | rfl | (simp [errW_none, errW_some] <;> rfl) | (simp [*, errW_none, errW_some] <;> rfl), by repeat (first | (with_reducible first | exact HB.out | apply below_alloc | apply pw_below_drewN | apply below_drew1 | refine below_set ?_ GE114.out) | exact HB.out)⟩

end Go.Proofs.YthajndlkibpncaaDoor.PAll
