-- written by xprint.py out of the translation. Not trusted: Lean checks it.
import Derived.Test.YthajndlkibpncaaDoorPAllx0
import Derived.Test.YthajndlkibpncaaDoorPAllx2
namespace Go.Proofs.YthajndlkibpncaaDoor.PAll
open Go.RowKit Go.Proofs.YthajndlkibpncaaDoorW.PrintWords Go.Proofs.YthajndlkibpncaaDoorW.PrintLast Go.Proofs.YthajndlkibpncaaDoorW.PrintMore
attribute [local go_sem] max2_int min2_int max_two min_two max_three min_three max_four min_four   -- for this text's walks alone
set_option linter.unusedVariables false
set_option linter.unusedSimpArgs false

/-! ### table_right: function 21 -/
def table_right.l0 : Nat → List Int → Int → Int → Int → Int → Int → Int → Option (Bool)
 | 0, _, _, _, _, _, _, _ => none
 | k + 1, x11, x12, x13, x118000, x118001, x118002, x118003 => if x13 < x12 then (if 0 ≤ x13 then (if x13 < (x11.length : Int) then (if (rd x11 x13) < 0 then (some false) else (if (rd x11 x13) > 999 then (some false) else (table_right.l0 k x11 x12 (wrap64 (x13 + 1)) x118000 x118001 x118002 x118003))) else (none)) else (none)) else ((table_is.f x118001 (⟨#[65, 66, 68, 69, 73, 90]⟩ : ByteArray)).bind fun t122 => (some t122))
def table_right.f (k : Nat) (a0_0 : Int) (a0_1 : Int) (a0_2 : Int) (a0_3 : Int) : Option (Bool) := (some (([a0_0, a0_2, a0_3] : List Int) : List Int)).bind fun y118 => (table_right.l0 k y118 (y118.length : Int) 0 a0_0 a0_1 a0_2 a0_3)
theorem table_right.mono_l : ∀ k, (∀ y0 y1 y2 y3 y4 y5 y6, LeO (table_right.l0 k y0 y1 y2 y3 y4 y5 y6) (table_right.l0 (k + 1) y0 y1 y2 y3 y4 y5 y6))
 | 0 => fun _ _ _ _ _ _ _ r h => by simp [table_right.l0] at h
 | k + 1 => by
  have ih0 := table_right.mono_l k
  ·intro y0 y1 y2 y3 y4 y5 y6
   unfold table_right.l0
   repeat' first
   | (with_reducible exact ih0 _ _ _ _ _ _ _)
   | (with_reducible exact LeO.refl _)
   | (with_reducible exact LeO.none _)
   | (with_reducible refine LeO.ite ?_ ?_)
   | (with_reducible refine LeO.bind ?_ (fun _ => ?_))
   | exact ih0 _ _ _ _ _ _ _
   | exact LeO.none _
   | refine LeO.ite ?_ ?_
   | refine LeO.bind ?_ (fun _ => ?_)
theorem table_right.mono : ∀ a0 a1 a2 a3 k, LeO (table_right.f k a0 a1 a2 a3) (table_right.f (k + 1) a0 a1 a2 a3) := by
 intro a0 a1 a2 a3 k
 have ih0 := table_right.mono_l k
 unfold table_right.f
 repeat' first
   | (with_reducible exact ih0 _ _ _ _ _ _ _)
   | (with_reducible exact LeO.refl _)
   | (with_reducible exact LeO.none _)
   | (with_reducible refine LeO.ite ?_ ?_)
   | (with_reducible refine LeO.bind ?_ (fun _ => ?_))
   | exact ih0 _ _ _ _ _ _ _
   | exact LeO.none _
   | refine LeO.ite ?_ ?_
   | refine LeO.bind ?_ (fun _ => ?_)
set_option maxHeartbeats 8000000 in
set_option maxRecDepth 100000 in
theorem table_right.calls (k : Nat) (a0_0 : Int) (a0_1 : Int) (a0_2 : Int) (a0_3 : Int) (r : Bool) (w : World) (h : table_right.f k a0_0 a0_1 a0_2 a0_3 = some r) :
  Calls Tryd.prog 21 #[.agg #[.int .i64 a0_0, .int .u8 a0_1, .int .i64 a0_2, .int .i64 a0_3]] w fun e w' => e = .returned (.bool r) ∧ Below w.heap.size w w' := by
 have hu34 := Tryd.underlying34
 have HB := Aside0.mk (Below.refl w.heap.size w)
 have H : ((some (([a0_0, a0_2, a0_3] : List Int) : List Int)).bind fun y118 => (table_right.l0 k y118 (y118.length : Int) 0 a0_0 a0_1 a0_2 a0_3)) = some r := h
 clear h
 obtain ⟨y118, hy118⟩ : ∃ y_ : List Int, y_ = (([a0_0, a0_2, a0_3] : List Int)) := ⟨_, rfl⟩
 replace H : (table_right.l0 k y118 (y118.length : Int) 0 a0_0 a0_1 a0_2 a0_3) = some r := by first | (rw [hy118]; with_reducible exact H) | (have H2_ := (Option.bind_some _ _).symm.trans H; rw [hy118]; with_reducible exact H2_) | (have H2_ := (Option.bind_some _ _).symm.trans H; with_reducible exact H2_) | with_reducible exact H | (rw [hy118]; exact H) | exact H
 have Ny118 := Aside0.mk hy118
 clear hy118
 have H' := Aside0.mk H
 clear H
 go_enter Tryd.func21, Tryd.ntmps21
 go_wp2_with (first | ((with_reducible refine gate_dst (N := 1) rfl ?_); refine box_event ?hg (N := 1) ?hd (cs := #[.int .i64 a0_0, .int .u8 a0_1, .int .i64 a0_2, .int .i64 a0_3]) (t := 34) ?hr ?_; (case hd => rfl); (case hg => rfl); (case hr => first | (go_simp; done) | (go_simp; rfl)); intro gb117 hg w2 hbox hb; have n0_ := Aside0.mk (below_step (by repeat (first | (with_reducible first | exact HB.out | apply below_alloc | apply pw_below_drewN | apply below_drew1) | exact HB.out)) hb); have n1_ := Aside0.mk (hbox); have n2_ := Aside0.mk ((by rw [hg]; exact (below_size (by repeat (first | (with_reducible first | exact HB.out | apply below_alloc | apply pw_below_drewN | apply below_drew1) | exact HB.out))) : w.heap.size ≤ gb117)); have n3_ := Aside0.mk ((by rw [hg]; exact (below_size (by repeat (first | (with_reducible first | exact HB.out | apply below_alloc | apply pw_below_drewN | apply below_drew1) | exact HB.out))) : w.heap.size ≤ gb117)); clear HB; have HB := n0_; have BK117 := n1_; have GW117 := n2_; have GE117 := n3_; clear n0_ n1_ n2_ n3_; clear hb hbox hg; have hcz3_0 : w2.cell? ⟨gb117, 0, none⟩ = some (.int .i64 a0_0) := (blk_cell BK117.out 0).trans rfl; have hcz3_1 : w2.cell? ⟨gb117, 1, none⟩ = some (.int .u8 a0_1) := (blk_cell BK117.out 1).trans rfl; have hcz3_2 : w2.cell? ⟨gb117, 2, none⟩ = some (.int .i64 a0_2) := (blk_cell BK117.out 2).trans rfl; have hcz3_3 : w2.cell? ⟨gb117, 3, none⟩ = some (.int .i64 a0_3) := (blk_cell BK117.out 3).trans rfl; have hfz3_0 := blk_frozen BK117.out 0; have hfz3_1 := blk_frozen BK117.out 1; have hfz3_2 := blk_frozen BK117.out 2; have hfz3_3 := blk_frozen BK117.out 3) | ((with_reducible refine gate_dst (N := 11) rfl ?_); refine Kd.R_lit (Kd.int .i64) _ 3 ?hg (N := 11) ?hd (xs := ([a0_0, a0_2, a0_3] : List Int)) (inner := [.int .i64 a0_0, .int .i64 a0_2, .int .i64 a0_3]) (ok := fun _ => True) (okp := fun _ => True) ?hr ?hp (fun _ hk => hk) trivial (Below.refl _ _) (Nat.le_refl _) (by simp) ?_; (case hd => rfl); (case hg => rfl); (case hr => first | (go_simp; done) | (go_simp; rfl)); (case hp => exact (Reps.one (show Kd.M (Kd.int .i64) _ _ _ a0_0 [.int .i64 a0_0] from rfl) (Reps.one (show Kd.M (Kd.int .i64) _ _ _ a0_2 [.int .i64 a0_2] from rfl) (Reps.one (show Kd.M (Kd.int .i64) _ _ _ a0_3 [.int .i64 a0_3] from rfl) (Reps.none _ _))))); intro v119 w4 ho5 hb hg_ hnew_; clear hg_ hnew_; (first | rw [← Ny118.out] at ho5 | (simp only [Int.reduceToNat] at ho5; rw [← Ny118.out] at ho5)); have n0_ := Aside0.mk (Kd.R_lower ho5 (below_size (by repeat (first | (with_reducible first | exact HB.out | apply below_alloc | apply pw_below_drewN | apply below_drew1 | refine below_set ?_ GE117.out) | exact HB.out)))); have n1_ := Aside0.mk (blk_below (g := gb117) (o := .cells #[.int .i64 a0_0, .int .u8 a0_1, .int .i64 a0_2, .int .i64 a0_3] 34 (0, 0)) (by (with_reducible repeat (first | refine blk_drewN ?_ _ | refine blk_drew ?_ | refine blk_alloc ?_ _)); exact BK117.out) hb); have n2_ := Aside0.mk (below_step (by repeat (first | (with_reducible first | exact HB.out | apply below_alloc | apply pw_below_drewN | apply below_drew1 | refine below_set ?_ GE117.out) | exact HB.out)) hb); clear BK117; clear HB; have HO120 := n0_; have BK117 := n1_; have HB := n2_; clear n0_ n1_ n2_; clear hb ho5; obtain ⟨Ao6, co6, eo6⟩ := Kd.R_slice HO120.out; subst eo6))
 go_loopg [13] k (fun kq v13 w' => ∃ (x13_1 : Int), v13 = .int .i64 x13_1 ∧ Aside0 (table_right.l0 kq y118 (y118.length : Int) x13_1 a0_0 a0_1 a0_2 a0_3 = some r) ∧ Aside0 (kq ≤ k) ∧ Aside0 (Kd.R (Kd.int .i64) 3 w' w.heap.size (fun _ => True) (.slice Ao6 y118.length co6) y118) ∧ Aside0 (w'.heap[gb117]? = some (.cells #[.int .i64 a0_0, .int .u8 a0_1, .int .i64 a0_2, .int .i64 a0_3] 34 (0, 0))) ∧ Aside0 (Below w.heap.size w w'))
 case atStart => exact ⟨(0), (by first | rfl | (simp; done) | (simp [*]; done)), H', ⟨Nat.le_refl _⟩, ⟨by (with_reducible repeat (first | apply Kd.R_alloc | apply Kd.R_drewN | apply Kd.R_drew)); first | exact HO120.out | exact Kd.R_mono HO120.out (fun _ hk_ => by omega)⟩, ⟨by (with_reducible repeat (first | refine blk_drewN ?_ _ | refine blk_drew ?_ | refine blk_alloc ?_ _)); exact BK117.out⟩, ⟨by repeat (first | (with_reducible first | exact HB.out | apply below_alloc | apply pw_below_drewN | apply below_drew1 | refine below_set ?_ GE117.out) | exact HB.out)⟩⟩
 case round =>
  clear H'
  try clear c2
  try clear p2
  try clear hcz3_0
  try clear hcz3_1
  try clear hcz3_2
  try clear hcz3_3
  try clear hfz3_0
  try clear hfz3_1
  try clear hfz3_2
  try clear hfz3_3
  obtain ⟨x13_1, rfl, HA, HK1, HO_11, BK117, HB⟩ := hrel
  cases gk with
  | zero => exact absurd HA.out (by simp [table_right.l0])
  | succ k1 =>
   have H := HA.out
   clear HA
   simp only [table_right.l0] at H
   by_cases c7 : x13_1 < (y118.length : Int)
   ·rw [if_pos c7] at H
    have c7b0 : decide (x13_1 < (y118.length : Int)) = true := decide_eq_true c7
    clear c7
    by_cases c8 : 0 ≤ x13_1
    ·rw [if_pos c8] at H
     have c8b0 : decide (0 ≤ x13_1) = true := decide_eq_true c8
     clear c8
     by_cases c9 : x13_1 < (y118.length : Int)
     ·rw [if_pos c9] at H
      have c9b0 : decide (x13_1 < (y118.length : Int)) = true := decide_eq_true c9
      clear c9
      by_cases c10 : (rd y118 x13_1) < 0
      ·rw [if_pos c10] at H
       have c10b0 : decide ((rd y118 x13_1) < 0) = true := decide_eq_true c10
       clear c10
       obtain rfl := Option.some.inj H
       have p121 : 0 ≤ (x13_1 : Int) := of_decide_eq_true (by first | (with_reducible assumption) | assumption)
       have q121 : x13_1 < (y118.length : Int) := of_decide_eq_true (by first | (with_reducible assumption) | assumption)
       obtain ⟨ad121, e121, hx121_0⟩ := Kd.at_int (Kd.R_reads' HO_11.out).2.2 x13_1 p121 q121
       cases e121
       replace p121 := eq_true p121
       replace q121 := eq_true q121
       go_wp2
       go_ret
       exact ⟨by first | rfl | (simp [errW_none, errW_some] <;> rfl) | (simp [*, errW_none, errW_some] <;> rfl), by repeat (first | (with_reducible first | exact HB.out | apply below_alloc | apply pw_below_drewN | apply below_drew1 | refine below_set ?_ GE117.out) | exact HB.out)⟩
      ·rw [if_neg c10] at H
       have c10b0 : decide ((rd y118 x13_1) < 0) = false := decide_eq_false c10
       clear c10
       by_cases c11 : (rd y118 x13_1) > 999
       ·rw [if_pos c11] at H
        have c11b0 : decide (999 < (rd y118 x13_1)) = true := decide_eq_true c11
        clear c11
        obtain rfl := Option.some.inj H
        have p121 : 0 ≤ (x13_1 : Int) := of_decide_eq_true (by first | (with_reducible assumption) | assumption)
        have q121 : x13_1 < (y118.length : Int) := of_decide_eq_true (by first | (with_reducible assumption) | assumption)
        obtain ⟨ad121, e121, hx121_0⟩ := Kd.at_int (Kd.R_reads' HO_11.out).2.2 x13_1 p121 q121
        cases e121
        replace p121 := eq_true p121
        replace q121 := eq_true q121
        go_wp2
        go_ret
        exact ⟨by first | rfl | (simp [errW_none, errW_some] <;> rfl) | (simp [*, errW_none, errW_some] <;> rfl), by repeat (first | (with_reducible first | exact HB.out | apply below_alloc | apply pw_below_drewN | apply below_drew1 | refine below_set ?_ GE117.out) | exact HB.out)⟩
       ·rw [if_neg c11] at H
        have c11b0 : decide (999 < (rd y118 x13_1)) = false := decide_eq_false c11
        clear c11
        have H' := Aside0.mk H
        clear H
        have p121 : 0 ≤ (x13_1 : Int) := of_decide_eq_true (by first | (with_reducible assumption) | assumption)
        have q121 : x13_1 < (y118.length : Int) := of_decide_eq_true (by first | (with_reducible assumption) | assumption)
        obtain ⟨ad121, e121, hx121_0⟩ := Kd.at_int (Kd.R_reads' HO_11.out).2.2 x13_1 p121 q121
        cases e121
        replace p121 := eq_true p121
        replace q121 := eq_true q121
        go_wp2
        go_roundg k1
        case measure => have := HK1.out; omega
        case rel => exact ⟨(wrap64 (x13_1 + 1)), (by first | rfl | (simp; done) | (simp [*]; done)), H', ⟨by have := HK1.out; omega⟩, ⟨by (with_reducible repeat (first | apply Kd.R_alloc | apply Kd.R_drewN | apply Kd.R_drew)); first | exact HO_11.out | exact Kd.R_mono HO_11.out (fun _ hk_ => by omega)⟩, ⟨by (with_reducible repeat (first | refine blk_drewN ?_ _ | refine blk_drew ?_ | refine blk_alloc ?_ _)); exact BK117.out⟩, ⟨by repeat (first | (with_reducible first | exact HB.out | apply below_alloc | apply pw_below_drewN | apply below_drew1 | refine below_set ?_ GE117.out) | exact HB.out)⟩⟩
     ·rw [if_neg c9] at H
      exact absurd H (by simp)
    ·rw [if_neg c8] at H
     exact absurd H (by simp)
   ·rw [if_neg c7] at H
    have c7b0 : decide (x13_1 < (y118.length : Int)) = false := decide_eq_false c7
    clear c7
    replace H := Option.bind_eq_some_iff.mp H
    obtain ⟨t122, A120, H⟩ := H
    replace H : (some t122) = some r := H
    have A12 := Aside0.mk A120
    clear A120
    obtain rfl := Option.some.inj H
    have hcz13_0 : wr.cell? ⟨gb117, 0, none⟩ = some (.int .i64 a0_0) := (blk_cell BK117.out 0).trans rfl
    have hcz13_1 : wr.cell? ⟨gb117, 1, none⟩ = some (.int .u8 a0_1) := (blk_cell BK117.out 1).trans rfl
    have hcz13_2 : wr.cell? ⟨gb117, 2, none⟩ = some (.int .i64 a0_2) := (blk_cell BK117.out 2).trans rfl
    have hcz13_3 : wr.cell? ⟨gb117, 3, none⟩ = some (.int .i64 a0_3) := (blk_cell BK117.out 3).trans rfl
    have hfz13_0 := blk_frozen BK117.out 0
    have hfz13_1 := blk_frozen BK117.out 1
    have hfz13_2 := blk_frozen BK117.out 2
    have hfz13_3 := blk_frozen BK117.out 3
    go_wp2_with (first | ((with_reducible refine gate_callee (f := 30) rfl ?_); refine goesL_ (some 26) rfl rfl Tryd.func30 (by kernel_rfl) rfl #[.int .u8 a0_1, .string (⟨#[65, 66, 68, 69, 73, 90]⟩ : ByteArray)] rfl (by (try simp only [List.map_toArray, List.map_cons, List.map_nil]); first | done | rfl | (simp only [List.length_drop, List.length_take]; rfl) | (rw [hsame_])) ?_; (with_reducible refine (table_is.calls a0_1 (⟨#[65, 66, 68, 69, 73, 90]⟩ : ByteArray) t122 _ A12.out).mono ?_); rintro e w' ⟨rfl, ⟨nd, rfl⟩⟩; refine ⟨_, rfl, ?_⟩))
    go_ret
    exact ⟨by first | rfl | (simp [errW_none, errW_some] <;> rfl) | (simp [*, errW_none, errW_some] <;> rfl), by repeat (first | (with_reducible first | exact HB.out | apply below_alloc | apply pw_below_drewN | apply below_drew1 | refine below_set ?_ GE117.out) | exact HB.out)⟩

/-! ### strconv_FormatInt: function 39 -/
def strconv_FormatInt.f (a0 a1 : Int) : Option (ByteArray) := if a1 = 10 ∧ (Lit.int .i64 a0).wf = true then some ⟨(Lib.itoa a0).toArray⟩ else none
theorem strconv_FormatInt.calls (a0 a1 : Int) (r : ByteArray) (w : World) (hT : TAB w) (h : strconv_FormatInt.f a0 a1 = some r) :
  Calls Tryd.prog 39 #[.int .i64 a0, .int .i64 a1] w fun e w' => e = .returned (.string r) ∧ Below w.heap.size w w' := by
 unfold strconv_FormatInt.f at h
 split at h
 case isFalse => cases h
 rename_i hc
 obtain ⟨rfl, hw⟩ := hc
 obtain rfl := Option.some.inj h
 have hb : -9223372036854775808 ≤ a0 ∧ a0 ≤ 9223372036854775807 := by simpa [Lit.wf, IntKind.min, IntKind.max, IntKind.bits, IntKind.signed] using hw
 refine (Tryd.strconv_FormatInt_10 a0 hb.1 hb.2 w (TAB_pow10 hT)).mono ?_
 rintro e w' ⟨rfl, k, os, rfl⟩
 exact ⟨rfl, Lib.below_grow _ _ (Nat.le_refl _) _ _⟩

/-! ### strings_Repeat: function 40 -/
def strings_Repeat.f (a0 : ByteArray) (a1 : Int) : Option (ByteArray) := if 0 ≤ a1 ∧ a1 ≤ 9223372036854775807 ∧ a0.size * a1.toNat ≤ 140737488355328 then some ⟨(Lib.repeatL a0.data.toList a1.toNat).toArray⟩ else none
theorem strings_Repeat.calls (a0 : ByteArray) (a1 : Int) (r : ByteArray) (w : World) (h : strings_Repeat.f a0 a1 = some r) :
  Calls Tryd.prog 40 #[.string a0, .int .i64 a1] w fun e w' => e = .returned (.string r) ∧ Below w.heap.size w w' := by
 unfold strings_Repeat.f at h
 split at h
 case isFalse => cases h
 rename_i hc
 obtain ⟨h0, h1, h2⟩ := hc
 obtain rfl := Option.some.inj h
 obtain ⟨c, rfl⟩ := Int.eq_ofNat_of_zero_le h0
 exact Tryd.strings_Repeat a0 c w (by omega) h2

/-! ### bcd_Digits: function 33 -/
def bcd_Digits.f (a0 : Int) (a1 : Int) : Option (ByteArray × Bool) := (strconv_FormatInt.f a0 10).bind fun t123 => (if a0 < 0 then (some ((⟨#[]⟩ : ByteArray), false)) else (if a1 < 1 then (some ((⟨#[]⟩ : ByteArray), false)) else (if a1 > 18 then (some ((⟨#[]⟩ : ByteArray), false)) else (if (t123.size : Int) > a1 then (some ((⟨#[]⟩ : ByteArray), false)) else ((strings_Repeat.f (⟨#[48]⟩ : ByteArray) (wrap64 (a1 - (t123.size : Int)))).bind fun t124 => (if t124.size + t123.size ≤ 9223372036854775807 then (some (t124 ++ t123, true)) else (none)))))))
set_option maxHeartbeats 8000000 in
set_option maxRecDepth 100000 in
theorem bcd_Digits.calls (a0 : Int) (a1 : Int) (r1 : ByteArray) (r2 : Bool) (w : World) (hT : TAB w) (h : bcd_Digits.f a0 a1 = some (r1, r2)) :
  Calls Tryd.prog 33 #[.int .i64 a0, .int .i64 a1] w fun e w' => e = .returned (.tuple #[.string r1, .bool r2]) ∧ Below w.heap.size w w' := by
 have HT := Aside0.mk hT
 clear hT
 have HB := Aside0.mk (Below.refl w.heap.size w)
 have H : ((strconv_FormatInt.f a0 10).bind fun t123 => (if a0 < 0 then (some ((⟨#[]⟩ : ByteArray), false)) else (if a1 < 1 then (some ((⟨#[]⟩ : ByteArray), false)) else (if a1 > 18 then (some ((⟨#[]⟩ : ByteArray), false)) else (if (t123.size : Int) > a1 then (some ((⟨#[]⟩ : ByteArray), false)) else ((strings_Repeat.f (⟨#[48]⟩ : ByteArray) (wrap64 (a1 - (t123.size : Int)))).bind fun t124 => (if t124.size + t123.size ≤ 9223372036854775807 then (some (t124 ++ t123, true)) else (none)))))))) = some (r1, r2) := h
 clear h
 replace H := Option.bind_eq_some_iff.mp H
 obtain ⟨t123, A30, H⟩ := H
 replace H : (if a0 < 0 then (some ((⟨#[]⟩ : ByteArray), false)) else (if a1 < 1 then (some ((⟨#[]⟩ : ByteArray), false)) else (if a1 > 18 then (some ((⟨#[]⟩ : ByteArray), false)) else (if (t123.size : Int) > a1 then (some ((⟨#[]⟩ : ByteArray), false)) else ((strings_Repeat.f (⟨#[48]⟩ : ByteArray) (wrap64 (a1 - (t123.size : Int)))).bind fun t124 => (if t124.size + t123.size ≤ 9223372036854775807 then (some (t124 ++ t123, true)) else (none))))))) = some (r1, r2) := H
 have A3 := Aside0.mk A30
 clear A30
 by_cases c4 : a0 < 0
 ·rw [if_pos c4] at H
  have c4b0 : decide (a0 < 0) = true := decide_eq_true c4
  clear c4
  simp only [Option.some.injEq, Prod.mk.injEq] at H
  obtain ⟨rfl, rfl⟩ := H
  go_enter Tryd.func33, Tryd.ntmps33
  go_wp2_with (first | ((with_reducible refine gate_callee (f := 39) rfl ?_); refine goesL_ (some 8) rfl rfl Tryd.func39 (by kernel_rfl) rfl #[.int .i64 a0, .int .i64 10] rfl (by (try simp only [List.map_toArray, List.map_cons, List.map_nil]); first | done | rfl | (simp only [List.length_drop, List.length_take]; rfl) | (rw [hsame_])) ?_; (with_reducible refine (strconv_FormatInt.calls a0 10 t123 _ ?side1 A3.out).mono ?_); (case side1 => exact tab_at HT.out (by repeat (first | (with_reducible first | exact HB.out | apply below_alloc | apply pw_below_drewN | apply below_drew1) | exact HB.out))); rintro e w5 ⟨rfl, hb⟩; refine ⟨_, rfl, ?_⟩; have n0_ := Aside0.mk (below_step (by repeat (first | (with_reducible first | exact HB.out | apply below_alloc | apply pw_below_drewN | apply below_drew1) | exact HB.out)) hb); clear HB; have HB := n0_; clear n0_; (try clear hb); (try clear hb2); (try clear hk); (try clear hi)))
  go_ret2
  exact ⟨by first | rfl | (simp [errW_none, errW_some] <;> rfl) | (simp [*, errW_none, errW_some] <;> rfl), by repeat (first | (with_reducible first | exact HB.out | apply below_alloc | apply pw_below_drewN | apply below_drew1) | exact HB.out)⟩
 ·rw [if_neg c4] at H
  have c4b0 : decide (a0 < 0) = false := decide_eq_false c4
  clear c4
  by_cases c6 : a1 < 1
  ·rw [if_pos c6] at H
   have c6b0 : decide (a1 < 1) = true := decide_eq_true c6
   clear c6
   simp only [Option.some.injEq, Prod.mk.injEq] at H
   obtain ⟨rfl, rfl⟩ := H
   go_enter Tryd.func33, Tryd.ntmps33
   go_wp2_with (first | ((with_reducible refine gate_callee (f := 39) rfl ?_); refine goesL_ (some 8) rfl rfl Tryd.func39 (by kernel_rfl) rfl #[.int .i64 a0, .int .i64 10] rfl (by (try simp only [List.map_toArray, List.map_cons, List.map_nil]); first | done | rfl | (simp only [List.length_drop, List.length_take]; rfl) | (rw [hsame_])) ?_; (with_reducible refine (strconv_FormatInt.calls a0 10 t123 _ ?side1 A3.out).mono ?_); (case side1 => exact tab_at HT.out (by repeat (first | (with_reducible first | exact HB.out | apply below_alloc | apply pw_below_drewN | apply below_drew1) | exact HB.out))); rintro e w7 ⟨rfl, hb⟩; refine ⟨_, rfl, ?_⟩; have n0_ := Aside0.mk (below_step (by repeat (first | (with_reducible first | exact HB.out | apply below_alloc | apply pw_below_drewN | apply below_drew1) | exact HB.out)) hb); clear HB; have HB := n0_; clear n0_; (try clear hb); (try clear hb2); (try clear hk); (try clear hi)))
   go_ret2
   exact ⟨by first | rfl | (simp [errW_none, errW_some] <;> rfl) | (simp [*, errW_none, errW_some] <;> rfl), by repeat (first | (with_reducible first | exact HB.out | apply below_alloc | apply pw_below_drewN | apply below_drew1) | exact HB.out)⟩
  ·rw [if_neg c6] at H
   have c6b0 : decide (a1 < 1) = false := decide_eq_false c6
   clear c6
   by_cases c8 : a1 > 18
   ·rw [if_pos c8] at H
    have c8b0 : decide (18 < a1) = true := decide_eq_true c8
    clear c8
    simp only [Option.some.injEq, Prod.mk.injEq] at H
    obtain ⟨rfl, rfl⟩ := H
    go_enter Tryd.func33, Tryd.ntmps33
    go_wp2_with (first | ((with_reducible refine gate_callee (f := 39) rfl ?_); refine goesL_ (some 8) rfl rfl Tryd.func39 (by kernel_rfl) rfl #[.int .i64 a0, .int .i64 10] rfl (by (try simp only [List.map_toArray, List.map_cons, List.map_nil]); first | done | rfl | (simp only [List.length_drop, List.length_take]; rfl) | (rw [hsame_])) ?_; (with_reducible refine (strconv_FormatInt.calls a0 10 t123 _ ?side1 A3.out).mono ?_); (case side1 => exact tab_at HT.out (by repeat (first | (with_reducible first | exact HB.out | apply below_alloc | apply pw_below_drewN | apply below_drew1) | exact HB.out))); rintro e w9 ⟨rfl, hb⟩; refine ⟨_, rfl, ?_⟩; have n0_ := Aside0.mk (below_step (by repeat (first | (with_reducible first | exact HB.out | apply below_alloc | apply pw_below_drewN | apply below_drew1) | exact HB.out)) hb); clear HB; have HB := n0_; clear n0_; (try clear hb); (try clear hb2); (try clear hk); (try clear hi)))
    go_ret2
    exact ⟨by first | rfl | (simp [errW_none, errW_some] <;> rfl) | (simp [*, errW_none, errW_some] <;> rfl), by repeat (first | (with_reducible first | exact HB.out | apply below_alloc | apply pw_below_drewN | apply below_drew1) | exact HB.out)⟩
   ·rw [if_neg c8] at H
    have c8b0 : decide (18 < a1) = false := decide_eq_false c8
    clear c8
    by_cases c10 : (t123.size : Int) > a1
    ·rw [if_pos c10] at H
     have c10b0 : decide (a1 < (t123.size : Int)) = true := decide_eq_true c10
     clear c10
     simp only [Option.some.injEq, Prod.mk.injEq] at H
     obtain ⟨rfl, rfl⟩ := H
     go_enter Tryd.func33, Tryd.ntmps33
     go_wp2_with (first | ((with_reducible refine gate_callee (f := 39) rfl ?_); refine goesL_ (some 8) rfl rfl Tryd.func39 (by kernel_rfl) rfl #[.int .i64 a0, .int .i64 10] rfl (by (try simp only [List.map_toArray, List.map_cons, List.map_nil]); first | done | rfl | (simp only [List.length_drop, List.length_take]; rfl) | (rw [hsame_])) ?_; (with_reducible refine (strconv_FormatInt.calls a0 10 t123 _ ?side1 A3.out).mono ?_); (case side1 => exact tab_at HT.out (by repeat (first | (with_reducible first | exact HB.out | apply below_alloc | apply pw_below_drewN | apply below_drew1) | exact HB.out))); rintro e w11 ⟨rfl, hb⟩; refine ⟨_, rfl, ?_⟩; have n0_ := Aside0.mk (below_step (by repeat (first | (with_reducible first | exact HB.out | apply below_alloc | apply pw_below_drewN | apply below_drew1) | exact HB.out)) hb); clear HB; have HB := n0_; clear n0_; (try clear hb); (try clear hb2); (try clear hk); (try clear hi)))
     go_ret2
     exact ⟨by first | rfl | (simp [errW_none, errW_some] <;> rfl) | (simp [*, errW_none, errW_some] <;> rfl), by repeat (first | (with_reducible first | exact HB.out | apply below_alloc | apply pw_below_drewN | apply below_drew1) | exact HB.out)⟩
    ·rw [if_neg c10] at H
     have c10b0 : decide (a1 < (t123.size : Int)) = false := decide_eq_false c10
     clear c10
     replace H := Option.bind_eq_some_iff.mp H
     obtain ⟨t124, A120, H⟩ := H
     replace H : (if t124.size + t123.size ≤ 9223372036854775807 then (some (t124 ++ t123, true)) else (none)) = some (r1, r2) := H
     have A12 := Aside0.mk A120
     clear A120
     by_cases c13 : t124.size + t123.size ≤ 9223372036854775807
     ·rw [if_pos c13] at H
      have c13b0 := eq_true c13
      have c13b1 : decide (t124.size + t123.size ≤ 9223372036854775807) = true := decide_eq_true c13
      try have c13b2 : (9223372036854775807 < t124.size + t123.size) = False := eq_false (Nat.not_lt.2 c13)
      simp only [Option.some.injEq, Prod.mk.injEq] at H
      obtain ⟨rfl, rfl⟩ := H
      go_enter Tryd.func33, Tryd.ntmps33
      go_wp2_with (first | ((with_reducible refine gate_callee (f := 39) rfl ?_); refine goesL_ (some 8) rfl rfl Tryd.func39 (by kernel_rfl) rfl #[.int .i64 a0, .int .i64 10] rfl (by (try simp only [List.map_toArray, List.map_cons, List.map_nil]); first | done | rfl | (simp only [List.length_drop, List.length_take]; rfl) | (rw [hsame_])) ?_; (with_reducible refine (strconv_FormatInt.calls a0 10 t123 _ ?side1 A3.out).mono ?_); (case side1 => exact tab_at HT.out (by repeat (first | (with_reducible first | exact HB.out | apply below_alloc | apply pw_below_drewN | apply below_drew1) | exact HB.out))); rintro e w14 ⟨rfl, hb⟩; refine ⟨_, rfl, ?_⟩; have n0_ := Aside0.mk (below_step (by repeat (first | (with_reducible first | exact HB.out | apply below_alloc | apply pw_below_drewN | apply below_drew1) | exact HB.out)) hb); clear HB; have HB := n0_; clear n0_; (try clear hb); (try clear hb2); (try clear hk); (try clear hi)) | ((with_reducible refine gate_callee (f := 40) rfl ?_); refine goesL_ (some 29) rfl rfl Tryd.func40 (by kernel_rfl) rfl #[.string (⟨#[48]⟩ : ByteArray), .int .i64 (wrap64 (a1 - (t123.size : Int)))] rfl (by (try simp only [List.map_toArray, List.map_cons, List.map_nil]); first | done | rfl | (simp only [List.length_drop, List.length_take]; rfl) | (rw [hsame_])) ?_; (with_reducible refine (strings_Repeat.calls (⟨#[48]⟩ : ByteArray) (wrap64 (a1 - (t123.size : Int))) t124 _ A12.out).mono ?_); rintro e w15 ⟨rfl, hb⟩; refine ⟨_, rfl, ?_⟩; have n0_ := Aside0.mk (below_step (by repeat (first | (with_reducible first | exact HB.out | apply below_alloc | apply pw_below_drewN | apply below_drew1) | exact HB.out)) hb); clear HB; have HB := n0_; clear n0_; (try clear hb); (try clear hb2); (try clear hk); (try clear hi)))
      go_ret2
      exact ⟨by first | rfl | (simp [errW_none, errW_some] <;> rfl) | (simp [*, errW_none, errW_some] <;> rfl), by repeat (first | (with_reducible first | exact HB.out | apply below_alloc | apply pw_below_drewN | apply below_drew1) | exact HB.out)⟩
     ·rw [if_neg c13] at H
      exact absurd H (by simp)

/-! ### table_line: function 23 -/
def table_line.f (a0_0 : Int) (a0_1 : Int) (a0_2 : Int) (a0_3 : Int) : Option (ByteArray) := (bcd_Digits.f a0_0 3).bind fun bt126 => ((bcd_Digits.f a0_2 3).bind fun bt128 => ((bcd_Digits.f a0_3 3).bind fun bt130 => (if bt126.1.size + 1 ≤ 9223372036854775807 then ((some (([a0_1] : List Int) : List Int)).bind fun y132 => (if (bt126.1 ++ (⟨#[32]⟩ : ByteArray)).size + (strOfNums y132).size ≤ 9223372036854775807 then (if ((bt126.1 ++ (⟨#[32]⟩ : ByteArray)) ++ (strOfNums y132)).size + 1 ≤ 9223372036854775807 then (if (((bt126.1 ++ (⟨#[32]⟩ : ByteArray)) ++ (strOfNums y132)) ++ (⟨#[32]⟩ : ByteArray)).size + bt128.1.size ≤ 9223372036854775807 then (if ((((bt126.1 ++ (⟨#[32]⟩ : ByteArray)) ++ (strOfNums y132)) ++ (⟨#[32]⟩ : ByteArray)) ++ bt128.1).size + 1 ≤ 9223372036854775807 then (if (((((bt126.1 ++ (⟨#[32]⟩ : ByteArray)) ++ (strOfNums y132)) ++ (⟨#[32]⟩ : ByteArray)) ++ bt128.1) ++ (⟨#[32]⟩ : ByteArray)).size + bt130.1.size ≤ 9223372036854775807 then (some ((((((bt126.1 ++ (⟨#[32]⟩ : ByteArray)) ++ (strOfNums y132)) ++ (⟨#[32]⟩ : ByteArray)) ++ bt128.1) ++ (⟨#[32]⟩ : ByteArray)) ++ bt130.1)) else (none)) else (none)) else (none)) else (none)) else (none))) else (none))))
set_option maxHeartbeats 8000000 in
set_option maxRecDepth 100000 in
theorem table_line.calls (a0_0 : Int) (a0_1 : Int) (a0_2 : Int) (a0_3 : Int) (r : ByteArray) (w : World) (hT : TAB w) (h : table_line.f a0_0 a0_1 a0_2 a0_3 = some r) :
  Calls Tryd.prog 23 #[.agg #[.int .i64 a0_0, .int .u8 a0_1, .int .i64 a0_2, .int .i64 a0_3]] w fun e w' => e = .returned (.string r) ∧ Below w.heap.size w w' := by
 have HT := Aside0.mk hT
 clear hT
 have hu34 := Tryd.underlying34
 have HB := Aside0.mk (Below.refl w.heap.size w)
 have H : ((bcd_Digits.f a0_0 3).bind fun bt126 => ((bcd_Digits.f a0_2 3).bind fun bt128 => ((bcd_Digits.f a0_3 3).bind fun bt130 => (if bt126.1.size + 1 ≤ 9223372036854775807 then ((some (([a0_1] : List Int) : List Int)).bind fun y132 => (if (bt126.1 ++ (⟨#[32]⟩ : ByteArray)).size + (strOfNums y132).size ≤ 9223372036854775807 then (if ((bt126.1 ++ (⟨#[32]⟩ : ByteArray)) ++ (strOfNums y132)).size + 1 ≤ 9223372036854775807 then (if (((bt126.1 ++ (⟨#[32]⟩ : ByteArray)) ++ (strOfNums y132)) ++ (⟨#[32]⟩ : ByteArray)).size + bt128.1.size ≤ 9223372036854775807 then (if ((((bt126.1 ++ (⟨#[32]⟩ : ByteArray)) ++ (strOfNums y132)) ++ (⟨#[32]⟩ : ByteArray)) ++ bt128.1).size + 1 ≤ 9223372036854775807 then (if (((((bt126.1 ++ (⟨#[32]⟩ : ByteArray)) ++ (strOfNums y132)) ++ (⟨#[32]⟩ : ByteArray)) ++ bt128.1) ++ (⟨#[32]⟩ : ByteArray)).size + bt130.1.size ≤ 9223372036854775807 then (some ((((((bt126.1 ++ (⟨#[32]⟩ : ByteArray)) ++ (strOfNums y132)) ++ (⟨#[32]⟩ : ByteArray)) ++ bt128.1) ++ (⟨#[32]⟩ : ByteArray)) ++ bt130.1)) else (none)) else (none)) else (none)) else (none)) else (none))) else (none))))) = some r := h
 clear h
 replace H := Option.bind_eq_some_iff.mp H
 obtain ⟨⟨t126, t127⟩, A20, H⟩ := H
 replace H : ((bcd_Digits.f a0_2 3).bind fun bt128 => ((bcd_Digits.f a0_3 3).bind fun bt130 => (if t126.size + 1 ≤ 9223372036854775807 then ((some (([a0_1] : List Int) : List Int)).bind fun y132 => (if (t126 ++ (⟨#[32]⟩ : ByteArray)).size + (strOfNums y132).size ≤ 9223372036854775807 then (if ((t126 ++ (⟨#[32]⟩ : ByteArray)) ++ (strOfNums y132)).size + 1 ≤ 9223372036854775807 then (if (((t126 ++ (⟨#[32]⟩ : ByteArray)) ++ (strOfNums y132)) ++ (⟨#[32]⟩ : ByteArray)).size + bt128.1.size ≤ 9223372036854775807 then (if ((((t126 ++ (⟨#[32]⟩ : ByteArray)) ++ (strOfNums y132)) ++ (⟨#[32]⟩ : ByteArray)) ++ bt128.1).size + 1 ≤ 9223372036854775807 then (if (((((t126 ++ (⟨#[32]⟩ : ByteArray)) ++ (strOfNums y132)) ++ (⟨#[32]⟩ : ByteArray)) ++ bt128.1) ++ (⟨#[32]⟩ : ByteArray)).size + bt130.1.size ≤ 9223372036854775807 then (some ((((((t126 ++ (⟨#[32]⟩ : ByteArray)) ++ (strOfNums y132)) ++ (⟨#[32]⟩ : ByteArray)) ++ bt128.1) ++ (⟨#[32]⟩ : ByteArray)) ++ bt130.1)) else (none)) else (none)) else (none)) else (none)) else (none))) else (none)))) = some r := H
 have A2 := Aside0.mk A20
 clear A20
 replace H := Option.bind_eq_some_iff.mp H
 obtain ⟨⟨t128, t129⟩, A30, H⟩ := H
 replace H : ((bcd_Digits.f a0_3 3).bind fun bt130 => (if t126.size + 1 ≤ 9223372036854775807 then ((some (([a0_1] : List Int) : List Int)).bind fun y132 => (if (t126 ++ (⟨#[32]⟩ : ByteArray)).size + (strOfNums y132).size ≤ 9223372036854775807 then (if ((t126 ++ (⟨#[32]⟩ : ByteArray)) ++ (strOfNums y132)).size + 1 ≤ 9223372036854775807 then (if (((t126 ++ (⟨#[32]⟩ : ByteArray)) ++ (strOfNums y132)) ++ (⟨#[32]⟩ : ByteArray)).size + t128.size ≤ 9223372036854775807 then (if ((((t126 ++ (⟨#[32]⟩ : ByteArray)) ++ (strOfNums y132)) ++ (⟨#[32]⟩ : ByteArray)) ++ t128).size + 1 ≤ 9223372036854775807 then (if (((((t126 ++ (⟨#[32]⟩ : ByteArray)) ++ (strOfNums y132)) ++ (⟨#[32]⟩ : ByteArray)) ++ t128) ++ (⟨#[32]⟩ : ByteArray)).size + bt130.1.size ≤ 9223372036854775807 then (some ((((((t126 ++ (⟨#[32]⟩ : ByteArray)) ++ (strOfNums y132)) ++ (⟨#[32]⟩ : ByteArray)) ++ t128) ++ (⟨#[32]⟩ : ByteArray)) ++ bt130.1)) else (none)) else (none)) else (none)) else (none)) else (none))) else (none))) = some r := H
 have A3 := Aside0.mk A30
 clear A30
 replace H := Option.bind_eq_some_iff.mp H
 obtain ⟨⟨t130, t131⟩, A40, H⟩ := H
 replace H : (if t126.size + 1 ≤ 9223372036854775807 then ((some (([a0_1] : List Int) : List Int)).bind fun y132 => (if (t126 ++ (⟨#[32]⟩ : ByteArray)).size + (strOfNums y132).size ≤ 9223372036854775807 then (if ((t126 ++ (⟨#[32]⟩ : ByteArray)) ++ (strOfNums y132)).size + 1 ≤ 9223372036854775807 then (if (((t126 ++ (⟨#[32]⟩ : ByteArray)) ++ (strOfNums y132)) ++ (⟨#[32]⟩ : ByteArray)).size + t128.size ≤ 9223372036854775807 then (if ((((t126 ++ (⟨#[32]⟩ : ByteArray)) ++ (strOfNums y132)) ++ (⟨#[32]⟩ : ByteArray)) ++ t128).size + 1 ≤ 9223372036854775807 then (if (((((t126 ++ (⟨#[32]⟩ : ByteArray)) ++ (strOfNums y132)) ++ (⟨#[32]⟩ : ByteArray)) ++ t128) ++ (⟨#[32]⟩ : ByteArray)).size + t130.size ≤ 9223372036854775807 then (some ((((((t126 ++ (⟨#[32]⟩ : ByteArray)) ++ (strOfNums y132)) ++ (⟨#[32]⟩ : ByteArray)) ++ t128) ++ (⟨#[32]⟩ : ByteArray)) ++ t130)) else (none)) else (none)) else (none)) else (none)) else (none))) else (none)) = some r := H
 have A4 := Aside0.mk A40
 clear A40
 by_cases c5 : t126.size + 1 ≤ 9223372036854775807
 ·rw [if_pos c5] at H
  have c5b0 := eq_true c5
  have c5b1 : decide (t126.size + 1 ≤ 9223372036854775807) = true := decide_eq_true c5
  try have c5b2 : (9223372036854775807 < t126.size + 1) = False := eq_false (Nat.not_lt.2 c5)
  obtain ⟨y132, hy132⟩ : ∃ y_ : List Int, y_ = (([a0_1] : List Int)) := ⟨_, rfl⟩
  replace H : (if (t126 ++ (⟨#[32]⟩ : ByteArray)).size + (strOfNums y132).size ≤ 9223372036854775807 then (if ((t126 ++ (⟨#[32]⟩ : ByteArray)) ++ (strOfNums y132)).size + 1 ≤ 9223372036854775807 then (if (((t126 ++ (⟨#[32]⟩ : ByteArray)) ++ (strOfNums y132)) ++ (⟨#[32]⟩ : ByteArray)).size + t128.size ≤ 9223372036854775807 then (if ((((t126 ++ (⟨#[32]⟩ : ByteArray)) ++ (strOfNums y132)) ++ (⟨#[32]⟩ : ByteArray)) ++ t128).size + 1 ≤ 9223372036854775807 then (if (((((t126 ++ (⟨#[32]⟩ : ByteArray)) ++ (strOfNums y132)) ++ (⟨#[32]⟩ : ByteArray)) ++ t128) ++ (⟨#[32]⟩ : ByteArray)).size + t130.size ≤ 9223372036854775807 then (some ((((((t126 ++ (⟨#[32]⟩ : ByteArray)) ++ (strOfNums y132)) ++ (⟨#[32]⟩ : ByteArray)) ++ t128) ++ (⟨#[32]⟩ : ByteArray)) ++ t130)) else (none)) else (none)) else (none)) else (none)) else (none)) = some r := by first | (rw [hy132]; with_reducible exact H) | (have H2_ := (Option.bind_some _ _).symm.trans H; rw [hy132]; with_reducible exact H2_) | (have H2_ := (Option.bind_some _ _).symm.trans H; with_reducible exact H2_) | with_reducible exact H | (rw [hy132]; exact H) | exact H
  have Ny132 := Aside0.mk hy132
  clear hy132
  by_cases c6 : (t126 ++ (⟨#[32]⟩ : ByteArray)).size + (strOfNums y132).size ≤ 9223372036854775807
  ·rw [if_pos c6] at H
   have c6b0 := eq_true c6
   have c6b1 : decide ((t126 ++ (⟨#[32]⟩ : ByteArray)).size + (strOfNums y132).size ≤ 9223372036854775807) = true := decide_eq_true c6
   (try have c6b5 : (9223372036854775807 < t126.size + 1 + (strOfNums y132).size) = False := (by rw [show t126.size + 1 + (strOfNums y132).size = (t126 ++ (⟨#[32]⟩ : ByteArray)).size + (strOfNums y132).size from (by first | (simp only [ByteArray.size_append]; done) | (simp only [ByteArray.size_append]; rfl))]; exact eq_false (Nat.not_lt.2 c6)))
   try have c6b2 : (9223372036854775807 < (t126 ++ (⟨#[32]⟩ : ByteArray)).size + (strOfNums y132).size) = False := eq_false (Nat.not_lt.2 c6)
   by_cases c7 : ((t126 ++ (⟨#[32]⟩ : ByteArray)) ++ (strOfNums y132)).size + 1 ≤ 9223372036854775807
   ·rw [if_pos c7] at H
    have c7b0 := eq_true c7
    have c7b1 : decide (((t126 ++ (⟨#[32]⟩ : ByteArray)) ++ (strOfNums y132)).size + 1 ≤ 9223372036854775807) = true := decide_eq_true c7
    (try have c7b5 : (9223372036854775807 < t126.size + 1 + (strOfNums y132).size + 1) = False := (by rw [show t126.size + 1 + (strOfNums y132).size + 1 = ((t126 ++ (⟨#[32]⟩ : ByteArray)) ++ (strOfNums y132)).size + 1 from (by first | (simp only [ByteArray.size_append]; done) | (simp only [ByteArray.size_append]; rfl))]; exact eq_false (Nat.not_lt.2 c7)))
    try have c7b2 : (9223372036854775807 < ((t126 ++ (⟨#[32]⟩ : ByteArray)) ++ (strOfNums y132)).size + 1) = False := eq_false (Nat.not_lt.2 c7)
    by_cases c8 : (((t126 ++ (⟨#[32]⟩ : ByteArray)) ++ (strOfNums y132)) ++ (⟨#[32]⟩ : ByteArray)).size + t128.size ≤ 9223372036854775807
    ·rw [if_pos c8] at H
     have c8b0 := eq_true c8
     have c8b1 : decide ((((t126 ++ (⟨#[32]⟩ : ByteArray)) ++ (strOfNums y132)) ++ (⟨#[32]⟩ : ByteArray)).size + t128.size ≤ 9223372036854775807) = true := decide_eq_true c8
     (try have c8b5 : (9223372036854775807 < t126.size + 1 + (strOfNums y132).size + 1 + t128.size) = False := (by rw [show t126.size + 1 + (strOfNums y132).size + 1 + t128.size = (((t126 ++ (⟨#[32]⟩ : ByteArray)) ++ (strOfNums y132)) ++ (⟨#[32]⟩ : ByteArray)).size + t128.size from (by first | (simp only [ByteArray.size_append]; done) | (simp only [ByteArray.size_append]; rfl))]; exact eq_false (Nat.not_lt.2 c8)))
     try have c8b2 : (9223372036854775807 < (((t126 ++ (⟨#[32]⟩ : ByteArray)) ++ (strOfNums y132)) ++ (⟨#[32]⟩ : ByteArray)).size + t128.size) = False := eq_false (Nat.not_lt.2 c8)
     by_cases c9 : ((((t126 ++ (⟨#[32]⟩ : ByteArray)) ++ (strOfNums y132)) ++ (⟨#[32]⟩ : ByteArray)) ++ t128).size + 1 ≤ 9223372036854775807
     ·rw [if_pos c9] at H
      have c9b0 := eq_true c9
      have c9b1 : decide (((((t126 ++ (⟨#[32]⟩ : ByteArray)) ++ (strOfNums y132)) ++ (⟨#[32]⟩ : ByteArray)) ++ t128).size + 1 ≤ 9223372036854775807) = true := decide_eq_true c9
      (try have c9b5 : (9223372036854775807 < t126.size + 1 + (strOfNums y132).size + 1 + t128.size + 1) = False := (by rw [show t126.size + 1 + (strOfNums y132).size + 1 + t128.size + 1 = ((((t126 ++ (⟨#[32]⟩ : ByteArray)) ++ (strOfNums y132)) ++ (⟨#[32]⟩ : ByteArray)) ++ t128).size + 1 from (by first | (simp only [ByteArray.size_append]; done) | (simp only [ByteArray.size_append]; rfl))]; exact eq_false (Nat.not_lt.2 c9)))
      try have c9b2 : (9223372036854775807 < ((((t126 ++ (⟨#[32]⟩ : ByteArray)) ++ (strOfNums y132)) ++ (⟨#[32]⟩ : ByteArray)) ++ t128).size + 1) = False := eq_false (Nat.not_lt.2 c9)
      by_cases c10 : (((((t126 ++ (⟨#[32]⟩ : ByteArray)) ++ (strOfNums y132)) ++ (⟨#[32]⟩ : ByteArray)) ++ t128) ++ (⟨#[32]⟩ : ByteArray)).size + t130.size ≤ 9223372036854775807
      ·rw [if_pos c10] at H
       have c10b0 := eq_true c10
       have c10b1 : decide ((((((t126 ++ (⟨#[32]⟩ : ByteArray)) ++ (strOfNums y132)) ++ (⟨#[32]⟩ : ByteArray)) ++ t128) ++ (⟨#[32]⟩ : ByteArray)).size + t130.size ≤ 9223372036854775807) = true := decide_eq_true c10
       (try have c10b5 : (9223372036854775807 < t126.size + 1 + (strOfNums y132).size + 1 + t128.size + 1 + t130.size) = False := (by rw [show t126.size + 1 + (strOfNums y132).size + 1 + t128.size + 1 + t130.size = (((((t126 ++ (⟨#[32]⟩ : ByteArray)) ++ (strOfNums y132)) ++ (⟨#[32]⟩ : ByteArray)) ++ t128) ++ (⟨#[32]⟩ : ByteArray)).size + t130.size from (by first | (simp only [ByteArray.size_append]; done) | (simp only [ByteArray.size_append]; rfl))]; exact eq_false (Nat.not_lt.2 c10)))
       try have c10b2 : (9223372036854775807 < (((((t126 ++ (⟨#[32]⟩ : ByteArray)) ++ (strOfNums y132)) ++ (⟨#[32]⟩ : ByteArray)) ++ t128) ++ (⟨#[32]⟩ : ByteArray)).size + t130.size) = False := eq_false (Nat.not_lt.2 c10)
       obtain rfl := Option.some.inj H
       go_enter Tryd.func23, Tryd.ntmps23
       go_wp2_with (first | ((with_reducible refine gate_dst (N := 1) rfl ?_); refine box_event ?hg (N := 1) ?hd (cs := #[.int .i64 a0_0, .int .u8 a0_1, .int .i64 a0_2, .int .i64 a0_3]) (t := 34) ?hr ?_; (case hd => rfl); (case hg => rfl); (case hr => first | (go_simp; done) | (go_simp; rfl)); intro gb125 hg w11 hbox hb; have n0_ := Aside0.mk (below_step (by repeat (first | (with_reducible first | exact HB.out | apply below_alloc | apply pw_below_drewN | apply below_drew1) | exact HB.out)) hb); have n1_ := Aside0.mk (hbox); have n2_ := Aside0.mk ((by rw [hg]; exact (below_size (by repeat (first | (with_reducible first | exact HB.out | apply below_alloc | apply pw_below_drewN | apply below_drew1) | exact HB.out))) : w.heap.size ≤ gb125)); have n3_ := Aside0.mk ((by rw [hg]; exact (below_size (by repeat (first | (with_reducible first | exact HB.out | apply below_alloc | apply pw_below_drewN | apply below_drew1) | exact HB.out))) : w.heap.size ≤ gb125)); clear HB; have HB := n0_; have BK125 := n1_; have GW125 := n2_; have GE125 := n3_; clear n0_ n1_ n2_ n3_; clear hb hbox hg; have hcz12_0 : w11.cell? ⟨gb125, 0, none⟩ = some (.int .i64 a0_0) := (blk_cell BK125.out 0).trans rfl; have hcz12_1 : w11.cell? ⟨gb125, 1, none⟩ = some (.int .u8 a0_1) := (blk_cell BK125.out 1).trans rfl; have hcz12_2 : w11.cell? ⟨gb125, 2, none⟩ = some (.int .i64 a0_2) := (blk_cell BK125.out 2).trans rfl; have hcz12_3 : w11.cell? ⟨gb125, 3, none⟩ = some (.int .i64 a0_3) := (blk_cell BK125.out 3).trans rfl; have hfz12_0 := blk_frozen BK125.out 0; have hfz12_1 := blk_frozen BK125.out 1; have hfz12_2 := blk_frozen BK125.out 2; have hfz12_3 := blk_frozen BK125.out 3) | ((with_reducible refine gate_callee (f := 33) rfl ?_); refine goesL_ (some 12) rfl rfl Tryd.func33 (by kernel_rfl) rfl #[.int .i64 a0_0, .int .i64 3] rfl (by (try simp only [List.map_toArray, List.map_cons, List.map_nil]); first | done | rfl | (simp only [List.length_drop, List.length_take]; rfl) | (rw [hsame_])) ?_; (with_reducible refine (bcd_Digits.calls a0_0 3 t126 t127 _ ?side1 A2.out).mono ?_); (case side1 => exact tab_at HT.out (by repeat (first | (with_reducible first | exact HB.out | apply below_alloc | apply pw_below_drewN | apply below_drew1 | refine below_set ?_ GE125.out) | exact HB.out))); rintro e w13 ⟨rfl, hb⟩; refine ⟨_, rfl, ?_⟩; have n0_ := Aside0.mk (blk_below (g := gb125) (o := .cells #[.int .i64 a0_0, .int .u8 a0_1, .int .i64 a0_2, .int .i64 a0_3] 34 (0, 0)) (by (with_reducible repeat (first | refine blk_drewN ?_ _ | refine blk_drew ?_ | refine blk_alloc ?_ _)); exact BK125.out) hb); have n1_ := Aside0.mk (below_step (by repeat (first | (with_reducible first | exact HB.out | apply below_alloc | apply pw_below_drewN | apply below_drew1 | refine below_set ?_ GE125.out) | exact HB.out)) hb); clear BK125; clear HB; have BK125 := n0_; have HB := n1_; clear n0_ n1_; (try clear hb); (try clear hb2); (try clear hk); (try clear hi); have hcz14_0 : w13.cell? ⟨gb125, 0, none⟩ = some (.int .i64 a0_0) := (blk_cell BK125.out 0).trans rfl; have hcz14_1 : w13.cell? ⟨gb125, 1, none⟩ = some (.int .u8 a0_1) := (blk_cell BK125.out 1).trans rfl; have hcz14_2 : w13.cell? ⟨gb125, 2, none⟩ = some (.int .i64 a0_2) := (blk_cell BK125.out 2).trans rfl; have hcz14_3 : w13.cell? ⟨gb125, 3, none⟩ = some (.int .i64 a0_3) := (blk_cell BK125.out 3).trans rfl; have hfz14_0 := blk_frozen BK125.out 0; have hfz14_1 := blk_frozen BK125.out 1; have hfz14_2 := blk_frozen BK125.out 2; have hfz14_3 := blk_frozen BK125.out 3) | ((with_reducible refine gate_callee (f := 33) rfl ?_); refine goesL_ (some 18) rfl rfl Tryd.func33 (by kernel_rfl) rfl #[.int .i64 a0_2, .int .i64 3] rfl (by (try simp only [List.map_toArray, List.map_cons, List.map_nil]); first | done | rfl | (simp only [List.length_drop, List.length_take]; rfl) | (rw [hsame_])) ?_; (with_reducible refine (bcd_Digits.calls a0_2 3 t128 t129 _ ?side1 A3.out).mono ?_); (case side1 => exact tab_at HT.out (by repeat (first | (with_reducible first | exact HB.out | apply below_alloc | apply pw_below_drewN | apply below_drew1 | refine below_set ?_ GE125.out) | exact HB.out))); rintro e w15 ⟨rfl, hb⟩; refine ⟨_, rfl, ?_⟩; have n0_ := Aside0.mk (blk_below (g := gb125) (o := .cells #[.int .i64 a0_0, .int .u8 a0_1, .int .i64 a0_2, .int .i64 a0_3] 34 (0, 0)) (by (with_reducible repeat (first | refine blk_drewN ?_ _ | refine blk_drew ?_ | refine blk_alloc ?_ _)); exact BK125.out) hb); have n1_ := Aside0.mk (below_step (by repeat (first | (with_reducible first | exact HB.out | apply below_alloc | apply pw_below_drewN | apply below_drew1 | refine below_set ?_ GE125.out) | exact HB.out)) hb); clear BK125; clear HB; have BK125 := n0_; have HB := n1_; clear n0_ n1_; (try clear hb); (try clear hb2); (try clear hk); (try clear hi); have hcz16_0 : w15.cell? ⟨gb125, 0, none⟩ = some (.int .i64 a0_0) := (blk_cell BK125.out 0).trans rfl; have hcz16_1 : w15.cell? ⟨gb125, 1, none⟩ = some (.int .u8 a0_1) := (blk_cell BK125.out 1).trans rfl; have hcz16_2 : w15.cell? ⟨gb125, 2, none⟩ = some (.int .i64 a0_2) := (blk_cell BK125.out 2).trans rfl; have hcz16_3 : w15.cell? ⟨gb125, 3, none⟩ = some (.int .i64 a0_3) := (blk_cell BK125.out 3).trans rfl; have hfz16_0 := blk_frozen BK125.out 0; have hfz16_1 := blk_frozen BK125.out 1; have hfz16_2 := blk_frozen BK125.out 2; have hfz16_3 := blk_frozen BK125.out 3) | ((with_reducible refine gate_callee (f := 33) rfl ?_); refine goesL_ (some 24) rfl rfl Tryd.func33 (by kernel_rfl) rfl #[.int .i64 a0_3, .int .i64 3] rfl (by (try simp only [List.map_toArray, List.map_cons, List.map_nil]); first | done | rfl | (simp only [List.length_drop, List.length_take]; rfl) | (rw [hsame_])) ?_; (with_reducible refine (bcd_Digits.calls a0_3 3 t130 t131 _ ?side1 A4.out).mono ?_); (case side1 => exact tab_at HT.out (by repeat (first | (with_reducible first | exact HB.out | apply below_alloc | apply pw_below_drewN | apply below_drew1 | refine below_set ?_ GE125.out) | exact HB.out))); rintro e w17 ⟨rfl, hb⟩; refine ⟨_, rfl, ?_⟩; have n0_ := Aside0.mk (blk_below (g := gb125) (o := .cells #[.int .i64 a0_0, .int .u8 a0_1, .int .i64 a0_2, .int .i64 a0_3] 34 (0, 0)) (by (with_reducible repeat (first | refine blk_drewN ?_ _ | refine blk_drew ?_ | refine blk_alloc ?_ _)); exact BK125.out) hb); have n1_ := Aside0.mk (below_step (by repeat (first | (with_reducible first | exact HB.out | apply below_alloc | apply pw_below_drewN | apply below_drew1 | refine below_set ?_ GE125.out) | exact HB.out)) hb); clear BK125; clear HB; have BK125 := n0_; have HB := n1_; clear n0_ n1_; (try clear hb); (try clear hb2); (try clear hk); (try clear hi); have hcz18_0 : w17.cell? ⟨gb125, 0, none⟩ = some (.int .i64 a0_0) := (blk_cell BK125.out 0).trans rfl; have hcz18_1 : w17.cell? ⟨gb125, 1, none⟩ = some (.int .u8 a0_1) := (blk_cell BK125.out 1).trans rfl; have hcz18_2 : w17.cell? ⟨gb125, 2, none⟩ = some (.int .i64 a0_2) := (blk_cell BK125.out 2).trans rfl; have hcz18_3 : w17.cell? ⟨gb125, 3, none⟩ = some (.int .i64 a0_3) := (blk_cell BK125.out 3).trans rfl; have hfz18_0 := blk_frozen BK125.out 0; have hfz18_1 := blk_frozen BK125.out 1; have hfz18_2 := blk_frozen BK125.out 2; have hfz18_3 := blk_frozen BK125.out 3) | ((with_reducible refine gate_dst (N := 31) rfl ?_); refine Kd.R_lit (Kd.int .u8) _ 5 ?hg (N := 31) ?hd (xs := ([a0_1] : List Int)) (inner := [.int .u8 a0_1]) (ok := fun _ => True) (okp := fun _ => True) ?hr ?hp (fun _ hk => hk) trivial (Below.refl _ _) (Nat.le_refl _) (by simp) ?_; (case hd => rfl); (case hg => rfl); (case hr => first | (go_simp; done) | (go_simp; rfl)); (case hp => exact (Reps.one (show Kd.M (Kd.int .u8) _ _ _ a0_1 [.int .u8 a0_1] from rfl) (Reps.none _ _))); intro v133 w19 ho20 hb hg_ hnew_; clear hg_ hnew_; (first | rw [← Ny132.out] at ho20 | (simp only [Int.reduceToNat] at ho20; rw [← Ny132.out] at ho20)); have n0_ := Aside0.mk (Kd.R_lower ho20 (below_size (by repeat (first | (with_reducible first | exact HB.out | apply below_alloc | apply pw_below_drewN | apply below_drew1 | refine below_set ?_ GE125.out) | exact HB.out)))); have n1_ := Aside0.mk (blk_below (g := gb125) (o := .cells #[.int .i64 a0_0, .int .u8 a0_1, .int .i64 a0_2, .int .i64 a0_3] 34 (0, 0)) (by (with_reducible repeat (first | refine blk_drewN ?_ _ | refine blk_drew ?_ | refine blk_alloc ?_ _)); exact BK125.out) hb); have n2_ := Aside0.mk (below_step (by repeat (first | (with_reducible first | exact HB.out | apply below_alloc | apply pw_below_drewN | apply below_drew1 | refine below_set ?_ GE125.out) | exact HB.out)) hb); clear BK125; clear HB; have HO134 := n0_; have BK125 := n1_; have HB := n2_; clear n0_ n1_ n2_; clear hb ho20; have hcv21 : (convert 40 9 (v133)).run Tryd.prog _ = .ok (.string (strOfNums y132)) _ := own_string (P := Tryd.prog) Tryd.underlying40 Tryd.underlying5 Tryd.underlying9 (Kd.own_of_R HO134.out)))
       go_ret
       exact ⟨by first | rfl | (simp [errW_none, errW_some] <;> rfl) | (simp [*, errW_none, errW_some] <;> rfl), by repeat (first | (with_reducible first | exact HB.out | apply below_alloc | apply pw_below_drewN | apply below_drew1 | refine below_set ?_ GE125.out) | exact HB.out)⟩
      ·rw [if_neg c10] at H
       exact absurd H (by simp)
     ·rw [if_neg c9] at H
      exact absurd H (by simp)
    ·rw [if_neg c8] at H
     exact absurd H (by simp)
   ·rw [if_neg c7] at H
    exact absurd H (by simp)
  ·rw [if_neg c6] at H
   exact absurd H (by simp)
 ·rw [if_neg c5] at H
  exact absurd H (by simp)

/-! ### table_Text: function 13 -/
/-! The builder's two methods at this program (the shelf's ask for a body that this program's library does not bear). -/
theorem bldr_below {T e : TypeId} {B b : Nat} {bs : List Value} {w w1 : World} (h : Lib.IsBuilder T e B b bs w) (hb : Below w.heap.size w w1) : Lib.IsBuilder T e B b bs w1 := by
 have key : ∀ p, Lib.BuilderAt T e B b p bs w → Lib.BuilderAt T e B b p bs w1 := by
  rintro p ⟨hB, v, hv, hown, hne⟩
  refine ⟨hB, v, (hb.block b (Array.getElem?_eq_some_iff.1 hv).1).trans hv, ?_, hne⟩
  rcases hown with ⟨hl, h | ⟨g, cap, cur, rfl, hg, hh, r⟩⟩
  ·exact ⟨hl, .inl h⟩
  ·exact ⟨hl, .inr ⟨g, cap, cur, rfl, hg, (hb.block g (Array.getElem?_eq_some_iff.1 hh).1).trans hh, r⟩⟩
 rcases h with h | h
 ·exact .inl (key _ h)
 ·exact .inr (key _ h)
set_option maxHeartbeats 1000000 in
set_option maxRecDepth 100000 in
theorem bldr_check_used (b : Nat) (w : World) (h0 : w.cell? ⟨b, 0, none⟩ = some (.pointer (some ⟨b, 0, none⟩))) :
  Calls Tryd.prog 32 #[.pointer (some ⟨b, 0, none⟩)] w fun e w' => e = .returned (.tuple #[]) ∧ w' = w := by
 obtain ⟨j, hj, _⟩ := Option.map_eq_some_iff.1 (show (Tryd.prog.info? 61).map (·.size) = some 2 by kernel_rfl)
 go_enter Tryd.func32, Tryd.ntmps32
 go_wp2
 rw [Lib.run_neq_ptr_same w _ Tryd.underlying59 hj]
 go_wp2
 go_end0
 exact ⟨rfl, rfl⟩
set_option maxHeartbeats 1000000 in
set_option maxRecDepth 100000 in
theorem bldr_check_fresh (b : Nat) (w : World) (h0 : w.cell? ⟨b, 0, none⟩ = some (.pointer none)) (hsh : w.shape? b = some (61, 2)) (hfz : w.frozen? ⟨b, 0, none⟩ = false) :
  Calls Tryd.prog 32 #[.pointer (some ⟨b, 0, none⟩)] w fun e w' => e = .returned (.tuple #[]) ∧ w' = w.setCell ⟨b, 0, none⟩ (.pointer (some ⟨b, 0, none⟩)) := by
 obtain ⟨j, hj, hjs⟩ := Option.map_eq_some_iff.1 (show (Tryd.prog.info? 61).map (·.size) = some 2 by kernel_rfl)
 go_enter Tryd.func32, Tryd.ntmps32
 go_wp2
 rw [Lib.run_to_unsafe w ⟨b, 0, none⟩ Tryd.underlying59 Tryd.underlying81 hj (by rw [hjs]; decide) hsh (Nat.zero_lt_succ 1)]
 simp only [Result.andThen]
 rw [Oper.upon_value]
 go_wp2
 rw [run_callFunc_extern Tryd.func38 (by kernel_rfl) (by kernel_rfl) (by kernel_rfl) (e := Extern.AbiNoEscape.same) (by kernel_rfl)]
 rw [Lib.run_noEscape]
 simp only [Result.andThen]
 rw [Oper.upon_value]
 go_wp2
 rw [Lib.run_from_unsafe w ⟨b, 0, none⟩ Tryd.underlying81 Tryd.underlying59 hj hsh (by kernel_rfl)]
 simp only [Result.andThen]
 rw [Oper.upon_value]
 go_wp2
 go_end0
 exact ⟨rfl, rfl⟩
theorem bldr_check (B b : Nat) (bs : List Value) (w : World) (h : Lib.IsBuilder 61 5 B b bs w) :
  Calls Tryd.prog 32 #[.pointer (some ⟨b, 0, none⟩)] w fun e w' => e = .returned (.tuple #[]) ∧ (Lib.BuilderAt 61 5 B b (.pointer (some ⟨b, 0, none⟩)) bs w' ∧ Below B w w') := by
 rcases h with h | h
 ·refine (bldr_check_fresh b w h.cell0 h.shape h.frozen0).mono ?_
  rintro e w' ⟨rfl, rfl⟩
  exact ⟨rfl, h.used _, (Below.refl B w).setCell (p := ⟨b, 0, none⟩) h.1 _⟩
 ·refine (bldr_check_used b w h.cell0).mono ?_
  rintro e w' ⟨rfl, rfl⟩
  exact ⟨rfl, h, Below.refl B _⟩
set_option maxHeartbeats 2000000 in
set_option maxRecDepth 100000 in
theorem bldr_write (B b : Nat) (bs : List Value) (s : ByteArray) (w : World) (h : Lib.IsBuilder 61 5 B b bs w) (hlen : bs.length + s.size ≤ 140737488355328) (hBw : B ≤ w.heap.size) :
  Calls Tryd.prog 22 #[.pointer (some ⟨b, 0, none⟩), .string s] w fun e w' => e = .returned (.tuple #[.int .i64 s.size, .nilIface]) ∧ (Lib.IsBuilder 61 5 B b (bs ++ Lib.strCells s) w' ∧ Below B w w') := by
 obtain ⟨i0, hi, hz0, hz1, hz2⟩ := info_parts (show (Tryd.prog.info? 5).map (fun i => (i.zero, i.size, i.bytes)) = some (some (.int .u8 0), 1, 1) by kernel_rfl)
 go_enter Tryd.func22, Tryd.ntmps22
 go_wp2_with (go_at_call 32; refine (bldr_check B b bs _ h).mono ?_)
 rintro e w1 ⟨rfl, h1, hb1⟩
 obtain ⟨hB, v, hbk, hown, hne⟩ := h1
 have c0 : w1.cell? ⟨b, 0, none⟩ = some (.pointer (some ⟨b, 0, none⟩)) := by rw [Lib.cell_of_heap hbk]; rfl
 have c1 : w1.cell? ⟨b, 1, none⟩ = some v := by rw [Lib.cell_of_heap hbk]; rfl
 go_wp2_with (at_builtin; refine Lib.wpList_append_own_string _ rfl _ _ 40 9 rfl B 5 i0 Tryd.underlying40 Tryd.underlying9 hi hz0 hz1 hz2 _ _ _ rfl hown s rfl ?c3 ?c4 ?c5 ?_)
 case c3 => unfold maxLen; omega
 case c4 => omega
 case c5 => have := hb1.size; omega
 intro v' w2 hown' hgrow _
 have hlt : b < w1.heap.size := by
  rcases Nat.lt_or_ge b w1.heap.size with h' | h'
  ·exact h'
  ·simp [Array.getElem?_eq_none h'] at hbk
 have hb2 : w2.heap[b]? = some (.cells #[.pointer (some ⟨b, 0, none⟩), v] 61 (0, 0)) := by
  rw [hgrow.block b hlt (fun e => hne e.symm)]
  exact hbk
 have d0 : w2.cell? ⟨b, 0, none⟩ = some (.pointer (some ⟨b, 0, none⟩)) := by rw [Lib.cell_of_heap hb2]; rfl
 have d1 : w2.cell? ⟨b, 1, none⟩ = some v := by rw [Lib.cell_of_heap hb2]; rfl
 have f1 : w2.frozen? ⟨b, 1, none⟩ = false := Lib.frozen_of_heap hb2 1
 obtain ⟨ao, n', cap, rfl⟩ : ∃ ao n' cap, v' = .slice ao n' cap := by
  rcases hown'.2 with ⟨hv, _⟩ | ⟨g, cap, cur, hv, _⟩
  ·exact ⟨_, _, _, hv⟩
  ·exact ⟨_, _, _, hv⟩
 go_wp2
 go_ret2
 refine ⟨rfl, ?_, ?_⟩
 ·exact .inr (Lib.BuilderAt.put (T := 61) (e := 5) hB hb2 (bs' := bs ++ Lib.strCells s) (by simpa [Lib.strCells_length] using hown') (by decide))
 ·exact (hb1.grown hgrow (by have := hb1.size; omega) (fun k hk => (hown.lt k hk).1)).setCell (p := ⟨b, 1, none⟩) hB _
theorem strCells_append (a b : ByteArray) : Lib.strCells (a ++ b) = Lib.strCells a ++ Lib.strCells b := by simp [Lib.strCells, ByteArray.data_append]

def table_Text.l0 : Nat → List S34 → Int → ByteArray → Option ByteArray
 | 0, _, _, _ => none
 | k + 1, l, i, s => if i < (l.length : Int) then (if 0 ≤ i then ((table_right.f k (rd_T34 l i).f0 (rd_T34 l i).f1 (rd_T34 l i).f2 (rd_T34 l i).f3).bind fun t => (if t = true then ((table_line.f (rd_T34 l i).f0 (rd_T34 l i).f1 (rd_T34 l i).f2 (rd_T34 l i).f3).bind fun u => (if u.size + 1 ≤ 9223372036854775807 then (if s.size + (u.size + 1) ≤ 140737488355328 then (table_Text.l0 k l (wrap64 (i + 1)) (s ++ (u ++ (⟨#[10]⟩ : ByteArray)))) else none) else none)) else (some (⟨#[]⟩ : ByteArray)))) else none) else (some s)
def table_Text.f (k : Nat) (l0 : List S34) : Option ByteArray := table_Text.l0 k l0 0 (⟨#[]⟩ : ByteArray)
theorem table_Text.mono_l : ∀ k, (∀ y0 y1 y2, LeO (table_Text.l0 k y0 y1 y2) (table_Text.l0 (k + 1) y0 y1 y2))
 | 0 => fun _ _ _ r h => by simp [table_Text.l0] at h
 | k + 1 => by
  have ih0 := table_Text.mono_l k
  intro y0 y1 y2
  unfold table_Text.l0
  repeat' first
  | (with_reducible exact ih0 _ _ _)
  | (with_reducible exact table_right.mono _ _ _ _ _)
  | (with_reducible exact LeO.refl _)
  | (with_reducible exact LeO.none _)
  | (with_reducible refine LeO.ite ?_ ?_)
  | (with_reducible refine LeO.bind ?_ (fun _ => ?_))
  | exact ih0 _ _ _
  | exact table_right.mono _ _ _ _ _
  | exact LeO.none _
  | refine LeO.ite ?_ ?_
  | refine LeO.bind ?_ (fun _ => ?_)
theorem table_Text.mono : ∀ a0 k, LeO (table_Text.f k a0) (table_Text.f (k + 1) a0) := fun a0 k => table_Text.mono_l k a0 0 (⟨#[]⟩ : ByteArray)
set_option maxHeartbeats 8000000 in
set_option maxRecDepth 100000 in
theorem table_Text.calls (k : Nat) (A0 : Option Addr) (c0 : Nat) (l0 : List S34) (r : ByteArray) (w : World) (hT : TAB w) (hr0 : Kd.C k34 w A0 l0.length l0) (hc0 : l0.length ≤ c0) (h : table_Text.f k l0 = some r) :
  Calls Tryd.prog 13 #[.slice A0 l0.length c0] w fun e w' => e = .returned (.string r) ∧ Below w.heap.size w w' := by
 have hu34 := Tryd.underlying34
 have HT := Aside0.mk hT
 have HR0 := Aside0.mk hr0
 have HC0 := Aside0.mk hc0
 have H' := Aside0.mk (show table_Text.l0 k l0 0 (⟨#[]⟩ : ByteArray) = some r from h)
 clear hT hr0 hc0 h
 go_enter Tryd.func13, Tryd.ntmps13
 go_wp2_with (first | ((with_reducible refine gate_dst (N := 3) rfl ?_); refine box_event ?hg (N := 3) ?hd (cs := #[.pointer none, .slice none 0 0]) (t := 61) ?hr ?_; (case hd => rfl); (case hg => rfl); (case hr => first | (go_simp; done) | (go_simp; rfl)); intro gb hg w3 hbox hb; have HBL := Aside0.mk (show Lib.IsBuilder 61 5 w.heap.size gb (Lib.strCells (⟨#[]⟩ : ByteArray)) w3 from .inl ⟨by rw [hg]; exact Nat.le_refl _, .slice none 0 0, hbox, World.ownsRow_nil _ _ _ _, by simp [Value.ownBlock]⟩); have HB := Aside0.mk (show Below w.heap.size w w3 from hb); clear hg hbox hb))
 go_loopg [8] k (fun kq v8 w' => ∃ (i : Int) (s : ByteArray), v8 = .int .i64 i ∧ Aside0 (table_Text.l0 kq l0 i s = some r) ∧ Aside0 (kq ≤ k) ∧ Aside0 (Lib.IsBuilder 61 5 w.heap.size gb (Lib.strCells s) w') ∧ Aside0 (Below w.heap.size w w'))
 case atStart => exact ⟨0, _, rfl, H', ⟨Nat.le_refl _⟩, HBL, HB⟩
 case round =>
  clear H' HBL HB
  obtain ⟨i, s, rfl, HA, HK, HBL, HB⟩ := hrel
  cases gk with
  | zero => exact absurd HA.out (by simp [table_Text.l0])
  | succ k1 =>
   have H := HA.out
   clear HA
   simp only [table_Text.l0] at H
   by_cases c1 : i < (l0.length : Int)
   ·rw [if_pos c1] at H
    by_cases c2 : 0 ≤ i
    ·rw [if_pos c2] at H
     obtain ⟨ad, e_, hx0, hx1, hx2, hx3⟩ := at_T34 HR0.out i c2 c1
     cases e_
     have c1b : decide (i < (l0.length : Int)) = true := decide_eq_true c1
     have c1e := eq_true c1
     have c2e := eq_true c2
     clear c1 c2
     replace hx0 := (HB.out.cell (World.block_lt_of_cell? w _ hx0)).trans hx0
     replace hx1 := (HB.out.cell (World.block_lt_of_cell? w _ hx1)).trans hx1
     replace hx2 := (HB.out.cell (World.block_lt_of_cell? w _ hx2)).trans hx2
     replace hx3 := (HB.out.cell (World.block_lt_of_cell? w _ hx3)).trans hx3
     obtain ⟨t, A1, H⟩ := Option.bind_eq_some_iff.mp H
     have A1 := Aside0.mk A1
     cases t with
     | false =>
      have H1 : (⟨#[]⟩ : ByteArray) = r := by simpa using H
      clear H
      subst H1
      go_wp2_with (first | ((with_reducible refine gate_dst (N := 5) rfl ?_); refine box_event ?hg (N := 5) ?hd (cs := #[.int .i64 0, .int .u8 0, .int .i64 0, .int .i64 0]) (t := 34) ?hr ?_; (case hd => rfl); (case hg => rfl); (case hr => first | (go_simp; done) | (go_simp; rfl)); intro g5 hg w4 hbox hb; have HC := Aside0.mk hb; have BK := Aside0.mk hbox; have GE := Aside0.mk (show wr.heap.size ≤ g5 from by rw [hg]; exact Nat.le_refl _); have hz0 : w4.cell? ⟨g5, 0, none⟩ = some (.int .i64 0) := (blk_cell hbox 0).trans rfl; have hz1 : w4.cell? ⟨g5, 1, none⟩ = some (.int .u8 0) := (blk_cell hbox 1).trans rfl; have hz2 : w4.cell? ⟨g5, 2, none⟩ = some (.int .i64 0) := (blk_cell hbox 2).trans rfl; have hz3 : w4.cell? ⟨g5, 3, none⟩ = some (.int .i64 0) := (blk_cell hbox 3).trans rfl; have hf0 := blk_frozen hbox 0; have hf1 := blk_frozen hbox 1; have hf2 := blk_frozen hbox 2; have hf3 := blk_frozen hbox 3; replace hx0 := (hb.cell (World.block_lt_of_cell? wr _ hx0)).trans hx0; replace hx1 := (hb.cell (World.block_lt_of_cell? wr _ hx1)).trans hx1; replace hx2 := (hb.cell (World.block_lt_of_cell? wr _ hx2)).trans hx2; replace hx3 := (hb.cell (World.block_lt_of_cell? wr _ hx3)).trans hx3; clear hg hbox hb) | (go_at_call 21; refine (table_right.calls k1 _ _ _ _ _ _ A1.out).mono ?_; rintro e w5 ⟨rfl, hb⟩; have n0_ := Aside0.mk (below_step (below_set (below_set (below_set (below_set HC.out GE.out) GE.out) GE.out) GE.out) hb); have n1_ : Aside0 (w5.heap[g5]? = some (.cells #[.int .i64 ((rd_T34 l0 i).f0), .int .u8 ((rd_T34 l0 i).f1), .int .i64 ((rd_T34 l0 i).f2), .int .i64 ((rd_T34 l0 i).f3)] 34 (0, 0))) := ⟨blk_below (by refine blk_put (cs := #[.int .i64 ((rd_T34 l0 i).f0), .int .u8 ((rd_T34 l0 i).f1), .int .i64 ((rd_T34 l0 i).f2), .int .i64 0]) ?_ 3 _ rfl; refine blk_put (cs := #[.int .i64 ((rd_T34 l0 i).f0), .int .u8 ((rd_T34 l0 i).f1), .int .i64 0, .int .i64 0]) ?_ 2 _ rfl; refine blk_put (cs := #[.int .i64 ((rd_T34 l0 i).f0), .int .u8 0, .int .i64 0, .int .i64 0]) ?_ 1 _ rfl; refine blk_put (cs := #[.int .i64 0, .int .u8 0, .int .i64 0, .int .i64 0]) ?_ 0 _ rfl; exact BK.out) hb⟩; clear HC BK hb; have HC := n0_; have BK := n1_; clear n0_ n1_; have hy0 : w5.cell? ⟨g5, 0, none⟩ = some (.int .i64 ((rd_T34 l0 i).f0)) := (blk_cell BK.out 0).trans rfl; have hy1 : w5.cell? ⟨g5, 1, none⟩ = some (.int .u8 ((rd_T34 l0 i).f1)) := (blk_cell BK.out 1).trans rfl; have hy2 : w5.cell? ⟨g5, 2, none⟩ = some (.int .i64 ((rd_T34 l0 i).f2)) := (blk_cell BK.out 2).trans rfl; have hy3 : w5.cell? ⟨g5, 3, none⟩ = some (.int .i64 ((rd_T34 l0 i).f3)) := (blk_cell BK.out 3).trans rfl))
      go_ret
      exact ⟨rfl, (below_step HB.out HC.out)⟩
     | true =>
      replace H := (if_pos rfl).symm.trans H
      obtain ⟨u, A2, H⟩ := Option.bind_eq_some_iff.mp H
      have A2 := Aside0.mk A2
      by_cases c3 : u.size + 1 ≤ 9223372036854775807
      ·rw [if_pos c3] at H
       by_cases c4 : s.size + (u.size + 1) ≤ 140737488355328
       ·rw [if_pos c4] at H
        have H' := Aside0.mk H
        clear H
        have c3e := eq_true c3
        have c3f : (9223372036854775807 < u.size + 1) = False := eq_false (by omega)
        have HC4 := Aside0.mk c4
        clear c3 c4
        go_wp2_with (first | ((with_reducible refine gate_dst (N := 5) rfl ?_); refine box_event ?hg (N := 5) ?hd (cs := #[.int .i64 0, .int .u8 0, .int .i64 0, .int .i64 0]) (t := 34) ?hr ?_; (case hd => rfl); (case hg => rfl); (case hr => first | (go_simp; done) | (go_simp; rfl)); intro g5 hg w4 hbox hb; have HC := Aside0.mk hb; have BK := Aside0.mk hbox; have GE := Aside0.mk (show wr.heap.size ≤ g5 from by rw [hg]; exact Nat.le_refl _); have hz0 : w4.cell? ⟨g5, 0, none⟩ = some (.int .i64 0) := (blk_cell hbox 0).trans rfl; have hz1 : w4.cell? ⟨g5, 1, none⟩ = some (.int .u8 0) := (blk_cell hbox 1).trans rfl; have hz2 : w4.cell? ⟨g5, 2, none⟩ = some (.int .i64 0) := (blk_cell hbox 2).trans rfl; have hz3 : w4.cell? ⟨g5, 3, none⟩ = some (.int .i64 0) := (blk_cell hbox 3).trans rfl; have hf0 := blk_frozen hbox 0; have hf1 := blk_frozen hbox 1; have hf2 := blk_frozen hbox 2; have hf3 := blk_frozen hbox 3; replace hx0 := (hb.cell (World.block_lt_of_cell? wr _ hx0)).trans hx0; replace hx1 := (hb.cell (World.block_lt_of_cell? wr _ hx1)).trans hx1; replace hx2 := (hb.cell (World.block_lt_of_cell? wr _ hx2)).trans hx2; replace hx3 := (hb.cell (World.block_lt_of_cell? wr _ hx3)).trans hx3; clear hg hbox hb) | (go_at_call 21; refine (table_right.calls k1 _ _ _ _ _ _ A1.out).mono ?_; rintro e w5 ⟨rfl, hb⟩; have n0_ := Aside0.mk (below_step (below_set (below_set (below_set (below_set HC.out GE.out) GE.out) GE.out) GE.out) hb); have n1_ : Aside0 (w5.heap[g5]? = some (.cells #[.int .i64 ((rd_T34 l0 i).f0), .int .u8 ((rd_T34 l0 i).f1), .int .i64 ((rd_T34 l0 i).f2), .int .i64 ((rd_T34 l0 i).f3)] 34 (0, 0))) := ⟨blk_below (by refine blk_put (cs := #[.int .i64 ((rd_T34 l0 i).f0), .int .u8 ((rd_T34 l0 i).f1), .int .i64 ((rd_T34 l0 i).f2), .int .i64 0]) ?_ 3 _ rfl; refine blk_put (cs := #[.int .i64 ((rd_T34 l0 i).f0), .int .u8 ((rd_T34 l0 i).f1), .int .i64 0, .int .i64 0]) ?_ 2 _ rfl; refine blk_put (cs := #[.int .i64 ((rd_T34 l0 i).f0), .int .u8 0, .int .i64 0, .int .i64 0]) ?_ 1 _ rfl; refine blk_put (cs := #[.int .i64 0, .int .u8 0, .int .i64 0, .int .i64 0]) ?_ 0 _ rfl; exact BK.out) hb⟩; clear HC BK hb; have HC := n0_; have BK := n1_; clear n0_ n1_; have hy0 : w5.cell? ⟨g5, 0, none⟩ = some (.int .i64 ((rd_T34 l0 i).f0)) := (blk_cell BK.out 0).trans rfl; have hy1 : w5.cell? ⟨g5, 1, none⟩ = some (.int .u8 ((rd_T34 l0 i).f1)) := (blk_cell BK.out 1).trans rfl; have hy2 : w5.cell? ⟨g5, 2, none⟩ = some (.int .i64 ((rd_T34 l0 i).f2)) := (blk_cell BK.out 2).trans rfl; have hy3 : w5.cell? ⟨g5, 3, none⟩ = some (.int .i64 ((rd_T34 l0 i).f3)) := (blk_cell BK.out 3).trans rfl) | (go_at_call 23; refine (table_line.calls _ _ _ _ u _ (tab_at HT.out (below_step HB.out HC.out)) A2.out).mono ?_; rintro e w6 ⟨rfl, hb⟩; have n0_ := Aside0.mk (below_step HC.out hb); clear hb HC; have HC := n0_; clear n0_) | (go_at_call 22; refine (bldr_write w.heap.size gb (Lib.strCells s) (u ++ (⟨#[10]⟩ : ByteArray)) _ (bldr_below HBL.out HC.out) ?hlen (Nat.le_trans HB.out.size HC.out.size)).mono ?_; (case hlen => rw [Lib.strCells_length, ByteArray.size_append]; exact HC4.out); rintro e w7 ⟨rfl, hbl, hb⟩; have n0_ := Aside0.mk hbl; have n1_ := Aside0.mk (show Below w.heap.size w w7 from (below_step HB.out HC.out).trans hb); clear hbl hb HB HC HBL; have HBL := n0_; have HB := n1_; clear n0_ n1_))
        go_roundg k1
        case measure => have := HK.out; omega
        case rel => exact ⟨wrap64 (i + 1), s ++ (u ++ (⟨#[10]⟩ : ByteArray)), (by first | rfl | (simp; done) | (simp [*]; done)), H', ⟨by have := HK.out; omega⟩, ⟨by rw [strCells_append]; exact HBL.out⟩, HB⟩
       ·rw [if_neg c4] at H; cases H
      ·rw [if_neg c3] at H; cases H
    ·rw [if_neg c2] at H; cases H
   ·rw [if_neg c1] at H
    obtain rfl := Option.some.inj H
    have c1b : decide (i < (l0.length : Int)) = false := decide_eq_false c1
    clear c1
    go_wp2_with (go_at_call 24; refine (Tryd.Builder_String_any w.heap.size gb s.data.toList _ HBL.out HB.out.size).mono ?_; rintro e w8 ⟨rfl, hb⟩; have HC := Aside0.mk (show Below w.heap.size w w8 from HB.out.trans hb))
    go_ret
    exact ⟨rfl, HC.out⟩

/-! ### strings_Cut: function 27 -/
def strings_Cut.f (a0 a1 : ByteArray) : Option (ByteArray × ByteArray × Bool) := if a0.size < 4294967281 then some (⟨(Lib.cut a0.data.toList a1.data.toList).1.toArray⟩, ⟨(Lib.cut a0.data.toList a1.data.toList).2.1.toArray⟩, (Lib.cut a0.data.toList a1.data.toList).2.2) else none
theorem strings_Cut.calls (a0 a1 : ByteArray) (r1 r2 : ByteArray) (r3 : Bool) (w : World) (hT : TAB w) (h : strings_Cut.f a0 a1 = some (r1, r2, r3)) :
  Calls Tryd.prog 27 #[.string a0, .string a1] w fun e w' => e = .returned (.tuple #[.string r1, .string r2, .bool r3]) ∧ Below w.heap.size w w' := by
 unfold strings_Cut.f at h
 split at h
 case isFalse => cases h
 rename_i hs
 simp only [Option.some.injEq, Prod.mk.injEq] at h
 obtain ⟨rfl, rfl, rfl⟩ := h
 obtain ⟨m, hm⟩ := TAB_maxlen hT
 refine (Tryd.strings_Cut a0 a1 m w hs hm).mono ?_
 rintro e w' ⟨rfl, n, rfl⟩
 exact ⟨rfl, pw_below_drewN (Below.refl _ _) _⟩

/-! ### table_number: function 35 -/
def table_number.f (a0 : ByteArray) : Option Int := if a0.size ≤ 281474976710656 then some (match Lib.atoiAll a0.data.toList with | .ok v => v | _ => -1) else none
set_option maxHeartbeats 1000000 in
set_option maxRecDepth 100000 in
theorem table_number.calls (a0 : ByteArray) (r : Int) (w : World) (hT : TAB w) (h : table_number.f a0 = some r) :
  Calls Tryd.prog 35 #[.string a0] w fun e w' => e = .returned (.int .i64 r) ∧ Below w.heap.size w w' := by
 unfold table_number.f at h
 split at h
 case isFalse => cases h
 rename_i hs
 obtain rfl := Option.some.inj h
 obtain ⟨ev1, hv1, he1⟩ := TAB_syntax hT
 obtain ⟨ev2, hv2, he2⟩ := TAB_range hT
 clear h hT
 generalize hp : Lib.atoiAll a0.data.toList = p
 rcases p with v | _ | _
 ·have hc := Tryd.strconv_Atoi_ok a0 (by omega) v hp w
  go_enter Tryd.func35, Tryd.ntmps35
  go_wp2_with (go_at_call 42; refine hc.mono ?_; rintro e W1 ⟨rfl, hW⟩)
  go_wp2
  go_ret
  refine ⟨rfl, ?_⟩
  rcases hW with rfl | ⟨t, rfl⟩
  ·exact Below.refl _ _
  ·exact Lib.bytesWorld_below _ _ _
 ·have hc := Any.strconv_Atoi_syntax Tryd.laysC172 a0 hs hp ev1 w hv1 he1
  go_enter Tryd.func35, Tryd.ntmps35
  go_wp2_with (go_at_call 42; refine hc.mono ?_; rintro e W1 ⟨N0, rfl, hN, hc, hb⟩)
  go_wp2
  go_ret
  exact ⟨rfl, hb⟩
 ·have hc := Any.strconv_Atoi_range Tryd.laysC172 a0 hs hp ev2 w hv2 he2
  go_enter Tryd.func35, Tryd.ntmps35
  go_wp2_with (go_at_call 42; refine hc.mono ?_; rintro e W1 ⟨N0, rfl, hN, hc, hb⟩)
  go_wp2
  go_ret
  exact ⟨rfl, hb⟩

end Go.Proofs.YthajndlkibpncaaDoor.PAll
