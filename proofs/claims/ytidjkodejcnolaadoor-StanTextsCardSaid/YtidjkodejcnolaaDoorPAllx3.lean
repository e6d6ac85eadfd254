-- written by xprint.py out of the translation. Not trusted: Lean checks it.
import Derived.Test.YtidjkodejcnolaaDoorPAllx0
import Derived.Test.YtidjkodejcnolaaDoorPAllx2
namespace Go.Proofs.YtidjkodejcnolaaDoor.PAll
open Go.RowKit Go.Proofs.YtidjkodejcnolaaDoorW.PrintWords Go.Proofs.YtidjkodejcnolaaDoorW.PrintLast Go.Proofs.YtidjkodejcnolaaDoorW.PrintMore
attribute [local go_sem] max2_int min2_int max_two min_two max_three min_three max_four min_four   -- for this text's walks alone
set_option linter.unusedVariables false
set_option linter.unusedSimpArgs false

/-! ### stan_Compare: function 22 -/
def stan_Compare.f (k : Nat) (a0_0 : Int) (a0_1 : Int) (a1_0 : Int) (a1_1 : Int) : Option (Int) := (cmp_Compare_uint16.f a0_0 a1_0).bind fun t125 => ((cmp_Compare_uint32.f a0_1 a1_1).bind fun t126 => ((cmp_Or_int.f k (([t125, t126] : List Int))).bind fun t130 => (some t130)))
theorem stan_Compare.mono : ∀ a0 a1 a2 a3 k, LeO (stan_Compare.f k a0 a1 a2 a3) (stan_Compare.f (k + 1) a0 a1 a2 a3) := by
 intro a0 a1 a2 a3 k
 unfold stan_Compare.f
 repeat' first
   | (with_reducible exact cmp_Or_int.mono _ _)
   | (with_reducible exact LeO.refl _)
   | (with_reducible exact LeO.none _)
   | (with_reducible refine LeO.ite ?_ ?_)
   | (with_reducible refine LeO.bind ?_ (fun _ => ?_))
   | exact cmp_Or_int.mono _ _
   | exact LeO.none _
   | refine LeO.ite ?_ ?_
   | refine LeO.bind ?_ (fun _ => ?_)
def stan_Compare.T1 : Bool × List (List Nat × List Nat) := (true, [([], []), ([0], [0]), ([], []), ([2], [2]), ([1, 3], [1, 3]), ([], []), ([5], [5]), ([], []), ([7], [7]), ([6, 8, 4], [6, 8]), ([4, 9], [4, 9]), ([10, 9], [10]), ([11, 11, 0, 1, 2, 3, 4, 5, 6, 7, 8, 9, 10, 11], [11])])
def stan_Compare.B1 : List Nat := [0, 1, 0, 4, 15, 0, 32, 0, 128, 511, 1023, 2047, 4095]
theorem stan_Compare.tab1 : rtab .any (opsOf Tryd.f22 1) = stan_Compare.T1 := by kernel_rfl
theorem stan_Compare.bits1 : waitsOk stan_Compare.T1.2 stan_Compare.B1 = true := by kernel_rfl
set_option maxHeartbeats 8000000 in
set_option maxRecDepth 100000 in
theorem stan_Compare.calls (k : Nat) (a0_0 : Int) (a0_1 : Int) (a1_0 : Int) (a1_1 : Int) (r : Int) (w : World) (h : stan_Compare.f k a0_0 a0_1 a1_0 a1_1 = some r) :
  Calls Tryd.prog 22 #[.agg #[.int .u16 a0_0, .int .u32 a0_1], .agg #[.int .u16 a1_0, .int .u32 a1_1]] w fun e w' => e = .returned (.int .i64 r) ∧ Below w.heap.size w w' := by
 have hu25 := Tryd.underlying25
 have HB := Aside0.mk (Below.refl w.heap.size w)
 have H : ((cmp_Compare_uint16.f a0_0 a1_0).bind fun t125 => ((cmp_Compare_uint32.f a0_1 a1_1).bind fun t126 => ((cmp_Or_int.f k (([t125, t126] : List Int))).bind fun t130 => (some t130)))) = some r := h
 clear h
 replace H := Option.bind_eq_some_iff.mp H
 obtain ⟨t125, A30, H⟩ := H
 replace H : ((cmp_Compare_uint32.f a0_1 a1_1).bind fun t126 => ((cmp_Or_int.f k (([t125, t126] : List Int))).bind fun t130 => (some t130))) = some r := H
 have A3 := Aside0.mk A30
 clear A30
 replace H := Option.bind_eq_some_iff.mp H
 obtain ⟨t126, A40, H⟩ := H
 replace H : ((cmp_Or_int.f k (([t125, t126] : List Int))).bind fun t130 => (some t130)) = some r := H
 have A4 := Aside0.mk A40
 clear A40
 obtain ⟨y127, hy127⟩ : ∃ y_ : List Int, y_ = (([t125, t126] : List Int)) := ⟨_, rfl⟩
 replace H : ((cmp_Or_int.f k y127).bind fun t130 => (some t130)) = some r := by first | (rw [hy127]; with_reducible exact H) | (have H2_ := (Option.bind_some _ _).symm.trans H; rw [hy127]; with_reducible exact H2_) | (have H2_ := (Option.bind_some _ _).symm.trans H; with_reducible exact H2_) | with_reducible exact H | (rw [hy127]; exact H) | exact H
 have Ny127 := Aside0.mk hy127
 clear hy127
 replace H := Option.bind_eq_some_iff.mp H
 obtain ⟨t130, A50, H⟩ := H
 replace H : (some t130) = some r := H
 have A5 := Aside0.mk A50
 clear A50
 obtain rfl := Option.some.inj H
 go_enter Tryd.func22, Tryd.ntmps22
 try go_wp2_with (first | ((with_reducible refine gate_dst (N := 2) rfl ?_); refine box_event ?hg (N := 2) ?hd (cs := #[.int .u16 a0_0, .int .u32 a0_1]) (t := 25) ?hr ?_; (case hd => rfl); (case hg => rfl); (case hr => first | (go_simp; done) | (go_simp; rfl)); intro gb123 hg w6 hbox hb; have n0_ := Aside0.mk (below_step (by repeat (first | (with_reducible first | exact HB.out | apply below_alloc | apply pw_below_drewN | apply below_drew1) | exact HB.out)) hb); have n1_ := Aside0.mk (hbox); have n2_ := Aside0.mk ((by rw [hg]; exact (below_size (by repeat (first | (with_reducible first | exact HB.out | apply below_alloc | apply pw_below_drewN | apply below_drew1) | exact HB.out))) : w.heap.size ≤ gb123)); have n3_ := Aside0.mk ((by rw [hg]; exact (below_size (by repeat (first | (with_reducible first | exact HB.out | apply below_alloc | apply pw_below_drewN | apply below_drew1) | exact HB.out))) : w.heap.size ≤ gb123)); clear HB; have HB := n0_; have BK123 := n1_; have GW123 := n2_; have GE123 := n3_; clear n0_ n1_ n2_ n3_; clear hb hbox hg) | ((with_reducible refine gate_dst (N := 3) rfl ?_); refine box_event ?hg (N := 3) ?hd (cs := #[.int .u16 a1_0, .int .u32 a1_1]) (t := 25) ?hr ?_; (case hd => rfl); (case hg => rfl); (case hr => first | (go_simp; done) | (go_simp; rfl)); intro gb124 hg w7 hbox hb; have n0_ := Aside0.mk (blk_below (g := gb123) (o := .cells #[.int .u16 a0_0, .int .u32 a0_1] 25 (0, 0)) (by (with_reducible repeat (first | refine blk_drewN ?_ _ | refine blk_drew ?_ | refine blk_alloc ?_ _)); exact BK123.out) hb); have n1_ := Aside0.mk (below_step (by repeat (first | (with_reducible first | exact HB.out | apply below_alloc | apply pw_below_drewN | apply below_drew1 | refine below_set ?_ GE123.out) | exact HB.out)) hb); have n2_ := Aside0.mk (hbox); have n3_ := Aside0.mk ((by rw [hg]; exact (below_size (by repeat (first | (with_reducible first | exact HB.out | apply below_alloc | apply pw_below_drewN | apply below_drew1 | refine below_set ?_ GE123.out) | exact HB.out))) : w.heap.size ≤ gb124)); have n4_ := Aside0.mk ((by rw [hg]; exact (below_size (by repeat (first | (with_reducible first | exact HB.out | apply below_alloc | apply pw_below_drewN | apply below_drew1 | refine below_set ?_ GE123.out) | exact HB.out))) : w.heap.size ≤ gb124)); have n5_ := Aside0.mk ((by rw [hg]; exact Nat.ne_of_lt (blk_lt (g := gb123) (o := .cells #[.int .u16 a0_0, .int .u32 a0_1] 25 (0, 0)) (by (with_reducible repeat (first | refine blk_drewN ?_ _ | refine blk_drew ?_ | refine blk_alloc ?_ _)); exact BK123.out)) : gb123 ≠ gb124)); have n6_ := Aside0.mk ((by rw [hg]; exact Nat.ne_of_gt (blk_lt (g := gb123) (o := .cells #[.int .u16 a0_0, .int .u32 a0_1] 25 (0, 0)) (by (with_reducible repeat (first | refine blk_drewN ?_ _ | refine blk_drew ?_ | refine blk_alloc ?_ _)); exact BK123.out)) : gb124 ≠ gb123)); clear BK123; clear HB; have BK123 := n0_; have HB := n1_; have BK124 := n2_; have GW124 := n3_; have GE124 := n4_; have NB123_124 := n5_; have NB124_123 := n6_; clear n0_ n1_ n2_ n3_ n4_ n5_ n6_; clear hb hbox hg))
 have n0_ := Aside0.mk (blk_drew BK123.out)
 have n1_ := Aside0.mk (blk_drew BK124.out)
 have n2_ := Aside0.mk (below_drew1 HB.out)
 clear BK123
 clear BK124
 clear HB
 have BK123 := n0_
 have BK124 := n1_
 have HB := n2_
 clear n0_ n1_ n2_
 refine start_ (n := 13) (S := fun w' => w'.cell? ⟨gb123, 0, none⟩ = some (.int .u16 a0_0) ∧ w'.cell? ⟨gb123, 1, none⟩ = some (.int .u32 a0_1) ∧ w'.cell? ⟨gb124, 0, none⟩ = some (.int .u16 a1_0) ∧ w'.cell? ⟨gb124, 1, none⟩ = some (.int .u32 a1_1)) (ds := []) #[false, false, false, false, false, false, false, false, false, false, false, false, false] (by kernel_rfl) rfl rfl ⟨(blk_cell BK123.out 0).trans rfl, (blk_cell BK123.out 1).trans rfl, (blk_cell BK124.out 0).trans rfl, (blk_cell BK124.out 1).trans rfl⟩ (fun hHeld => ?_); refine with_tabW stan_Compare.tab1 stan_Compare.bits1 (fun HT_ HW_ => ?_)
 generalize w7.drew = w8 at BK123 BK124 HB hHeld ⊢
 refine pure_ (i := 0) (N := some 5) (v := ?_) (a' := ?_) #[true, false, false, false, false, false, false, false, false, false, false, false, false] rfl rfl (any_of HT_.out (by kernel_rfl)) (fun _ _ _ h => h) (Or.inl ⟨by rfl, ?_⟩) ?_ ?_
 rotate_left
 ·intro w'
  go_simp
  with_reducible rfl
 rotate_left
 ·simp only [Act.put, List.setIfInBounds_toArray, List.set_cons_zero, List.set_cons_succ, i64_w, i32_w]
  rfl
 refine pure_ (i := 2) (N := some 7) (v := ?_) (a' := ?_) #[true, false, true, false, false, false, false, false, false, false, false, false, false] rfl rfl (any_of HT_.out (by kernel_rfl)) (fun _ _ _ h => h) (Or.inl ⟨by rfl, ?_⟩) ?_ ?_
 rotate_left
 ·intro w'
  go_simp
  with_reducible rfl
 rotate_left
 ·simp only [Act.put, List.setIfInBounds_toArray, List.set_cons_zero, List.set_cons_succ, i64_w, i32_w]
  rfl
 refine pure_ (i := 5) (N := some 10) (v := ?_) (a' := ?_) #[true, false, true, false, false, true, false, false, false, false, false, false, false] rfl rfl (any_of HT_.out (by kernel_rfl)) (fun _ _ _ h => h) (Or.inl ⟨by rfl, ?_⟩) ?_ ?_
 rotate_left
 ·intro w'
  go_simp
  with_reducible rfl
 rotate_left
 ·simp only [Act.put, List.setIfInBounds_toArray, List.set_cons_zero, List.set_cons_succ, i64_w, i32_w]
  rfl
 refine pure_ (i := 7) (N := some 12) (v := ?_) (a' := ?_) #[true, false, true, false, false, true, false, true, false, false, false, false, false] rfl rfl (any_of HT_.out (by kernel_rfl)) (fun _ _ _ h => h) (Or.inl ⟨by rfl, ?_⟩) ?_ ?_
 rotate_left
 ·intro w'
  go_simp
  with_reducible rfl
 rotate_left
 ·simp only [Act.put, List.setIfInBounds_toArray, List.set_cons_zero, List.set_cons_succ, i64_w, i32_w]
  rfl
 refine take_ (i := 1) (N := some 6) (v := ?_) (a' := ?_) #[true, true, true, false, false, true, false, true, false, false, false, false, false] rfl rfl (take_ofW HT_.out HW_.out (by kernel_rfl)) (fun _ _ _ h => h) (Or.inl ⟨by rfl, ?_⟩) hHeld ?_ ?_
 rotate_left
 ·rintro w' ⟨s0, s1, s2, s3⟩
  go_simp
  with_reducible rfl
 rotate_left
 ·simp only [Act.put, List.setIfInBounds_toArray, List.set_cons_zero, List.set_cons_succ, i64_w, i32_w]
  rfl
 refine take_ (i := 3) (N := some 8) (v := ?_) (a' := ?_) #[true, true, true, true, false, true, false, true, false, false, false, false, false] rfl rfl (take_ofW HT_.out HW_.out (by kernel_rfl)) (fun _ _ _ h => h) (Or.inl ⟨by rfl, ?_⟩) hHeld ?_ ?_
 rotate_left
 ·rintro w' ⟨s0, s1, s2, s3⟩
  go_simp
  with_reducible rfl
 rotate_left
 ·simp only [Act.put, List.setIfInBounds_toArray, List.set_cons_zero, List.set_cons_succ, i64_w, i32_w]
  rfl
 refine take_ (i := 6) (N := some 11) (v := ?_) (a' := ?_) #[true, true, true, true, false, true, true, true, false, false, false, false, false] rfl rfl (take_ofW HT_.out HW_.out (by kernel_rfl)) (fun _ _ _ h => h) (Or.inl ⟨by rfl, ?_⟩) hHeld ?_ ?_
 rotate_left
 ·rintro w' ⟨s0, s1, s2, s3⟩
  go_simp
  with_reducible rfl
 rotate_left
 ·simp only [Act.put, List.setIfInBounds_toArray, List.set_cons_zero, List.set_cons_succ, i64_w, i32_w]
  rfl
 refine take_ (i := 8) (N := some 13) (v := ?_) (a' := ?_) #[true, true, true, true, false, true, true, true, true, false, false, false, false] rfl rfl (take_ofW HT_.out HW_.out (by kernel_rfl)) (fun _ _ _ h => h) (Or.inl ⟨by rfl, ?_⟩) hHeld ?_ ?_
 rotate_left
 ·rintro w' ⟨s0, s1, s2, s3⟩
  go_simp
  with_reducible rfl
 rotate_left
 ·simp only [Act.put, List.setIfInBounds_toArray, List.set_cons_zero, List.set_cons_succ, i64_w, i32_w]
  rfl
 refine one_ (i := 4) (N := some 9) #[true, true, true, true, true, true, true, true, true, false, false, false, false] rfl rfl (one_of HT_.out (by kernel_rfl)) (by decide) (fun K hK => ?_)
 refine goes_ Tryd.func29 (by kernel_rfl) rfl #[.int .u16 a0_0, .int .u16 a1_0] (by rfl) rfl rfl (by (try simp only [List.map_toArray, List.map_cons, List.map_nil]); first | done | rfl | (simp only [List.length_drop, List.length_take]; rfl)) ?_
 with_reducible refine (cmp_Compare_uint16.calls a0_0 a1_0 t125 _ A3.out).mono ?_
 rintro e w' ⟨rfl, ⟨nd, rfl⟩⟩
 refine ⟨_, rfl, ?_⟩
 refine hK.out _ _ ⟨(blk_cell BK123.out 0).trans rfl, (blk_cell BK123.out 1).trans rfl, (blk_cell BK124.out 0).trans rfl, (blk_cell BK124.out 1).trans rfl⟩ (fun hHeld => ?_)
 clear hK K
 refine norm_ (a' := ?_) ?_ ?_
 rotate_left
 ·show Act.put _ (some 9) _ = _
  simp only [Act.put, List.setIfInBounds_toArray, List.set_cons_zero, List.set_cons_succ, i64_w, i32_w]
  rfl
 refine one_ (i := 9) (N := some 14) #[true, true, true, true, true, true, true, true, true, true, false, false, false] rfl rfl (one_of HT_.out (by kernel_rfl)) (by decide) (fun K hK => ?_)
 refine goes_ Tryd.func30 (by kernel_rfl) rfl #[.int .u32 a0_1, .int .u32 a1_1] (by rfl) rfl rfl (by (try simp only [List.map_toArray, List.map_cons, List.map_nil]); first | done | rfl | (simp only [List.length_drop, List.length_take]; rfl)) ?_
 with_reducible refine (cmp_Compare_uint32.calls a0_1 a1_1 t126 _ A4.out).mono ?_
 rintro e w' ⟨rfl, ⟨nd, rfl⟩⟩
 refine ⟨_, rfl, ?_⟩
 refine hK.out _ _ ⟨(blk_cell BK123.out 0).trans rfl, (blk_cell BK123.out 1).trans rfl, (blk_cell BK124.out 0).trans rfl, (blk_cell BK124.out 1).trans rfl⟩ (fun hHeld => ?_)
 clear hK K
 refine norm_ (a' := ?_) ?_ ?_
 rotate_left
 ·show Act.put _ (some 14) _ = _
  simp only [Act.put, List.setIfInBounds_toArray, List.set_cons_zero, List.set_cons_succ, i64_w, i32_w]
  rfl
 refine one_ (i := 10) (N := some 15) #[true, true, true, true, true, true, true, true, true, true, true, false, false] rfl rfl (one_of HT_.out (by kernel_rfl)) (by decide) (fun K hK => ?_)
 refine Kd.R_lit_step (Kd.int .i64) _ 3 ?hg (N := 15) ?hd (xs := ([t125, t126] : List Int)) (inner := [.int .i64 t125, .int .i64 t126]) (ok := fun _ => True) (okp := fun _ => True) ?hr ?hp (fun _ hk => hk) trivial (Below.refl _ _) (Nat.le_refl _) (by simp) ?_; (case hd => rfl); (case hg => rfl); (case hr => first | (go_simp; done) | (go_simp; rfl)); (case hp => exact (Reps.one (show Kd.M (Kd.int .i64) _ _ _ t125 [.int .i64 t125] from rfl) (Reps.one (show Kd.M (Kd.int .i64) _ _ _ t126 [.int .i64 t126] from rfl) (Reps.none _ _))))
 intro v128 w9 ho10 hb hg_ hnew_
 clear hg_ hnew_
 (first | rw [← Ny127.out] at ho10 | (simp only [Int.reduceToNat] at ho10; rw [← Ny127.out] at ho10))
 have n0_ := Aside0.mk (Kd.R_lower ho10 (below_size (by repeat (first | (with_reducible first | exact HB.out | apply below_alloc | apply pw_below_drewN | apply below_drew1 | refine below_set ?_ GE123.out | refine below_set ?_ GE124.out) | exact HB.out))))
 have n1_ := Aside0.mk (blk_below (g := gb123) (o := .cells #[.int .u16 a0_0, .int .u32 a0_1] 25 (0, 0)) (by (with_reducible repeat (first | refine blk_drewN ?_ _ | refine blk_drew ?_ | refine blk_alloc ?_ _)); exact BK123.out) hb)
 have n2_ := Aside0.mk (blk_below (g := gb124) (o := .cells #[.int .u16 a1_0, .int .u32 a1_1] 25 (0, 0)) (by (with_reducible repeat (first | refine blk_drewN ?_ _ | refine blk_drew ?_ | refine blk_alloc ?_ _)); exact BK124.out) hb)
 have n3_ := Aside0.mk (below_step (by repeat (first | (with_reducible first | exact HB.out | apply below_alloc | apply pw_below_drewN | apply below_drew1 | refine below_set ?_ GE123.out | refine below_set ?_ GE124.out) | exact HB.out)) hb)
 clear BK123
 clear BK124
 clear HB
 have HO129 := n0_
 have BK123 := n1_
 have BK124 := n2_
 have HB := n3_
 clear n0_ n1_ n2_ n3_
 clear hb ho10
 obtain ⟨Ao11, co11, eo11⟩ := Kd.R_slice HO129.out
 (first | subst eo11 | (injection eo11 with f1_ f2_ f3_; have f4_ := f1_.symm; have f5_ := f3_.symm; clear f1_ f2_ f3_; subst f4_; subst f5_))
 refine hK.out _ _ ⟨(blk_cell BK123.out 0).trans rfl, (blk_cell BK123.out 1).trans rfl, (blk_cell BK124.out 0).trans rfl, (blk_cell BK124.out 1).trans rfl⟩ (fun hHeld => ?_)
 clear hK K
 refine norm_ (a' := ?_) ?_ ?_
 rotate_left
 ·show Act.put _ (some 15) _ = _
  simp only [Act.put, List.setIfInBounds_toArray, List.set_cons_zero, List.set_cons_succ, i64_w, i32_w]
  rfl
 refine one_ (i := 11) (N := some 16) #[true, true, true, true, true, true, true, true, true, true, true, true, false] rfl rfl (one_of HT_.out (by kernel_rfl)) (by decide) (fun K hK => ?_)
 refine goes_ Tryd.func28 (by kernel_rfl) rfl #[.slice Ao11 y127.length co11] (by rfl) rfl rfl (by (try simp only [List.map_toArray, List.map_cons, List.map_nil]); first | done | rfl | (simp only [List.length_drop, List.length_take]; rfl)) ?_
 with_reducible refine (cmp_Or_int.calls k _ _ y127 t130 _ ?side1 ?side2 A5.out).mono ?_
 (case side1 => repeat (first | exact (Kd.R_reads' HO129.out).2.2 | (with_reducible refine Kd.C_alloc ?_ _) | (with_reducible refine Kd.C_drewN ?_ _) | (with_reducible refine Kd.C_drew ?_)))
 (case side2 => exact (Kd.R_reads' HO129.out).2.1)
 rintro e w' ⟨rfl, ⟨nd, rfl⟩⟩
 refine ⟨_, rfl, ?_⟩
 refine hK.out _ _ ⟨(blk_cell BK123.out 0).trans rfl, (blk_cell BK123.out 1).trans rfl, (blk_cell BK124.out 0).trans rfl, (blk_cell BK124.out 1).trans rfl⟩ (fun hHeld => ?_)
 clear hK K
 refine norm_ (a' := ?_) ?_ ?_
 rotate_left
 ·show Act.put _ (some 16) _ = _
  simp only [Act.put, List.setIfInBounds_toArray, List.set_cons_zero, List.set_cons_succ, i64_w, i32_w]
  rfl
 refine pure_ (i := 12) (N := some 4) (v := ?_) (a' := ?_) #[true, true, true, true, true, true, true, true, true, true, true, true, true] rfl rfl (any_of HT_.out (by kernel_rfl)) (fun _ _ _ h => h) (Or.inl ⟨by rfl, ?_⟩) ?_ ?_
 rotate_left
 ·intro w'
  go_simp
  with_reducible rfl
 rotate_left
 ·simp only [Act.put, List.setIfInBounds_toArray, List.set_cons_zero, List.set_cons_succ, i64_w, i32_w]
  rfl
 refine done_ (done_of HT_.out (by kernel_rfl)) ?_
 try go_wp2
 go_ret
 exact ⟨by first | rfl | (simp [errW_none, errW_some] <;> rfl) | (simp [*, errW_none, errW_some] <;> rfl), by repeat (first | (with_reducible first | exact HB.out | apply below_alloc | apply pw_below_drewN | apply below_drew1 | refine below_set ?_ GE123.out | refine below_set ?_ GE124.out) | exact HB.out)⟩

/-! ### stan_Less: function 11 -/
def stan_Less.f (k : Nat) (a0_0 : Int) (a0_1 : Int) (a1_0 : Int) (a1_1 : Int) : Option (Bool) := (stan_Compare.f k a0_0 a0_1 a1_0 a1_1).bind fun t133 => (some (decide (t133 < 0)))
theorem stan_Less.mono : ∀ a0 a1 a2 a3 k, LeO (stan_Less.f k a0 a1 a2 a3) (stan_Less.f (k + 1) a0 a1 a2 a3) := by
 intro a0 a1 a2 a3 k
 unfold stan_Less.f
 repeat' first
   | (with_reducible exact stan_Compare.mono _ _ _ _ _)
   | (with_reducible exact LeO.refl _)
   | (with_reducible exact LeO.none _)
   | (with_reducible refine LeO.ite ?_ ?_)
   | (with_reducible refine LeO.bind ?_ (fun _ => ?_))
   | exact stan_Compare.mono _ _ _ _ _
   | exact LeO.none _
   | refine LeO.ite ?_ ?_
   | refine LeO.bind ?_ (fun _ => ?_)
set_option maxHeartbeats 8000000 in
set_option maxRecDepth 100000 in
theorem stan_Less.calls (k : Nat) (a0_0 : Int) (a0_1 : Int) (a1_0 : Int) (a1_1 : Int) (r : Bool) (w : World) (h : stan_Less.f k a0_0 a0_1 a1_0 a1_1 = some r) :
  Calls Tryd.prog 11 #[.agg #[.int .u16 a0_0, .int .u32 a0_1], .agg #[.int .u16 a1_0, .int .u32 a1_1]] w fun e w' => e = .returned (.bool r) ∧ Below w.heap.size w w' := by
 have hu25 := Tryd.underlying25
 have HB := Aside0.mk (Below.refl w.heap.size w)
 have H : ((stan_Compare.f k a0_0 a0_1 a1_0 a1_1).bind fun t133 => (some (decide (t133 < 0)))) = some r := h
 clear h
 replace H := Option.bind_eq_some_iff.mp H
 obtain ⟨t133, A30, H⟩ := H
 replace H : (some (decide (t133 < 0))) = some r := H
 have A3 := Aside0.mk A30
 clear A30
 obtain rfl := Option.some.inj H
 go_enter Tryd.func11, Tryd.ntmps11
 go_wp2_with (first | ((with_reducible refine gate_dst (N := 2) rfl ?_); refine box_event ?hg (N := 2) ?hd (cs := #[.int .u16 a0_0, .int .u32 a0_1]) (t := 25) ?hr ?_; (case hd => rfl); (case hg => rfl); (case hr => first | (go_simp; done) | (go_simp; rfl)); intro gb131 hg w4 hbox hb; have n0_ := Aside0.mk (below_step (by repeat (first | (with_reducible first | exact HB.out | apply below_alloc | apply pw_below_drewN | apply below_drew1) | exact HB.out)) hb); have n1_ := Aside0.mk (hbox); have n2_ := Aside0.mk ((by rw [hg]; exact (below_size (by repeat (first | (with_reducible first | exact HB.out | apply below_alloc | apply pw_below_drewN | apply below_drew1) | exact HB.out))) : w.heap.size ≤ gb131)); have n3_ := Aside0.mk ((by rw [hg]; exact (below_size (by repeat (first | (with_reducible first | exact HB.out | apply below_alloc | apply pw_below_drewN | apply below_drew1) | exact HB.out))) : w.heap.size ≤ gb131)); clear HB; have HB := n0_; have BK131 := n1_; have GW131 := n2_; have GE131 := n3_; clear n0_ n1_ n2_ n3_; clear hb hbox hg) | ((with_reducible refine gate_dst (N := 3) rfl ?_); refine box_event ?hg (N := 3) ?hd (cs := #[.int .u16 a1_0, .int .u32 a1_1]) (t := 25) ?hr ?_; (case hd => rfl); (case hg => rfl); (case hr => first | (go_simp; done) | (go_simp; rfl)); intro gb132 hg w5 hbox hb; have n0_ := Aside0.mk (blk_below (g := gb131) (o := .cells #[.int .u16 a0_0, .int .u32 a0_1] 25 (0, 0)) (by (with_reducible repeat (first | refine blk_drewN ?_ _ | refine blk_drew ?_ | refine blk_alloc ?_ _)); exact BK131.out) hb); have n1_ := Aside0.mk (below_step (by repeat (first | (with_reducible first | exact HB.out | apply below_alloc | apply pw_below_drewN | apply below_drew1 | refine below_set ?_ GE131.out) | exact HB.out)) hb); have n2_ := Aside0.mk (hbox); have n3_ := Aside0.mk ((by rw [hg]; exact (below_size (by repeat (first | (with_reducible first | exact HB.out | apply below_alloc | apply pw_below_drewN | apply below_drew1 | refine below_set ?_ GE131.out) | exact HB.out))) : w.heap.size ≤ gb132)); have n4_ := Aside0.mk ((by rw [hg]; exact (below_size (by repeat (first | (with_reducible first | exact HB.out | apply below_alloc | apply pw_below_drewN | apply below_drew1 | refine below_set ?_ GE131.out) | exact HB.out))) : w.heap.size ≤ gb132)); have n5_ := Aside0.mk ((by rw [hg]; exact Nat.ne_of_lt (blk_lt (g := gb131) (o := .cells #[.int .u16 a0_0, .int .u32 a0_1] 25 (0, 0)) (by (with_reducible repeat (first | refine blk_drewN ?_ _ | refine blk_drew ?_ | refine blk_alloc ?_ _)); exact BK131.out)) : gb131 ≠ gb132)); have n6_ := Aside0.mk ((by rw [hg]; exact Nat.ne_of_gt (blk_lt (g := gb131) (o := .cells #[.int .u16 a0_0, .int .u32 a0_1] 25 (0, 0)) (by (with_reducible repeat (first | refine blk_drewN ?_ _ | refine blk_drew ?_ | refine blk_alloc ?_ _)); exact BK131.out)) : gb132 ≠ gb131)); clear BK131; clear HB; have BK131 := n0_; have HB := n1_; have BK132 := n2_; have GW132 := n3_; have GE132 := n4_; have NB131_132 := n5_; have NB132_131 := n6_; clear n0_ n1_ n2_ n3_ n4_ n5_ n6_; clear hb hbox hg; have hnb6 := NB131_132.out; have hnc6 := NB132_131.out; have hcz7_0 : w5.cell? ⟨gb131, 0, none⟩ = some (.int .u16 a0_0) := (blk_cell BK131.out 0).trans rfl; have hcz7_1 : w5.cell? ⟨gb131, 1, none⟩ = some (.int .u32 a0_1) := (blk_cell BK131.out 1).trans rfl; have hfz7_0 := blk_frozen BK131.out 0; have hfz7_1 := blk_frozen BK131.out 1; have hcz8_0 : w5.cell? ⟨gb132, 0, none⟩ = some (.int .u16 a1_0) := (blk_cell BK132.out 0).trans rfl; have hcz8_1 : w5.cell? ⟨gb132, 1, none⟩ = some (.int .u32 a1_1) := (blk_cell BK132.out 1).trans rfl; have hfz8_0 := blk_frozen BK132.out 0; have hfz8_1 := blk_frozen BK132.out 1) | ((with_reducible refine gate_callee (f := 22) rfl ?_); refine goesL_ (some 7) rfl rfl Tryd.func22 (by kernel_rfl) rfl #[.agg #[.int .u16 a0_0, .int .u32 a0_1], .agg #[.int .u16 a1_0, .int .u32 a1_1]] rfl (by (try simp only [List.map_toArray, List.map_cons, List.map_nil]); first | done | rfl | (simp only [List.length_drop, List.length_take]; rfl) | (rw [hsame_])) ?_; (with_reducible refine (stan_Compare.calls k a0_0 a0_1 a1_0 a1_1 t133 _ A3.out).mono ?_); rintro e w9 ⟨rfl, hb⟩; refine ⟨_, rfl, ?_⟩; have n0_ := Aside0.mk (blk_below (g := gb131) (o := .cells #[.int .u16 a0_0, .int .u32 a0_1] 25 (0, 0)) (by (with_reducible repeat (first | refine blk_drewN ?_ _ | refine blk_drew ?_ | refine blk_alloc ?_ _)); exact BK131.out) hb); have n1_ := Aside0.mk (blk_below (g := gb132) (o := .cells #[.int .u16 a1_0, .int .u32 a1_1] 25 (0, 0)) (by (with_reducible repeat (first | refine blk_drewN ?_ _ | refine blk_drew ?_ | refine blk_alloc ?_ _)); exact BK132.out) hb); have n2_ := Aside0.mk (below_step (by repeat (first | (with_reducible first | exact HB.out | apply below_alloc | apply pw_below_drewN | apply below_drew1 | refine below_set ?_ GE131.out | refine below_set ?_ GE132.out) | exact HB.out)) hb); clear BK131; clear BK132; clear HB; have BK131 := n0_; have BK132 := n1_; have HB := n2_; clear n0_ n1_ n2_; (try clear hb); (try clear hb2); (try clear hk); (try clear hi)))
 go_ret
 exact ⟨by first | rfl | (simp [errW_none, errW_some] <;> rfl) | (simp [*, errW_none, errW_some] <;> rfl), by repeat (first | (with_reducible first | exact HB.out | apply below_alloc | apply pw_below_drewN | apply below_drew1 | refine below_set ?_ GE131.out | refine below_set ?_ GE132.out) | exact HB.out)⟩

/-! ### guichetlaw10_known: function 6 -/
/-! #### package stan's book: a map behind a pointer -/
section
open Go.Maps
theorem law22 : Keyed Tryd.prog 22 := int_keyed Tryd.underlying22
theorem zero23 (w : World) : (zeroValue 23).run Tryd.prog w = .ok (.int .u32 0) w := by kernel_rfl
def updM (M : Int → Int) (k v : Int) : Int → Int := fun k' => if k' = k then v else M k'
/-- Block m of W is a map of at most n entries that holds M k at each key k. -/
def MapN (W : World) (m n : Nat) (M : Int → Int) : Prop := ∃ D : DataW Unit, W.ownsMap Tryd.prog 22 (plainElem Tryd.prog 23) m n D ∧ Maps.IsMap D ∧ ∀ k, (Lit.int .u16 k).wf = true → D.atKey (.int .u16 k) (.lit (.int .u32 0)) = .lit (.int .u32 (M k))
theorem MapN.kept {W W' : World} {m n : Nat} {M : Int → Int} (h : MapN W m n M) (he : W'.heap[m]? = W.heap[m]?) : MapN W' m n M := by
 obtain ⟨D, ⟨es, c, hb, r⟩, r2⟩ := h
 exact ⟨D, ⟨es, c, he.trans hb, r⟩, r2⟩
theorem MapN.lt {W : World} {m n : Nat} {M : Int → Int} (h : MapN W m n M) : m < W.heap.size := by
 obtain ⟨D, h, _⟩ := h
 exact h.lt
theorem MapN.look {W : World} {m n : Nat} {M : Int → Int} (h : MapN W m n M) {k : Int} (hk : (Lit.int .u16 k).wf = true) : (Instr.lookup 39 (.map (some m)) (.int .u16 k) false).run Tryd.prog W = .ok (.int .u32 (M k)) W ∧ (Lit.int .u32 (M k)).wf = true := by
 obtain ⟨D, h, _, hM⟩ := h
 obtain ⟨c, hrun, hat, hw⟩ := h.lookup_int law22 Tryd.underlying39 Tryd.underlying23 (zero23 _) (keyOf_int_mk Tryd.underlying22 hk)
 have e := (hM k hk).symm.trans hat
 injection e with e
 injection e with _ e
 subst e
 exact ⟨hrun, hw⟩
theorem MapN.upd {W : World} {m n : Nat} {M : Int → Int} (h : MapN W m n M) (hn : n < maxLen) {k v : Int} (hk : (Lit.int .u16 k).wf = true) (hv : (Lit.int .u32 v).wf = true) : ∃ w', (Instr.mapUpdate 39 (.map (some m)) (.int .u16 k) (.int .u32 v)).run Tryd.prog W = .ok () w' ∧ MapN w' m (n + 1) (updM M k v) ∧ W.grownBy w' (some m) := by
 obtain ⟨D, h, hD, hM⟩ := h
 obtain ⟨w', hrun, h', hg⟩ := h.update law22 Tryd.underlying39 hn (keyOf_int_mk Tryd.underlying22 hk) (plainElem_int Tryd.underlying23 hv)
 refine ⟨w', hrun, ⟨_, h', hD.put _ _, fun k' hk' => ?_⟩, hg⟩
 unfold updM
 by_cases he : k' = k
 ·subst he
  rw [if_pos rfl, Maps.atKey_put_same hD (show WideAt.IsKeyLit (.int .u16 k') from trivial)]
 ·rw [if_neg he, Maps.atKey_put_other (by intro e; injection e with _ e; exact he e), hM k' hk']
theorem MapN.made (W : World) : MapN (W.alloc (.map #[] 0)) W.heap.size 0 (fun _ => 0) := ⟨_, World.ownsMap_made W Tryd.prog 22 _, Maps.isMap_empty, fun _ _ => rfl⟩
/-- A book at block g, its map at block m. -/
def IsBook (W : World) (g m n : Nat) (M : Int → Int) : Prop := W.heap[g]? = some (.cells #[.map (some m)] 52 (0, 0)) ∧ g ≠ m ∧ MapN W m n M
theorem IsBook.kept {W W' : World} {g m n : Nat} {M : Int → Int} (h : IsBook W g m n M) (h1 : W'.heap[g]? = W.heap[g]?) (h2 : W'.heap[m]? = W.heap[m]?) : IsBook W' g m n M := ⟨h1.trans h.1, h.2.1, h.2.2.kept h2⟩
theorem IsBook.below {W W' : World} {g m n : Nat} {M : Int → Int} (h : IsBook W g m n M) (hb : Below W.heap.size W W') : IsBook W' g m n M := h.kept (hb.block g (blk_lt h.1)) (hb.block m h.2.2.lt)
theorem stan_New.calls (w : World) : Calls Tryd.prog 14 #[] w fun e w' => ∃ g m : Nat, e = .returned (.pointer (some ⟨g, 0, none⟩)) ∧ IsBook w' g m 0 (fun _ => 0) ∧ w.heap.size ≤ g ∧ w.heap.size ≤ m ∧ Below w.heap.size w w' := by
 have hmk := fun (W : World) => run_makeMap (P := Tryd.prog) 39 W
 go_enter Tryd.func14, Tryd.ntmps14
 go_wp2
 go_ret
 have hM := MapN.made w
 have hb1 := below_alloc (Below.refl w.heap.size w) (.map #[] 0)
 have hb2 := below_alloc hb1 (.cells #[.map (some w.heap.size)] 52 (0, 0))
 have hsz : (w.alloc (.map #[] 0)).heap.size = w.heap.size + 1 := by
  show (w.heap.push _).size = _
  simp
 have h1 := heap_alloc_new (w.alloc (.map #[] 0)) (.cells #[.map (some w.heap.size)] 52)
 rw [hsz] at h1
 refine ⟨w.heap.size + 1, w.heap.size, rfl, ⟨h1, by omega, hM.kept ?_⟩, by omega, Nat.le_refl _, hb2⟩
 exact (below_alloc (Below.refl _ (w.alloc (.map #[] 0))) _).block w.heap.size (by rw [hsz]; omega)
/-- The next number. -/
def nxt (v : Int) : Int := v % 999999 + 1
theorem nxt_wf {v : Int} (h : (Lit.int .u32 v).wf = true) : (Lit.int .u32 (nxt v)).wf = true := by
 simp [Lit.wf, IntKind.min, IntKind.max, IntKind.bits, IntKind.signed] at h ⊢
 unfold nxt
 omega
theorem nxt_walk {v : Int} (h : (Lit.int .u32 v).wf = true) : IntKind.u32.wrap (Int.tmod v 999999 + 1) = nxt v := by
 simp [Lit.wf, IntKind.min, IntKind.max, IntKind.bits, IntKind.signed] at h
 rw [Int.tmod_eq_emod_of_nonneg h.1, IntKind.wrap_u32]
 unfold nxt
 omega
theorem IsBook.turned {W W' : World} {g m n n' : Nat} {M M' : Int → Int} (h : IsBook W g m n M) (hg : W.grownBy W' (some m)) (h2 : MapN W' m n' M') : IsBook W' g m n' M' := ⟨(hg.block g (blk_lt h.1) (fun e => h.2.1 (Option.some.inj e))).trans h.1, h.2.1, h2⟩
theorem set2_heap (W : World) (gb : Nat) (u v : Value) (k : Nat) (h : k < gb) : ((W.setCell ⟨gb, 0, none⟩ u).setCell ⟨gb, 1, none⟩ v).heap[k]? = W.heap[k]? := (Below.heap_setCell _ ⟨gb, 1, none⟩ v k (by show k ≠ gb; omega)).trans (Below.heap_setCell _ ⟨gb, 0, none⟩ u k (by show k ≠ gb; omega))
theorem set2_size (W : World) (gb : Nat) (u v : Value) {n : Nat} (h : n ≤ W.heap.size) : n ≤ ((W.setCell ⟨gb, 0, none⟩ u).setCell ⟨gb, 1, none⟩ v).heap.size := by simpa [World.setCell] using h
set_option maxHeartbeats 8000000 in
set_option maxRecDepth 100000 in
theorem stan_Next.calls (g m n : Nat) (M : Int → Int) (t : Int) (w : World) (h : IsBook w g m n M) (hn : n < maxLen) (ht : (Lit.int .u16 t).wf = true) : Calls Tryd.prog 16 #[.pointer (some ⟨g, 0, none⟩), .int .u16 t] w fun e w' => e = .returned (.agg #[.int .u16 t, .int .u32 (nxt (M t))]) ∧ IsBook w' g m (n + 1) (updM M t (nxt (M t))) ∧ w.grownBy w' (some m) := by
 have hu52 := Tryd.underlying52
 have hu25 := Tryd.underlying25
 have hwf := (h.2.2.look ht).2
 have hnw := nxt_walk hwf
 go_enter Tryd.func16, Tryd.ntmps16
 go_wp2_with (first | ((with_reducible refine gate_dst (N := 4) rfl ?_); refine box_event ?hg (N := 4) ?hd (cs := #[.int .u16 0, .int .u32 0]) (t := 25) ?hr ?_; (case hd => rfl); (case hg => rfl); (case hr => first | (go_simp; done) | (go_simp; rfl)); intro gb hgb w1 hbox hb; have hgl : g < gb := (by rw [hgb]; exact blk_lt h.1); have hml : m < gb := (by rw [hgb]; exact h.2.2.lt); have hkl := Aside0.mk (show ∀ k, k < w.heap.size → k < gb from by rw [hgb]; exact fun k hk => hk); clear hgb; have h1 := h.below hb; have hc : w1.cell? ⟨g, 0, none⟩ = some (.map (some m)) := (blk_cell h1.1 0).trans rfl; obtain ⟨hrun, hwm⟩ := MapN.look (W := w1.drew) h1.2.2 ht; obtain ⟨w2, hupd, hm2, hgr⟩ := MapN.upd (W := w1.drew) h1.2.2 hn ht (nxt_wf hwf); have hgr1 : w1.grownBy w2 (some m) := ⟨hgr.os, hgr.tape, hgr.output, hgr.size, hgr.block⟩; have h2 := h1.turned hgr1 hm2; have hbox2 : w2.heap[gb]? = some (.cells #[.int .u16 0, .int .u32 0] 25 (0, 0)) := (hgr1.block gb (blk_lt hbox) (fun e => by injection e with e; exact absurd e (Nat.ne_of_gt hml))).trans hbox; have hc2 : w2.cell? ⟨g, 0, none⟩ = some (.map (some m)) := (blk_cell h2.1 0).trans rfl; have hb20 : w2.cell? ⟨gb, 0, none⟩ = some (.int .u16 0) := (blk_cell hbox2 0).trans rfl; have hb21 : w2.cell? ⟨gb, 1, none⟩ = some (.int .u32 0) := (blk_cell hbox2 1).trans rfl; have hf0 := blk_frozen hbox2 0; have hf1 := blk_frozen hbox2 1; have hrun2 := (hm2.look ht).1; rw [show updM M t (nxt (M t)) t = nxt (M t) from if_pos rfl] at hrun2))
 go_region_with (fail)
 all_goals go_wp2
 all_goals refine bodyPost_ret (results_cell_row rfl _ _ gb 25 #[.int .u16 t, .int .u32 (nxt (M t))] (0, 0) _ rfl (by refine blk_put (cs := #[.int .u16 t, .int .u32 0]) ?_ 1 _ rfl; refine blk_put (cs := #[.int .u16 0, .int .u32 0]) ?_ 0 _ rfl; exact hbox2) Tryd.underlying25 rfl (by kernel_rfl)) rfl ?_
 all_goals exact ⟨rfl, h2.kept (set2_heap w2 gb _ _ g hgl) (set2_heap w2 gb _ _ m hml), ⟨(hgr1.os.trans hb.os), (hgr1.tape.trans hb.tape), (hgr1.output.trans hb.output), set2_size w2 gb _ _ (Nat.le_trans hb.size hgr1.size), fun k hk hne => (set2_heap w2 gb _ _ k (hkl.out k hk)).trans ((hgr1.block k (Nat.lt_of_lt_of_le hk hb.size) hne).trans (hb.block k hk))⟩⟩
theorem stan_Last.calls (g m n : Nat) (M : Int → Int) (t : Int) (w : World) (h : IsBook w g m n M) (ht : (Lit.int .u16 t).wf = true) : Calls Tryd.prog 17 #[.pointer (some ⟨g, 0, none⟩), .int .u16 t] w fun e w' => e = .returned (.int .u32 (M t)) ∧ w' = w := by
 have hu := Tryd.underlying52
 have hc : w.cell? ⟨g, 0, none⟩ = some (.map (some m)) := (blk_cell h.1 0).trans rfl
 obtain ⟨hrun, _⟩ := h.2.2.look ht
 go_enter Tryd.func17, Tryd.ntmps17
 go_wp2
 go_ret
 exact ⟨rfl, rfl⟩
theorem stan_Next.at (v : Int) (g m n : Nat) (M : Int → Int) (t : Int) (w : World) (h : IsBook w g m n M) (hn : n < maxLen) (ht : (Lit.int .u16 t).wf = true) (hv : nxt (M t) = v) : Calls Tryd.prog 16 #[.pointer (some ⟨g, 0, none⟩), .int .u16 t] w fun e w' => e = .returned (.agg #[.int .u16 t, .int .u32 v]) ∧ IsBook w' g m (n + 1) (updM M t v) ∧ w.grownBy w' (some m) := by
 subst hv
 exact stan_Next.calls g m n M t w h hn ht
theorem stan_Last.at (v : Int) (g m n : Nat) (M : Int → Int) (t : Int) (w : World) (h : IsBook w g m n M) (ht : (Lit.int .u16 t).wf = true) (hv : M t = v) : Calls Tryd.prog 17 #[.pointer (some ⟨g, 0, none⟩), .int .u16 t] w fun e w' => e = .returned (.int .u32 v) ∧ w' = w := by
 subst hv
 exact stan_Last.calls g m n M t w h ht
theorem eqK25 (d : Nat) (w : World) (x0 y0 : Int) (x1 y1 : Int) :
  (Op.equalIn (d + 2) 25 (.agg #[.int .u16 x0, .int .u32 x1]) (.agg #[.int .u16 y0, .int .u32 y1])).run Tryd.prog w = .ok (x0 == y0 && (x1 == y1)) w := by
 refine eqA_of Tryd.underlying25 (by kernel_rfl) ?_
 refine eqf_cons (by rfl) (by go_simp; rfl) (by go_simp; rfl) (by go_simp) ?_
 exact eqf_last (by rfl) (by go_simp; rfl) (by go_simp; rfl) (by go_simp)
end
/-- The example: what it asks of the texts. -/
def guichetlaw10_known.f (k : Nat) : Option Bool := (stan_Parse.f k (⟨#[45, 48, 48, 48, 48, 51, 45, 48, 48, 48, 48, 48, 50]⟩ : ByteArray)).bind fun p => (stan_Text.f 3 2).bind fun t => (stan_Less.f k 3 2 4 0).bind fun b => if p.1 = 3 ∧ p.2.1 = 2 ∧ p.2.2 = true ∧ t = (⟨#[45, 48, 48, 48, 48, 51, 45, 48, 48, 48, 48, 48, 50]⟩ : ByteArray) ∧ b = true then some true else none
theorem guichetlaw10_known.mono : ∀ k, LeO (guichetlaw10_known.f k) (guichetlaw10_known.f (k + 1)) := by
 intro k
 unfold guichetlaw10_known.f
 repeat' first
  | (with_reducible exact LeO.refl _)
  | (with_reducible exact LeO.none _)
  | (with_reducible refine LeO.ite ?_ ?_)
  | (with_reducible refine LeO.bind ?_ (fun _ => ?_))
  | exact stan_Parse.mono _ _
  | exact stan_Less.mono _ _ _ _ _
  | exact LeO.refl _
theorem fldK25 (x y : Int) (W : World) : (Instr.field 25 (.agg #[.int .u16 x, .int .u32 y]) 1).run Tryd.prog W = .ok (.int .u32 y) W := by
 have h1 : Tryd.prog.cellsOf 22 = 1 := by kernel_rfl
 have h2 : Tryd.prog.cellsOf 23 = 1 := by kernel_rfl
 simp [Instr.field, go_sem, Tryd.underlying25, h1, h2]
 rfl
attribute [local go_sem high] eqK25
set_option maxHeartbeats 8000000 in
set_option maxRecDepth 100000 in
theorem guichetlaw10_known.calls (k : Nat) (r : Bool) (w : World) (hT : TAB w) (h : guichetlaw10_known.f k = some r) : Calls Tryd.prog 6 #[] w fun e w' => e = .returned (.bool r) ∧ Below w.heap.size w w' := by
 have HT := Aside0.mk hT
 clear hT
 have hu25 := Tryd.underlying25
 have hfld := fldK25
 unfold guichetlaw10_known.f at h
 obtain ⟨⟨p1, p2, p3⟩, hP, h2⟩ := Option.bind_eq_some_iff.mp h
 obtain ⟨t, hX, h3⟩ := Option.bind_eq_some_iff.mp h2
 obtain ⟨b, hL, h4⟩ := Option.bind_eq_some_iff.mp h3
 clear h h2 h3
 dsimp only at h4
 split at h4
 case isFalse => cases h4
 rename_i hc
 obtain ⟨rfl, rfl, rfl, rfl, rfl⟩ := hc
 obtain rfl := Option.some.inj h4
 have HP := Aside0.mk hP
 have HX := Aside0.mk hX
 have HL := Aside0.mk hL
 clear h4 hP hX hL
 have HB := Aside0.mk (Below.refl w.heap.size w)
 go_enter Tryd.func6, Tryd.ntmps6
 go_wp2_with (first
  | (go_at_call 14; refine (stan_New.calls _).mono ?_; rintro e w1 ⟨g, m, rfl, hbk, hg1, hm1, hb⟩; have HK := Aside0.mk hbk; have n1_ := Aside0.mk (below_step HB.out hb); have HM := Aside0.mk (show w.heap.size ≤ m from Nat.le_trans (below_size HB.out) hm1); clear HB hbk hb hg1 hm1; have HB := n1_; clear n1_)
  | (go_at_call 16; (first | refine (stan_Next.at 1 _ _ _ _ _ _ HK.out (by decide) (by decide) (by decide)).mono ?_ | refine (stan_Next.at 2 _ _ _ _ _ _ HK.out (by decide) (by decide) (by decide)).mono ?_); rintro e w2 ⟨rfl, hbk, hgr⟩; have n0_ := Aside0.mk hbk; have n1_ := Aside0.mk (HB.out.grown hgr (below_size HB.out) (fun k hk => by injection hk with hk; rw [← hk]; exact HM.out)); clear HK HB hbk hgr; have HK := n0_; have HB := n1_; clear n0_ n1_)
  | (go_at_call 17; (try (have q0_ := IsBook.kept HK.out (set2_heap w4 gb (.int .u16 3) (.int .u32 2) g hgl) (set2_heap w4 gb (.int .u16 3) (.int .u32 2) m hml); have q1_ : Below w.heap.size w ((w4.setCell ⟨gb, 0, none⟩ (.int .u16 3)).setCell ⟨gb, 1, none⟩ (.int .u32 2)) := below_set (below_set HB.out GE.out) GE.out; have q2_ : ((w4.setCell ⟨gb, 0, none⟩ (.int .u16 3)).setCell ⟨gb, 1, none⟩ (.int .u32 2)).heap[gb]? = some (.cells #[.int .u16 3, .int .u32 2] 25 (0, 0)) := blk_put (cs := #[.int .u16 3, .int .u32 0]) (blk_put (cs := #[.int .u16 0, .int .u32 0]) BK.out 0 _ rfl) 1 _ rfl; generalize (w4.setCell ⟨gb, 0, none⟩ (.int .u16 3)).setCell ⟨gb, 1, none⟩ (.int .u32 2) = w5 at q0_ q1_ q2_ ⊢; clear HK HB BK; have HK := Aside0.mk q0_; have HB := Aside0.mk q1_; have BK := Aside0.mk q2_; clear q0_ q1_ q2_)); (first | refine (stan_Last.at 2 _ _ _ _ _ _ HK.out (by decide) (by decide)).mono ?_ | refine (stan_Last.at 0 _ _ _ _ _ _ HK.out (by decide) (by decide)).mono ?_); rintro e w2 ⟨rfl, rfl⟩)
  | (go_at_call 8; refine (stan_Parse.calls k _ 3 2 true _ (tab_at HT.out HB.out) HP.out).mono ?_; rintro e w3 ⟨rfl, hb⟩; have n0_ := Aside0.mk (HK.out.below hb); have n1_ := Aside0.mk (below_step HB.out hb); clear HK HB hb; have HK := n0_; have HB := n1_; clear n0_ n1_)
  | (go_at_call 7; refine (stan_Text.calls 3 2 _ _ (tab_at HT.out HB.out) HX.out).mono ?_; rintro e w3 ⟨rfl, hb⟩; have n1_ := Aside0.mk (below_step HB.out hb); have n2_ := Aside0.mk (blk_below BK.out hb); clear HB BK hb; have HB := n1_; have BK := n2_; clear n1_ n2_; have hz0 : w3.cell? ⟨gb, 0, none⟩ = some (.int .u16 3) := (blk_cell BK.out 0).trans rfl; have hz1 : w3.cell? ⟨gb, 1, none⟩ = some (.int .u32 2) := (blk_cell BK.out 1).trans rfl)
  | (go_at_call 11; refine (stan_Less.calls k 3 2 4 0 true _ HL.out).mono ?_; rintro e w3 ⟨rfl, hb⟩; have n1_ := Aside0.mk (below_step HB.out hb); clear HB hb; have HB := n1_; clear n1_)
  | ((with_reducible refine gate_dst (N := 2) rfl ?_); refine box_event ?hg (N := 2) ?hd (cs := #[.int .u16 0, .int .u32 0]) (t := 25) ?hr ?_; (case hd => rfl); (case hg => rfl); (case hr => first | (go_simp; done) | (go_simp; rfl)); intro gb hgb w4 hbox hb; have n0_ := Aside0.mk (HK.out.below hb); have n1_ := Aside0.mk (below_step HB.out hb); have BK := Aside0.mk hbox; have GE := Aside0.mk (show w.heap.size ≤ gb from by rw [hgb]; exact below_size HB.out); have hgl : g < gb := (by rw [hgb]; exact blk_lt HK.out.1); have hml : m < gb := (by rw [hgb]; exact HK.out.2.2.lt); clear HK HB hb hbox hgb; have HK := n0_; have HB := n1_; clear n0_ n1_; have hz0 : w4.cell? ⟨gb, 0, none⟩ = some (.int .u16 0) := (blk_cell BK.out 0).trans rfl; have hz1 : w4.cell? ⟨gb, 1, none⟩ = some (.int .u32 0) := (blk_cell BK.out 1).trans rfl; have hf0 := blk_frozen BK.out 0; have hf1 := blk_frozen BK.out 1))
 go_ret
 exact ⟨rfl, by repeat (first | (with_reducible first | exact HB.out | apply below_alloc | apply pw_below_drewN | apply below_drew1 | refine below_set ?_ GE.out) | exact HB.out)⟩

/-! ### guichetref1_Digits: function 20 -/
mutual
def guichetref1_Digits.j0 : Nat → Int → Int → Bool → Option (ByteArray × Bool)
 | 0, _, _, _ => none
 | k + 1, x0, x1, x17 => if x17 = true then (some ((⟨#[]⟩ : ByteArray), false)) else (guichetref1_Digits.l0 k x0 x1 (⟨#[]⟩ : ByteArray) 0)
def guichetref1_Digits.l0 : Nat → Int → Int → ByteArray → Int → Option (ByteArray × Bool)
 | 0, _, _, _, _ => none
 | k + 1, x0, x1, x6, x7 => if x7 < x1 then (if 0 ≤ (Int.tmod x0 10) then (if (Int.tmod x0 10) ≤ (wrap64 ((Int.tmod x0 10) + 1)) then (if (wrap64 ((Int.tmod x0 10) + 1)) ≤ 10 then (if ((⟨#[48, 49, 50, 51, 52, 53, 54, 55, 56, 57]⟩ : ByteArray).extract ((Int.tmod x0 10) : Int).toNat ((wrap64 ((Int.tmod x0 10) + 1)) : Int).toNat).size + x6.size ≤ 9223372036854775807 then (guichetref1_Digits.l0 k (wrap64 (Int.tdiv x0 10)) x1 (((⟨#[48, 49, 50, 51, 52, 53, 54, 55, 56, 57]⟩ : ByteArray).extract ((Int.tmod x0 10) : Int).toNat ((wrap64 ((Int.tmod x0 10) + 1)) : Int).toNat) ++ x6) (wrap64 (x7 + 1))) else (none)) else (none)) else (none)) else (none)) else (if x0 > 0 then (some ((⟨#[]⟩ : ByteArray), false)) else (some (x6, true)))
end
def guichetref1_Digits.f (k : Nat) (a0 : Int) (a1 : Int) : Option (ByteArray × Bool) := if a1 < 1 then (guichetref1_Digits.j0 k a0 a1 true) else (if a1 > 18 then (guichetref1_Digits.j0 k a0 a1 true) else (guichetref1_Digits.j0 k a0 a1 (decide (a0 < 0))))
theorem guichetref1_Digits.mono_l : ∀ k, (∀ y0 y1 y2, LeO (guichetref1_Digits.j0 k y0 y1 y2) (guichetref1_Digits.j0 (k + 1) y0 y1 y2)) ∧ (∀ y0 y1 y2 y3, LeO (guichetref1_Digits.l0 k y0 y1 y2 y3) (guichetref1_Digits.l0 (k + 1) y0 y1 y2 y3))
 | 0 => ⟨fun _ _ _ r h => by simp [guichetref1_Digits.j0] at h, fun _ _ _ _ r h => by simp [guichetref1_Digits.l0] at h⟩
 | k + 1 => by
  obtain ⟨ih0, ih1⟩ := guichetref1_Digits.mono_l k
  refine ⟨?_, ?_⟩
  ·intro y0 y1 y2
   unfold guichetref1_Digits.j0
   repeat' first
   | (with_reducible exact ih0 _ _ _)
   | (with_reducible exact ih1 _ _ _ _)
   | (with_reducible exact LeO.refl _)
   | (with_reducible exact LeO.none _)
   | (with_reducible refine LeO.ite ?_ ?_)
   | (with_reducible refine LeO.bind ?_ (fun _ => ?_))
   | exact ih0 _ _ _
   | exact ih1 _ _ _ _
   | exact LeO.none _
   | refine LeO.ite ?_ ?_
   | refine LeO.bind ?_ (fun _ => ?_)
  ·intro y0 y1 y2 y3
   unfold guichetref1_Digits.l0
   repeat' first
   | (with_reducible exact ih0 _ _ _)
   | (with_reducible exact ih1 _ _ _ _)
   | (with_reducible exact LeO.refl _)
   | (with_reducible exact LeO.none _)
   | (with_reducible refine LeO.ite ?_ ?_)
   | (with_reducible refine LeO.bind ?_ (fun _ => ?_))
   | exact ih0 _ _ _
   | exact ih1 _ _ _ _
   | exact LeO.none _
   | refine LeO.ite ?_ ?_
   | refine LeO.bind ?_ (fun _ => ?_)
theorem guichetref1_Digits.mono : ∀ a0 a1 k, LeO (guichetref1_Digits.f k a0 a1) (guichetref1_Digits.f (k + 1) a0 a1) := by
 intro a0 a1 k
 obtain ⟨ih0, ih1⟩ := guichetref1_Digits.mono_l k
 unfold guichetref1_Digits.f
 repeat' first
   | (with_reducible exact ih0 _ _ _)
   | (with_reducible exact ih1 _ _ _ _)
   | (with_reducible exact LeO.refl _)
   | (with_reducible exact LeO.none _)
   | (with_reducible refine LeO.ite ?_ ?_)
   | (with_reducible refine LeO.bind ?_ (fun _ => ?_))
   | exact ih0 _ _ _
   | exact ih1 _ _ _ _
   | exact LeO.none _
   | refine LeO.ite ?_ ?_
   | refine LeO.bind ?_ (fun _ => ?_)
set_option maxHeartbeats 8000000 in
set_option maxRecDepth 100000 in
theorem guichetref1_Digits.calls (k : Nat) (a0 : Int) (a1 : Int) (r1 : ByteArray) (r2 : Bool) (w : World) (h : guichetref1_Digits.f k a0 a1 = some (r1, r2)) :
  Calls Tryd.prog 20 #[.int .i64 a0, .int .i64 a1] w fun e w' => e = .returned (.tuple #[.string r1, .bool r2]) ∧ Drawn0 w w' := by
 have H : (if a1 < 1 then (guichetref1_Digits.j0 k a0 a1 true) else (if a1 > 18 then (guichetref1_Digits.j0 k a0 a1 true) else (guichetref1_Digits.j0 k a0 a1 (decide (a0 < 0))))) = some (r1, r2) := h
 clear h
 have HC3 := Aside0.mk H
 clear H
 go_enter Tryd.func20, Tryd.ntmps20
 go_upto_region 1 with (fail)
 go_cut [17] (fun v17 wc => ∃ (kq : Nat) (x17_2 : Bool), v17 = .bool x17_2 ∧ Aside0 (guichetref1_Digits.j0 kq a0 a1 x17_2 = some (r1, r2)) ∧ Aside0 (kq ≤ k) ∧ Drawn0 w wc)
 case first =>
  have H := HC3.out
  clear HC3
  by_cases c4 : a1 < 1
  ·rw [if_pos c4] at H
   have c4b0 : decide (a1 < 1) = true := decide_eq_true c4
   clear c4
   (first | rw [c4b0] | (simp only [i64_w, i32_w]; rw [c4b0]) | skip)
   have H' := Aside0.mk H
   clear H
   go_wp2
   go_meet
   case rel => exact ⟨_, (true), (by first | rfl | (simp; done) | (simp [*]; done)), H', ⟨by first | omega | exact Nat.le_refl _⟩, by repeat (first | exact Drawn0.refl _ | apply Drawn0.step)⟩
  ·rw [if_neg c4] at H
   have c4b0 : decide (a1 < 1) = false := decide_eq_false c4
   clear c4
   (first | rw [c4b0] | (simp only [i64_w, i32_w]; rw [c4b0]) | skip)
   by_cases c5 : a1 > 18
   ·rw [if_pos c5] at H
    have c5b0 : decide (18 < a1) = true := decide_eq_true c5
    clear c5
    have H' := Aside0.mk H
    clear H
    go_wp2
    go_meet
    case rel => exact ⟨_, (true), (by first | rfl | (simp; done) | (simp [*]; done)), H', ⟨by first | omega | exact Nat.le_refl _⟩, by repeat (first | exact Drawn0.refl _ | apply Drawn0.step)⟩
   ·rw [if_neg c5] at H
    have c5b0 : decide (18 < a1) = false := decide_eq_false c5
    clear c5
    have H' := Aside0.mk H
    clear H
    go_wp2
    go_meet
    case rel => exact ⟨_, (decide (a0 < 0)), (by first | rfl | (simp; done) | (simp [*]; done)), H', ⟨by first | omega | exact Nat.le_refl _⟩, by repeat (first | exact Drawn0.refl _ | apply Drawn0.step)⟩
 case rest =>
  clear HC3
  try clear c2
  try clear p2
  try clear c4
  try clear c4b0
  try clear c5
  try clear c5b0
  obtain ⟨kq, x17_2, rfl, HA, HJ2, ⟨mc2, rfl⟩⟩ := hcut
  cases kq with
  | zero => exact absurd HA.out (by simp [guichetref1_Digits.j0])
  | succ kj2 =>
   have H := HA.out
   clear HA
   simp only [guichetref1_Digits.j0] at H
   by_cases c6 : x17_2 = true
   ·subst c6
    have H1 : (some ((⟨#[]⟩ : ByteArray), false)) = some (r1, r2) := by rw [if_pos rfl] at H; exact H
    clear H
    have H := H1
    clear H1
    simp only [Option.some.injEq, Prod.mk.injEq] at H
    obtain ⟨rfl, rfl⟩ := H
    go_wp2
    go_ret2
    exact ⟨by first | rfl | (simp; done) | (simp [*]; done), by repeat (first | exact Drawn0.refl _ | apply Drawn0.step)⟩
   ·replace c6 := Bool.eq_false_iff.mpr c6
    subst c6
    have H1 : (guichetref1_Digits.l0 kj2 a0 a1 (⟨#[]⟩ : ByteArray) 0) = some (r1, r2) := by rw [if_neg (show ¬ (false = true) by decide)] at H; exact H
    clear H
    have H := H1
    clear H1
    have H' := Aside0.mk H
    clear H
    go_wp2
    go_loopg [0, 6, 7] kj2 (fun kq v0 v6 v7 w' => ∃ (x0_2 : Int) (x6_2 : ByteArray) (x7_2 : Int), v0 = .int .i64 x0_2 ∧ v6 = .string x6_2 ∧ v7 = .int .i64 x7_2 ∧ Aside0 (guichetref1_Digits.l0 kq x0_2 a1 x6_2 x7_2 = some (r1, r2)) ∧ Aside0 (kq ≤ kj2) ∧ Drawn0 w w')
    case atStart => exact ⟨(a0), ((⟨#[]⟩ : ByteArray)), (0), (by first | rfl | (simp; done) | (simp [*]; done)), (by first | rfl | (simp; done) | (simp [*]; done)), (by first | rfl | (simp; done) | (simp [*]; done)), H', ⟨Nat.le_refl _⟩, by repeat (first | exact Drawn0.refl _ | apply Drawn0.step)⟩
    case round =>
     clear H'
     try clear c2
     try clear p2
     try clear c4
     try clear c4b0
     try clear c5
     try clear c5b0
     try clear c6
     try clear p2
     obtain ⟨x0_2, x6_2, x7_2, rfl, rfl, rfl, HA, HK2, ⟨m2, rfl⟩⟩ := hrel
     cases gk with
     | zero => exact absurd HA.out (by simp [guichetref1_Digits.l0])
     | succ k2 =>
      have H := HA.out
      clear HA
      simp only [guichetref1_Digits.l0] at H
      by_cases c7 : x7_2 < a1
      ·rw [if_pos c7] at H
       have c7b0 : decide (x7_2 < a1) = true := decide_eq_true c7
       clear c7
       obtain ⟨ji8, hji8⟩ : ∃ j_ : Int, (Int.tmod x0_2 10) = j_ := ⟨_, rfl⟩
       replace H : (if 0 ≤ (ji8) then (if (ji8) ≤ (wrap64 ((ji8) + 1)) then (if (wrap64 ((ji8) + 1)) ≤ 10 then (if ((⟨#[48, 49, 50, 51, 52, 53, 54, 55, 56, 57]⟩ : ByteArray).extract ((ji8) : Int).toNat ((wrap64 ((ji8) + 1)) : Int).toNat).size + x6_2.size ≤ 9223372036854775807 then (guichetref1_Digits.l0 k2 (wrap64 (Int.tdiv x0_2 10)) a1 (((⟨#[48, 49, 50, 51, 52, 53, 54, 55, 56, 57]⟩ : ByteArray).extract ((ji8) : Int).toNat ((wrap64 ((ji8) + 1)) : Int).toNat) ++ x6_2) (wrap64 (x7_2 + 1))) else (none)) else (none)) else (none)) else (none)) = some (r1, r2) := by first | (rw [hji8] at H; exact H) | (simp only [hji8] at H ⊢; exact H)
       by_cases c9 : 0 ≤ (ji8)
       ·rw [if_pos c9] at H
        have c9b0 := eq_true c9
        have c9b1 : decide (0 ≤ (ji8)) = true := decide_eq_true c9
        clear c9
        by_cases c10 : (ji8) ≤ (wrap64 ((ji8) + 1))
        ·rw [if_pos c10] at H
         have c10b0 := eq_true c10
         have c10b1 : decide ((ji8) ≤ (wrap64 ((ji8) + 1))) = true := decide_eq_true c10
         by_cases c11 : (wrap64 ((ji8) + 1)) ≤ 10
         ·rw [if_pos c11] at H
          have c11b0 := eq_true c11
          have c11b1 : decide ((wrap64 ((ji8) + 1)) ≤ 10) = true := decide_eq_true c11
          by_cases c12 : ((⟨#[48, 49, 50, 51, 52, 53, 54, 55, 56, 57]⟩ : ByteArray).extract ((ji8) : Int).toNat ((wrap64 ((ji8) + 1)) : Int).toNat).size + x6_2.size ≤ 9223372036854775807
          ·rw [if_pos c12] at H
           have c12b0 := eq_true c12
           have c12b1 : decide (((⟨#[48, 49, 50, 51, 52, 53, 54, 55, 56, 57]⟩ : ByteArray).extract ((ji8) : Int).toNat ((wrap64 ((ji8) + 1)) : Int).toNat).size + x6_2.size ≤ 9223372036854775807) = true := decide_eq_true c12
           have c12b3 : (9223372036854775807 < (((wrap64 ((ji8) + 1)) : Int).toNat - ((ji8) : Int).toNat) + x6_2.size) = False := eq_false (by have hb0_ : ((wrap64 ((ji8) + 1)) : Int) ≤ 10 := of_decide_eq_true (by first | (with_reducible assumption) | assumption); have h_ := c12; simp only [ByteArray.size_extract, ByteArray.size_append] at h_ ⊢; have hk_ : ∀ l_ : Array UInt8, (⟨l_⟩ : ByteArray).size = l_.size := fun _ => rfl; simp only [hk_, List.size_toArray, List.length_cons, List.length_nil] at h_ ⊢; omega)
           try have c12b2 : (9223372036854775807 < ((⟨#[48, 49, 50, 51, 52, 53, 54, 55, 56, 57]⟩ : ByteArray).extract ((ji8) : Int).toNat ((wrap64 ((ji8) + 1)) : Int).toNat).size + x6_2.size) = False := eq_false (Nat.not_lt.2 c12)
           have H' := Aside0.mk H
           clear H
           go_wp2
           go_roundg k2
           case measure => have := HJ2.out; have := HK2.out; omega
           case rel => exact ⟨(wrap64 (Int.tdiv x0_2 10)), (((⟨#[48, 49, 50, 51, 52, 53, 54, 55, 56, 57]⟩ : ByteArray).extract ((ji8) : Int).toNat ((wrap64 ((ji8) + 1)) : Int).toNat) ++ x6_2), (wrap64 (x7_2 + 1)), (by first | rfl | (simp; done) | (simp [*]; done)), (by first | rfl | (simp; done) | (simp only [← hji8] <;> (first | rfl | simp)) | (simp [*]; done)), (by first | rfl | (simp; done) | (simp [*]; done)), H', ⟨by have := HJ2.out; have := HK2.out; omega⟩, by repeat (first | exact Drawn0.refl _ | apply Drawn0.step)⟩
          ·rw [if_neg c12] at H
           exact absurd H (by simp)
         ·rw [if_neg c11] at H
          exact absurd H (by simp)
        ·rw [if_neg c10] at H
         exact absurd H (by simp)
       ·rw [if_neg c9] at H
        exact absurd H (by simp)
      ·rw [if_neg c7] at H
       have c7b0 : decide (x7_2 < a1) = false := decide_eq_false c7
       clear c7
       by_cases c13 : x0_2 > 0
       ·rw [if_pos c13] at H
        have c13b0 : decide (0 < x0_2) = true := decide_eq_true c13
        clear c13
        simp only [Option.some.injEq, Prod.mk.injEq] at H
        obtain ⟨rfl, rfl⟩ := H
        go_wp2
        go_ret2
        exact ⟨by first | rfl | (simp; done) | (simp [*]; done), by repeat (first | exact Drawn0.refl _ | apply Drawn0.step)⟩
       ·rw [if_neg c13] at H
        have c13b0 : decide (0 < x0_2) = false := decide_eq_false c13
        clear c13
        simp only [Option.some.injEq, Prod.mk.injEq] at H
        obtain ⟨rfl, rfl⟩ := H
        go_wp2
        go_ret2
        exact ⟨by first | rfl | (simp; done) | (simp [*]; done), by repeat (first | exact Drawn0.refl _ | apply Drawn0.step)⟩

/-! ### guichetref1_KeyText: function 9 -/
def guichetref1_KeyText.f (k : Nat) (a0_0 : Int) (a0_1 : Int) : Option (ByteArray) := (guichetref1_Digits.f k (wrap64 (a0_0)) 5).bind fun bt135 => ((guichetref1_Digits.f k (wrap64 (a0_1)) 6).bind fun bt137 => (if bt137.2 = true then (if 1 + bt135.1.size ≤ 9223372036854775807 then (if ((⟨#[45]⟩ : ByteArray) ++ bt135.1).size + 1 ≤ 9223372036854775807 then (if (((⟨#[45]⟩ : ByteArray) ++ bt135.1) ++ (⟨#[45]⟩ : ByteArray)).size + bt137.1.size ≤ 9223372036854775807 then (some ((((⟨#[45]⟩ : ByteArray) ++ bt135.1) ++ (⟨#[45]⟩ : ByteArray)) ++ bt137.1)) else (none)) else (none)) else (none)) else (some (⟨#[]⟩ : ByteArray))))
theorem guichetref1_KeyText.mono : ∀ a0 a1 k, LeO (guichetref1_KeyText.f k a0 a1) (guichetref1_KeyText.f (k + 1) a0 a1) := by
 intro a0 a1 k
 unfold guichetref1_KeyText.f
 repeat' first
   | (with_reducible exact guichetref1_Digits.mono _ _ _)
   | (with_reducible exact LeO.refl _)
   | (with_reducible exact LeO.none _)
   | (with_reducible refine LeO.ite ?_ ?_)
   | (with_reducible refine LeO.bind ?_ (fun _ => ?_))
   | exact guichetref1_Digits.mono _ _ _
   | exact LeO.none _
   | refine LeO.ite ?_ ?_
   | refine LeO.bind ?_ (fun _ => ?_)
set_option maxHeartbeats 8000000 in
set_option maxRecDepth 100000 in
theorem guichetref1_KeyText.calls (k : Nat) (a0_0 : Int) (a0_1 : Int) (r : ByteArray) (w : World) (h : guichetref1_KeyText.f k a0_0 a0_1 = some r) :
  Calls Tryd.prog 9 #[.agg #[.int .u16 a0_0, .int .u32 a0_1]] w fun e w' => e = .returned (.string r) ∧ Below w.heap.size w w' := by
 have hu25 := Tryd.underlying25
 have HB := Aside0.mk (Below.refl w.heap.size w)
 have H : ((guichetref1_Digits.f k (wrap64 (a0_0)) 5).bind fun bt135 => ((guichetref1_Digits.f k (wrap64 (a0_1)) 6).bind fun bt137 => (if bt137.2 = true then (if 1 + bt135.1.size ≤ 9223372036854775807 then (if ((⟨#[45]⟩ : ByteArray) ++ bt135.1).size + 1 ≤ 9223372036854775807 then (if (((⟨#[45]⟩ : ByteArray) ++ bt135.1) ++ (⟨#[45]⟩ : ByteArray)).size + bt137.1.size ≤ 9223372036854775807 then (some ((((⟨#[45]⟩ : ByteArray) ++ bt135.1) ++ (⟨#[45]⟩ : ByteArray)) ++ bt137.1)) else (none)) else (none)) else (none)) else (some (⟨#[]⟩ : ByteArray))))) = some r := h
 clear h
 replace H := Option.bind_eq_some_iff.mp H
 obtain ⟨⟨t135, t136⟩, A20, H⟩ := H
 replace H : ((guichetref1_Digits.f k (wrap64 (a0_1)) 6).bind fun bt137 => (if bt137.2 = true then (if 1 + t135.size ≤ 9223372036854775807 then (if ((⟨#[45]⟩ : ByteArray) ++ t135).size + 1 ≤ 9223372036854775807 then (if (((⟨#[45]⟩ : ByteArray) ++ t135) ++ (⟨#[45]⟩ : ByteArray)).size + bt137.1.size ≤ 9223372036854775807 then (some ((((⟨#[45]⟩ : ByteArray) ++ t135) ++ (⟨#[45]⟩ : ByteArray)) ++ bt137.1)) else (none)) else (none)) else (none)) else (some (⟨#[]⟩ : ByteArray)))) = some r := H
 have A2 := Aside0.mk A20
 clear A20
 replace H := Option.bind_eq_some_iff.mp H
 obtain ⟨⟨t137, t138⟩, A30, H⟩ := H
 replace H : (if t138 = true then (if 1 + t135.size ≤ 9223372036854775807 then (if ((⟨#[45]⟩ : ByteArray) ++ t135).size + 1 ≤ 9223372036854775807 then (if (((⟨#[45]⟩ : ByteArray) ++ t135) ++ (⟨#[45]⟩ : ByteArray)).size + t137.size ≤ 9223372036854775807 then (some ((((⟨#[45]⟩ : ByteArray) ++ t135) ++ (⟨#[45]⟩ : ByteArray)) ++ t137)) else (none)) else (none)) else (none)) else (some (⟨#[]⟩ : ByteArray))) = some r := H
 have A3 := Aside0.mk A30
 clear A30
 by_cases c4 : t138 = true
 ·subst c4
  have H1 : (if 1 + t135.size ≤ 9223372036854775807 then (if ((⟨#[45]⟩ : ByteArray) ++ t135).size + 1 ≤ 9223372036854775807 then (if (((⟨#[45]⟩ : ByteArray) ++ t135) ++ (⟨#[45]⟩ : ByteArray)).size + t137.size ≤ 9223372036854775807 then (some ((((⟨#[45]⟩ : ByteArray) ++ t135) ++ (⟨#[45]⟩ : ByteArray)) ++ t137)) else (none)) else (none)) else (none)) = some r := by rw [if_pos rfl] at H; exact H
  clear H
  have H := H1
  clear H1
  by_cases c5 : 1 + t135.size ≤ 9223372036854775807
  ·rw [if_pos c5] at H
   have c5b0 := eq_true c5
   have c5b1 : decide (1 + t135.size ≤ 9223372036854775807) = true := decide_eq_true c5
   try have c5b2 : (9223372036854775807 < 1 + t135.size) = False := eq_false (Nat.not_lt.2 c5)
   by_cases c6 : ((⟨#[45]⟩ : ByteArray) ++ t135).size + 1 ≤ 9223372036854775807
   ·rw [if_pos c6] at H
    have c6b0 := eq_true c6
    have c6b1 : decide (((⟨#[45]⟩ : ByteArray) ++ t135).size + 1 ≤ 9223372036854775807) = true := decide_eq_true c6
    (try have c6b5 : (9223372036854775807 < 1 + t135.size + 1) = False := (by rw [show 1 + t135.size + 1 = ((⟨#[45]⟩ : ByteArray) ++ t135).size + 1 from by simp only [ByteArray.size_append]; rfl]; exact eq_false (Nat.not_lt.2 c6)))
    try have c6b2 : (9223372036854775807 < ((⟨#[45]⟩ : ByteArray) ++ t135).size + 1) = False := eq_false (Nat.not_lt.2 c6)
    by_cases c7 : (((⟨#[45]⟩ : ByteArray) ++ t135) ++ (⟨#[45]⟩ : ByteArray)).size + t137.size ≤ 9223372036854775807
    ·rw [if_pos c7] at H
     have c7b0 := eq_true c7
     have c7b1 : decide ((((⟨#[45]⟩ : ByteArray) ++ t135) ++ (⟨#[45]⟩ : ByteArray)).size + t137.size ≤ 9223372036854775807) = true := decide_eq_true c7
     (try have c7b5 : (9223372036854775807 < 1 + t135.size + 1 + t137.size) = False := (by rw [show 1 + t135.size + 1 + t137.size = (((⟨#[45]⟩ : ByteArray) ++ t135) ++ (⟨#[45]⟩ : ByteArray)).size + t137.size from by simp only [ByteArray.size_append]; rfl]; exact eq_false (Nat.not_lt.2 c7)))
     try have c7b2 : (9223372036854775807 < (((⟨#[45]⟩ : ByteArray) ++ t135) ++ (⟨#[45]⟩ : ByteArray)).size + t137.size) = False := eq_false (Nat.not_lt.2 c7)
     obtain rfl := Option.some.inj H
     go_enter Tryd.func9, Tryd.ntmps9
     go_wp2_with (first | ((with_reducible refine gate_dst (N := 1) rfl ?_); refine box_event ?hg (N := 1) ?hd (cs := #[.int .u16 a0_0, .int .u32 a0_1]) (t := 25) ?hr ?_; (case hd => rfl); (case hg => rfl); (case hr => first | (go_simp; done) | (go_simp; rfl)); intro gb134 hg w8 hbox hb; have n0_ := Aside0.mk (below_step (by repeat (first | (with_reducible first | exact HB.out | apply below_alloc | apply pw_below_drewN | apply below_drew1) | exact HB.out)) hb); have n1_ := Aside0.mk (hbox); have n2_ := Aside0.mk ((by rw [hg]; exact (below_size (by repeat (first | (with_reducible first | exact HB.out | apply below_alloc | apply pw_below_drewN | apply below_drew1) | exact HB.out))) : w.heap.size ≤ gb134)); have n3_ := Aside0.mk ((by rw [hg]; exact (below_size (by repeat (first | (with_reducible first | exact HB.out | apply below_alloc | apply pw_below_drewN | apply below_drew1) | exact HB.out))) : w.heap.size ≤ gb134)); clear HB; have HB := n0_; have BK134 := n1_; have GW134 := n2_; have GE134 := n3_; clear n0_ n1_ n2_ n3_; clear hb hbox hg; have hcz9_0 : w8.cell? ⟨gb134, 0, none⟩ = some (.int .u16 a0_0) := (blk_cell BK134.out 0).trans rfl; have hcz9_1 : w8.cell? ⟨gb134, 1, none⟩ = some (.int .u32 a0_1) := (blk_cell BK134.out 1).trans rfl; have hfz9_0 := blk_frozen BK134.out 0; have hfz9_1 := blk_frozen BK134.out 1) | ((with_reducible refine gate_callee (f := 20) rfl ?_); refine goesL_ (some 11) rfl rfl Tryd.func20 (by kernel_rfl) rfl #[.int .i64 (wrap64 (a0_0)), .int .i64 5] rfl (by (try simp only [List.map_toArray, List.map_cons, List.map_nil]); first | done | rfl | (simp only [List.length_drop, List.length_take]; rfl) | (rw [hsame_])) ?_; (with_reducible refine (guichetref1_Digits.calls k (wrap64 (a0_0)) 5 t135 t136 _ A2.out).mono ?_); rintro e w' ⟨rfl, ⟨nd, rfl⟩⟩; refine ⟨_, rfl, ?_⟩) | ((with_reducible refine gate_callee (f := 20) rfl ?_); refine goesL_ (some 18) rfl rfl Tryd.func20 (by kernel_rfl) rfl #[.int .i64 (wrap64 (a0_1)), .int .i64 6] rfl (by (try simp only [List.map_toArray, List.map_cons, List.map_nil]); first | done | rfl | (simp only [List.length_drop, List.length_take]; rfl) | (rw [hsame_])) ?_; (with_reducible refine (guichetref1_Digits.calls k (wrap64 (a0_1)) 6 t137 true _ A3.out).mono ?_); rintro e w' ⟨rfl, ⟨nd, rfl⟩⟩; refine ⟨_, rfl, ?_⟩))
     go_ret
     exact ⟨by first | rfl | (simp [errW_none, errW_some] <;> rfl) | (simp [*, errW_none, errW_some] <;> rfl), by repeat (first | (with_reducible first | exact HB.out | apply below_alloc | apply pw_below_drewN | apply below_drew1 | refine below_set ?_ GE134.out) | exact HB.out)⟩
    ·rw [if_neg c7] at H
     exact absurd H (by simp)
   ·rw [if_neg c6] at H
    exact absurd H (by simp)
  ·rw [if_neg c5] at H
   exact absurd H (by simp)
 ·replace c4 := Bool.eq_false_iff.mpr c4
  subst c4
  have H1 : (some (⟨#[]⟩ : ByteArray)) = some r := by rw [if_neg (show ¬ (false = true) by decide)] at H; exact H
  clear H
  have H := H1
  clear H1
  obtain rfl := Option.some.inj H
  go_enter Tryd.func9, Tryd.ntmps9
  go_wp2_with (first | ((with_reducible refine gate_dst (N := 1) rfl ?_); refine box_event ?hg (N := 1) ?hd (cs := #[.int .u16 a0_0, .int .u32 a0_1]) (t := 25) ?hr ?_; (case hd => rfl); (case hg => rfl); (case hr => first | (go_simp; done) | (go_simp; rfl)); intro gb134 hg w10 hbox hb; have n0_ := Aside0.mk (below_step (by repeat (first | (with_reducible first | exact HB.out | apply below_alloc | apply pw_below_drewN | apply below_drew1) | exact HB.out)) hb); have n1_ := Aside0.mk (hbox); have n2_ := Aside0.mk ((by rw [hg]; exact (below_size (by repeat (first | (with_reducible first | exact HB.out | apply below_alloc | apply pw_below_drewN | apply below_drew1) | exact HB.out))) : w.heap.size ≤ gb134)); have n3_ := Aside0.mk ((by rw [hg]; exact (below_size (by repeat (first | (with_reducible first | exact HB.out | apply below_alloc | apply pw_below_drewN | apply below_drew1) | exact HB.out))) : w.heap.size ≤ gb134)); clear HB; have HB := n0_; have BK134 := n1_; have GW134 := n2_; have GE134 := n3_; clear n0_ n1_ n2_ n3_; clear hb hbox hg; have hcz11_0 : w10.cell? ⟨gb134, 0, none⟩ = some (.int .u16 a0_0) := (blk_cell BK134.out 0).trans rfl; have hcz11_1 : w10.cell? ⟨gb134, 1, none⟩ = some (.int .u32 a0_1) := (blk_cell BK134.out 1).trans rfl; have hfz11_0 := blk_frozen BK134.out 0; have hfz11_1 := blk_frozen BK134.out 1) | ((with_reducible refine gate_callee (f := 20) rfl ?_); refine goesL_ (some 11) rfl rfl Tryd.func20 (by kernel_rfl) rfl #[.int .i64 (wrap64 (a0_0)), .int .i64 5] rfl (by (try simp only [List.map_toArray, List.map_cons, List.map_nil]); first | done | rfl | (simp only [List.length_drop, List.length_take]; rfl) | (rw [hsame_])) ?_; (with_reducible refine (guichetref1_Digits.calls k (wrap64 (a0_0)) 5 t135 t136 _ A2.out).mono ?_); rintro e w' ⟨rfl, ⟨nd, rfl⟩⟩; refine ⟨_, rfl, ?_⟩) | ((with_reducible refine gate_callee (f := 20) rfl ?_); refine goesL_ (some 18) rfl rfl Tryd.func20 (by kernel_rfl) rfl #[.int .i64 (wrap64 (a0_1)), .int .i64 6] rfl (by (try simp only [List.map_toArray, List.map_cons, List.map_nil]); first | done | rfl | (simp only [List.length_drop, List.length_take]; rfl) | (rw [hsame_])) ?_; (with_reducible refine (guichetref1_Digits.calls k (wrap64 (a0_1)) 6 t137 false _ A3.out).mono ?_); rintro e w' ⟨rfl, ⟨nd, rfl⟩⟩; refine ⟨_, rfl, ?_⟩))
  go_ret
  exact ⟨by first | rfl | (simp [errW_none, errW_some] <;> rfl) | (simp [*, errW_none, errW_some] <;> rfl), by repeat (first | (with_reducible first | exact HB.out | apply below_alloc | apply pw_below_drewN | apply below_drew1 | refine below_set ?_ GE134.out) | exact HB.out)⟩

/-! ### guichetref1_AllDigits: function 27 -/
def guichetref1_AllDigits.l0 : Nat → ByteArray → Int → Option (Bool)
 | 0, _, _ => none
 | k + 1, x0, x3 => if x3 < (x0.size : Int) then (if 0 ≤ x3 then (if (bt x0 x3) < 48 then (some false) else (if (bt x0 x3) > 57 then (some false) else (guichetref1_AllDigits.l0 k x0 (wrap64 (x3 + 1))))) else (none)) else (some true)
def guichetref1_AllDigits.f (k : Nat) (a0 : ByteArray) : Option (Bool) := guichetref1_AllDigits.l0 k a0 0
theorem guichetref1_AllDigits.mono_l : ∀ k, (∀ y0 y1, LeO (guichetref1_AllDigits.l0 k y0 y1) (guichetref1_AllDigits.l0 (k + 1) y0 y1))
 | 0 => fun _ _ r h => by simp [guichetref1_AllDigits.l0] at h
 | k + 1 => by
  have ih0 := guichetref1_AllDigits.mono_l k
  ·intro y0 y1
   unfold guichetref1_AllDigits.l0
   repeat' first
   | (with_reducible exact ih0 _ _)
   | (with_reducible exact LeO.refl _)
   | (with_reducible exact LeO.none _)
   | (with_reducible refine LeO.ite ?_ ?_)
   | (with_reducible refine LeO.bind ?_ (fun _ => ?_))
   | exact ih0 _ _
   | exact LeO.none _
   | refine LeO.ite ?_ ?_
   | refine LeO.bind ?_ (fun _ => ?_)
theorem guichetref1_AllDigits.mono : ∀ a0 k, LeO (guichetref1_AllDigits.f k a0) (guichetref1_AllDigits.f (k + 1) a0) := by
 intro a0 k
 have ih0 := guichetref1_AllDigits.mono_l k
 unfold guichetref1_AllDigits.f
 repeat' first
   | (with_reducible exact ih0 _ _)
   | (with_reducible exact LeO.refl _)
   | (with_reducible exact LeO.none _)
   | (with_reducible refine LeO.ite ?_ ?_)
   | (with_reducible refine LeO.bind ?_ (fun _ => ?_))
   | exact ih0 _ _
   | exact LeO.none _
   | refine LeO.ite ?_ ?_
   | refine LeO.bind ?_ (fun _ => ?_)
set_option maxHeartbeats 8000000 in
set_option maxRecDepth 100000 in
theorem guichetref1_AllDigits.calls (k : Nat) (a0 : ByteArray) (r : Bool) (w : World) (h : guichetref1_AllDigits.f k a0 = some r) :
  Calls Tryd.prog 27 #[.string a0] w fun e w' => e = .returned (.bool r) ∧ Drawn0 w w' := by
 have H : (guichetref1_AllDigits.l0 k a0 0) = some r := h
 clear h
 have H' := Aside0.mk H
 clear H
 go_enter Tryd.func27, Tryd.ntmps27
 go_wp2
 go_loopg [3] k (fun kq v3 w' => ∃ (x3_1 : Int), v3 = .int .i64 x3_1 ∧ Aside0 (guichetref1_AllDigits.l0 kq a0 x3_1 = some r) ∧ Aside0 (kq ≤ k) ∧ Drawn0 w w')
 case atStart => exact ⟨(0), (by first | rfl | (simp; done) | (simp [*]; done)), H', ⟨Nat.le_refl _⟩, by repeat (first | exact Drawn0.refl _ | apply Drawn0.step)⟩
 case round =>
  clear H'
  obtain ⟨x3_1, rfl, HA, HK1, ⟨m1, rfl⟩⟩ := hrel
  cases gk with
  | zero => exact absurd HA.out (by simp [guichetref1_AllDigits.l0])
  | succ k1 =>
   have H := HA.out
   clear HA
   simp only [guichetref1_AllDigits.l0] at H
   by_cases c2 : x3_1 < (a0.size : Int)
   ·rw [if_pos c2] at H
    have c2b0 : decide (x3_1 < (a0.size : Int)) = true := decide_eq_true c2
    clear c2
    by_cases c3 : 0 ≤ x3_1
    ·rw [if_pos c3] at H
     have c3b0 : decide (0 ≤ x3_1) = true := decide_eq_true c3
     clear c3
     by_cases c5 : (bt a0 x3_1) < 48
     ·rw [if_pos c5] at H
      have c5b0 : decide ((bt a0 x3_1) < 48) = true := decide_eq_true c5
      clear c5
      obtain rfl := Option.some.inj H
      have p4 : 0 ≤ (x3_1 : Int) := of_decide_eq_true (by first | (with_reducible assumption) | assumption)
      have q4 : x3_1 < (a0.size : Int) := of_decide_eq_true (by first | (with_reducible assumption) | assumption)
      have hx4 := bt_at a0 x3_1
      replace p4 := eq_true p4
      replace q4 := eq_true q4
      go_wp2
      go_ret
      exact ⟨by first | rfl | (simp; done) | (simp [*]; done), by repeat (first | exact Drawn0.refl _ | apply Drawn0.step)⟩
     ·rw [if_neg c5] at H
      have c5b0 : decide ((bt a0 x3_1) < 48) = false := decide_eq_false c5
      clear c5
      by_cases c7 : (bt a0 x3_1) > 57
      ·rw [if_pos c7] at H
       have c7b0 : decide (57 < (bt a0 x3_1)) = true := decide_eq_true c7
       clear c7
       obtain rfl := Option.some.inj H
       have p4 : 0 ≤ (x3_1 : Int) := of_decide_eq_true (by first | (with_reducible assumption) | assumption)
       have q4 : x3_1 < (a0.size : Int) := of_decide_eq_true (by first | (with_reducible assumption) | assumption)
       have hx4 := bt_at a0 x3_1
       replace p4 := eq_true p4
       replace q4 := eq_true q4
       have p6 : 0 ≤ (x3_1 : Int) := of_decide_eq_true (by first | (with_reducible assumption) | assumption)
       have q6 : x3_1 < (a0.size : Int) := of_decide_eq_true (by first | (with_reducible assumption) | assumption)
       have hx6 := bt_at a0 x3_1
       replace p6 := eq_true p6
       replace q6 := eq_true q6
       go_wp2
       go_ret
       exact ⟨by first | rfl | (simp; done) | (simp [*]; done), by repeat (first | exact Drawn0.refl _ | apply Drawn0.step)⟩
      ·rw [if_neg c7] at H
       have c7b0 : decide (57 < (bt a0 x3_1)) = false := decide_eq_false c7
       clear c7
       have H' := Aside0.mk H
       clear H
       have p4 : 0 ≤ (x3_1 : Int) := of_decide_eq_true (by first | (with_reducible assumption) | assumption)
       have q4 : x3_1 < (a0.size : Int) := of_decide_eq_true (by first | (with_reducible assumption) | assumption)
       have hx4 := bt_at a0 x3_1
       replace p4 := eq_true p4
       replace q4 := eq_true q4
       have p6 : 0 ≤ (x3_1 : Int) := of_decide_eq_true (by first | (with_reducible assumption) | assumption)
       have q6 : x3_1 < (a0.size : Int) := of_decide_eq_true (by first | (with_reducible assumption) | assumption)
       have hx6 := bt_at a0 x3_1
       replace p6 := eq_true p6
       replace q6 := eq_true q6
       go_wp2
       go_roundg k1
       case measure => have := HK1.out; omega
       case rel => exact ⟨(wrap64 (x3_1 + 1)), (by first | rfl | (simp; done) | (simp [*]; done)), H', ⟨by have := HK1.out; omega⟩, by repeat (first | exact Drawn0.refl _ | apply Drawn0.step)⟩
    ·rw [if_neg c3] at H
     exact absurd H (by simp)
   ·rw [if_neg c2] at H
    have c2b0 : decide (x3_1 < (a0.size : Int)) = false := decide_eq_false c2
    clear c2
    obtain rfl := Option.some.inj H
    go_wp2
    go_ret
    exact ⟨by first | rfl | (simp; done) | (simp [*]; done), by repeat (first | exact Drawn0.refl _ | apply Drawn0.step)⟩

end Go.Proofs.YtidjkodejcnolaaDoor.PAll
