-- written by xprint.py out of the translation. Not trusted: Lean checks it.
import Derived.Test.YtkhgiojpegghoaaDoorPAllx0
import Derived.Test.YtkhgiojpegghoaaDoorPAllx1
import Derived.Test.YtkhgiojpegghoaaDoorPAllx2
import Derived.Test.YtkhgiojpegghoaaDoorPAllx3
import Derived.Test.YtkhgiojpegghoaaDoorPAllx4
import Derived.Test.YtkhgiojpegghoaaDoorPAllx5
import Derived.Test.YtkhgiojpegghoaaDoorPAllx6
import Derived.Test.YtkhgiojpegghoaaDoorPAllx7
namespace Go.Proofs.YtkhgiojpegghoaaDoor.PAll
open Go.RowKit Go.Proofs.YtkhgiojpegghoaaDoorW.PrintWords Go.Proofs.YtkhgiojpegghoaaDoorW.PrintLast Go.Proofs.YtkhgiojpegghoaaDoorW.PrintMore
attribute [local go_sem] max2_int min2_int max_two min_two max_three min_three max_four min_four   -- for this text's walks alone
set_option linter.unusedVariables false
set_option linter.unusedSimpArgs false

attribute [local go_sem high] eqA25
/-! ### guichetlaw13_PosBack: function 3 -/
mutual
def guichetlaw13_PosBack.j0 : Nat → Int → Int → List Int → Bool → Int → Int → ByteArray → Int → Option (Bool)
 | 0, _, _, _, _, _, _, _, _ => none
 | k + 1, x1, x2, x3, x36, x343000, x343001, x343002, x343003 => if x36 = true then (some true) else ((guichetseat_Pan.f x1).bind fun t344 => ((some (([(⟨x343000, x343001, x343002, x343003⟩ : S25), (⟨x343000, Int.tmod x343001 1000000, t344, wrap64 ((wrap64 (Int.tmod x2 1000001)) + 1)⟩ : S25)] : List (S25)) : List (S25))).bind fun y346 => (guichetlaw13_PosBack.l0 k x3 y346 (y346.length : Int) 0)))
def guichetlaw13_PosBack.l0 : Nat → List Int → List (S25) → Int → Int → Option (Bool)
 | 0, _, _, _, _ => none
 | k + 1, x3, x51, x52, x53 => if x53 < x52 then (if 0 ≤ x53 then (if x53 < (x51.length : Int) then ((pos_Put.f k ((rd_T25 x51 x53).f0) ((rd_T25 x51 x53).f1) ((rd_T25 x51 x53).f2) ((rd_T25 x51 x53).f3)).bind fun bt351 => ((guichetref12_PosPut.f k ((rd_T25 x51 x53).f0) ((rd_T25 x51 x53).f1) ((rd_T25 x51 x53).f2) ((rd_T25 x51 x53).f3)).bind fun bt355 => (if (strOfNums bt351.1).toList = (strOfNums bt355.1).toList then (if bt351.2 = bt355.2 then ((pos_Right.f k ((rd_T25 x51 x53).f0) ((rd_T25 x51 x53).f1) ((rd_T25 x51 x53).f2) ((rd_T25 x51 x53).f3)).bind fun t359 => ((guichetref12_PosRight.f k ((rd_T25 x51 x53).f0) ((rd_T25 x51 x53).f1) ((rd_T25 x51 x53).f2) ((rd_T25 x51 x53).f3)).bind fun t360 => (guichetlaw13_PosBack.j2 k x3 bt351.1 bt355.2 x51 x52 x53 (t359 != t360) ((rd_T25 x51 x53).f0) ((rd_T25 x51 x53).f1) ((rd_T25 x51 x53).f2) ((rd_T25 x51 x53).f3)))) else (guichetlaw13_PosBack.j2 k x3 bt351.1 bt355.2 x51 x52 x53 true ((rd_T25 x51 x53).f0) ((rd_T25 x51 x53).f1) ((rd_T25 x51 x53).f2) ((rd_T25 x51 x53).f3))) else (guichetlaw13_PosBack.j2 k x3 bt351.1 bt355.2 x51 x52 x53 true ((rd_T25 x51 x53).f0) ((rd_T25 x51 x53).f1) ((rd_T25 x51 x53).f2) ((rd_T25 x51 x53).f3))))) else (none)) else (none)) else (some true)
def guichetlaw13_PosBack.j2 : Nat → List Int → List Int → Int → List (S25) → Int → Int → Bool → Int → Int → ByteArray → Int → Option (Bool)
 | 0, _, _, _, _, _, _, _, _, _, _, _ => none
 | k + 1, x3, x12, x15, x51, x52, x53, x83, x351000, x351001, x351002, x351003 => if x83 = true then (none) else (if x15 = 0 then ((pos_Read.f k x12).bind fun bt361 => (if (!(bt361.1 == x351000) || (!(bt361.2.1 == x351001) || (!(bt361.2.2.1.toList == x351002.toList) || (!(bt361.2.2.2.1 == x351003))))) = true then (guichetlaw13_PosBack.j3 k x3 x12 x51 x52 x53 true) else (if bt361.2.2.2.2.1 = (x12.length : Int) then (guichetlaw13_PosBack.j3 k x3 x12 x51 x52 x53 (bt361.2.2.2.2.2 != 0)) else (guichetlaw13_PosBack.j3 k x3 x12 x51 x52 x53 true)))) else (guichetlaw13_PosBack.l0 k x3 x51 x52 (wrap64 (x53 + 1))))
def guichetlaw13_PosBack.j3 : Nat → List Int → List Int → List (S25) → Int → Int → Bool → Option (Bool)
 | 0, _, _, _, _, _, _ => none
 | k + 1, x3, x12, x51, x52, x53, x104 => if x104 = true then (none) else (if ([] : List Int).length + x3.length < 140737488355328 then ((some (([] : List Int) ++ x3 : List Int)).bind fun y368 => (if y368.length + x12.length < 140737488355328 then ((some (y368 ++ x12 : List Int)).bind fun y371 => ((pos_Read.f k y371).bind fun bt374 => ((guichetref12_PosRead.f k y371).bind fun bt381 => (if (!(bt374.1 == bt381.1) || (!(bt374.2.1 == bt381.2.1) || (!(bt374.2.2.1.toList == bt381.2.2.1.toList) || (!(bt374.2.2.2.1 == bt381.2.2.2.1))))) = true then (none) else (if bt374.2.2.2.2.1 = bt381.2.2.2.2.1 then (if bt374.2.2.2.2.2 = bt381.2.2.2.2.2 then (guichetlaw13_PosBack.l0 k x3 x51 x52 (wrap64 (x53 + 1))) else (none)) else (none)))))) else (none))) else (none))
end
def guichetlaw13_PosBack.f (k : Nat) (a0_0 : Int) (a0_1 : Int) (a0_2 : ByteArray) (a0_3 : Int) (a1 : Int) (a2 : Int) (l3 : List Int) : Option (Bool) := (guichetlaw13_known.f k).bind fun t343 => (if t343 = true then (if (a0_2.size : Int) > 60 then (guichetlaw13_PosBack.j0 k a1 a2 l3 true a0_0 a0_1 a0_2 a0_3) else (guichetlaw13_PosBack.j0 k a1 a2 l3 (decide ((l3.length : Int) > 60)) a0_0 a0_1 a0_2 a0_3)) else (none))
theorem guichetlaw13_PosBack.mono_l : ∀ k, (∀ y0 y1 y2 y3 y4 y5 y6 y7, LeO (guichetlaw13_PosBack.j0 k y0 y1 y2 y3 y4 y5 y6 y7) (guichetlaw13_PosBack.j0 (k + 1) y0 y1 y2 y3 y4 y5 y6 y7)) ∧ (∀ y0 y1 y2 y3, LeO (guichetlaw13_PosBack.l0 k y0 y1 y2 y3) (guichetlaw13_PosBack.l0 (k + 1) y0 y1 y2 y3)) ∧ (∀ y0 y1 y2 y3 y4 y5 y6 y7 y8 y9 y10, LeO (guichetlaw13_PosBack.j2 k y0 y1 y2 y3 y4 y5 y6 y7 y8 y9 y10) (guichetlaw13_PosBack.j2 (k + 1) y0 y1 y2 y3 y4 y5 y6 y7 y8 y9 y10)) ∧ (∀ y0 y1 y2 y3 y4 y5, LeO (guichetlaw13_PosBack.j3 k y0 y1 y2 y3 y4 y5) (guichetlaw13_PosBack.j3 (k + 1) y0 y1 y2 y3 y4 y5))
 | 0 => ⟨fun _ _ _ _ _ _ _ _ r h => by simp [guichetlaw13_PosBack.j0] at h, fun _ _ _ _ r h => by simp [guichetlaw13_PosBack.l0] at h, fun _ _ _ _ _ _ _ _ _ _ _ r h => by simp [guichetlaw13_PosBack.j2] at h, fun _ _ _ _ _ _ r h => by simp [guichetlaw13_PosBack.j3] at h⟩
 | k + 1 => by
  obtain ⟨ih0, ih1, ih2, ih3⟩ := guichetlaw13_PosBack.mono_l k
  refine ⟨?_, ?_, ?_, ?_⟩
  ·intro y0 y1 y2 y3 y4 y5 y6 y7
   unfold guichetlaw13_PosBack.j0
   repeat' first
   | (with_reducible exact ih0 _ _ _ _ _ _ _ _)
   | (with_reducible exact ih1 _ _ _ _)
   | (with_reducible exact ih2 _ _ _ _ _ _ _ _ _ _ _)
   | (with_reducible exact ih3 _ _ _ _ _ _)
   | (with_reducible exact guichetlaw13_known.mono _)
   | (with_reducible exact guichetref12_PosPut.mono _ _ _ _ _)
   | (with_reducible exact guichetref12_PosRead.mono _ _)
   | (with_reducible exact guichetref12_PosRight.mono _ _ _ _ _)
   | (with_reducible exact pos_Put.mono _ _ _ _ _)
   | (with_reducible exact pos_Read.mono _ _)
   | (with_reducible exact pos_Right.mono _ _ _ _ _)
   | (with_reducible exact LeO.refl _)
   | (with_reducible exact LeO.none _)
   | (with_reducible refine LeO.ite ?_ ?_)
   | (with_reducible refine LeO.bind ?_ (fun _ => ?_))
   | exact ih0 _ _ _ _ _ _ _ _
   | exact ih1 _ _ _ _
   | exact ih2 _ _ _ _ _ _ _ _ _ _ _
   | exact ih3 _ _ _ _ _ _
   | exact guichetlaw13_known.mono _
   | exact guichetref12_PosPut.mono _ _ _ _ _
   | exact guichetref12_PosRead.mono _ _
   | exact guichetref12_PosRight.mono _ _ _ _ _
   | exact pos_Put.mono _ _ _ _ _
   | exact pos_Read.mono _ _
   | exact pos_Right.mono _ _ _ _ _
   | exact LeO.none _
   | refine LeO.ite ?_ ?_
   | refine LeO.bind ?_ (fun _ => ?_)
  ·intro y0 y1 y2 y3
   unfold guichetlaw13_PosBack.l0
   repeat' first
   | (with_reducible exact ih0 _ _ _ _ _ _ _ _)
   | (with_reducible exact ih1 _ _ _ _)
   | (with_reducible exact ih2 _ _ _ _ _ _ _ _ _ _ _)
   | (with_reducible exact ih3 _ _ _ _ _ _)
   | (with_reducible exact guichetlaw13_known.mono _)
   | (with_reducible exact guichetref12_PosPut.mono _ _ _ _ _)
   | (with_reducible exact guichetref12_PosRead.mono _ _)
   | (with_reducible exact guichetref12_PosRight.mono _ _ _ _ _)
   | (with_reducible exact pos_Put.mono _ _ _ _ _)
   | (with_reducible exact pos_Read.mono _ _)
   | (with_reducible exact pos_Right.mono _ _ _ _ _)
   | (with_reducible exact LeO.refl _)
   | (with_reducible exact LeO.none _)
   | (with_reducible refine LeO.ite ?_ ?_)
   | (with_reducible refine LeO.bind ?_ (fun _ => ?_))
   | exact ih0 _ _ _ _ _ _ _ _
   | exact ih1 _ _ _ _
   | exact ih2 _ _ _ _ _ _ _ _ _ _ _
   | exact ih3 _ _ _ _ _ _
   | exact guichetlaw13_known.mono _
   | exact guichetref12_PosPut.mono _ _ _ _ _
   | exact guichetref12_PosRead.mono _ _
   | exact guichetref12_PosRight.mono _ _ _ _ _
   | exact pos_Put.mono _ _ _ _ _
   | exact pos_Read.mono _ _
   | exact pos_Right.mono _ _ _ _ _
   | exact LeO.none _
   | refine LeO.ite ?_ ?_
   | refine LeO.bind ?_ (fun _ => ?_)
  ·intro y0 y1 y2 y3 y4 y5 y6 y7 y8 y9 y10
   unfold guichetlaw13_PosBack.j2
   repeat' first
   | (with_reducible exact ih0 _ _ _ _ _ _ _ _)
   | (with_reducible exact ih1 _ _ _ _)
   | (with_reducible exact ih2 _ _ _ _ _ _ _ _ _ _ _)
   | (with_reducible exact ih3 _ _ _ _ _ _)
   | (with_reducible exact guichetlaw13_known.mono _)
   | (with_reducible exact guichetref12_PosPut.mono _ _ _ _ _)
   | (with_reducible exact guichetref12_PosRead.mono _ _)
   | (with_reducible exact guichetref12_PosRight.mono _ _ _ _ _)
   | (with_reducible exact pos_Put.mono _ _ _ _ _)
   | (with_reducible exact pos_Read.mono _ _)
   | (with_reducible exact pos_Right.mono _ _ _ _ _)
   | (with_reducible exact LeO.refl _)
   | (with_reducible exact LeO.none _)
   | (with_reducible refine LeO.ite ?_ ?_)
   | (with_reducible refine LeO.bind ?_ (fun _ => ?_))
   | exact ih0 _ _ _ _ _ _ _ _
   | exact ih1 _ _ _ _
   | exact ih2 _ _ _ _ _ _ _ _ _ _ _
   | exact ih3 _ _ _ _ _ _
   | exact guichetlaw13_known.mono _
   | exact guichetref12_PosPut.mono _ _ _ _ _
   | exact guichetref12_PosRead.mono _ _
   | exact guichetref12_PosRight.mono _ _ _ _ _
   | exact pos_Put.mono _ _ _ _ _
   | exact pos_Read.mono _ _
   | exact pos_Right.mono _ _ _ _ _
   | exact LeO.none _
   | refine LeO.ite ?_ ?_
   | refine LeO.bind ?_ (fun _ => ?_)
  ·intro y0 y1 y2 y3 y4 y5
   unfold guichetlaw13_PosBack.j3
   repeat' first
   | (with_reducible exact ih0 _ _ _ _ _ _ _ _)
   | (with_reducible exact ih1 _ _ _ _)
   | (with_reducible exact ih2 _ _ _ _ _ _ _ _ _ _ _)
   | (with_reducible exact ih3 _ _ _ _ _ _)
   | (with_reducible exact guichetlaw13_known.mono _)
   | (with_reducible exact guichetref12_PosPut.mono _ _ _ _ _)
   | (with_reducible exact guichetref12_PosRead.mono _ _)
   | (with_reducible exact guichetref12_PosRight.mono _ _ _ _ _)
   | (with_reducible exact pos_Put.mono _ _ _ _ _)
   | (with_reducible exact pos_Read.mono _ _)
   | (with_reducible exact pos_Right.mono _ _ _ _ _)
   | (with_reducible exact LeO.refl _)
   | (with_reducible exact LeO.none _)
   | (with_reducible refine LeO.ite ?_ ?_)
   | (with_reducible refine LeO.bind ?_ (fun _ => ?_))
   | exact ih0 _ _ _ _ _ _ _ _
   | exact ih1 _ _ _ _
   | exact ih2 _ _ _ _ _ _ _ _ _ _ _
   | exact ih3 _ _ _ _ _ _
   | exact guichetlaw13_known.mono _
   | exact guichetref12_PosPut.mono _ _ _ _ _
   | exact guichetref12_PosRead.mono _ _
   | exact guichetref12_PosRight.mono _ _ _ _ _
   | exact pos_Put.mono _ _ _ _ _
   | exact pos_Read.mono _ _
   | exact pos_Right.mono _ _ _ _ _
   | exact LeO.none _
   | refine LeO.ite ?_ ?_
   | refine LeO.bind ?_ (fun _ => ?_)
theorem guichetlaw13_PosBack.mono : ∀ a0 a1 a2 a3 a4 a5 a6 k, LeO (guichetlaw13_PosBack.f k a0 a1 a2 a3 a4 a5 a6) (guichetlaw13_PosBack.f (k + 1) a0 a1 a2 a3 a4 a5 a6) := by
 intro a0 a1 a2 a3 a4 a5 a6 k
 obtain ⟨ih0, ih1, ih2, ih3⟩ := guichetlaw13_PosBack.mono_l k
 unfold guichetlaw13_PosBack.f
 repeat' first
   | (with_reducible exact ih0 _ _ _ _ _ _ _ _)
   | (with_reducible exact ih1 _ _ _ _)
   | (with_reducible exact ih2 _ _ _ _ _ _ _ _ _ _ _)
   | (with_reducible exact ih3 _ _ _ _ _ _)
   | (with_reducible exact guichetlaw13_known.mono _)
   | (with_reducible exact guichetref12_PosPut.mono _ _ _ _ _)
   | (with_reducible exact guichetref12_PosRead.mono _ _)
   | (with_reducible exact guichetref12_PosRight.mono _ _ _ _ _)
   | (with_reducible exact pos_Put.mono _ _ _ _ _)
   | (with_reducible exact pos_Read.mono _ _)
   | (with_reducible exact pos_Right.mono _ _ _ _ _)
   | (with_reducible exact LeO.refl _)
   | (with_reducible exact LeO.none _)
   | (with_reducible refine LeO.ite ?_ ?_)
   | (with_reducible refine LeO.bind ?_ (fun _ => ?_))
   | exact ih0 _ _ _ _ _ _ _ _
   | exact ih1 _ _ _ _
   | exact ih2 _ _ _ _ _ _ _ _ _ _ _
   | exact ih3 _ _ _ _ _ _
   | exact guichetlaw13_known.mono _
   | exact guichetref12_PosPut.mono _ _ _ _ _
   | exact guichetref12_PosRead.mono _ _
   | exact guichetref12_PosRight.mono _ _ _ _ _
   | exact pos_Put.mono _ _ _ _ _
   | exact pos_Read.mono _ _
   | exact pos_Right.mono _ _ _ _ _
   | exact LeO.none _
   | refine LeO.ite ?_ ?_
   | refine LeO.bind ?_ (fun _ => ?_)
def guichetlaw13_PosBack.T5 : Bool × List (List Nat × List Nat) := (true, [([], []), ([0], [0]), ([], []), ([2], [2]), ([3], [3]), ([], []), ([5], [5]), ([], []), ([7], [7]), ([8], [8]), ([9], [9]), ([1, 4, 6, 10], [1, 4, 6, 10]), ([], []), ([12, 11, 6, 0, 1, 2, 3, 4, 5, 6, 7, 8, 9, 10, 11, 12], [11, 12])])
def guichetlaw13_PosBack.B5 : List Nat := [0, 1, 0, 4, 12, 0, 32, 0, 128, 384, 896, 2047, 0, 8191]
theorem guichetlaw13_PosBack.tab5 : rtab .any (opsOf Tryd.f3 5) = guichetlaw13_PosBack.T5 := by kernel_rfl
theorem guichetlaw13_PosBack.bits5 : waitsOk guichetlaw13_PosBack.T5.2 guichetlaw13_PosBack.B5 = true := by kernel_rfl
def guichetlaw13_PosBack.T11 : Bool × List (List Nat × List Nat) := (true, [([], []), ([0], [0]), ([], []), ([2], [2]), ([1, 3], [1, 3]), ([4], [4]), ([5], [5]), ([5], [5]), ([6, 7, 5], [5, 6, 7]), ([5, 8], [5, 8]), ([9, 5], [9]), ([10], [10]), ([11, 10, 10], [10, 11]), ([10], [10]), ([13, 12, 10], [10, 13]), ([12, 14, 10], [10, 12, 14]), ([10, 15], [10, 15])])
def guichetlaw13_PosBack.B11 : List Nat := [0, 1, 0, 4, 15, 31, 63, 63, 255, 511, 1023, 2047, 4095, 2047, 16383, 32767, 65535]
theorem guichetlaw13_PosBack.tab11 : rtab .any (opsOf Tryd.f3 11) = guichetlaw13_PosBack.T11 := by kernel_rfl
theorem guichetlaw13_PosBack.bits11 : waitsOk guichetlaw13_PosBack.T11.2 guichetlaw13_PosBack.B11 = true := by kernel_rfl
set_option maxHeartbeats 8000000 in
set_option maxRecDepth 100000 in
theorem guichetlaw13_PosBack.calls (k : Nat) (a0_0 : Int) (a0_1 : Int) (a0_2 : ByteArray) (a0_3 : Int) (a1 : Int) (a2 : Int) (A3 : Option Addr) (c3 : Nat) (l3 : List Int) (r : Bool) (w : World) (hT : TAB w) (hr3 : Kd.C (Kd.int .u8) w A3 l3.length l3) (hc3 : l3.length ≤ c3) (h : guichetlaw13_PosBack.f k a0_0 a0_1 a0_2 a0_3 a1 a2 l3 = some r) :
  Calls Tryd.prog 3 #[.agg #[.int .u16 a0_0, .int .u32 a0_1, .string a0_2, .int .i64 a0_3], .int .u8 a1, .int .u32 a2, .slice A3 l3.length c3] w fun e w' => e = .returned (.bool r) ∧ Below w.heap.size w w' := by
 have HT := Aside0.mk hT
 clear hT
 have hu25 := Tryd.underlying25
 have HR3 := Aside0.mk hr3
 have HC3 := Aside0.mk hc3
 clear hr3 hc3
 have HB := Aside0.mk (Below.refl w.heap.size w)
 have H : ((guichetlaw13_known.f k).bind fun t343 => (if t343 = true then (if (a0_2.size : Int) > 60 then (guichetlaw13_PosBack.j0 k a1 a2 l3 true a0_0 a0_1 a0_2 a0_3) else (guichetlaw13_PosBack.j0 k a1 a2 l3 (decide ((l3.length : Int) > 60)) a0_0 a0_1 a0_2 a0_3)) else (none))) = some r := h
 clear h
 replace H := Option.bind_eq_some_iff.mp H
 obtain ⟨t343, A50, H⟩ := H
 replace H : (if t343 = true then (if (a0_2.size : Int) > 60 then (guichetlaw13_PosBack.j0 k a1 a2 l3 true a0_0 a0_1 a0_2 a0_3) else (guichetlaw13_PosBack.j0 k a1 a2 l3 (decide ((l3.length : Int) > 60)) a0_0 a0_1 a0_2 a0_3)) else (none)) = some r := H
 have A5 := Aside0.mk A50
 clear A50
 by_cases c6 : t343 = true
 ·subst c6
  have H1 : (if (a0_2.size : Int) > 60 then (guichetlaw13_PosBack.j0 k a1 a2 l3 true a0_0 a0_1 a0_2 a0_3) else (guichetlaw13_PosBack.j0 k a1 a2 l3 (decide ((l3.length : Int) > 60)) a0_0 a0_1 a0_2 a0_3)) = some r := by rw [if_pos rfl] at H; exact H
  clear H
  have H := H1
  clear H1
  have HC7 := Aside0.mk H
  clear H
  go_enter Tryd.func3, Tryd.ntmps3
  go_upto_region 3 with (first | ((with_reducible refine gate_dst (N := 4) rfl ?_); (try (refine gate_guard (by rfl) ?_; dsimp only)); refine box_event ?hg (N := 4) ?hd (cs := #[.int .u16 a0_0, .int .u32 a0_1, .string a0_2, .int .i64 a0_3]) (t := 25) ?hr ?_; (case hd => rfl); (case hg => rfl); (case hr => first | (go_simp; done) | (go_simp; rfl)); intro gb342 hg w8 hbox hb; have n0_ := Aside0.mk (below_step (by repeat (first | (with_reducible first | exact HB.out | apply below_alloc | apply pw_below_drewN | apply below_drew1) | exact HB.out)) hb); have n1_ := Aside0.mk (hbox); have n2_ := Aside0.mk ((by rw [hg]; exact (below_size (by repeat (first | (with_reducible first | exact HB.out | apply below_alloc | apply pw_below_drewN | apply below_drew1) | exact HB.out))) : w.heap.size ≤ gb342)); have n3_ := Aside0.mk ((by rw [hg]; exact (below_size (by repeat (first | (with_reducible first | exact HB.out | apply below_alloc | apply pw_below_drewN | apply below_drew1) | exact HB.out))) : w.heap.size ≤ gb342)); clear HB; have HB := n0_; have BK342 := n1_; have GW342 := n2_; have GE342 := n3_; clear n0_ n1_ n2_ n3_; clear hb hbox hg) | ((with_reducible refine gate_callee (f := 6) rfl ?_); refine goesL_ (some 26) rfl rfl Tryd.func6 (by kernel_rfl) rfl #[] rfl (by (try simp only [List.map_toArray, List.map_cons, List.map_nil]); first | done | rfl | (simp only [List.length_drop, List.length_take]; rfl) | (rw [hsame_])) ?_; (with_reducible refine (guichetlaw13_known.calls k  true _ ?side1 A5.out).mono ?_); (case side1 => exact tab_at HT.out (by repeat (first | (with_reducible first | exact HB.out | apply below_alloc | apply pw_below_drewN | apply below_drew1 | refine below_set ?_ GE342.out) | exact HB.out))); rintro e w9 ⟨rfl, hb⟩; refine ⟨_, rfl, ?_⟩; have n0_ := Aside0.mk (blk_below (g := gb342) (o := .cells #[.int .u16 a0_0, .int .u32 a0_1, .string a0_2, .int .i64 a0_3] 25 (0, 0)) (by (with_reducible repeat (first | refine blk_drewN ?_ _ | refine blk_drew ?_ | refine blk_alloc ?_ _)); exact BK342.out) hb); have n1_ := Aside0.mk (below_step (by repeat (first | (with_reducible first | exact HB.out | apply below_alloc | apply pw_below_drewN | apply below_drew1 | refine below_set ?_ GE342.out) | exact HB.out)) hb); clear BK342; clear HB; have BK342 := n0_; have HB := n1_; clear n0_ n1_; (try clear hb); (try clear hb2); (try clear hk); (try clear hi)))
  (try simp only [Act.put, List.setIfInBounds_toArray, List.set_cons_zero, List.set_cons_succ])
  go_cut [36] (fun v36 wc => ∃ (kq : Nat) (x36_6 : Bool), v36 = .bool x36_6 ∧ Aside0 (guichetlaw13_PosBack.j0 kq a1 a2 l3 x36_6 a0_0 a0_1 a0_2 a0_3 = some r) ∧ Aside0 (kq ≤ k) ∧ Aside0 (wc.heap[gb342]? = some (.cells #[.int .u16 a0_0, .int .u32 a0_1, .string a0_2, .int .i64 a0_3] 25 (0, 0))) ∧ Aside0 (Below w.heap.size w wc))
  case first =>
   have H := HC7.out
   clear HC7
   by_cases c10 : (a0_2.size : Int) > 60
   ·rw [if_pos c10] at H
    have c10b0 : decide (60 < (a0_2.size : Int)) = true := decide_eq_true c10
    have c10b1 : decide (60 < a0_2.size) = true := decide_eq_true (by omega)
    clear c10
    (first | rw [c10b0] | (simp only [i64_w, i32_w]; rw [c10b0]) | skip)
    have H' := Aside0.mk H
    clear H
    have hcz11_0 : w9.cell? ⟨gb342, 0, none⟩ = some (.int .u16 a0_0) := (blk_cell BK342.out 0).trans rfl
    have hcz11_1 : w9.cell? ⟨gb342, 1, none⟩ = some (.int .u32 a0_1) := (blk_cell BK342.out 1).trans rfl
    have hcz11_2 : w9.cell? ⟨gb342, 2, none⟩ = some (.string a0_2) := (blk_cell BK342.out 2).trans rfl
    have hcz11_3 : w9.cell? ⟨gb342, 3, none⟩ = some (.int .i64 a0_3) := (blk_cell BK342.out 3).trans rfl
    have hfz11_0 := blk_frozen BK342.out 0
    have hfz11_1 := blk_frozen BK342.out 1
    have hfz11_2 := blk_frozen BK342.out 2
    have hfz11_3 := blk_frozen BK342.out 3
    go_wp2
    go_meet
    case rel => exact ⟨_, (true), (by first | rfl | (simp; done) | (simp [*]; done)), H', ⟨by first | omega | exact Nat.le_refl _⟩, ⟨by (with_reducible repeat (first | refine blk_drewN ?_ _ | refine blk_drew ?_ | refine blk_alloc ?_ _)); exact BK342.out⟩, ⟨by repeat (first | (with_reducible first | exact HB.out | apply below_alloc | apply pw_below_drewN | apply below_drew1 | refine below_set ?_ GE342.out) | exact HB.out)⟩⟩
   ·rw [if_neg c10] at H
    have c10b0 : decide (60 < (a0_2.size : Int)) = false := decide_eq_false c10
    have c10b1 : decide (60 < a0_2.size) = false := decide_eq_false (by omega)
    clear c10
    (first | rw [c10b0] | (simp only [i64_w, i32_w]; rw [c10b0]) | skip)
    have H' := Aside0.mk H
    clear H
    have hcz12_0 : w9.cell? ⟨gb342, 0, none⟩ = some (.int .u16 a0_0) := (blk_cell BK342.out 0).trans rfl
    have hcz12_1 : w9.cell? ⟨gb342, 1, none⟩ = some (.int .u32 a0_1) := (blk_cell BK342.out 1).trans rfl
    have hcz12_2 : w9.cell? ⟨gb342, 2, none⟩ = some (.string a0_2) := (blk_cell BK342.out 2).trans rfl
    have hcz12_3 : w9.cell? ⟨gb342, 3, none⟩ = some (.int .i64 a0_3) := (blk_cell BK342.out 3).trans rfl
    have hfz12_0 := blk_frozen BK342.out 0
    have hfz12_1 := blk_frozen BK342.out 1
    have hfz12_2 := blk_frozen BK342.out 2
    have hfz12_3 := blk_frozen BK342.out 3
    go_wp2
    go_meet
    case rel => exact ⟨_, (decide ((l3.length : Int) > 60)), (by first | rfl | (simp; done) | (simp [*]; done)), H', ⟨by first | omega | exact Nat.le_refl _⟩, ⟨by (with_reducible repeat (first | refine blk_drewN ?_ _ | refine blk_drew ?_ | refine blk_alloc ?_ _)); exact BK342.out⟩, ⟨by repeat (first | (with_reducible first | exact HB.out | apply below_alloc | apply pw_below_drewN | apply below_drew1 | refine below_set ?_ GE342.out) | exact HB.out)⟩⟩
  case rest =>
   clear HC7
   try clear c1
   try clear p2
   try clear c3
   try clear c6
   try clear c10
   try clear c10b0
   try clear c10b1
   try clear hcz11_0
   try clear hcz11_1
   try clear hcz11_2
   try clear hcz11_3
   try clear hcz12_0
   try clear hcz12_1
   try clear hcz12_2
   try clear hcz12_3
   try clear hfz11_0
   try clear hfz11_1
   try clear hfz11_2
   try clear hfz11_3
   try clear hfz12_0
   try clear hfz12_1
   try clear hfz12_2
   try clear hfz12_3
   obtain ⟨kq, x36_6, rfl, HA, HJ6, BK342, HB⟩ := hcut
   cases kq with
   | zero => exact absurd HA.out (by simp [guichetlaw13_PosBack.j0])
   | succ kj6 =>
    have H := HA.out
    clear HA
    simp only [guichetlaw13_PosBack.j0] at H
    by_cases c13 : x36_6 = true
    ·subst c13
     have H1 : (some true) = some r := by rw [if_pos rfl] at H; exact H
     clear H
     have H := H1
     clear H1
     obtain rfl := Option.some.inj H
     go_wp2
     go_ret
     exact ⟨by first | rfl | (simp [errW_none, errW_some] <;> rfl) | (simp [*, errW_none, errW_some] <;> rfl), by repeat (first | (with_reducible first | exact HB.out | apply below_alloc | apply pw_below_drewN | apply below_drew1 | refine below_set ?_ GE342.out) | exact HB.out)⟩
    ·replace c13 := Bool.eq_false_iff.mpr c13
     subst c13
     have H1 : ((guichetseat_Pan.f a1).bind fun t344 => ((some (([(⟨a0_0, a0_1, a0_2, a0_3⟩ : S25), (⟨a0_0, Int.tmod a0_1 1000000, t344, wrap64 ((wrap64 (Int.tmod a2 1000001)) + 1)⟩ : S25)] : List (S25)) : List (S25))).bind fun y346 => (guichetlaw13_PosBack.l0 kj6 l3 y346 (y346.length : Int) 0))) = some r := by rw [if_neg (show ¬ (false = true) by decide)] at H; exact H
     clear H
     have H := H1
     clear H1
     replace H := Option.bind_eq_some_iff.mp H
     obtain ⟨t344, A140, H⟩ := H
     replace H : ((some (([(⟨a0_0, a0_1, a0_2, a0_3⟩ : S25), (⟨a0_0, Int.tmod a0_1 1000000, t344, wrap64 ((wrap64 (Int.tmod a2 1000001)) + 1)⟩ : S25)] : List (S25)) : List (S25))).bind fun y346 => (guichetlaw13_PosBack.l0 kj6 l3 y346 (y346.length : Int) 0)) = some r := H
     have A14 := Aside0.mk A140
     clear A140
     obtain ⟨y346, hy346⟩ : ∃ y_ : List (S25), y_ = (([(⟨a0_0, a0_1, a0_2, a0_3⟩ : S25), (⟨a0_0, Int.tmod a0_1 1000000, t344, wrap64 ((wrap64 (Int.tmod a2 1000001)) + 1)⟩ : S25)] : List (S25))) := ⟨_, rfl⟩
     replace H : (guichetlaw13_PosBack.l0 kj6 l3 y346 (y346.length : Int) 0) = some r := by first | (rw [hy346]; with_reducible exact H) | (have H2_ := (Option.bind_some _ _).symm.trans H; rw [hy346]; with_reducible exact H2_) | (have H2_ := (Option.bind_some _ _).symm.trans H; with_reducible exact H2_) | with_reducible exact H | (rw [hy346]; exact H) | exact H
     have Ny346 := Aside0.mk hy346
     clear hy346
     have H' := Aside0.mk H
     clear H
     try go_wp2
     have n0_ := Aside0.mk (blk_drew BK342.out)
     have n1_ := Aside0.mk (below_drew1 HB.out)
     clear BK342
     clear HB
     have BK342 := n0_
     have HB := n1_
     clear n0_ n1_
     refine start_ (n := 14) (S := fun w' => w'.cell? ⟨gb342, 0, none⟩ = some (.int .u16 a0_0) ∧ w'.cell? ⟨gb342, 1, none⟩ = some (.int .u32 a0_1) ∧ w'.cell? ⟨gb342, 2, none⟩ = some (.string a0_2) ∧ w'.cell? ⟨gb342, 3, none⟩ = some (.int .i64 a0_3)) (ds := []) #[false, false, false, false, false, false, false, false, false, false, false, false, false, false] (by kernel_rfl) rfl rfl ⟨(blk_cell BK342.out 0).trans rfl, (blk_cell BK342.out 1).trans rfl, (blk_cell BK342.out 2).trans rfl, (blk_cell BK342.out 3).trans rfl⟩ (fun hHeld => ?_); refine with_tabW guichetlaw13_PosBack.tab5 guichetlaw13_PosBack.bits5 (fun HT_ HW_ => ?_)
     generalize wc.drew = w15 at BK342 HB hHeld ⊢
     refine pure_ (i := 0) (N := some 37) (v := ?_) (a' := ?_) #[true, false, false, false, false, false, false, false, false, false, false, false, false, false] rfl rfl (any_of HT_.out (by kernel_rfl)) (fun _ _ _ h => h) (Or.inl ⟨by rfl, ?_⟩) ?_ ?_
     rotate_left
     ·intro w'
      go_simp
      with_reducible rfl
     rotate_left
     ·simp only [Act.put, List.setIfInBounds_toArray, List.set_cons_zero, List.set_cons_succ, i64_w, i32_w]
      rfl
     refine pure_ (i := 2) (N := some 39) (v := ?_) (a' := ?_) #[true, false, true, false, false, false, false, false, false, false, false, false, false, false] rfl rfl (any_of HT_.out (by kernel_rfl)) (fun _ _ _ h => h) (Or.inl ⟨by rfl, ?_⟩) ?_ ?_
     rotate_left
     ·intro w'
      go_simp
      with_reducible rfl
     rotate_left
     ·simp only [Act.put, List.setIfInBounds_toArray, List.set_cons_zero, List.set_cons_succ, i64_w, i32_w]
      rfl
     refine pure_ (i := 5) (N := some 42) (v := ?_) (a' := ?_) #[true, false, true, false, false, true, false, false, false, false, false, false, false, false] rfl rfl (any_of HT_.out (by kernel_rfl)) (fun _ _ _ h => h) (Or.inl ⟨by rfl, ?_⟩) ?_ ?_
     rotate_left
     ·intro w'
      go_simp
      with_reducible rfl
     rotate_left
     ·simp only [Act.put, List.setIfInBounds_toArray, List.set_cons_zero, List.set_cons_succ, i64_w, i32_w]
      rfl
     refine pure_ (i := 7) (N := some 44) (v := ?_) (a' := ?_) #[true, false, true, false, false, true, false, true, false, false, false, false, false, false] rfl rfl (any_of HT_.out (by kernel_rfl)) (fun _ _ _ h => h) (Or.inl ⟨by rfl, ?_⟩) ?_ ?_
     rotate_left
     ·intro w'
      go_simp
      with_reducible rfl
     rotate_left
     ·simp only [Act.put, List.setIfInBounds_toArray, List.set_cons_zero, List.set_cons_succ, i64_w, i32_w]
      rfl
     refine pure_ (i := 8) (N := some 45) (v := ?_) (a' := ?_) #[true, false, true, false, false, true, false, true, true, false, false, false, false, false] rfl rfl (any_of HT_.out (by kernel_rfl)) (fun _ _ _ h => h) (Or.inl ⟨by rfl, ?_⟩) ?_ ?_
     rotate_left
     ·intro w'
      go_simp
      with_reducible rfl
     rotate_left
     ·simp only [Act.put, List.setIfInBounds_toArray, List.set_cons_zero, List.set_cons_succ, i64_w, i32_w]
      rfl
     refine pure_ (i := 9) (N := some 46) (v := ?_) (a' := ?_) #[true, false, true, false, false, true, false, true, true, true, false, false, false, false] rfl rfl (any_of HT_.out (by kernel_rfl)) (fun _ _ _ h => h) (Or.inl ⟨by rfl, ?_⟩) ?_ ?_
     rotate_left
     ·intro w'
      go_simp
      with_reducible rfl
     rotate_left
     ·simp only [Act.put, List.setIfInBounds_toArray, List.set_cons_zero, List.set_cons_succ, i64_w, i32_w]
      rfl
     refine pure_ (i := 10) (N := some 47) (v := ?_) (a' := ?_) #[true, false, true, false, false, true, false, true, true, true, true, false, false, false] rfl rfl (any_of HT_.out (by kernel_rfl)) (fun _ _ _ h => h) (Or.inl ⟨by rfl, ?_⟩) ?_ ?_
     rotate_left
     ·intro w'
      go_simp
      with_reducible rfl
     rotate_left
     ·simp only [Act.put, List.setIfInBounds_toArray, List.set_cons_zero, List.set_cons_succ, i64_w, i32_w]
      rfl
     refine take_ (i := 1) (N := some 38) (v := ?_) (a' := ?_) #[true, true, true, false, false, true, false, true, true, true, true, false, false, false] rfl rfl (take_ofW HT_.out HW_.out (by kernel_rfl)) (fun _ _ _ h => h) (Or.inl ⟨by rfl, ?_⟩) hHeld ?_ ?_
     rotate_left
     ·rintro w' ⟨s0, s1, s2, s3⟩
      go_simp
      with_reducible rfl
     rotate_left
     ·simp only [Act.put, List.setIfInBounds_toArray, List.set_cons_zero, List.set_cons_succ, i64_w, i32_w]
      rfl
     refine take_ (i := 3) (N := some 40) (v := ?_) (a' := ?_) #[true, true, true, true, false, true, false, true, true, true, true, false, false, false] rfl rfl (take_ofW HT_.out HW_.out (by kernel_rfl)) (fun _ _ _ h => h) (Or.inl ⟨by rfl, ?_⟩) hHeld ?_ ?_
     rotate_left
     ·rintro w' ⟨s0, s1, s2, s3⟩
      go_simp
      with_reducible rfl
     rotate_left
     ·simp only [Act.put, List.setIfInBounds_toArray, List.set_cons_zero, List.set_cons_succ, i64_w, i32_w]
      rfl
     refine pure_ (i := 4) (N := some 41) (v := ?_) (a' := ?_) #[true, true, true, true, true, true, false, true, true, true, true, false, false, false] rfl rfl (any_of HT_.out (by kernel_rfl)) (fun _ _ _ h => h) (Or.inl ⟨by rfl, ?_⟩) ?_ ?_
     rotate_left
     ·intro w'
      go_simp
      with_reducible rfl
     rotate_left
     ·simp only [Act.put, List.setIfInBounds_toArray, List.set_cons_zero, List.set_cons_succ, i64_w, i32_w]
      rfl
     refine join_ (σ := Nat) 1 #[true, true, true, true, true, true, true, true, true, true, true, true, true, false] (fun s_ => [(43, .string t344), (9, .pointer (some ⟨s_, 0, none⟩)), (48, .agg #[.int .u16 a0_0, .int .u32 (Int.tmod a0_1 1000000), .string t344, .int .i64 (wrap64 ((wrap64 (Int.tmod a2 1000001)) + 1))])]) (fun s_ w' => (w'.cell? ⟨gb342, 0, none⟩ = some (.int .u16 a0_0) ∧ w'.cell? ⟨gb342, 1, none⟩ = some (.int .u32 a0_1) ∧ w'.cell? ⟨gb342, 2, none⟩ = some (.string a0_2) ∧ w'.cell? ⟨gb342, 3, none⟩ = some (.int .i64 a0_3)) ∧ (w'.heap[gb342]? = some (.cells #[.int .u16 a0_0, .int .u32 a0_1, .string a0_2, .int .i64 a0_3] 25 (0, 0))) ∧ (w'.heap[s_]? = some (.cells #[.int .u16 0, .int .u32 0, .string (⟨#[]⟩ : ByteArray), .int .i64 0] 25 (0, 0))) ∧ (w.heap.size ≤ s_) ∧ (w.heap.size ≤ s_) ∧ (gb342 ≠ s_) ∧ (s_ ≠ gb342) ∧ (Below w.heap.size w w')) ?_ ?_
     rotate_left
     ·intro hCont
      refine two_ (i := 6) (j := 12) (Ni := some 43) (Nj := some 9) #[true, true, true, true, true, true, true, true, true, true, true, false, false, false] #[true, true, true, true, true, true, false, true, true, true, true, false, true, false] rfl rfl rfl rfl (two_of HT_.out (by kernel_rfl)) (by decide) (by decide) (fun K hK => ?_) (fun K hK => ?_)
      ·skip
       refine goes_ Tryd.func7 (by kernel_rfl) rfl #[.int .u8 a1] (by rfl) rfl rfl (by (try simp only [List.map_toArray, List.map_cons, List.map_nil]); first | done | rfl | (simp only [List.length_drop, List.length_take]; rfl)) ?_
       with_reducible refine (guichetseat_Pan.calls a1 t344 _ A14.out).mono ?_
       rintro e w16 ⟨rfl, hb⟩
       refine ⟨_, rfl, ?_⟩
       have n0_ := Aside0.mk (blk_below (g := gb342) (o := .cells #[.int .u16 a0_0, .int .u32 a0_1, .string a0_2, .int .i64 a0_3] 25 (0, 0)) (by (with_reducible repeat (first | refine blk_drewN ?_ _ | refine blk_drew ?_ | refine blk_alloc ?_ _)); exact BK342.out) hb)
       have n1_ := Aside0.mk (below_step (by repeat (first | (with_reducible first | exact HB.out | apply below_alloc | apply pw_below_drewN | apply below_drew1 | refine below_set ?_ GE342.out) | exact HB.out)) hb)
       clear BK342
       clear HB
       have BK342 := n0_
       have HB := n1_
       clear n0_ n1_
       (try clear hb)
       (try clear hb2)
       (try clear hk)
       (try clear hi)
       refine hK.out _ _ ⟨(blk_cell BK342.out 0).trans rfl, (blk_cell BK342.out 1).trans rfl, (blk_cell BK342.out 2).trans rfl, (blk_cell BK342.out 3).trans rfl⟩ (fun hHeld => ?_)
       clear hK K
       refine norm_ (a' := ?_) ?_ ?_
       rotate_left
       ·show Act.put _ (some 43) _ = _
        simp only [Act.put, List.setIfInBounds_toArray, List.set_cons_zero, List.set_cons_succ, i64_w, i32_w]
        rfl
       refine pure_ (i := 11) (N := some 48) (v := ?_) (a' := ?_) #[true, true, true, true, true, true, true, true, true, true, true, true, false, false] rfl rfl (any_of HT_.out (by kernel_rfl)) (fun _ _ _ h => h) (Or.inl ⟨by rfl, ?_⟩) ?_ ?_
       rotate_left
       ·intro w'
        go_simp
        with_reducible rfl
       rotate_left
       ·simp only [Act.put, List.setIfInBounds_toArray, List.set_cons_zero, List.set_cons_succ, i64_w, i32_w]
        rfl
       refine one_ (i := 12) (N := some 9) #[true, true, true, true, true, true, true, true, true, true, true, true, true, false] rfl rfl (one_of HT_.out (by kernel_rfl)) (by decide) (fun K hK => ?_)
       refine box_step ?hg (N := 9) ?hd (cs := #[.int .u16 0, .int .u32 0, .string (⟨#[]⟩ : ByteArray), .int .i64 0]) (t := 25) ?hr ?_; (case hd => rfl); (case hg => rfl); (case hr => first | (go_simp; done) | (go_simp; rfl))
       intro gb345 hg w17 hbox hb
       have n0_ := Aside0.mk (blk_below (g := gb342) (o := .cells #[.int .u16 a0_0, .int .u32 a0_1, .string a0_2, .int .i64 a0_3] 25 (0, 0)) (by (with_reducible repeat (first | refine blk_drewN ?_ _ | refine blk_drew ?_ | refine blk_alloc ?_ _)); exact BK342.out) hb)
       have n1_ := Aside0.mk (below_step (by repeat (first | (with_reducible first | exact HB.out | apply below_alloc | apply pw_below_drewN | apply below_drew1 | refine below_set ?_ GE342.out) | exact HB.out)) hb)
       have n2_ := Aside0.mk (hbox)
       have n3_ := Aside0.mk ((by rw [hg]; exact (below_size (by repeat (first | (with_reducible first | exact HB.out | apply below_alloc | apply pw_below_drewN | apply below_drew1 | refine below_set ?_ GE342.out) | exact HB.out))) : w.heap.size ≤ gb345))
       have n4_ := Aside0.mk ((by rw [hg]; exact (below_size (by repeat (first | (with_reducible first | exact HB.out | apply below_alloc | apply pw_below_drewN | apply below_drew1 | refine below_set ?_ GE342.out) | exact HB.out))) : w.heap.size ≤ gb345))
       have n5_ := Aside0.mk ((by rw [hg]; exact Nat.ne_of_lt (blk_lt (g := gb342) (o := .cells #[.int .u16 a0_0, .int .u32 a0_1, .string a0_2, .int .i64 a0_3] 25 (0, 0)) (by (with_reducible repeat (first | refine blk_drewN ?_ _ | refine blk_drew ?_ | refine blk_alloc ?_ _)); exact BK342.out)) : gb342 ≠ gb345))
       have n6_ := Aside0.mk ((by rw [hg]; exact Nat.ne_of_gt (blk_lt (g := gb342) (o := .cells #[.int .u16 a0_0, .int .u32 a0_1, .string a0_2, .int .i64 a0_3] 25 (0, 0)) (by (with_reducible repeat (first | refine blk_drewN ?_ _ | refine blk_drew ?_ | refine blk_alloc ?_ _)); exact BK342.out)) : gb345 ≠ gb342))
       clear BK342
       clear HB
       have BK342 := n0_
       have HB := n1_
       have BK345 := n2_
       have GW345 := n3_
       have GE345 := n4_
       have NB342_345 := n5_
       have NB345_342 := n6_
       clear n0_ n1_ n2_ n3_ n4_ n5_ n6_
       clear hb hbox hg
       refine hK.out _ _ ⟨(blk_cell BK342.out 0).trans rfl, (blk_cell BK342.out 1).trans rfl, (blk_cell BK342.out 2).trans rfl, (blk_cell BK342.out 3).trans rfl⟩ (fun hHeld => ?_)
       clear hK K
       refine norm_ (a' := ?_) ?_ ?_
       rotate_left
       ·show Act.put _ (some 9) _ = _
        simp only [Act.put, List.setIfInBounds_toArray, List.set_cons_zero, List.set_cons_succ, i64_w, i32_w]
        rfl
       exact norm_ (by simp only [putAll, Act.put, List.setIfInBounds_toArray, List.set_cons_zero, List.set_cons_succ, IntKind.wrap_u32]) (hCont (gb345) _ ⟨hHeld, (by (with_reducible repeat (first | refine blk_drewN ?_ _ | refine blk_drew ?_ | refine blk_alloc ?_ _)); exact BK342.out), (by (with_reducible repeat (first | refine blk_drewN ?_ _ | refine blk_drew ?_ | refine blk_alloc ?_ _)); exact BK345.out), GW345.out, GE345.out, NB342_345.out, NB345_342.out, (by repeat (first | (with_reducible first | exact HB.out | apply below_alloc | apply pw_below_drewN | apply below_drew1 | refine below_set ?_ GE342.out | refine below_set ?_ GE345.out) | exact HB.out))⟩)
      ·skip
       refine box_step ?hg (N := 9) ?hd (cs := #[.int .u16 0, .int .u32 0, .string (⟨#[]⟩ : ByteArray), .int .i64 0]) (t := 25) ?hr ?_; (case hd => rfl); (case hg => rfl); (case hr => first | (go_simp; done) | (go_simp; rfl))
       intro gb345 hg w16 hbox hb
       have n0_ := Aside0.mk (blk_below (g := gb342) (o := .cells #[.int .u16 a0_0, .int .u32 a0_1, .string a0_2, .int .i64 a0_3] 25 (0, 0)) (by (with_reducible repeat (first | refine blk_drewN ?_ _ | refine blk_drew ?_ | refine blk_alloc ?_ _)); exact BK342.out) hb)
       have n1_ := Aside0.mk (below_step (by repeat (first | (with_reducible first | exact HB.out | apply below_alloc | apply pw_below_drewN | apply below_drew1 | refine below_set ?_ GE342.out) | exact HB.out)) hb)
       have n2_ := Aside0.mk (hbox)
       have n3_ := Aside0.mk ((by rw [hg]; exact (below_size (by repeat (first | (with_reducible first | exact HB.out | apply below_alloc | apply pw_below_drewN | apply below_drew1 | refine below_set ?_ GE342.out) | exact HB.out))) : w.heap.size ≤ gb345))
       have n4_ := Aside0.mk ((by rw [hg]; exact (below_size (by repeat (first | (with_reducible first | exact HB.out | apply below_alloc | apply pw_below_drewN | apply below_drew1 | refine below_set ?_ GE342.out) | exact HB.out))) : w.heap.size ≤ gb345))
       have n5_ := Aside0.mk ((by rw [hg]; exact Nat.ne_of_lt (blk_lt (g := gb342) (o := .cells #[.int .u16 a0_0, .int .u32 a0_1, .string a0_2, .int .i64 a0_3] 25 (0, 0)) (by (with_reducible repeat (first | refine blk_drewN ?_ _ | refine blk_drew ?_ | refine blk_alloc ?_ _)); exact BK342.out)) : gb342 ≠ gb345))
       have n6_ := Aside0.mk ((by rw [hg]; exact Nat.ne_of_gt (blk_lt (g := gb342) (o := .cells #[.int .u16 a0_0, .int .u32 a0_1, .string a0_2, .int .i64 a0_3] 25 (0, 0)) (by (with_reducible repeat (first | refine blk_drewN ?_ _ | refine blk_drew ?_ | refine blk_alloc ?_ _)); exact BK342.out)) : gb345 ≠ gb342))
       clear BK342
       clear HB
       have BK342 := n0_
       have HB := n1_
       have BK345 := n2_
       have GW345 := n3_
       have GE345 := n4_
       have NB342_345 := n5_
       have NB345_342 := n6_
       clear n0_ n1_ n2_ n3_ n4_ n5_ n6_
       clear hb hbox hg
       refine hK.out _ _ ⟨(blk_cell BK342.out 0).trans rfl, (blk_cell BK342.out 1).trans rfl, (blk_cell BK342.out 2).trans rfl, (blk_cell BK342.out 3).trans rfl⟩ (fun hHeld => ?_)
       clear hK K
       refine norm_ (a' := ?_) ?_ ?_
       rotate_left
       ·show Act.put _ (some 9) _ = _
        simp only [Act.put, List.setIfInBounds_toArray, List.set_cons_zero, List.set_cons_succ, i64_w, i32_w]
        rfl
       refine one_ (i := 6) (N := some 43) #[true, true, true, true, true, true, true, true, true, true, true, false, true, false] rfl rfl (one_of HT_.out (by kernel_rfl)) (by decide) (fun K hK => ?_)
       refine goes_ Tryd.func7 (by kernel_rfl) rfl #[.int .u8 a1] (by rfl) rfl rfl (by (try simp only [List.map_toArray, List.map_cons, List.map_nil]); first | done | rfl | (simp only [List.length_drop, List.length_take]; rfl)) ?_
       with_reducible refine (guichetseat_Pan.calls a1 t344 _ A14.out).mono ?_
       rintro e w17 ⟨rfl, hb⟩
       refine ⟨_, rfl, ?_⟩
       have n0_ := Aside0.mk (blk_below (g := gb342) (o := .cells #[.int .u16 a0_0, .int .u32 a0_1, .string a0_2, .int .i64 a0_3] 25 (0, 0)) (by (with_reducible repeat (first | refine blk_drewN ?_ _ | refine blk_drew ?_ | refine blk_alloc ?_ _)); exact BK342.out) hb)
       have n1_ := Aside0.mk (blk_below (g := gb345) (o := .cells #[.int .u16 0, .int .u32 0, .string (⟨#[]⟩ : ByteArray), .int .i64 0] 25 (0, 0)) (by (with_reducible repeat (first | refine blk_drewN ?_ _ | refine blk_drew ?_ | refine blk_alloc ?_ _)); exact BK345.out) hb)
       have n2_ := Aside0.mk (below_step (by repeat (first | (with_reducible first | exact HB.out | apply below_alloc | apply pw_below_drewN | apply below_drew1 | refine below_set ?_ GE342.out | refine below_set ?_ GE345.out) | exact HB.out)) hb)
       clear BK342
       clear BK345
       clear HB
       have BK342 := n0_
       have BK345 := n1_
       have HB := n2_
       clear n0_ n1_ n2_
       (try clear hb)
       (try clear hb2)
       (try clear hk)
       (try clear hi)
       refine hK.out _ _ ⟨(blk_cell BK342.out 0).trans rfl, (blk_cell BK342.out 1).trans rfl, (blk_cell BK342.out 2).trans rfl, (blk_cell BK342.out 3).trans rfl⟩ (fun hHeld => ?_)
       clear hK K
       refine norm_ (a' := ?_) ?_ ?_
       rotate_left
       ·show Act.put _ (some 43) _ = _
        simp only [Act.put, List.setIfInBounds_toArray, List.set_cons_zero, List.set_cons_succ, i64_w, i32_w]
        rfl
       refine pure_ (i := 11) (N := some 48) (v := ?_) (a' := ?_) #[true, true, true, true, true, true, true, true, true, true, true, true, true, false] rfl rfl (any_of HT_.out (by kernel_rfl)) (fun _ _ _ h => h) (Or.inl ⟨by rfl, ?_⟩) ?_ ?_
       rotate_left
       ·intro w'
        go_simp
        with_reducible rfl
       rotate_left
       ·simp only [Act.put, List.setIfInBounds_toArray, List.set_cons_zero, List.set_cons_succ, i64_w, i32_w]
        rfl
       exact norm_ (by simp only [putAll, Act.put, List.setIfInBounds_toArray, List.set_cons_zero, List.set_cons_succ, IntKind.wrap_u32]) (hCont (gb345) _ ⟨hHeld, (by (with_reducible repeat (first | refine blk_drewN ?_ _ | refine blk_drew ?_ | refine blk_alloc ?_ _)); exact BK342.out), (by (with_reducible repeat (first | refine blk_drewN ?_ _ | refine blk_drew ?_ | refine blk_alloc ?_ _)); exact BK345.out), GW345.out, GE345.out, NB342_345.out, NB345_342.out, (by repeat (first | (with_reducible first | exact HB.out | apply below_alloc | apply pw_below_drewN | apply below_drew1 | refine below_set ?_ GE342.out | refine below_set ?_ GE345.out) | exact HB.out))⟩)
     rintro gb345 w18 ⟨hS_, h0_, h1_, h2_, h3_, h4_, h5_, h6_⟩
     have n0_ : Aside0 (w18.heap[gb342]? = some (.cells #[.int .u16 a0_0, .int .u32 a0_1, .string a0_2, .int .i64 a0_3] 25 (0, 0))) := ⟨h0_⟩
     have n1_ : Aside0 (w18.heap[gb345]? = some (.cells #[.int .u16 0, .int .u32 0, .string (⟨#[]⟩ : ByteArray), .int .i64 0] 25 (0, 0))) := ⟨h1_⟩
     have n2_ : Aside0 (w.heap.size ≤ gb345) := ⟨h2_⟩
     have n3_ : Aside0 (w.heap.size ≤ gb345) := ⟨h3_⟩
     have n4_ : Aside0 (gb342 ≠ gb345) := ⟨h4_⟩
     have n5_ : Aside0 (gb345 ≠ gb342) := ⟨h5_⟩
     have n6_ : Aside0 (Below w.heap.size w w18) := ⟨h6_⟩
     clear BK342
     clear HB
     clear h0_ h1_ h2_ h3_ h4_ h5_ h6_
     have BK342 := n0_
     have BK345 := n1_
     have GW345 := n2_
     have GE345 := n3_
     have NB342_345 := n4_
     have NB345_342 := n5_
     have HB := n6_
     clear n0_ n1_ n2_ n3_ n4_ n5_ n6_
     have hHeld : w18.cell? ⟨gb342, 0, none⟩ = some (.int .u16 a0_0) ∧ w18.cell? ⟨gb342, 1, none⟩ = some (.int .u32 a0_1) ∧ w18.cell? ⟨gb342, 2, none⟩ = some (.string a0_2) ∧ w18.cell? ⟨gb342, 3, none⟩ = some (.int .i64 a0_3) := hS_
     refine norm_ (a' := ?_) ?_ ?_
     rotate_left
     ·simp only [putAll, Act.put, List.setIfInBounds_toArray, List.set_cons_zero, List.set_cons_succ]
      rfl
     refine one_ (i := 13) (N := none) #[true, true, true, true, true, true, true, true, true, true, true, true, true, true] rfl rfl (one_of HT_.out (by kernel_rfl)) (by decide) (fun K hK => ?_)
     have hs19 : w18.cell? ⟨gb345, 0, none⟩ = some (.int .u16 0) := (blk_cell BK345.out 0).trans rfl
     have hfs19 := blk_frozen BK345.out 0
     have hns19_0 := NB342_345.out
     have hms19_0 := NB345_342.out
     have hs20 : w18.cell? ⟨gb345, 1, none⟩ = some (.int .u32 0) := (blk_cell BK345.out 1).trans rfl
     have hfs20 := blk_frozen BK345.out 1
     have hns20_0 := NB342_345.out
     have hms20_0 := NB345_342.out
     have hs21 : w18.cell? ⟨gb345, 2, none⟩ = some (.string (⟨#[]⟩ : ByteArray)) := (blk_cell BK345.out 2).trans rfl
     have hfs21 := blk_frozen BK345.out 2
     have hns21_0 := NB342_345.out
     have hms21_0 := NB345_342.out
     have hs22 : w18.cell? ⟨gb345, 3, none⟩ = some (.int .i64 0) := (blk_cell BK345.out 3).trans rfl
     have hfs22 := blk_frozen BK345.out 3
     have hns22_0 := NB342_345.out
     have hms22_0 := NB345_342.out
     refine skip_ (w1 := ?_) (by rfl) rfl ?_ ?_
     rotate_left
     ·go_simp
      rfl
     refine hK.out _ _ ⟨((cell_far (p := ⟨gb345, _, none⟩) NB342_345.out _).trans (((cell_far (p := ⟨gb345, _, none⟩) NB342_345.out _).trans (((cell_far (p := ⟨gb345, _, none⟩) NB342_345.out _).trans (((cell_far (p := ⟨gb345, _, none⟩) NB342_345.out _).trans (hHeld.1)))))))), ((cell_far (p := ⟨gb345, _, none⟩) NB342_345.out _).trans (((cell_far (p := ⟨gb345, _, none⟩) NB342_345.out _).trans (((cell_far (p := ⟨gb345, _, none⟩) NB342_345.out _).trans (((cell_far (p := ⟨gb345, _, none⟩) NB342_345.out _).trans (hHeld.2.1)))))))), ((cell_far (p := ⟨gb345, _, none⟩) NB342_345.out _).trans (((cell_far (p := ⟨gb345, _, none⟩) NB342_345.out _).trans (((cell_far (p := ⟨gb345, _, none⟩) NB342_345.out _).trans (((cell_far (p := ⟨gb345, _, none⟩) NB342_345.out _).trans (hHeld.2.2.1)))))))), ((cell_far (p := ⟨gb345, _, none⟩) NB342_345.out _).trans (((cell_far (p := ⟨gb345, _, none⟩) NB342_345.out _).trans (((cell_far (p := ⟨gb345, _, none⟩) NB342_345.out _).trans (((cell_far (p := ⟨gb345, _, none⟩) NB342_345.out _).trans (hHeld.2.2.2))))))))⟩ (fun hHeld => ?_)
     clear hK K
     refine done_ (done_of HT_.out (by kernel_rfl)) ?_
     have hnb23 := NB342_345.out
     have hnc23 := NB345_342.out
     have hcz24_0 : w18.cell? ⟨gb342, 0, none⟩ = some (.int .u16 a0_0) := (blk_cell BK342.out 0).trans rfl
     have hcz24_1 : w18.cell? ⟨gb342, 1, none⟩ = some (.int .u32 a0_1) := (blk_cell BK342.out 1).trans rfl
     have hcz24_2 : w18.cell? ⟨gb342, 2, none⟩ = some (.string a0_2) := (blk_cell BK342.out 2).trans rfl
     have hcz24_3 : w18.cell? ⟨gb342, 3, none⟩ = some (.int .i64 a0_3) := (blk_cell BK342.out 3).trans rfl
     have hfz24_0 := blk_frozen BK342.out 0
     have hfz24_1 := blk_frozen BK342.out 1
     have hfz24_2 := blk_frozen BK342.out 2
     have hfz24_3 := blk_frozen BK342.out 3
     have hcz25_0 : w18.cell? ⟨gb345, 0, none⟩ = some (.int .u16 0) := (blk_cell BK345.out 0).trans rfl
     have hcz25_1 : w18.cell? ⟨gb345, 1, none⟩ = some (.int .u32 0) := (blk_cell BK345.out 1).trans rfl
     have hcz25_2 : w18.cell? ⟨gb345, 2, none⟩ = some (.string (⟨#[]⟩ : ByteArray)) := (blk_cell BK345.out 2).trans rfl
     have hcz25_3 : w18.cell? ⟨gb345, 3, none⟩ = some (.int .i64 0) := (blk_cell BK345.out 3).trans rfl
     have hfz25_0 := blk_frozen BK345.out 0
     have hfz25_1 := blk_frozen BK345.out 1
     have hfz25_2 := blk_frozen BK345.out 2
     have hfz25_3 := blk_frozen BK345.out 3
     try go_wp2_with (first | ((with_reducible refine gate_dst (N := 51) rfl ?_); (try (refine gate_guard (by rfl) ?_; dsimp only)); refine Kd.R_lit k25 _ 25 ?hg (N := 51) ?hd (xs := ([(⟨a0_0, a0_1, a0_2, a0_3⟩ : S25), (⟨a0_0, Int.tmod a0_1 1000000, t344, wrap64 ((wrap64 (Int.tmod a2 1000001)) + 1)⟩ : S25)] : List (S25))) (inner := [.int .u16 a0_0, .int .u32 a0_1, .string a0_2, .int .i64 a0_3, .int .u16 a0_0, .int .u32 (Int.tmod a0_1 1000000), .string t344, .int .i64 (wrap64 ((wrap64 (Int.tmod a2 1000001)) + 1))]) (ok := fun _ => True) (okp := fun _ => True) ?hr ?hp (fun _ hk => hk) trivial (Below.refl _ _) (Nat.le_refl _) (by simp) ?_; (case hd => rfl); (case hg => rfl); (case hr => first | (go_simp; done) | (go_simp; rfl)); (case hp => exact (Reps.c4 (show Kd.M k25 _ _ _ (⟨a0_0, a0_1, a0_2, a0_3⟩ : S25) [.int .u16 a0_0, .int .u32 a0_1, .string a0_2, .int .i64 a0_3] from (k25_mkM _ _ _ (⟨a0_0, a0_1, a0_2, a0_3⟩ : S25) )) (Reps.c4 (show Kd.M k25 _ _ _ (⟨a0_0, Int.tmod a0_1 1000000, t344, wrap64 ((wrap64 (Int.tmod a2 1000001)) + 1)⟩ : S25) [.int .u16 a0_0, .int .u32 (Int.tmod a0_1 1000000), .string t344, .int .i64 (wrap64 ((wrap64 (Int.tmod a2 1000001)) + 1))] from (k25_mkM _ _ _ (⟨a0_0, Int.tmod a0_1 1000000, t344, wrap64 ((wrap64 (Int.tmod a2 1000001)) + 1)⟩ : S25) )) (Reps.none _ _)))); intro v347 w26 ho27 hb hg_ hnew_; clear hg_ hnew_; (first | rw [← Ny346.out] at ho27 | (simp only [Int.reduceToNat] at ho27; rw [← Ny346.out] at ho27)); have n0_ := Aside0.mk (Kd.R_lower (Kd.R_newB (Kd.R_newB ho27 (g := gb342) (o := .cells #[.int .u16 a0_0, .int .u32 a0_1, .string a0_2, .int .i64 a0_3] 25 (0, 0)) (by (with_reducible repeat (first | refine blk_drewN ?_ _ | refine blk_drew ?_ | refine blk_alloc ?_ _)); refine blk_far ?_ NB342_345.out _; (with_reducible repeat (first | refine blk_drewN ?_ _ | refine blk_drew ?_ | refine blk_alloc ?_ _)); refine blk_far ?_ NB342_345.out _; (with_reducible repeat (first | refine blk_drewN ?_ _ | refine blk_drew ?_ | refine blk_alloc ?_ _)); refine blk_far ?_ NB342_345.out _; (with_reducible repeat (first | refine blk_drewN ?_ _ | refine blk_drew ?_ | refine blk_alloc ?_ _)); refine blk_far ?_ NB342_345.out _; (with_reducible repeat (first | refine blk_drewN ?_ _ | refine blk_drew ?_ | refine blk_alloc ?_ _)); exact BK342.out)) (g := gb345) (o := .cells #[.int .u16 a0_0, .int .u32 (Int.tmod a0_1 1000000), .string t344, .int .i64 (wrap64 ((wrap64 (Int.tmod a2 1000001)) + 1))] 25 (0, 0)) (by (with_reducible repeat (first | refine blk_drewN ?_ _ | refine blk_drew ?_ | refine blk_alloc ?_ _)); refine blk_put (cs := #[.int .u16 a0_0, .int .u32 (Int.tmod a0_1 1000000), .string t344, .int .i64 0]) ?_ 3 _ rfl; (with_reducible repeat (first | refine blk_drewN ?_ _ | refine blk_drew ?_ | refine blk_alloc ?_ _)); refine blk_put (cs := #[.int .u16 a0_0, .int .u32 (Int.tmod a0_1 1000000), .string (⟨#[]⟩ : ByteArray), .int .i64 0]) ?_ 2 _ rfl; (with_reducible repeat (first | refine blk_drewN ?_ _ | refine blk_drew ?_ | refine blk_alloc ?_ _)); refine blk_put (cs := #[.int .u16 a0_0, .int .u32 0, .string (⟨#[]⟩ : ByteArray), .int .i64 0]) ?_ 1 _ rfl; (with_reducible repeat (first | refine blk_drewN ?_ _ | refine blk_drew ?_ | refine blk_alloc ?_ _)); refine blk_put (cs := #[.int .u16 0, .int .u32 0, .string (⟨#[]⟩ : ByteArray), .int .i64 0]) ?_ 0 _ rfl; (with_reducible repeat (first | refine blk_drewN ?_ _ | refine blk_drew ?_ | refine blk_alloc ?_ _)); exact BK345.out)) (below_size (by repeat (first | (with_reducible first | exact HB.out | apply below_alloc | apply pw_below_drewN | apply below_drew1 | refine below_set ?_ GE342.out | refine below_set ?_ GE345.out) | exact HB.out)))); have n1_ := Aside0.mk (blk_below (g := gb342) (o := .cells #[.int .u16 a0_0, .int .u32 a0_1, .string a0_2, .int .i64 a0_3] 25 (0, 0)) (by (with_reducible repeat (first | refine blk_drewN ?_ _ | refine blk_drew ?_ | refine blk_alloc ?_ _)); refine blk_far ?_ NB342_345.out _; (with_reducible repeat (first | refine blk_drewN ?_ _ | refine blk_drew ?_ | refine blk_alloc ?_ _)); refine blk_far ?_ NB342_345.out _; (with_reducible repeat (first | refine blk_drewN ?_ _ | refine blk_drew ?_ | refine blk_alloc ?_ _)); refine blk_far ?_ NB342_345.out _; (with_reducible repeat (first | refine blk_drewN ?_ _ | refine blk_drew ?_ | refine blk_alloc ?_ _)); refine blk_far ?_ NB342_345.out _; (with_reducible repeat (first | refine blk_drewN ?_ _ | refine blk_drew ?_ | refine blk_alloc ?_ _)); exact BK342.out) hb); have n2_ := Aside0.mk (blk_below (g := gb345) (o := .cells #[.int .u16 a0_0, .int .u32 (Int.tmod a0_1 1000000), .string t344, .int .i64 (wrap64 ((wrap64 (Int.tmod a2 1000001)) + 1))] 25 (0, 0)) (by (with_reducible repeat (first | refine blk_drewN ?_ _ | refine blk_drew ?_ | refine blk_alloc ?_ _)); refine blk_put (cs := #[.int .u16 a0_0, .int .u32 (Int.tmod a0_1 1000000), .string t344, .int .i64 0]) ?_ 3 _ rfl; (with_reducible repeat (first | refine blk_drewN ?_ _ | refine blk_drew ?_ | refine blk_alloc ?_ _)); refine blk_put (cs := #[.int .u16 a0_0, .int .u32 (Int.tmod a0_1 1000000), .string (⟨#[]⟩ : ByteArray), .int .i64 0]) ?_ 2 _ rfl; (with_reducible repeat (first | refine blk_drewN ?_ _ | refine blk_drew ?_ | refine blk_alloc ?_ _)); refine blk_put (cs := #[.int .u16 a0_0, .int .u32 0, .string (⟨#[]⟩ : ByteArray), .int .i64 0]) ?_ 1 _ rfl; (with_reducible repeat (first | refine blk_drewN ?_ _ | refine blk_drew ?_ | refine blk_alloc ?_ _)); refine blk_put (cs := #[.int .u16 0, .int .u32 0, .string (⟨#[]⟩ : ByteArray), .int .i64 0]) ?_ 0 _ rfl; (with_reducible repeat (first | refine blk_drewN ?_ _ | refine blk_drew ?_ | refine blk_alloc ?_ _)); exact BK345.out) hb); have n3_ := Aside0.mk (below_step (by repeat (first | (with_reducible first | exact HB.out | apply below_alloc | apply pw_below_drewN | apply below_drew1 | refine below_set ?_ GE342.out | refine below_set ?_ GE345.out) | exact HB.out)) hb); clear BK342; clear BK345; clear HB; have HO348 := n0_; have BK342 := n1_; have BK345 := n2_; have HB := n3_; clear n0_ n1_ n2_ n3_; clear hb ho27; obtain ⟨Ao28, co28, eo28⟩ := Kd.R_slice HO348.out; subst eo28))
     go_loopg [53] kj6 (fun kq v53 w' => ∃ (x53_2 : Int), v53 = .int .i64 x53_2 ∧ Aside0 (guichetlaw13_PosBack.l0 kq l3 y346 (y346.length : Int) x53_2 = some r) ∧ Aside0 (kq ≤ kj6) ∧ Aside0 (Kd.R k25 25 w' w.heap.size (fun k_ => k_ ≠ gb342 ∧ k_ ≠ gb345) (.slice Ao28 y346.length co28) y346) ∧ Aside0 (w'.heap[gb342]? = some (.cells #[.int .u16 a0_0, .int .u32 a0_1, .string a0_2, .int .i64 a0_3] 25 (0, 0))) ∧ Aside0 (w'.heap[gb345]? = some (.cells #[.int .u16 a0_0, .int .u32 (Int.tmod a0_1 1000000), .string t344, .int .i64 (wrap64 ((wrap64 (Int.tmod a2 1000001)) + 1))] 25 (0, 0))) ∧ Aside0 (Below w.heap.size w w'))
     case atStart => exact ⟨(0), (by first | rfl | (simp; done) | (simp [*]; done)), H', ⟨Nat.le_refl _⟩, ⟨by (with_reducible repeat (first | apply Kd.R_alloc | apply Kd.R_drewN | apply Kd.R_drew)); exact Kd.R_mono HO348.out (fun _ hk => ⟨hk.1.2, hk.2⟩)⟩, ⟨by (with_reducible repeat (first | refine blk_drewN ?_ _ | refine blk_drew ?_ | refine blk_alloc ?_ _)); exact BK342.out⟩, ⟨by (with_reducible repeat (first | refine blk_drewN ?_ _ | refine blk_drew ?_ | refine blk_alloc ?_ _)); exact BK345.out⟩, ⟨by repeat (first | (with_reducible first | exact HB.out | apply below_alloc | apply pw_below_drewN | apply below_drew1 | refine below_set ?_ GE342.out | refine below_set ?_ GE345.out) | exact HB.out)⟩⟩
     case round =>
      clear H'
      try clear c1
      try clear c2
      try clear p2
      try clear c3
      try clear c4
      try clear c6
      try clear p6
      try clear c7
      try clear c10
      try clear c10b0
      try clear c10b1
      try clear c13
      try clear c23
      try clear hcz11_0
      try clear hcz11_1
      try clear hcz11_2
      try clear hcz11_3
      try clear hcz12_0
      try clear hcz12_1
      try clear hcz12_2
      try clear hcz12_3
      try clear hcz24_0
      try clear hcz24_1
      try clear hcz24_2
      try clear hcz24_3
      try clear hcz25_0
      try clear hcz25_1
      try clear hcz25_2
      try clear hcz25_3
      try clear hfz11_0
      try clear hfz11_1
      try clear hfz11_2
      try clear hfz11_3
      try clear hfz12_0
      try clear hfz12_1
      try clear hfz12_2
      try clear hfz12_3
      try clear hfz24_0
      try clear hfz24_1
      try clear hfz24_2
      try clear hfz24_3
      try clear hfz25_0
      try clear hfz25_1
      try clear hfz25_2
      try clear hfz25_3
      try clear p2
      obtain ⟨x53_2, rfl, HA, HK2, HO_51, BK342, BK345, HB⟩ := hrel
      cases gk with
      | zero => exact absurd HA.out (by simp [guichetlaw13_PosBack.l0])
      | succ k2 =>
       have H := HA.out
       clear HA
       simp only [guichetlaw13_PosBack.l0] at H
       by_cases c29 : x53_2 < (y346.length : Int)
       ·rw [if_pos c29] at H
        have c29b0 : decide (x53_2 < (y346.length : Int)) = true := decide_eq_true c29
        clear c29
        by_cases c30 : 0 ≤ x53_2
        ·rw [if_pos c30] at H
         have c30b0 : decide (0 ≤ x53_2) = true := decide_eq_true c30
         clear c30
         by_cases c31 : x53_2 < (y346.length : Int)
         ·rw [if_pos c31] at H
          have c31b0 : decide (x53_2 < (y346.length : Int)) = true := decide_eq_true c31
          clear c31
          replace H := Option.bind_eq_some_iff.mp H
          obtain ⟨⟨t351, t354⟩, A320, H⟩ := H
          replace H : ((guichetref12_PosPut.f k2 ((rd_T25 y346 x53_2).f0) ((rd_T25 y346 x53_2).f1) ((rd_T25 y346 x53_2).f2) ((rd_T25 y346 x53_2).f3)).bind fun bt355 => (if (strOfNums t351).toList = (strOfNums bt355.1).toList then (if t354 = bt355.2 then ((pos_Right.f k2 ((rd_T25 y346 x53_2).f0) ((rd_T25 y346 x53_2).f1) ((rd_T25 y346 x53_2).f2) ((rd_T25 y346 x53_2).f3)).bind fun t359 => ((guichetref12_PosRight.f k2 ((rd_T25 y346 x53_2).f0) ((rd_T25 y346 x53_2).f1) ((rd_T25 y346 x53_2).f2) ((rd_T25 y346 x53_2).f3)).bind fun t360 => (guichetlaw13_PosBack.j2 k2 l3 t351 bt355.2 y346 (y346.length : Int) x53_2 (t359 != t360) ((rd_T25 y346 x53_2).f0) ((rd_T25 y346 x53_2).f1) ((rd_T25 y346 x53_2).f2) ((rd_T25 y346 x53_2).f3)))) else (guichetlaw13_PosBack.j2 k2 l3 t351 bt355.2 y346 (y346.length : Int) x53_2 true ((rd_T25 y346 x53_2).f0) ((rd_T25 y346 x53_2).f1) ((rd_T25 y346 x53_2).f2) ((rd_T25 y346 x53_2).f3))) else (guichetlaw13_PosBack.j2 k2 l3 t351 bt355.2 y346 (y346.length : Int) x53_2 true ((rd_T25 y346 x53_2).f0) ((rd_T25 y346 x53_2).f1) ((rd_T25 y346 x53_2).f2) ((rd_T25 y346 x53_2).f3)))) = some r := H
          have A32 := Aside0.mk A320
          clear A320
          replace H := Option.bind_eq_some_iff.mp H
          obtain ⟨⟨t355, t358⟩, A330, H⟩ := H
          replace H : (if (strOfNums t351).toList = (strOfNums t355).toList then (if t354 = t358 then ((pos_Right.f k2 ((rd_T25 y346 x53_2).f0) ((rd_T25 y346 x53_2).f1) ((rd_T25 y346 x53_2).f2) ((rd_T25 y346 x53_2).f3)).bind fun t359 => ((guichetref12_PosRight.f k2 ((rd_T25 y346 x53_2).f0) ((rd_T25 y346 x53_2).f1) ((rd_T25 y346 x53_2).f2) ((rd_T25 y346 x53_2).f3)).bind fun t360 => (guichetlaw13_PosBack.j2 k2 l3 t351 t358 y346 (y346.length : Int) x53_2 (t359 != t360) ((rd_T25 y346 x53_2).f0) ((rd_T25 y346 x53_2).f1) ((rd_T25 y346 x53_2).f2) ((rd_T25 y346 x53_2).f3)))) else (guichetlaw13_PosBack.j2 k2 l3 t351 t358 y346 (y346.length : Int) x53_2 true ((rd_T25 y346 x53_2).f0) ((rd_T25 y346 x53_2).f1) ((rd_T25 y346 x53_2).f2) ((rd_T25 y346 x53_2).f3))) else (guichetlaw13_PosBack.j2 k2 l3 t351 t358 y346 (y346.length : Int) x53_2 true ((rd_T25 y346 x53_2).f0) ((rd_T25 y346 x53_2).f1) ((rd_T25 y346 x53_2).f2) ((rd_T25 y346 x53_2).f3))) = some r := H
          have A33 := Aside0.mk A330
          clear A330
          have HC34 := Aside0.mk H
          clear H
          have p349 : 0 ≤ (x53_2 : Int) := of_decide_eq_true (by first | (with_reducible assumption) | assumption)
          have q349 : x53_2 < (y346.length : Int) := of_decide_eq_true (by first | (with_reducible assumption) | assumption)
          obtain ⟨ad349, e349, hx349_0, hx349_1, hx349_2, hx349_3⟩ := at_T25 (Kd.R_reads' HO_51.out).2.2 x53_2 p349 q349
          cases e349
          replace p349 := eq_true p349
          replace q349 := eq_true q349
          go_upto_region 11 with (first | ((with_reducible refine gate_dst (N := 11) rfl ?_); (try (refine gate_guard (by rfl) ?_; dsimp only)); refine box_event ?hg (N := 11) ?hd (cs := #[.int .u16 0, .int .u32 0, .string (⟨#[]⟩ : ByteArray), .int .i64 0]) (t := 25) ?hr ?_; (case hd => rfl); (case hg => rfl); (case hr => first | (go_simp; done) | (go_simp; rfl)); intro gb350 hg w35 hbox hb; have n0_ := Aside0.mk (Kd.R_below (Kd.R_elderB (by (with_reducible repeat (first | apply Kd.R_alloc | apply Kd.R_drewN | apply Kd.R_drew)); exact HO_51.out) gb350 (Nat.le_of_eq hg.symm)) hb); have n1_ := Aside0.mk (blk_below (g := gb342) (o := .cells #[.int .u16 a0_0, .int .u32 a0_1, .string a0_2, .int .i64 a0_3] 25 (0, 0)) (by (with_reducible repeat (first | refine blk_drewN ?_ _ | refine blk_drew ?_ | refine blk_alloc ?_ _)); exact BK342.out) hb); have n2_ := Aside0.mk (blk_below (g := gb345) (o := .cells #[.int .u16 a0_0, .int .u32 (Int.tmod a0_1 1000000), .string t344, .int .i64 (wrap64 ((wrap64 (Int.tmod a2 1000001)) + 1))] 25 (0, 0)) (by (with_reducible repeat (first | refine blk_drewN ?_ _ | refine blk_drew ?_ | refine blk_alloc ?_ _)); exact BK345.out) hb); have n3_ := Aside0.mk (below_step (by repeat (first | (with_reducible first | exact HB.out | apply below_alloc | apply pw_below_drewN | apply below_drew1 | refine below_set ?_ GE342.out | refine below_set ?_ GE345.out) | exact HB.out)) hb); have n4_ := Aside0.mk (hbox); have n5_ := Aside0.mk ((by rw [hg]; exact (below_size (by repeat (first | (with_reducible first | exact HB.out | apply below_alloc | apply pw_below_drewN | apply below_drew1 | refine below_set ?_ GE342.out | refine below_set ?_ GE345.out) | exact HB.out))) : w.heap.size ≤ gb350)); have n6_ := Aside0.mk ((by rw [hg]; exact (below_size (by repeat (first | (with_reducible first | exact HB.out | apply below_alloc | apply pw_below_drewN | apply below_drew1 | refine below_set ?_ GE342.out | refine below_set ?_ GE345.out) | exact HB.out))) : w.heap.size ≤ gb350)); have n7_ := Aside0.mk ((by rw [hg]; exact Nat.ne_of_lt (blk_lt (g := gb342) (o := .cells #[.int .u16 a0_0, .int .u32 a0_1, .string a0_2, .int .i64 a0_3] 25 (0, 0)) (by (with_reducible repeat (first | refine blk_drewN ?_ _ | refine blk_drew ?_ | refine blk_alloc ?_ _)); exact BK342.out)) : gb342 ≠ gb350)); have n8_ := Aside0.mk ((by rw [hg]; exact Nat.ne_of_gt (blk_lt (g := gb342) (o := .cells #[.int .u16 a0_0, .int .u32 a0_1, .string a0_2, .int .i64 a0_3] 25 (0, 0)) (by (with_reducible repeat (first | refine blk_drewN ?_ _ | refine blk_drew ?_ | refine blk_alloc ?_ _)); exact BK342.out)) : gb350 ≠ gb342)); have n9_ := Aside0.mk ((by rw [hg]; exact Nat.ne_of_lt (blk_lt (g := gb345) (o := .cells #[.int .u16 a0_0, .int .u32 (Int.tmod a0_1 1000000), .string t344, .int .i64 (wrap64 ((wrap64 (Int.tmod a2 1000001)) + 1))] 25 (0, 0)) (by (with_reducible repeat (first | refine blk_drewN ?_ _ | refine blk_drew ?_ | refine blk_alloc ?_ _)); exact BK345.out)) : gb345 ≠ gb350)); have n10_ := Aside0.mk ((by rw [hg]; exact Nat.ne_of_gt (blk_lt (g := gb345) (o := .cells #[.int .u16 a0_0, .int .u32 (Int.tmod a0_1 1000000), .string t344, .int .i64 (wrap64 ((wrap64 (Int.tmod a2 1000001)) + 1))] 25 (0, 0)) (by (with_reducible repeat (first | refine blk_drewN ?_ _ | refine blk_drew ?_ | refine blk_alloc ?_ _)); exact BK345.out)) : gb350 ≠ gb345)); clear HO_51; clear BK342; clear BK345; clear HB; have HO_51 := n0_; have BK342 := n1_; have BK345 := n2_; have HB := n3_; have BK350 := n4_; have GW350 := n5_; have GE350 := n6_; have NB342_350 := n7_; have NB350_342 := n8_; have NB345_350 := n9_; have NB350_345 := n10_; clear n0_ n1_ n2_ n3_ n4_ n5_ n6_ n7_ n8_ n9_ n10_; clear hb hbox hg; have hnb36 := NB350_342.out; have hnc36 := NB342_350.out; have hnb37 := NB350_345.out; have hnc37 := NB345_350.out; have hcz38_0 : w35.cell? ⟨gb350, 0, none⟩ = some (.int .u16 0) := (blk_cell BK350.out 0).trans rfl; have hcz38_1 : w35.cell? ⟨gb350, 1, none⟩ = some (.int .u32 0) := (blk_cell BK350.out 1).trans rfl; have hcz38_2 : w35.cell? ⟨gb350, 2, none⟩ = some (.string (⟨#[]⟩ : ByteArray)) := (blk_cell BK350.out 2).trans rfl; have hcz38_3 : w35.cell? ⟨gb350, 3, none⟩ = some (.int .i64 0) := (blk_cell BK350.out 3).trans rfl; have hfz38_0 := blk_frozen BK350.out 0; have hfz38_1 := blk_frozen BK350.out 1; have hfz38_2 := blk_frozen BK350.out 2; have hfz38_3 := blk_frozen BK350.out 3) | ((with_reducible refine gate_callee (f := 8) rfl ?_); refine goesL_ (some 59) rfl rfl Tryd.func8 (by kernel_rfl) rfl #[.agg #[.int .u16 ((rd_T25 y346 x53_2).f0), .int .u32 ((rd_T25 y346 x53_2).f1), .string ((rd_T25 y346 x53_2).f2), .int .i64 ((rd_T25 y346 x53_2).f3)]] rfl (by (try simp only [List.map_toArray, List.map_cons, List.map_nil]); first | done | rfl | (simp only [List.length_drop, List.length_take]; rfl) | (rw [hsame_])) ?_; (with_reducible refine (pos_Put.calls k2 ((rd_T25 y346 x53_2).f0) ((rd_T25 y346 x53_2).f1) ((rd_T25 y346 x53_2).f2) ((rd_T25 y346 x53_2).f3) t351 t354 _ ?side1 A32.out).mono ?_); (case side1 => exact tab_at HT.out (by repeat (first | (with_reducible first | exact HB.out | apply below_alloc | apply pw_below_drewN | apply below_drew1 | refine below_set ?_ GE342.out | refine below_set ?_ GE345.out | refine below_set ?_ GE350.out) | exact HB.out))); rintro e w39 ⟨v352, rfl, ho0, hb⟩; refine ⟨_, rfl, ?_⟩; have n0_ := Aside0.mk (Kd.R_below (by (with_reducible repeat (first | apply Kd.R_alloc | apply Kd.R_drewN | apply Kd.R_drew)); exact (Kd.R_mono (Kd.R_far (p := ⟨gb350, 3, none⟩) (Kd.R_far (p := ⟨gb350, 2, none⟩) (Kd.R_far (p := ⟨gb350, 1, none⟩) (Kd.R_far (p := ⟨gb350, 0, none⟩) (Kd.R_mono HO_51.out (fun k_ hk => (⟨hk, hk.2⟩ : _ ∧ k_ ≠ gb350))) (fun _ hk => hk.2) (.int .u16 ((rd_T25 y346 x53_2).f0))) (fun _ hk => hk.2) (.int .u32 ((rd_T25 y346 x53_2).f1))) (fun _ hk => hk.2) (.string ((rd_T25 y346 x53_2).f2))) (fun _ hk => hk.2) (.int .i64 ((rd_T25 y346 x53_2).f3))) (fun _ h_ => h_.1))) hb); have n1_ := Aside0.mk (Kd.R_lower ho0 (below_size (by repeat (first | (with_reducible first | exact HB.out | apply below_alloc | apply pw_below_drewN | apply below_drew1 | refine below_set ?_ GE342.out | refine below_set ?_ GE345.out | refine below_set ?_ GE350.out) | exact HB.out)))); have n2_ := Aside0.mk (blk_below (g := gb342) (o := .cells #[.int .u16 a0_0, .int .u32 a0_1, .string a0_2, .int .i64 a0_3] 25 (0, 0)) (by (with_reducible repeat (first | refine blk_drewN ?_ _ | refine blk_drew ?_ | refine blk_alloc ?_ _)); refine blk_far ?_ NB342_350.out _; (with_reducible repeat (first | refine blk_drewN ?_ _ | refine blk_drew ?_ | refine blk_alloc ?_ _)); refine blk_far ?_ NB342_350.out _; (with_reducible repeat (first | refine blk_drewN ?_ _ | refine blk_drew ?_ | refine blk_alloc ?_ _)); refine blk_far ?_ NB342_350.out _; (with_reducible repeat (first | refine blk_drewN ?_ _ | refine blk_drew ?_ | refine blk_alloc ?_ _)); refine blk_far ?_ NB342_350.out _; (with_reducible repeat (first | refine blk_drewN ?_ _ | refine blk_drew ?_ | refine blk_alloc ?_ _)); exact BK342.out) hb); have n3_ := Aside0.mk (blk_below (g := gb345) (o := .cells #[.int .u16 a0_0, .int .u32 (Int.tmod a0_1 1000000), .string t344, .int .i64 (wrap64 ((wrap64 (Int.tmod a2 1000001)) + 1))] 25 (0, 0)) (by (with_reducible repeat (first | refine blk_drewN ?_ _ | refine blk_drew ?_ | refine blk_alloc ?_ _)); refine blk_far ?_ NB345_350.out _; (with_reducible repeat (first | refine blk_drewN ?_ _ | refine blk_drew ?_ | refine blk_alloc ?_ _)); refine blk_far ?_ NB345_350.out _; (with_reducible repeat (first | refine blk_drewN ?_ _ | refine blk_drew ?_ | refine blk_alloc ?_ _)); refine blk_far ?_ NB345_350.out _; (with_reducible repeat (first | refine blk_drewN ?_ _ | refine blk_drew ?_ | refine blk_alloc ?_ _)); refine blk_far ?_ NB345_350.out _; (with_reducible repeat (first | refine blk_drewN ?_ _ | refine blk_drew ?_ | refine blk_alloc ?_ _)); exact BK345.out) hb); have n4_ := Aside0.mk (blk_below (g := gb350) (o := .cells #[.int .u16 ((rd_T25 y346 x53_2).f0), .int .u32 ((rd_T25 y346 x53_2).f1), .string ((rd_T25 y346 x53_2).f2), .int .i64 ((rd_T25 y346 x53_2).f3)] 25 (0, 0)) (by (with_reducible repeat (first | refine blk_drewN ?_ _ | refine blk_drew ?_ | refine blk_alloc ?_ _)); refine blk_put (cs := #[.int .u16 ((rd_T25 y346 x53_2).f0), .int .u32 ((rd_T25 y346 x53_2).f1), .string ((rd_T25 y346 x53_2).f2), .int .i64 0]) ?_ 3 _ rfl; (with_reducible repeat (first | refine blk_drewN ?_ _ | refine blk_drew ?_ | refine blk_alloc ?_ _)); refine blk_put (cs := #[.int .u16 ((rd_T25 y346 x53_2).f0), .int .u32 ((rd_T25 y346 x53_2).f1), .string (⟨#[]⟩ : ByteArray), .int .i64 0]) ?_ 2 _ rfl; (with_reducible repeat (first | refine blk_drewN ?_ _ | refine blk_drew ?_ | refine blk_alloc ?_ _)); refine blk_put (cs := #[.int .u16 ((rd_T25 y346 x53_2).f0), .int .u32 0, .string (⟨#[]⟩ : ByteArray), .int .i64 0]) ?_ 1 _ rfl; (with_reducible repeat (first | refine blk_drewN ?_ _ | refine blk_drew ?_ | refine blk_alloc ?_ _)); refine blk_put (cs := #[.int .u16 0, .int .u32 0, .string (⟨#[]⟩ : ByteArray), .int .i64 0]) ?_ 0 _ rfl; (with_reducible repeat (first | refine blk_drewN ?_ _ | refine blk_drew ?_ | refine blk_alloc ?_ _)); exact BK350.out) hb); have n5_ := Aside0.mk (below_step (by repeat (first | (with_reducible first | exact HB.out | apply below_alloc | apply pw_below_drewN | apply below_drew1 | refine below_set ?_ GE342.out | refine below_set ?_ GE345.out | refine below_set ?_ GE350.out) | exact HB.out)) hb); clear HO_51; clear BK342; clear BK345; clear BK350; clear HB; have HO_51 := n0_; have HO353 := n1_; have BK342 := n2_; have BK345 := n3_; have BK350 := n4_; have HB := n5_; clear n0_ n1_ n2_ n3_ n4_ n5_; (try clear hb); (try clear hb2); (try clear hk); (try clear hi); (try clear ho0); have hcz40_0 : w39.cell? ⟨gb350, 0, none⟩ = some (.int .u16 ((rd_T25 y346 x53_2).f0)) := (blk_cell BK350.out 0).trans rfl; have hcz40_1 : w39.cell? ⟨gb350, 1, none⟩ = some (.int .u32 ((rd_T25 y346 x53_2).f1)) := (blk_cell BK350.out 1).trans rfl; have hcz40_2 : w39.cell? ⟨gb350, 2, none⟩ = some (.string ((rd_T25 y346 x53_2).f2)) := (blk_cell BK350.out 2).trans rfl; have hcz40_3 : w39.cell? ⟨gb350, 3, none⟩ = some (.int .i64 ((rd_T25 y346 x53_2).f3)) := (blk_cell BK350.out 3).trans rfl; have hfz40_0 := blk_frozen BK350.out 0; have hfz40_1 := blk_frozen BK350.out 1; have hfz40_2 := blk_frozen BK350.out 2; have hfz40_3 := blk_frozen BK350.out 3) | ((with_reducible refine gate_callee (f := 9) rfl ?_); refine goesL_ (some 64) rfl rfl Tryd.func9 (by kernel_rfl) rfl #[.agg #[.int .u16 ((rd_T25 y346 x53_2).f0), .int .u32 ((rd_T25 y346 x53_2).f1), .string ((rd_T25 y346 x53_2).f2), .int .i64 ((rd_T25 y346 x53_2).f3)]] rfl (by (try simp only [List.map_toArray, List.map_cons, List.map_nil]); first | done | rfl | (simp only [List.length_drop, List.length_take]; rfl) | (rw [hsame_])) ?_; (with_reducible refine (guichetref12_PosPut.calls k2 ((rd_T25 y346 x53_2).f0) ((rd_T25 y346 x53_2).f1) ((rd_T25 y346 x53_2).f2) ((rd_T25 y346 x53_2).f3) t355 t358 _ A33.out).mono ?_); rintro e w41 ⟨v356, rfl, ho0, hb⟩; refine ⟨_, rfl, ?_⟩; have n0_ := Aside0.mk (Kd.R_below (by (with_reducible repeat (first | apply Kd.R_alloc | apply Kd.R_drewN | apply Kd.R_drew)); exact HO_51.out) hb); have n1_ := Aside0.mk (Kd.R_elder' (by (with_reducible repeat (first | apply Kd.R_alloc | apply Kd.R_drewN | apply Kd.R_drew)); exact HO353.out) (Kd.R_base ho0) hb); have n2_ := Aside0.mk (Kd.R_lower (Kd.R_new' ho0 (Kd.R_lt (by (with_reducible repeat (first | apply Kd.R_alloc | apply Kd.R_drewN | apply Kd.R_drew)); exact HO353.out))) (below_size (by repeat (first | (with_reducible first | exact HB.out | apply below_alloc | apply pw_below_drewN | apply below_drew1 | refine below_set ?_ GE342.out | refine below_set ?_ GE345.out | refine below_set ?_ GE350.out) | exact HB.out)))); have n3_ := Aside0.mk (blk_below (g := gb342) (o := .cells #[.int .u16 a0_0, .int .u32 a0_1, .string a0_2, .int .i64 a0_3] 25 (0, 0)) (by (with_reducible repeat (first | refine blk_drewN ?_ _ | refine blk_drew ?_ | refine blk_alloc ?_ _)); exact BK342.out) hb); have n4_ := Aside0.mk (blk_below (g := gb345) (o := .cells #[.int .u16 a0_0, .int .u32 (Int.tmod a0_1 1000000), .string t344, .int .i64 (wrap64 ((wrap64 (Int.tmod a2 1000001)) + 1))] 25 (0, 0)) (by (with_reducible repeat (first | refine blk_drewN ?_ _ | refine blk_drew ?_ | refine blk_alloc ?_ _)); exact BK345.out) hb); have n5_ := Aside0.mk (blk_below (g := gb350) (o := .cells #[.int .u16 ((rd_T25 y346 x53_2).f0), .int .u32 ((rd_T25 y346 x53_2).f1), .string ((rd_T25 y346 x53_2).f2), .int .i64 ((rd_T25 y346 x53_2).f3)] 25 (0, 0)) (by (with_reducible repeat (first | refine blk_drewN ?_ _ | refine blk_drew ?_ | refine blk_alloc ?_ _)); exact BK350.out) hb); have n6_ := Aside0.mk (below_step (by repeat (first | (with_reducible first | exact HB.out | apply below_alloc | apply pw_below_drewN | apply below_drew1 | refine below_set ?_ GE342.out | refine below_set ?_ GE345.out | refine below_set ?_ GE350.out) | exact HB.out)) hb); clear HO_51; clear HO353; clear BK342; clear BK345; clear BK350; clear HB; have HO_51 := n0_; have HO353 := n1_; have HO357 := n2_; have BK342 := n3_; have BK345 := n4_; have BK350 := n5_; have HB := n6_; clear n0_ n1_ n2_ n3_ n4_ n5_ n6_; (try clear hb); (try clear hb2); (try clear hk); (try clear hi); (try clear ho0)))
          (try simp only [Act.put, List.setIfInBounds_toArray, List.set_cons_zero, List.set_cons_succ])
          go_cut [83] (fun v83 wc => ∃ (kq : Nat) (x83_33 : Bool), v83 = .bool x83_33 ∧ Aside0 (guichetlaw13_PosBack.j2 kq l3 t351 t358 y346 (y346.length : Int) x53_2 x83_33 ((rd_T25 y346 x53_2).f0) ((rd_T25 y346 x53_2).f1) ((rd_T25 y346 x53_2).f2) ((rd_T25 y346 x53_2).f3) = some r) ∧ Aside0 (kq ≤ k2) ∧ Aside0 (Kd.R (Kd.int .u8) 5 wc w.heap.size (fun _ => True) v352 t351) ∧ Aside0 (Kd.R k25 25 wc w.heap.size (fun k_ => k_ ≠ gb342 ∧ k_ ≠ gb345 ∧ k_ ≠ gb350) (.slice (some ad349) y346.length co28) y346) ∧ Aside0 (wc.heap[gb342]? = some (.cells #[.int .u16 a0_0, .int .u32 a0_1, .string a0_2, .int .i64 a0_3] 25 (0, 0))) ∧ Aside0 (wc.heap[gb345]? = some (.cells #[.int .u16 a0_0, .int .u32 (Int.tmod a0_1 1000000), .string t344, .int .i64 (wrap64 ((wrap64 (Int.tmod a2 1000001)) + 1))] 25 (0, 0))) ∧ Aside0 (wc.heap[gb350]? = some (.cells #[.int .u16 ((rd_T25 y346 x53_2).f0), .int .u32 ((rd_T25 y346 x53_2).f1), .string ((rd_T25 y346 x53_2).f2), .int .i64 ((rd_T25 y346 x53_2).f3)] 25 (0, 0))) ∧ Aside0 (Below w.heap.size w wc))
          case first =>
           have H := HC34.out
           clear HC34
           by_cases c42 : (strOfNums t351).toList = (strOfNums t355).toList
           ·rw [if_pos c42] at H
            have c42b0 : ((strOfNums t351).toList == (strOfNums t355).toList) = true := beq_iff_eq.mpr c42
            have c42b1 : ((strOfNums t351).toList != (strOfNums t355).toList) = false := bne_eq_false_iff_eq.mpr c42
            clear c42
            (first | rw [c42b0] | (simp only [i64_w, i32_w]; rw [c42b0]) | skip)
            by_cases c43 : t354 = t358
            ·rw [if_pos c43] at H
             have c43b0 : (t354 == t358) = true := beq_iff_eq.mpr c43
             have c43b1 : (t354 != t358) = false := bne_eq_false_iff_eq.mpr c43
             clear c43
             replace H := Option.bind_eq_some_iff.mp H
             obtain ⟨t359, A440, H⟩ := H
             replace H : ((guichetref12_PosRight.f k2 ((rd_T25 y346 x53_2).f0) ((rd_T25 y346 x53_2).f1) ((rd_T25 y346 x53_2).f2) ((rd_T25 y346 x53_2).f3)).bind fun t360 => (guichetlaw13_PosBack.j2 k2 l3 t351 t358 y346 (y346.length : Int) x53_2 (t359 != t360) ((rd_T25 y346 x53_2).f0) ((rd_T25 y346 x53_2).f1) ((rd_T25 y346 x53_2).f2) ((rd_T25 y346 x53_2).f3))) = some r := H
             have A44 := Aside0.mk A440
             clear A440
             replace H := Option.bind_eq_some_iff.mp H
             obtain ⟨t360, A450, H⟩ := H
             replace H : (guichetlaw13_PosBack.j2 k2 l3 t351 t358 y346 (y346.length : Int) x53_2 (t359 != t360) ((rd_T25 y346 x53_2).f0) ((rd_T25 y346 x53_2).f1) ((rd_T25 y346 x53_2).f2) ((rd_T25 y346 x53_2).f3)) = some r := H
             have A45 := Aside0.mk A450
             clear A450
             have H' := Aside0.mk H
             clear H
             try go_wp2
             have n0_ := Aside0.mk (Kd.R_drew HO_51.out)
             have n1_ := Aside0.mk (Kd.R_drew HO353.out)
             have n2_ := Aside0.mk (Kd.R_drew HO357.out)
             have n3_ := Aside0.mk (blk_drew BK342.out)
             have n4_ := Aside0.mk (blk_drew BK345.out)
             have n5_ := Aside0.mk (blk_drew BK350.out)
             have n6_ := Aside0.mk (below_drew1 HB.out)
             clear HO_51
             clear HO353
             clear HO357
             clear BK342
             clear BK345
             clear BK350
             clear HB
             have HO_51 := n0_
             have HO353 := n1_
             have HO357 := n2_
             have BK342 := n3_
             have BK345 := n4_
             have BK350 := n5_
             have HB := n6_
             clear n0_ n1_ n2_ n3_ n4_ n5_ n6_
             have hcv47 : (convert 26 9 (v352)).run Tryd.prog _ = .ok (.string (strOfNums t351)) _ := own_string (P := Tryd.prog) Tryd.underlying26 Tryd.underlying5 Tryd.underlying9 (Kd.own_of_R HO353.out)
             have hcv48 : (convert 26 9 (v356)).run Tryd.prog _ = .ok (.string (strOfNums t355)) _ := own_string (P := Tryd.prog) Tryd.underlying26 Tryd.underlying5 Tryd.underlying9 (Kd.own_of_R HO357.out)
             refine start_ (n := 17) (S := fun w' => w'.cell? ⟨gb350, 0, none⟩ = some (.int .u16 ((rd_T25 y346 x53_2).f0)) ∧ w'.cell? ⟨gb350, 1, none⟩ = some (.int .u32 ((rd_T25 y346 x53_2).f1)) ∧ w'.cell? ⟨gb350, 2, none⟩ = some (.string ((rd_T25 y346 x53_2).f2)) ∧ w'.cell? ⟨gb350, 3, none⟩ = some (.int .i64 ((rd_T25 y346 x53_2).f3)) ∧ (convert 26 9 (v352)).run Tryd.prog w' = .ok (.string (strOfNums t351)) w' ∧ (convert 26 9 (v356)).run Tryd.prog w' = .ok (.string (strOfNums t355)) w') (ds := []) #[false, false, false, false, false, false, false, false, false, false, false, false, false, false, false, false, false] (by kernel_rfl) rfl rfl ⟨(blk_cell BK350.out 0).trans rfl, (blk_cell BK350.out 1).trans rfl, (blk_cell BK350.out 2).trans rfl, (blk_cell BK350.out 3).trans rfl, hcv47, hcv48⟩ (fun hHeld => ?_); refine with_tabW guichetlaw13_PosBack.tab11 guichetlaw13_PosBack.bits11 (fun HT_ HW_ => ?_)
             generalize w41.drew = w46 at HO_51 HO353 HO357 BK342 BK345 BK350 HB hHeld ⊢
             refine take_ (i := 0) (N := some 67) (v := ?_) (a' := ?_) #[true, false, false, false, false, false, false, false, false, false, false, false, false, false, false, false, false] rfl rfl (take_ofW HT_.out HW_.out (by kernel_rfl)) (fun _ _ _ h => h) (Or.inl ⟨by rfl, ?_⟩) hHeld ?_ ?_
             rotate_left
             ·rintro w' ⟨s0, s1, s2, s3, s4, s5⟩
              go_simp
              with_reducible rfl
             rotate_left
             ·simp only [Act.put, List.setIfInBounds_toArray, List.set_cons_zero, List.set_cons_succ, i64_w, i32_w]
              rfl
             refine take_ (i := 1) (N := some 68) (v := ?_) (a' := ?_) #[true, true, false, false, false, false, false, false, false, false, false, false, false, false, false, false, false] rfl rfl (take_ofW HT_.out HW_.out (by kernel_rfl)) (fun _ _ _ h => h) (Or.inl ⟨by rfl, ?_⟩) hHeld ?_ ?_
             rotate_left
             ·rintro w' ⟨s0, s1, s2, s3, s4, s5⟩
              go_simp
              with_reducible rfl
             rotate_left
             ·simp only [Act.put, List.setIfInBounds_toArray, List.set_cons_zero, List.set_cons_succ, i64_w, i32_w]
              rfl
             refine take_ (i := 2) (N := some 69) (v := ?_) (a' := ?_) #[true, true, true, false, false, false, false, false, false, false, false, false, false, false, false, false, false] rfl rfl (take_ofW HT_.out HW_.out (by kernel_rfl)) (fun _ _ _ h => h) (Or.inl ⟨by rfl, ?_⟩) hHeld ?_ ?_
             rotate_left
             ·rintro w' ⟨s0, s1, s2, s3, s4, s5⟩
              go_simp
              with_reducible rfl
             rotate_left
             ·simp only [Act.put, List.setIfInBounds_toArray, List.set_cons_zero, List.set_cons_succ, i64_w, i32_w]
              rfl
             refine take_ (i := 3) (N := some 70) (v := ?_) (a' := ?_) #[true, true, true, true, false, false, false, false, false, false, false, false, false, false, false, false, false] rfl rfl (take_ofW HT_.out HW_.out (by kernel_rfl)) (fun _ _ _ h => h) (Or.inl ⟨by rfl, ?_⟩) hHeld ?_ ?_
             rotate_left
             ·rintro w' ⟨s0, s1, s2, s3, s4, s5⟩
              go_simp
              with_reducible rfl
             rotate_left
             ·simp only [Act.put, List.setIfInBounds_toArray, List.set_cons_zero, List.set_cons_succ, i64_w, i32_w]
              rfl
             refine take_ (i := 4) (N := some 71) (v := ?_) (a' := ?_) #[true, true, true, true, true, false, false, false, false, false, false, false, false, false, false, false, false] rfl rfl (take_ofW HT_.out HW_.out (by kernel_rfl)) (fun _ _ _ h => h) (Or.inl ⟨by rfl, ?_⟩) hHeld ?_ ?_
             rotate_left
             ·rintro w' ⟨s0, s1, s2, s3, s4, s5⟩
              go_simp
              with_reducible rfl
             rotate_left
             ·simp only [Act.put, List.setIfInBounds_toArray, List.set_cons_zero, List.set_cons_succ, i64_w, i32_w]
              rfl
             refine take_ (i := 5) (N := some 72) (v := ?_) (a' := ?_) #[true, true, true, true, true, true, false, false, false, false, false, false, false, false, false, false, false] rfl rfl (take_ofW HT_.out HW_.out (by kernel_rfl)) (fun _ _ _ h => h) (Or.inl ⟨by rfl, ?_⟩) hHeld ?_ ?_
             rotate_left
             ·rintro w' ⟨s0, s1, s2, s3, s4, s5⟩
              go_simp
              with_reducible rfl
             rotate_left
             ·simp only [Act.put, List.setIfInBounds_toArray, List.set_cons_zero, List.set_cons_succ, i64_w, i32_w]
              rfl
             refine take_ (i := 6) (N := some 73) (v := ?_) (a' := ?_) #[true, true, true, true, true, true, true, false, false, false, false, false, false, false, false, false, false] rfl rfl (take_ofW HT_.out HW_.out (by kernel_rfl)) (fun _ _ _ h => h) (Or.inl ⟨by rfl, ?_⟩) hHeld ?_ ?_
             rotate_left
             ·rintro w' ⟨s0, s1, s2, s3, s4, s5⟩
              go_simp
              with_reducible rfl
             rotate_left
             ·simp only [Act.put, List.setIfInBounds_toArray, List.set_cons_zero, List.set_cons_succ, i64_w, i32_w]
              rfl
             refine take_ (i := 7) (N := some 74) (v := ?_) (a' := ?_) #[true, true, true, true, true, true, true, true, false, false, false, false, false, false, false, false, false] rfl rfl (take_ofW HT_.out HW_.out (by kernel_rfl)) (fun _ _ _ h => h) (Or.inl ⟨by rfl, ?_⟩) hHeld ?_ ?_
             rotate_left
             ·rintro w' ⟨s0, s1, s2, s3, s4, s5⟩
              go_simp
              with_reducible rfl
             rotate_left
             ·simp only [Act.put, List.setIfInBounds_toArray, List.set_cons_zero, List.set_cons_succ, i64_w, i32_w]
              rfl
             refine take_ (i := 8) (N := some 75) (v := ?_) (a' := ?_) #[true, true, true, true, true, true, true, true, true, false, false, false, false, false, false, false, false] rfl rfl (take_ofW HT_.out HW_.out (by kernel_rfl)) (fun _ _ _ h => h) (Or.inl ⟨by rfl, ?_⟩) hHeld ?_ ?_
             rotate_left
             ·rintro w' ⟨s0, s1, s2, s3, s4, s5⟩
              go_simp
              with_reducible rfl
             rotate_left
             ·simp only [Act.put, List.setIfInBounds_toArray, List.set_cons_zero, List.set_cons_succ, i64_w, i32_w]
              rfl
             refine take_ (i := 9) (N := some 76) (v := ?_) (a' := ?_) #[true, true, true, true, true, true, true, true, true, true, false, false, false, false, false, false, false] rfl rfl (take_ofW HT_.out HW_.out (by kernel_rfl)) (fun _ _ _ h => h) (Or.inl ⟨by rfl, ?_⟩) hHeld ?_ ?_
             rotate_left
             ·rintro w' ⟨s0, s1, s2, s3, s4, s5⟩
              go_simp
              with_reducible rfl
             rotate_left
             ·simp only [Act.put, List.setIfInBounds_toArray, List.set_cons_zero, List.set_cons_succ, i64_w, i32_w]
              rfl
             refine take_ (i := 10) (N := some 77) (v := ?_) (a' := ?_) #[true, true, true, true, true, true, true, true, true, true, true, false, false, false, false, false, false] rfl rfl (take_ofW HT_.out HW_.out (by kernel_rfl)) (fun _ _ _ h => h) (Or.inl ⟨by rfl, ?_⟩) hHeld ?_ ?_
             rotate_left
             ·rintro w' ⟨s0, s1, s2, s3, s4, s5⟩
              go_simp
              with_reducible rfl
             rotate_left
             ·simp only [Act.put, List.setIfInBounds_toArray, List.set_cons_zero, List.set_cons_succ, i64_w, i32_w]
              rfl
             refine take_ (i := 11) (N := some 78) (v := ?_) (a' := ?_) #[true, true, true, true, true, true, true, true, true, true, true, true, false, false, false, false, false] rfl rfl (take_ofW HT_.out HW_.out (by kernel_rfl)) (fun _ _ _ h => h) (Or.inl ⟨by rfl, ?_⟩) hHeld ?_ ?_
             rotate_left
             ·rintro w' ⟨s0, s1, s2, s3, s4, s5⟩
              go_simp
              with_reducible rfl
             rotate_left
             ·simp only [Act.put, List.setIfInBounds_toArray, List.set_cons_zero, List.set_cons_succ, i64_w, i32_w]
              rfl
             refine take_ (i := 13) (N := some 80) (v := ?_) (a' := ?_) #[true, true, true, true, true, true, true, true, true, true, true, true, false, true, false, false, false] rfl rfl (take_ofW HT_.out HW_.out (by kernel_rfl)) (fun _ _ _ h => h) (Or.inl ⟨by rfl, ?_⟩) hHeld ?_ ?_
             rotate_left
             ·rintro w' ⟨s0, s1, s2, s3, s4, s5⟩
              go_simp
              with_reducible rfl
             rotate_left
             ·simp only [Act.put, List.setIfInBounds_toArray, List.set_cons_zero, List.set_cons_succ, i64_w, i32_w]
              rfl
             refine one_ (i := 12) (N := some 79) #[true, true, true, true, true, true, true, true, true, true, true, true, true, true, false, false, false] rfl rfl (one_of HT_.out (by kernel_rfl)) (by decide) (fun K hK => ?_)
             refine goes_ Tryd.func10 (by kernel_rfl) rfl #[.agg #[.int .u16 ((rd_T25 y346 x53_2).f0), .int .u32 ((rd_T25 y346 x53_2).f1), .string ((rd_T25 y346 x53_2).f2), .int .i64 ((rd_T25 y346 x53_2).f3)]] (by rfl) rfl rfl (by (try simp only [List.map_toArray, List.map_cons, List.map_nil]); first | done | rfl | (simp only [List.length_drop, List.length_take]; rfl)) ?_
             with_reducible refine (pos_Right.calls k2 ((rd_T25 y346 x53_2).f0) ((rd_T25 y346 x53_2).f1) ((rd_T25 y346 x53_2).f2) ((rd_T25 y346 x53_2).f3) t359 _ A44.out).mono ?_
             rintro e w50 ⟨rfl, hb⟩
             refine ⟨_, rfl, ?_⟩
             have n0_ := Aside0.mk (Kd.R_below (by (with_reducible repeat (first | apply Kd.R_alloc | apply Kd.R_drewN | apply Kd.R_drew)); exact HO_51.out) hb)
             have n1_ := Aside0.mk (Kd.R_below (by (with_reducible repeat (first | apply Kd.R_alloc | apply Kd.R_drewN | apply Kd.R_drew)); exact HO353.out) hb)
             have n2_ := Aside0.mk (Kd.R_below (by (with_reducible repeat (first | apply Kd.R_alloc | apply Kd.R_drewN | apply Kd.R_drew)); exact HO357.out) hb)
             have n3_ := Aside0.mk (blk_below (g := gb342) (o := .cells #[.int .u16 a0_0, .int .u32 a0_1, .string a0_2, .int .i64 a0_3] 25 (0, 0)) (by (with_reducible repeat (first | refine blk_drewN ?_ _ | refine blk_drew ?_ | refine blk_alloc ?_ _)); exact BK342.out) hb)
             have n4_ := Aside0.mk (blk_below (g := gb345) (o := .cells #[.int .u16 a0_0, .int .u32 (Int.tmod a0_1 1000000), .string t344, .int .i64 (wrap64 ((wrap64 (Int.tmod a2 1000001)) + 1))] 25 (0, 0)) (by (with_reducible repeat (first | refine blk_drewN ?_ _ | refine blk_drew ?_ | refine blk_alloc ?_ _)); exact BK345.out) hb)
             have n5_ := Aside0.mk (blk_below (g := gb350) (o := .cells #[.int .u16 ((rd_T25 y346 x53_2).f0), .int .u32 ((rd_T25 y346 x53_2).f1), .string ((rd_T25 y346 x53_2).f2), .int .i64 ((rd_T25 y346 x53_2).f3)] 25 (0, 0)) (by (with_reducible repeat (first | refine blk_drewN ?_ _ | refine blk_drew ?_ | refine blk_alloc ?_ _)); exact BK350.out) hb)
             have n6_ := Aside0.mk (below_step (by repeat (first | (with_reducible first | exact HB.out | apply below_alloc | apply pw_below_drewN | apply below_drew1 | refine below_set ?_ GE342.out | refine below_set ?_ GE345.out | refine below_set ?_ GE350.out) | exact HB.out)) hb)
             clear HO_51
             clear HO353
             clear HO357
             clear BK342
             clear BK345
             clear BK350
             clear HB
             have HO_51 := n0_
             have HO353 := n1_
             have HO357 := n2_
             have BK342 := n3_
             have BK345 := n4_
             have BK350 := n5_
             have HB := n6_
             clear n0_ n1_ n2_ n3_ n4_ n5_ n6_
             (try clear hb)
             (try clear hb2)
             (try clear hk)
             (try clear hi)
             refine hK.out _ _ ⟨(blk_cell BK350.out 0).trans rfl, (blk_cell BK350.out 1).trans rfl, (blk_cell BK350.out 2).trans rfl, (blk_cell BK350.out 3).trans rfl, (own_string (P := Tryd.prog) Tryd.underlying26 Tryd.underlying5 Tryd.underlying9 (Kd.own_of_R HO353.out)), (own_string (P := Tryd.prog) Tryd.underlying26 Tryd.underlying5 Tryd.underlying9 (Kd.own_of_R HO357.out))⟩ (fun hHeld => ?_)
             clear hK K
             refine norm_ (a' := ?_) ?_ ?_
             rotate_left
             ·show Act.put _ (some 79) _ = _
              simp only [Act.put, List.setIfInBounds_toArray, List.set_cons_zero, List.set_cons_succ, i64_w, i32_w]
              rfl
             refine one_ (i := 14) (N := some 81) #[true, true, true, true, true, true, true, true, true, true, true, true, true, true, true, false, false] rfl rfl (one_of HT_.out (by kernel_rfl)) (by decide) (fun K hK => ?_)
             refine goes_ Tryd.func11 (by kernel_rfl) rfl #[.agg #[.int .u16 ((rd_T25 y346 x53_2).f0), .int .u32 ((rd_T25 y346 x53_2).f1), .string ((rd_T25 y346 x53_2).f2), .int .i64 ((rd_T25 y346 x53_2).f3)]] (by rfl) rfl rfl (by (try simp only [List.map_toArray, List.map_cons, List.map_nil]); first | done | rfl | (simp only [List.length_drop, List.length_take]; rfl)) ?_
             with_reducible refine (guichetref12_PosRight.calls k2 ((rd_T25 y346 x53_2).f0) ((rd_T25 y346 x53_2).f1) ((rd_T25 y346 x53_2).f2) ((rd_T25 y346 x53_2).f3) t360 _ A45.out).mono ?_
             rintro e w51 ⟨rfl, hb⟩
             refine ⟨_, rfl, ?_⟩
             have n0_ := Aside0.mk (Kd.R_below (by (with_reducible repeat (first | apply Kd.R_alloc | apply Kd.R_drewN | apply Kd.R_drew)); exact HO_51.out) hb)
             have n1_ := Aside0.mk (Kd.R_below (by (with_reducible repeat (first | apply Kd.R_alloc | apply Kd.R_drewN | apply Kd.R_drew)); exact HO353.out) hb)
             have n2_ := Aside0.mk (Kd.R_below (by (with_reducible repeat (first | apply Kd.R_alloc | apply Kd.R_drewN | apply Kd.R_drew)); exact HO357.out) hb)
             have n3_ := Aside0.mk (blk_below (g := gb342) (o := .cells #[.int .u16 a0_0, .int .u32 a0_1, .string a0_2, .int .i64 a0_3] 25 (0, 0)) (by (with_reducible repeat (first | refine blk_drewN ?_ _ | refine blk_drew ?_ | refine blk_alloc ?_ _)); exact BK342.out) hb)
             have n4_ := Aside0.mk (blk_below (g := gb345) (o := .cells #[.int .u16 a0_0, .int .u32 (Int.tmod a0_1 1000000), .string t344, .int .i64 (wrap64 ((wrap64 (Int.tmod a2 1000001)) + 1))] 25 (0, 0)) (by (with_reducible repeat (first | refine blk_drewN ?_ _ | refine blk_drew ?_ | refine blk_alloc ?_ _)); exact BK345.out) hb)
             have n5_ := Aside0.mk (blk_below (g := gb350) (o := .cells #[.int .u16 ((rd_T25 y346 x53_2).f0), .int .u32 ((rd_T25 y346 x53_2).f1), .string ((rd_T25 y346 x53_2).f2), .int .i64 ((rd_T25 y346 x53_2).f3)] 25 (0, 0)) (by (with_reducible repeat (first | refine blk_drewN ?_ _ | refine blk_drew ?_ | refine blk_alloc ?_ _)); exact BK350.out) hb)
             have n6_ := Aside0.mk (below_step (by repeat (first | (with_reducible first | exact HB.out | apply below_alloc | apply pw_below_drewN | apply below_drew1 | refine below_set ?_ GE342.out | refine below_set ?_ GE345.out | refine below_set ?_ GE350.out) | exact HB.out)) hb)
             clear HO_51
             clear HO353
             clear HO357
             clear BK342
             clear BK345
             clear BK350
             clear HB
             have HO_51 := n0_
             have HO353 := n1_
             have HO357 := n2_
             have BK342 := n3_
             have BK345 := n4_
             have BK350 := n5_
             have HB := n6_
             clear n0_ n1_ n2_ n3_ n4_ n5_ n6_
             (try clear hb)
             (try clear hb2)
             (try clear hk)
             (try clear hi)
             refine hK.out _ _ ⟨(blk_cell BK350.out 0).trans rfl, (blk_cell BK350.out 1).trans rfl, (blk_cell BK350.out 2).trans rfl, (blk_cell BK350.out 3).trans rfl, (own_string (P := Tryd.prog) Tryd.underlying26 Tryd.underlying5 Tryd.underlying9 (Kd.own_of_R HO353.out)), (own_string (P := Tryd.prog) Tryd.underlying26 Tryd.underlying5 Tryd.underlying9 (Kd.own_of_R HO357.out))⟩ (fun hHeld => ?_)
             clear hK K
             refine norm_ (a' := ?_) ?_ ?_
             rotate_left
             ·show Act.put _ (some 81) _ = _
              simp only [Act.put, List.setIfInBounds_toArray, List.set_cons_zero, List.set_cons_succ, i64_w, i32_w]
              rfl
             refine take_ (i := 15) (N := some 82) (v := ?_) (a' := ?_) #[true, true, true, true, true, true, true, true, true, true, true, true, true, true, true, true, false] rfl rfl (take_ofW HT_.out HW_.out (by kernel_rfl)) (fun _ _ _ h => h) (Or.inl ⟨by rfl, ?_⟩) hHeld ?_ ?_
             rotate_left
             ·rintro w' ⟨s0, s1, s2, s3, s4, s5⟩
              go_simp
              with_reducible rfl
             rotate_left
             ·simp only [Act.put, List.setIfInBounds_toArray, List.set_cons_zero, List.set_cons_succ, i64_w, i32_w]
              rfl
             refine take_ (i := 16) (N := some 83) (v := ?_) (a' := ?_) #[true, true, true, true, true, true, true, true, true, true, true, true, true, true, true, true, true] rfl rfl (take_ofW HT_.out HW_.out (by kernel_rfl)) (fun _ _ _ h => h) (Or.inl ⟨by rfl, ?_⟩) hHeld ?_ ?_
             rotate_left
             ·rintro w' ⟨s0, s1, s2, s3, s4, s5⟩
              go_simp
              with_reducible rfl
             rotate_left
             ·simp only [Act.put, List.setIfInBounds_toArray, List.set_cons_zero, List.set_cons_succ, i64_w, i32_w]
              rfl
             refine done_ (done_of HT_.out (by kernel_rfl)) ?_
             try go_wp2
             go_meet
             case rel => exact ⟨_, ((t359 != t360)), (by first | rfl | (simp; done) | (simp [*]; done)), H', ⟨by have := HJ6.out; have := HK2.out; first | omega | exact Nat.le_refl _⟩, ⟨by (with_reducible repeat (first | apply Kd.R_alloc | apply Kd.R_drewN | apply Kd.R_drew)); exact Kd.R_mono HO353.out (fun _ hk => trivial)⟩, ⟨by (with_reducible repeat (first | apply Kd.R_alloc | apply Kd.R_drewN | apply Kd.R_drew)); first | exact HO_51.out | exact Kd.R_mono HO_51.out (fun _ hk_ => by omega)⟩, ⟨by (with_reducible repeat (first | refine blk_drewN ?_ _ | refine blk_drew ?_ | refine blk_alloc ?_ _)); exact BK342.out⟩, ⟨by (with_reducible repeat (first | refine blk_drewN ?_ _ | refine blk_drew ?_ | refine blk_alloc ?_ _)); exact BK345.out⟩, ⟨by (with_reducible repeat (first | refine blk_drewN ?_ _ | refine blk_drew ?_ | refine blk_alloc ?_ _)); exact BK350.out⟩, ⟨by repeat (first | (with_reducible first | exact HB.out | apply below_alloc | apply pw_below_drewN | apply below_drew1 | refine below_set ?_ GE342.out | refine below_set ?_ GE345.out | refine below_set ?_ GE350.out) | exact HB.out)⟩⟩
            ·rw [if_neg c43] at H
             have c43b0 : (t354 == t358) = false := beq_eq_false_iff_ne.mpr c43
             have c43b1 : (t354 != t358) = true := bne_iff_ne.mpr c43
             have H' := Aside0.mk H
             clear H
             try go_wp2
             have n0_ := Aside0.mk (Kd.R_drew HO_51.out)
             have n1_ := Aside0.mk (Kd.R_drew HO353.out)
             have n2_ := Aside0.mk (Kd.R_drew HO357.out)
             have n3_ := Aside0.mk (blk_drew BK342.out)
             have n4_ := Aside0.mk (blk_drew BK345.out)
             have n5_ := Aside0.mk (blk_drew BK350.out)
             have n6_ := Aside0.mk (below_drew1 HB.out)
             clear HO_51
             clear HO353
             clear HO357
             clear BK342
             clear BK345
             clear BK350
             clear HB
             have HO_51 := n0_
             have HO353 := n1_
             have HO357 := n2_
             have BK342 := n3_
             have BK345 := n4_
             have BK350 := n5_
             have HB := n6_
             clear n0_ n1_ n2_ n3_ n4_ n5_ n6_
             have hcv53 : (convert 26 9 (v352)).run Tryd.prog _ = .ok (.string (strOfNums t351)) _ := own_string (P := Tryd.prog) Tryd.underlying26 Tryd.underlying5 Tryd.underlying9 (Kd.own_of_R HO353.out)
             have hcv54 : (convert 26 9 (v356)).run Tryd.prog _ = .ok (.string (strOfNums t355)) _ := own_string (P := Tryd.prog) Tryd.underlying26 Tryd.underlying5 Tryd.underlying9 (Kd.own_of_R HO357.out)
             refine start_ (n := 17) (S := fun w' => (convert 26 9 (v352)).run Tryd.prog w' = .ok (.string (strOfNums t351)) w' ∧ (convert 26 9 (v356)).run Tryd.prog w' = .ok (.string (strOfNums t355)) w') (ds := []) #[false, false, false, false, false, false, false, false, false, false, false, false, false, false, false, false, false] (by kernel_rfl) rfl rfl ⟨hcv53, hcv54⟩ (fun hHeld => ?_); refine with_tabW guichetlaw13_PosBack.tab11 guichetlaw13_PosBack.bits11 (fun HT_ HW_ => ?_)
             generalize w41.drew = w52 at HO_51 HO353 HO357 BK342 BK345 BK350 HB hHeld ⊢
             refine take_ (i := 0) (N := some 67) (v := ?_) (a' := ?_) #[true, false, false, false, false, false, false, false, false, false, false, false, false, false, false, false, false] rfl rfl (take_ofW HT_.out HW_.out (by kernel_rfl)) (fun _ _ _ h => h) (Or.inl ⟨by rfl, ?_⟩) hHeld ?_ ?_
             rotate_left
             ·rintro w' ⟨s0, s1⟩
              go_simp
              with_reducible rfl
             rotate_left
             ·simp only [Act.put, List.setIfInBounds_toArray, List.set_cons_zero, List.set_cons_succ, i64_w, i32_w]
              rfl
             refine take_ (i := 1) (N := some 68) (v := ?_) (a' := ?_) #[true, true, false, false, false, false, false, false, false, false, false, false, false, false, false, false, false] rfl rfl (take_ofW HT_.out HW_.out (by kernel_rfl)) (fun _ _ _ h => h) (Or.inl ⟨by rfl, ?_⟩) hHeld ?_ ?_
             rotate_left
             ·rintro w' ⟨s0, s1⟩
              go_simp
              with_reducible rfl
             rotate_left
             ·simp only [Act.put, List.setIfInBounds_toArray, List.set_cons_zero, List.set_cons_succ, i64_w, i32_w]
              rfl
             refine take_ (i := 2) (N := some 69) (v := ?_) (a' := ?_) #[true, true, true, false, false, false, false, false, false, false, false, false, false, false, false, false, false] rfl rfl (take_ofW HT_.out HW_.out (by kernel_rfl)) (fun _ _ _ h => h) (Or.inl ⟨by rfl, ?_⟩) hHeld ?_ ?_
             rotate_left
             ·rintro w' ⟨s0, s1⟩
              go_simp
              with_reducible rfl
             rotate_left
             ·simp only [Act.put, List.setIfInBounds_toArray, List.set_cons_zero, List.set_cons_succ, i64_w, i32_w]
              rfl
             refine take_ (i := 3) (N := some 70) (v := ?_) (a' := ?_) #[true, true, true, true, false, false, false, false, false, false, false, false, false, false, false, false, false] rfl rfl (take_ofW HT_.out HW_.out (by kernel_rfl)) (fun _ _ _ h => h) (Or.inl ⟨by rfl, ?_⟩) hHeld ?_ ?_
             rotate_left
             ·rintro w' ⟨s0, s1⟩
              go_simp
              with_reducible rfl
             rotate_left
             ·simp only [Act.put, List.setIfInBounds_toArray, List.set_cons_zero, List.set_cons_succ, i64_w, i32_w]
              rfl
             refine take_ (i := 4) (N := some 71) (v := ?_) (a' := ?_) #[true, true, true, true, true, false, false, false, false, false, false, false, false, false, false, false, false] rfl rfl (take_ofW HT_.out HW_.out (by kernel_rfl)) (fun _ _ _ h => h) (Or.inl ⟨by rfl, ?_⟩) hHeld ?_ ?_
             rotate_left
             ·rintro w' ⟨s0, s1⟩
              go_simp
              with_reducible rfl
             rotate_left
             ·simp only [Act.put, List.setIfInBounds_toArray, List.set_cons_zero, List.set_cons_succ, i64_w, i32_w]
              rfl
             refine take_ (i := 5) (N := some 72) (v := ?_) (a' := ?_) #[true, true, true, true, true, true, false, false, false, false, false, false, false, false, false, false, false] rfl rfl (take_ofW HT_.out HW_.out (by kernel_rfl)) (fun _ _ _ h => h) (Or.inl ⟨by rfl, ?_⟩) hHeld ?_ ?_
             rotate_left
             ·rintro w' ⟨s0, s1⟩
              go_simp
              with_reducible rfl
             rotate_left
             ·simp only [Act.put, List.setIfInBounds_toArray, List.set_cons_zero, List.set_cons_succ, i64_w, i32_w]
              rfl
             refine take_ (i := 6) (N := some 73) (v := ?_) (a' := ?_) #[true, true, true, true, true, true, true, false, false, false, false, false, false, false, false, false, false] rfl rfl (take_ofW HT_.out HW_.out (by kernel_rfl)) (fun _ _ _ h => h) (Or.inl ⟨by rfl, ?_⟩) hHeld ?_ ?_
             rotate_left
             ·rintro w' ⟨s0, s1⟩
              go_simp
              with_reducible rfl
             rotate_left
             ·simp only [Act.put, List.setIfInBounds_toArray, List.set_cons_zero, List.set_cons_succ, i64_w, i32_w]
              rfl
             refine take_ (i := 7) (N := some 74) (v := ?_) (a' := ?_) #[true, true, true, true, true, true, true, true, false, false, false, false, false, false, false, false, false] rfl rfl (take_ofW HT_.out HW_.out (by kernel_rfl)) (fun _ _ _ h => h) (Or.inl ⟨by rfl, ?_⟩) hHeld ?_ ?_
             rotate_left
             ·rintro w' ⟨s0, s1⟩
              go_simp
              with_reducible rfl
             rotate_left
             ·simp only [Act.put, List.setIfInBounds_toArray, List.set_cons_zero, List.set_cons_succ, i64_w, i32_w]
              rfl
             refine take_ (i := 8) (N := some 75) (v := ?_) (a' := ?_) #[true, true, true, true, true, true, true, true, true, false, false, false, false, false, false, false, false] rfl rfl (take_ofW HT_.out HW_.out (by kernel_rfl)) (fun _ _ _ h => h) (Or.inl ⟨by rfl, ?_⟩) hHeld ?_ ?_
             rotate_left
             ·rintro w' ⟨s0, s1⟩
              go_simp
              with_reducible rfl
             rotate_left
             ·simp only [Act.put, List.setIfInBounds_toArray, List.set_cons_zero, List.set_cons_succ, i64_w, i32_w]
              rfl
             refine take_ (i := 9) (N := some 76) (v := ?_) (a' := ?_) #[true, true, true, true, true, true, true, true, true, true, false, false, false, false, false, false, false] rfl rfl (take_ofW HT_.out HW_.out (by kernel_rfl)) (fun _ _ _ h => h) (Or.inl ⟨by rfl, ?_⟩) hHeld ?_ ?_
             rotate_left
             ·rintro w' ⟨s0, s1⟩
              go_simp
              with_reducible rfl
             rotate_left
             ·simp only [Act.put, List.setIfInBounds_toArray, List.set_cons_zero, List.set_cons_succ, i64_w, i32_w]
              rfl
             refine take_ (i := 10) (N := some 77) (v := ?_) (a' := ?_) #[true, true, true, true, true, true, true, true, true, true, true, false, false, false, false, false, false] rfl rfl (take_ofW HT_.out HW_.out (by kernel_rfl)) (fun _ _ _ h => h) (Or.inl ⟨by rfl, ?_⟩) hHeld ?_ ?_
             rotate_left
             ·rintro w' ⟨s0, s1⟩
              go_simp
              with_reducible rfl
             rotate_left
             ·simp only [Act.put, List.setIfInBounds_toArray, List.set_cons_zero, List.set_cons_succ, i64_w, i32_w]
              rfl
             refine pure_ (i := 11) (N := some 78) (v := undef) (a' := ?_) #[true, true, true, true, true, true, true, true, true, true, true, true, false, false, false, false, false] rfl rfl (any_of HT_.out (by kernel_rfl)) (fun _ _ _ h => h) (Or.inr ⟨by rfl, rfl⟩) ?_ ?_
             rotate_left
             ·simp only [Act.put, List.setIfInBounds_toArray, List.set_cons_zero, List.set_cons_succ, i64_w, i32_w]
              rfl
             refine pure_ (i := 12) (N := some 79) (v := undef) (a' := ?_) #[true, true, true, true, true, true, true, true, true, true, true, true, true, false, false, false, false] rfl rfl (any_of HT_.out (by kernel_rfl)) (fun _ _ _ h => h) (Or.inr ⟨by rfl, rfl⟩) ?_ ?_
             rotate_left
             ·simp only [Act.put, List.setIfInBounds_toArray, List.set_cons_zero, List.set_cons_succ, i64_w, i32_w]
              rfl
             refine pure_ (i := 13) (N := some 80) (v := undef) (a' := ?_) #[true, true, true, true, true, true, true, true, true, true, true, true, true, true, false, false, false] rfl rfl (any_of HT_.out (by kernel_rfl)) (fun _ _ _ h => h) (Or.inr ⟨by rfl, rfl⟩) ?_ ?_
             rotate_left
             ·simp only [Act.put, List.setIfInBounds_toArray, List.set_cons_zero, List.set_cons_succ, i64_w, i32_w]
              rfl
             refine pure_ (i := 14) (N := some 81) (v := undef) (a' := ?_) #[true, true, true, true, true, true, true, true, true, true, true, true, true, true, true, false, false] rfl rfl (any_of HT_.out (by kernel_rfl)) (fun _ _ _ h => h) (Or.inr ⟨by rfl, rfl⟩) ?_ ?_
             rotate_left
             ·simp only [Act.put, List.setIfInBounds_toArray, List.set_cons_zero, List.set_cons_succ, i64_w, i32_w]
              rfl
             refine pure_ (i := 15) (N := some 82) (v := undef) (a' := ?_) #[true, true, true, true, true, true, true, true, true, true, true, true, true, true, true, true, false] rfl rfl (any_of HT_.out (by kernel_rfl)) (fun _ _ _ h => h) (Or.inr ⟨by rfl, rfl⟩) ?_ ?_
             rotate_left
             ·simp only [Act.put, List.setIfInBounds_toArray, List.set_cons_zero, List.set_cons_succ, i64_w, i32_w]
              rfl
             refine take_ (i := 16) (N := some 83) (v := ?_) (a' := ?_) #[true, true, true, true, true, true, true, true, true, true, true, true, true, true, true, true, true] rfl rfl (take_ofW HT_.out HW_.out (by kernel_rfl)) (fun _ _ _ h => h) (Or.inl ⟨by rfl, ?_⟩) hHeld ?_ ?_
             rotate_left
             ·rintro w' ⟨s0, s1⟩
              go_simp
              with_reducible rfl
             rotate_left
             ·simp only [Act.put, List.setIfInBounds_toArray, List.set_cons_zero, List.set_cons_succ, i64_w, i32_w]
              rfl
             refine done_ (done_of HT_.out (by kernel_rfl)) ?_
             try go_wp2
             go_meet
             case rel => exact ⟨_, (true), (by first | rfl | (simp; done) | (simp [*]; done)), H', ⟨by have := HJ6.out; have := HK2.out; first | omega | exact Nat.le_refl _⟩, ⟨by (with_reducible repeat (first | apply Kd.R_alloc | apply Kd.R_drewN | apply Kd.R_drew)); exact Kd.R_mono HO353.out (fun _ hk => trivial)⟩, ⟨by (with_reducible repeat (first | apply Kd.R_alloc | apply Kd.R_drewN | apply Kd.R_drew)); first | exact HO_51.out | exact Kd.R_mono HO_51.out (fun _ hk_ => by omega)⟩, ⟨by (with_reducible repeat (first | refine blk_drewN ?_ _ | refine blk_drew ?_ | refine blk_alloc ?_ _)); exact BK342.out⟩, ⟨by (with_reducible repeat (first | refine blk_drewN ?_ _ | refine blk_drew ?_ | refine blk_alloc ?_ _)); exact BK345.out⟩, ⟨by (with_reducible repeat (first | refine blk_drewN ?_ _ | refine blk_drew ?_ | refine blk_alloc ?_ _)); exact BK350.out⟩, ⟨by repeat (first | (with_reducible first | exact HB.out | apply below_alloc | apply pw_below_drewN | apply below_drew1 | refine below_set ?_ GE342.out | refine below_set ?_ GE345.out | refine below_set ?_ GE350.out) | exact HB.out)⟩⟩
           ·rw [if_neg c42] at H
            have c42b0 : ((strOfNums t351).toList == (strOfNums t355).toList) = false := beq_eq_false_iff_ne.mpr c42
            have c42b1 : ((strOfNums t351).toList != (strOfNums t355).toList) = true := bne_iff_ne.mpr c42
            (first | rw [c42b0] | (simp only [i64_w, i32_w]; rw [c42b0]) | skip)
            have H' := Aside0.mk H
            clear H
            try go_wp2
            have n0_ := Aside0.mk (Kd.R_drew HO_51.out)
            have n1_ := Aside0.mk (Kd.R_drew HO353.out)
            have n2_ := Aside0.mk (Kd.R_drew HO357.out)
            have n3_ := Aside0.mk (blk_drew BK342.out)
            have n4_ := Aside0.mk (blk_drew BK345.out)
            have n5_ := Aside0.mk (blk_drew BK350.out)
            have n6_ := Aside0.mk (below_drew1 HB.out)
            clear HO_51
            clear HO353
            clear HO357
            clear BK342
            clear BK345
            clear BK350
            clear HB
            have HO_51 := n0_
            have HO353 := n1_
            have HO357 := n2_
            have BK342 := n3_
            have BK345 := n4_
            have BK350 := n5_
            have HB := n6_
            clear n0_ n1_ n2_ n3_ n4_ n5_ n6_
            have hcv57 : (convert 26 9 (v352)).run Tryd.prog _ = .ok (.string (strOfNums t351)) _ := own_string (P := Tryd.prog) Tryd.underlying26 Tryd.underlying5 Tryd.underlying9 (Kd.own_of_R HO353.out)
            have hcv58 : (convert 26 9 (v356)).run Tryd.prog _ = .ok (.string (strOfNums t355)) _ := own_string (P := Tryd.prog) Tryd.underlying26 Tryd.underlying5 Tryd.underlying9 (Kd.own_of_R HO357.out)
            refine start_ (n := 17) (S := fun w' => (convert 26 9 (v352)).run Tryd.prog w' = .ok (.string (strOfNums t351)) w' ∧ (convert 26 9 (v356)).run Tryd.prog w' = .ok (.string (strOfNums t355)) w') (ds := []) #[false, false, false, false, false, false, false, false, false, false, false, false, false, false, false, false, false] (by kernel_rfl) rfl rfl ⟨hcv57, hcv58⟩ (fun hHeld => ?_); refine with_tabW guichetlaw13_PosBack.tab11 guichetlaw13_PosBack.bits11 (fun HT_ HW_ => ?_)
            generalize w41.drew = w56 at HO_51 HO353 HO357 BK342 BK345 BK350 HB hHeld ⊢
            refine take_ (i := 0) (N := some 67) (v := ?_) (a' := ?_) #[true, false, false, false, false, false, false, false, false, false, false, false, false, false, false, false, false] rfl rfl (take_ofW HT_.out HW_.out (by kernel_rfl)) (fun _ _ _ h => h) (Or.inl ⟨by rfl, ?_⟩) hHeld ?_ ?_
            rotate_left
            ·rintro w' ⟨s0, s1⟩
             go_simp
             with_reducible rfl
            rotate_left
            ·simp only [Act.put, List.setIfInBounds_toArray, List.set_cons_zero, List.set_cons_succ, i64_w, i32_w]
             rfl
            refine take_ (i := 1) (N := some 68) (v := ?_) (a' := ?_) #[true, true, false, false, false, false, false, false, false, false, false, false, false, false, false, false, false] rfl rfl (take_ofW HT_.out HW_.out (by kernel_rfl)) (fun _ _ _ h => h) (Or.inl ⟨by rfl, ?_⟩) hHeld ?_ ?_
            rotate_left
            ·rintro w' ⟨s0, s1⟩
             go_simp
             with_reducible rfl
            rotate_left
            ·simp only [Act.put, List.setIfInBounds_toArray, List.set_cons_zero, List.set_cons_succ, i64_w, i32_w]
             rfl
            refine take_ (i := 2) (N := some 69) (v := ?_) (a' := ?_) #[true, true, true, false, false, false, false, false, false, false, false, false, false, false, false, false, false] rfl rfl (take_ofW HT_.out HW_.out (by kernel_rfl)) (fun _ _ _ h => h) (Or.inl ⟨by rfl, ?_⟩) hHeld ?_ ?_
            rotate_left
            ·rintro w' ⟨s0, s1⟩
             go_simp
             with_reducible rfl
            rotate_left
            ·simp only [Act.put, List.setIfInBounds_toArray, List.set_cons_zero, List.set_cons_succ, i64_w, i32_w]
             rfl
            refine take_ (i := 3) (N := some 70) (v := ?_) (a' := ?_) #[true, true, true, true, false, false, false, false, false, false, false, false, false, false, false, false, false] rfl rfl (take_ofW HT_.out HW_.out (by kernel_rfl)) (fun _ _ _ h => h) (Or.inl ⟨by rfl, ?_⟩) hHeld ?_ ?_
            rotate_left
            ·rintro w' ⟨s0, s1⟩
             go_simp
             with_reducible rfl
            rotate_left
            ·simp only [Act.put, List.setIfInBounds_toArray, List.set_cons_zero, List.set_cons_succ, i64_w, i32_w]
             rfl
            refine take_ (i := 4) (N := some 71) (v := ?_) (a' := ?_) #[true, true, true, true, true, false, false, false, false, false, false, false, false, false, false, false, false] rfl rfl (take_ofW HT_.out HW_.out (by kernel_rfl)) (fun _ _ _ h => h) (Or.inl ⟨by rfl, ?_⟩) hHeld ?_ ?_
            rotate_left
            ·rintro w' ⟨s0, s1⟩
             go_simp
             with_reducible rfl
            rotate_left
            ·simp only [Act.put, List.setIfInBounds_toArray, List.set_cons_zero, List.set_cons_succ, i64_w, i32_w]
             rfl
            refine take_ (i := 5) (N := some 72) (v := ?_) (a' := ?_) #[true, true, true, true, true, true, false, false, false, false, false, false, false, false, false, false, false] rfl rfl (take_ofW HT_.out HW_.out (by kernel_rfl)) (fun _ _ _ h => h) (Or.inl ⟨by rfl, ?_⟩) hHeld ?_ ?_
            rotate_left
            ·rintro w' ⟨s0, s1⟩
             go_simp
             with_reducible rfl
            rotate_left
            ·simp only [Act.put, List.setIfInBounds_toArray, List.set_cons_zero, List.set_cons_succ, i64_w, i32_w]
             rfl
            refine pure_ (i := 6) (N := some 73) (v := undef) (a' := ?_) #[true, true, true, true, true, true, true, false, false, false, false, false, false, false, false, false, false] rfl rfl (any_of HT_.out (by kernel_rfl)) (fun _ _ _ h => h) (Or.inr ⟨by rfl, rfl⟩) ?_ ?_
            rotate_left
            ·simp only [Act.put, List.setIfInBounds_toArray, List.set_cons_zero, List.set_cons_succ, i64_w, i32_w]
             rfl
            refine pure_ (i := 7) (N := some 74) (v := undef) (a' := ?_) #[true, true, true, true, true, true, true, true, false, false, false, false, false, false, false, false, false] rfl rfl (any_of HT_.out (by kernel_rfl)) (fun _ _ _ h => h) (Or.inr ⟨by rfl, rfl⟩) ?_ ?_
            rotate_left
            ·simp only [Act.put, List.setIfInBounds_toArray, List.set_cons_zero, List.set_cons_succ, i64_w, i32_w]
             rfl
            refine pure_ (i := 8) (N := some 75) (v := undef) (a' := ?_) #[true, true, true, true, true, true, true, true, true, false, false, false, false, false, false, false, false] rfl rfl (any_of HT_.out (by kernel_rfl)) (fun _ _ _ h => h) (Or.inr ⟨by rfl, rfl⟩) ?_ ?_
            rotate_left
            ·simp only [Act.put, List.setIfInBounds_toArray, List.set_cons_zero, List.set_cons_succ, i64_w, i32_w]
             rfl
            refine take_ (i := 9) (N := some 76) (v := ?_) (a' := ?_) #[true, true, true, true, true, true, true, true, true, true, false, false, false, false, false, false, false] rfl rfl (take_ofW HT_.out HW_.out (by kernel_rfl)) (fun _ _ _ h => h) (Or.inl ⟨by rfl, ?_⟩) hHeld ?_ ?_
            rotate_left
            ·rintro w' ⟨s0, s1⟩
             go_simp
             with_reducible rfl
            rotate_left
            ·simp only [Act.put, List.setIfInBounds_toArray, List.set_cons_zero, List.set_cons_succ, i64_w, i32_w]
             rfl
            refine take_ (i := 10) (N := some 77) (v := ?_) (a' := ?_) #[true, true, true, true, true, true, true, true, true, true, true, false, false, false, false, false, false] rfl rfl (take_ofW HT_.out HW_.out (by kernel_rfl)) (fun _ _ _ h => h) (Or.inl ⟨by rfl, ?_⟩) hHeld ?_ ?_
            rotate_left
            ·rintro w' ⟨s0, s1⟩
             go_simp
             with_reducible rfl
            rotate_left
            ·simp only [Act.put, List.setIfInBounds_toArray, List.set_cons_zero, List.set_cons_succ, i64_w, i32_w]
             rfl
            refine pure_ (i := 11) (N := some 78) (v := undef) (a' := ?_) #[true, true, true, true, true, true, true, true, true, true, true, true, false, false, false, false, false] rfl rfl (any_of HT_.out (by kernel_rfl)) (fun _ _ _ h => h) (Or.inr ⟨by rfl, rfl⟩) ?_ ?_
            rotate_left
            ·simp only [Act.put, List.setIfInBounds_toArray, List.set_cons_zero, List.set_cons_succ, i64_w, i32_w]
             rfl
            refine pure_ (i := 12) (N := some 79) (v := undef) (a' := ?_) #[true, true, true, true, true, true, true, true, true, true, true, true, true, false, false, false, false] rfl rfl (any_of HT_.out (by kernel_rfl)) (fun _ _ _ h => h) (Or.inr ⟨by rfl, rfl⟩) ?_ ?_
            rotate_left
            ·simp only [Act.put, List.setIfInBounds_toArray, List.set_cons_zero, List.set_cons_succ, i64_w, i32_w]
             rfl
            refine pure_ (i := 13) (N := some 80) (v := undef) (a' := ?_) #[true, true, true, true, true, true, true, true, true, true, true, true, true, true, false, false, false] rfl rfl (any_of HT_.out (by kernel_rfl)) (fun _ _ _ h => h) (Or.inr ⟨by rfl, rfl⟩) ?_ ?_
            rotate_left
            ·simp only [Act.put, List.setIfInBounds_toArray, List.set_cons_zero, List.set_cons_succ, i64_w, i32_w]
             rfl
            refine pure_ (i := 14) (N := some 81) (v := undef) (a' := ?_) #[true, true, true, true, true, true, true, true, true, true, true, true, true, true, true, false, false] rfl rfl (any_of HT_.out (by kernel_rfl)) (fun _ _ _ h => h) (Or.inr ⟨by rfl, rfl⟩) ?_ ?_
            rotate_left
            ·simp only [Act.put, List.setIfInBounds_toArray, List.set_cons_zero, List.set_cons_succ, i64_w, i32_w]
             rfl
            refine pure_ (i := 15) (N := some 82) (v := undef) (a' := ?_) #[true, true, true, true, true, true, true, true, true, true, true, true, true, true, true, true, false] rfl rfl (any_of HT_.out (by kernel_rfl)) (fun _ _ _ h => h) (Or.inr ⟨by rfl, rfl⟩) ?_ ?_
            rotate_left
            ·simp only [Act.put, List.setIfInBounds_toArray, List.set_cons_zero, List.set_cons_succ, i64_w, i32_w]
             rfl
            refine take_ (i := 16) (N := some 83) (v := ?_) (a' := ?_) #[true, true, true, true, true, true, true, true, true, true, true, true, true, true, true, true, true] rfl rfl (take_ofW HT_.out HW_.out (by kernel_rfl)) (fun _ _ _ h => h) (Or.inl ⟨by rfl, ?_⟩) hHeld ?_ ?_
            rotate_left
            ·rintro w' ⟨s0, s1⟩
             go_simp
             with_reducible rfl
            rotate_left
            ·simp only [Act.put, List.setIfInBounds_toArray, List.set_cons_zero, List.set_cons_succ, i64_w, i32_w]
             rfl
            refine done_ (done_of HT_.out (by kernel_rfl)) ?_
            try go_wp2
            go_meet
            case rel => exact ⟨_, (true), (by first | rfl | (simp; done) | (simp [*]; done)), H', ⟨by have := HJ6.out; have := HK2.out; first | omega | exact Nat.le_refl _⟩, ⟨by (with_reducible repeat (first | apply Kd.R_alloc | apply Kd.R_drewN | apply Kd.R_drew)); exact Kd.R_mono HO353.out (fun _ hk => trivial)⟩, ⟨by (with_reducible repeat (first | apply Kd.R_alloc | apply Kd.R_drewN | apply Kd.R_drew)); first | exact HO_51.out | exact Kd.R_mono HO_51.out (fun _ hk_ => by omega)⟩, ⟨by (with_reducible repeat (first | refine blk_drewN ?_ _ | refine blk_drew ?_ | refine blk_alloc ?_ _)); exact BK342.out⟩, ⟨by (with_reducible repeat (first | refine blk_drewN ?_ _ | refine blk_drew ?_ | refine blk_alloc ?_ _)); exact BK345.out⟩, ⟨by (with_reducible repeat (first | refine blk_drewN ?_ _ | refine blk_drew ?_ | refine blk_alloc ?_ _)); exact BK350.out⟩, ⟨by repeat (first | (with_reducible first | exact HB.out | apply below_alloc | apply pw_below_drewN | apply below_drew1 | refine below_set ?_ GE342.out | refine below_set ?_ GE345.out | refine below_set ?_ GE350.out) | exact HB.out)⟩⟩
          case rest =>
           clear HC34
           try clear c1
           try clear c2
           try clear p2
           try clear c3
           try clear p3
           try clear q3
           try clear hx3
           try clear c4
           try clear hcv4
           try clear hcv5
           try clear p6
           try clear c8
           try clear c9
           try clear c10
           try clear c11
           try clear c29
           try clear c29b0
           try clear c30
           try clear c30b0
           try clear c31
           try clear c31b0
           try clear p34
           try clear q34
           try clear hx34
           try clear c36
           try clear c37
           try clear c42
           try clear c42b0
           try clear c42b1
           try clear c43
           try clear c43b0
           try clear c43b1
           try clear hcv47
           try clear hcv48
           try clear hcv53
           try clear hcv54
           try clear hcv57
           try clear hcv58
           try clear hcz38_0
           try clear hcz38_1
           try clear hcz38_2
           try clear hcz38_3
           try clear hcz40_0
           try clear hcz40_1
           try clear hcz40_2
           try clear hcz40_3
           try clear hfz12_1
           try clear hfz12_2
           try clear hfz12_3
           try clear hfz24_0
           try clear hfz24_1
           try clear hfz24_2
           try clear hfz24_3
           try clear hfz25_0
           try clear hfz25_1
           try clear hfz25_2
           try clear hfz25_3
           try clear hfz38_0
           try clear hfz38_1
           try clear hfz38_2
           try clear hfz38_3
           try clear hfz40_0
           try clear hfz40_1
           try clear hfz40_2
           try clear hfz40_3
           try clear hx349_0
           try clear hx349_1
           try clear hx349_2
           try clear hx349_3
           try clear p2
           try clear p349
           try clear q349
           obtain ⟨kq, x83_33, rfl, HA, HJ33, HO_12, HO_51, BK342, BK345, BK350, HB⟩ := hcut
           cases kq with
           | zero => exact absurd HA.out (by simp [guichetlaw13_PosBack.j2])
           | succ kj33 =>
            have H := HA.out
            clear HA
            simp only [guichetlaw13_PosBack.j2] at H
            by_cases c60 : x83_33 = true
            ·subst c60
             have H1 : (none) = some r := by rw [if_pos rfl] at H; exact H
             clear H
             have H := H1
             clear H1
             exact absurd H (by simp)
            ·replace c60 := Bool.eq_false_iff.mpr c60
             subst c60
             have H1 : (if t358 = 0 then ((pos_Read.f kj33 t351).bind fun bt361 => (if (!(bt361.1 == ((rd_T25 y346 x53_2).f0)) || (!(bt361.2.1 == ((rd_T25 y346 x53_2).f1)) || (!(bt361.2.2.1.toList == ((rd_T25 y346 x53_2).f2).toList) || (!(bt361.2.2.2.1 == ((rd_T25 y346 x53_2).f3)))))) = true then (guichetlaw13_PosBack.j3 kj33 l3 t351 y346 (y346.length : Int) x53_2 true) else (if bt361.2.2.2.2.1 = (t351.length : Int) then (guichetlaw13_PosBack.j3 kj33 l3 t351 y346 (y346.length : Int) x53_2 (bt361.2.2.2.2.2 != 0)) else (guichetlaw13_PosBack.j3 kj33 l3 t351 y346 (y346.length : Int) x53_2 true)))) else (guichetlaw13_PosBack.l0 kj33 l3 y346 (y346.length : Int) (wrap64 (x53_2 + 1)))) = some r := by rw [if_neg (show ¬ (false = true) by decide)] at H; exact H
             clear H
             have H := H1
             clear H1
             by_cases c61 : t358 = 0
             ·rw [if_pos c61] at H
              have c61b0 : (t358 == 0) = true := beq_iff_eq.mpr c61
              have c61b1 : (t358 != 0) = false := bne_eq_false_iff_eq.mpr c61
              clear c61
              replace H := Option.bind_eq_some_iff.mp H
              obtain ⟨⟨t361, t362, t363, t364, t365, t366⟩, A620, H⟩ := H
              replace H : (if (!(t361 == ((rd_T25 y346 x53_2).f0)) || (!(t362 == ((rd_T25 y346 x53_2).f1)) || (!(t363.toList == ((rd_T25 y346 x53_2).f2).toList) || (!(t364 == ((rd_T25 y346 x53_2).f3)))))) = true then (guichetlaw13_PosBack.j3 kj33 l3 t351 y346 (y346.length : Int) x53_2 true) else (if t365 = (t351.length : Int) then (guichetlaw13_PosBack.j3 kj33 l3 t351 y346 (y346.length : Int) x53_2 (t366 != 0)) else (guichetlaw13_PosBack.j3 kj33 l3 t351 y346 (y346.length : Int) x53_2 true))) = some r := H
              have A62 := Aside0.mk A620
              clear A620
              have HC63 := Aside0.mk H
              clear H
              obtain ⟨Ao64, co64, eo64⟩ := Kd.R_slice HO_12.out
              subst eo64
              go_upto_region 15 with (first | ((with_reducible refine gate_callee (f := 12) rfl ?_); refine goesL_ (some 88) rfl rfl Tryd.func12 (by kernel_rfl) rfl #[.slice Ao64 t351.length co64] rfl (by (try simp only [List.map_toArray, List.map_cons, List.map_nil]); first | done | rfl | (simp only [List.length_drop, List.length_take]; rfl) | (rw [hsame_])) ?_; (with_reducible refine (pos_Read.calls kj33 _ _ t351 t361 t362 t363 t364 t365 t366 _ ?side1 ?side2 ?side3 A62.out).mono ?_); (case side1 => exact tab_at HT.out (by repeat (first | (with_reducible first | exact HB.out | apply below_alloc | apply pw_below_drewN | apply below_drew1 | refine below_set ?_ GE342.out | refine below_set ?_ GE345.out | refine below_set ?_ GE350.out) | exact HB.out))); (case side2 => repeat (first | exact (Kd.R_reads' HO_12.out).2.2 | (with_reducible refine Kd.C_alloc ?_ _) | (with_reducible refine Kd.C_drewN ?_ _) | (with_reducible refine Kd.C_drew ?_))); (case side3 => exact (Kd.R_reads' HO_12.out).2.1); rintro e w65 ⟨rfl, hb⟩; refine ⟨_, rfl, ?_⟩; have n0_ := Aside0.mk (Kd.R_below (by (with_reducible repeat (first | apply Kd.R_alloc | apply Kd.R_drewN | apply Kd.R_drew)); exact HO_12.out) hb); have n1_ := Aside0.mk (Kd.R_below (by (with_reducible repeat (first | apply Kd.R_alloc | apply Kd.R_drewN | apply Kd.R_drew)); exact HO_51.out) hb); have n2_ := Aside0.mk (blk_below (g := gb342) (o := .cells #[.int .u16 a0_0, .int .u32 a0_1, .string a0_2, .int .i64 a0_3] 25 (0, 0)) (by (with_reducible repeat (first | refine blk_drewN ?_ _ | refine blk_drew ?_ | refine blk_alloc ?_ _)); exact BK342.out) hb); have n3_ := Aside0.mk (blk_below (g := gb345) (o := .cells #[.int .u16 a0_0, .int .u32 (Int.tmod a0_1 1000000), .string t344, .int .i64 (wrap64 ((wrap64 (Int.tmod a2 1000001)) + 1))] 25 (0, 0)) (by (with_reducible repeat (first | refine blk_drewN ?_ _ | refine blk_drew ?_ | refine blk_alloc ?_ _)); exact BK345.out) hb); have n4_ := Aside0.mk (blk_below (g := gb350) (o := .cells #[.int .u16 ((rd_T25 y346 x53_2).f0), .int .u32 ((rd_T25 y346 x53_2).f1), .string ((rd_T25 y346 x53_2).f2), .int .i64 ((rd_T25 y346 x53_2).f3)] 25 (0, 0)) (by (with_reducible repeat (first | refine blk_drewN ?_ _ | refine blk_drew ?_ | refine blk_alloc ?_ _)); exact BK350.out) hb); have n5_ := Aside0.mk (below_step (by repeat (first | (with_reducible first | exact HB.out | apply below_alloc | apply pw_below_drewN | apply below_drew1 | refine below_set ?_ GE342.out | refine below_set ?_ GE345.out | refine below_set ?_ GE350.out) | exact HB.out)) hb); clear HO_12; clear HO_51; clear BK342; clear BK345; clear BK350; clear HB; have HO_12 := n0_; have HO_51 := n1_; have BK342 := n2_; have BK345 := n3_; have BK350 := n4_; have HB := n5_; clear n0_ n1_ n2_ n3_ n4_ n5_; (try clear hb); (try clear hb2); (try clear hk); (try clear hi)) | ((with_reducible refine gate_dst (N := 16) rfl ?_); (try (refine gate_guard (by rfl) ?_; dsimp only)); refine box_event ?hg (N := 16) ?hd (cs := #[.int .u16 0, .int .u32 0, .string (⟨#[]⟩ : ByteArray), .int .i64 0]) (t := 25) ?hr ?_; (case hd => rfl); (case hg => rfl); (case hr => first | (go_simp; done) | (go_simp; rfl)); intro gb367 hg w66 hbox hb; have n0_ := Aside0.mk (Kd.R_below (by (with_reducible repeat (first | apply Kd.R_alloc | apply Kd.R_drewN | apply Kd.R_drew)); exact HO_12.out) hb); have n1_ := Aside0.mk (Kd.R_below (Kd.R_elderB (by (with_reducible repeat (first | apply Kd.R_alloc | apply Kd.R_drewN | apply Kd.R_drew)); exact HO_51.out) gb367 (Nat.le_of_eq hg.symm)) hb); have n2_ := Aside0.mk (blk_below (g := gb342) (o := .cells #[.int .u16 a0_0, .int .u32 a0_1, .string a0_2, .int .i64 a0_3] 25 (0, 0)) (by (with_reducible repeat (first | refine blk_drewN ?_ _ | refine blk_drew ?_ | refine blk_alloc ?_ _)); exact BK342.out) hb); have n3_ := Aside0.mk (blk_below (g := gb345) (o := .cells #[.int .u16 a0_0, .int .u32 (Int.tmod a0_1 1000000), .string t344, .int .i64 (wrap64 ((wrap64 (Int.tmod a2 1000001)) + 1))] 25 (0, 0)) (by (with_reducible repeat (first | refine blk_drewN ?_ _ | refine blk_drew ?_ | refine blk_alloc ?_ _)); exact BK345.out) hb); have n4_ := Aside0.mk (blk_below (g := gb350) (o := .cells #[.int .u16 ((rd_T25 y346 x53_2).f0), .int .u32 ((rd_T25 y346 x53_2).f1), .string ((rd_T25 y346 x53_2).f2), .int .i64 ((rd_T25 y346 x53_2).f3)] 25 (0, 0)) (by (with_reducible repeat (first | refine blk_drewN ?_ _ | refine blk_drew ?_ | refine blk_alloc ?_ _)); exact BK350.out) hb); have n5_ := Aside0.mk (below_step (by repeat (first | (with_reducible first | exact HB.out | apply below_alloc | apply pw_below_drewN | apply below_drew1 | refine below_set ?_ GE342.out | refine below_set ?_ GE345.out | refine below_set ?_ GE350.out) | exact HB.out)) hb); have n6_ := Aside0.mk (hbox); have n7_ := Aside0.mk ((by rw [hg]; exact (below_size (by repeat (first | (with_reducible first | exact HB.out | apply below_alloc | apply pw_below_drewN | apply below_drew1 | refine below_set ?_ GE342.out | refine below_set ?_ GE345.out | refine below_set ?_ GE350.out) | exact HB.out))) : w.heap.size ≤ gb367)); have n8_ := Aside0.mk ((by rw [hg]; exact (below_size (by repeat (first | (with_reducible first | exact HB.out | apply below_alloc | apply pw_below_drewN | apply below_drew1 | refine below_set ?_ GE342.out | refine below_set ?_ GE345.out | refine below_set ?_ GE350.out) | exact HB.out))) : w.heap.size ≤ gb367)); have n9_ := Aside0.mk ((by rw [hg]; exact Nat.ne_of_lt (blk_lt (g := gb342) (o := .cells #[.int .u16 a0_0, .int .u32 a0_1, .string a0_2, .int .i64 a0_3] 25 (0, 0)) (by (with_reducible repeat (first | refine blk_drewN ?_ _ | refine blk_drew ?_ | refine blk_alloc ?_ _)); exact BK342.out)) : gb342 ≠ gb367)); have n10_ := Aside0.mk ((by rw [hg]; exact Nat.ne_of_gt (blk_lt (g := gb342) (o := .cells #[.int .u16 a0_0, .int .u32 a0_1, .string a0_2, .int .i64 a0_3] 25 (0, 0)) (by (with_reducible repeat (first | refine blk_drewN ?_ _ | refine blk_drew ?_ | refine blk_alloc ?_ _)); exact BK342.out)) : gb367 ≠ gb342)); have n11_ := Aside0.mk ((by rw [hg]; exact Nat.ne_of_lt (blk_lt (g := gb345) (o := .cells #[.int .u16 a0_0, .int .u32 (Int.tmod a0_1 1000000), .string t344, .int .i64 (wrap64 ((wrap64 (Int.tmod a2 1000001)) + 1))] 25 (0, 0)) (by (with_reducible repeat (first | refine blk_drewN ?_ _ | refine blk_drew ?_ | refine blk_alloc ?_ _)); exact BK345.out)) : gb345 ≠ gb367)); have n12_ := Aside0.mk ((by rw [hg]; exact Nat.ne_of_gt (blk_lt (g := gb345) (o := .cells #[.int .u16 a0_0, .int .u32 (Int.tmod a0_1 1000000), .string t344, .int .i64 (wrap64 ((wrap64 (Int.tmod a2 1000001)) + 1))] 25 (0, 0)) (by (with_reducible repeat (first | refine blk_drewN ?_ _ | refine blk_drew ?_ | refine blk_alloc ?_ _)); exact BK345.out)) : gb367 ≠ gb345)); have n13_ := Aside0.mk ((by rw [hg]; exact Nat.ne_of_lt (blk_lt (g := gb350) (o := .cells #[.int .u16 ((rd_T25 y346 x53_2).f0), .int .u32 ((rd_T25 y346 x53_2).f1), .string ((rd_T25 y346 x53_2).f2), .int .i64 ((rd_T25 y346 x53_2).f3)] 25 (0, 0)) (by (with_reducible repeat (first | refine blk_drewN ?_ _ | refine blk_drew ?_ | refine blk_alloc ?_ _)); exact BK350.out)) : gb350 ≠ gb367)); have n14_ := Aside0.mk ((by rw [hg]; exact Nat.ne_of_gt (blk_lt (g := gb350) (o := .cells #[.int .u16 ((rd_T25 y346 x53_2).f0), .int .u32 ((rd_T25 y346 x53_2).f1), .string ((rd_T25 y346 x53_2).f2), .int .i64 ((rd_T25 y346 x53_2).f3)] 25 (0, 0)) (by (with_reducible repeat (first | refine blk_drewN ?_ _ | refine blk_drew ?_ | refine blk_alloc ?_ _)); exact BK350.out)) : gb367 ≠ gb350)); clear HO_12; clear HO_51; clear BK342; clear BK345; clear BK350; clear HB; have HO_12 := n0_; have HO_51 := n1_; have BK342 := n2_; have BK345 := n3_; have BK350 := n4_; have HB := n5_; have BK367 := n6_; have GW367 := n7_; have GE367 := n8_; have NB342_367 := n9_; have NB367_342 := n10_; have NB345_367 := n11_; have NB367_345 := n12_; have NB350_367 := n13_; have NB367_350 := n14_; clear n0_ n1_ n2_ n3_ n4_ n5_ n6_ n7_ n8_ n9_ n10_ n11_ n12_ n13_ n14_; clear hb hbox hg; have hnb67 := NB367_342.out; have hnc67 := NB342_367.out; have hnb68 := NB367_345.out; have hnc68 := NB345_367.out; have hnb69 := NB367_350.out; have hnc69 := NB350_367.out; have hcz70_0 : w66.cell? ⟨gb367, 0, none⟩ = some (.int .u16 0) := (blk_cell BK367.out 0).trans rfl; have hcz70_1 : w66.cell? ⟨gb367, 1, none⟩ = some (.int .u32 0) := (blk_cell BK367.out 1).trans rfl; have hcz70_2 : w66.cell? ⟨gb367, 2, none⟩ = some (.string (⟨#[]⟩ : ByteArray)) := (blk_cell BK367.out 2).trans rfl; have hcz70_3 : w66.cell? ⟨gb367, 3, none⟩ = some (.int .i64 0) := (blk_cell BK367.out 3).trans rfl; have hfz70_0 := blk_frozen BK367.out 0; have hfz70_1 := blk_frozen BK367.out 1; have hfz70_2 := blk_frozen BK367.out 2; have hfz70_3 := blk_frozen BK367.out 3))
              (try simp only [Act.put, List.setIfInBounds_toArray, List.set_cons_zero, List.set_cons_succ])
              go_cut [104] (fun v104 wc => ∃ (kq : Nat) (x104_62 : Bool), v104 = .bool x104_62 ∧ Aside0 (guichetlaw13_PosBack.j3 kq l3 t351 y346 (y346.length : Int) x53_2 x104_62 = some r) ∧ Aside0 (kq ≤ kj33) ∧ Aside0 (Kd.R (Kd.int .u8) 5 wc w.heap.size (fun _ => True) (.slice Ao64 t351.length co64) t351) ∧ Aside0 (Kd.R k25 25 wc w.heap.size (fun k_ => k_ ≠ gb342 ∧ k_ ≠ gb345 ∧ k_ ≠ gb350 ∧ k_ ≠ gb367) (.slice (some ad349) y346.length co28) y346) ∧ Aside0 (wc.heap[gb342]? = some (.cells #[.int .u16 a0_0, .int .u32 a0_1, .string a0_2, .int .i64 a0_3] 25 (0, 0))) ∧ Aside0 (wc.heap[gb345]? = some (.cells #[.int .u16 a0_0, .int .u32 (Int.tmod a0_1 1000000), .string t344, .int .i64 (wrap64 ((wrap64 (Int.tmod a2 1000001)) + 1))] 25 (0, 0))) ∧ Aside0 (wc.heap[gb350]? = some (.cells #[.int .u16 ((rd_T25 y346 x53_2).f0), .int .u32 ((rd_T25 y346 x53_2).f1), .string ((rd_T25 y346 x53_2).f2), .int .i64 ((rd_T25 y346 x53_2).f3)] 25 (0, 0))) ∧ Aside0 (wc.heap[gb367]? = some (.cells #[.int .u16 t361, .int .u32 t362, .string t363, .int .i64 t364] 25 (0, 0))) ∧ Aside0 (Below w.heap.size w wc))
              case first =>
               have H := HC63.out
               clear HC63
               by_cases c71 : (!(t361 == ((rd_T25 y346 x53_2).f0)) || (!(t362 == ((rd_T25 y346 x53_2).f1)) || (!(t363.toList == ((rd_T25 y346 x53_2).f2).toList) || (!(t364 == ((rd_T25 y346 x53_2).f3)))))) = true
               ·rw [if_pos c71] at H
                have c71b0 : (!(t361 == ((rd_T25 y346 x53_2).f0)) || (!(t362 == ((rd_T25 y346 x53_2).f1)) || (!(t363.toList == ((rd_T25 y346 x53_2).f2).toList) || (!(t364 == ((rd_T25 y346 x53_2).f3)))))) = true := c71
                clear c71
                (first | rw [c71b0] | (simp only [i64_w, i32_w]; rw [c71b0]) | skip)
                have H' := Aside0.mk H
                clear H
                have hnb72 := NB367_342.out
                have hnc72 := NB342_367.out
                have hnb73 := NB367_345.out
                have hnc73 := NB345_367.out
                have hnb74 := NB367_350.out
                have hnc74 := NB350_367.out
                have hcz75_0 : w66.cell? ⟨gb367, 0, none⟩ = some (.int .u16 0) := (blk_cell BK367.out 0).trans rfl
                have hcz75_1 : w66.cell? ⟨gb367, 1, none⟩ = some (.int .u32 0) := (blk_cell BK367.out 1).trans rfl
                have hcz75_2 : w66.cell? ⟨gb367, 2, none⟩ = some (.string (⟨#[]⟩ : ByteArray)) := (blk_cell BK367.out 2).trans rfl
                have hcz75_3 : w66.cell? ⟨gb367, 3, none⟩ = some (.int .i64 0) := (blk_cell BK367.out 3).trans rfl
                have hfz75_0 := blk_frozen BK367.out 0
                have hfz75_1 := blk_frozen BK367.out 1
                have hfz75_2 := blk_frozen BK367.out 2
                have hfz75_3 := blk_frozen BK367.out 3
                have hnb76 := NB350_342.out
                have hnc76 := NB342_350.out
                have hnb77 := NB350_345.out
                have hnc77 := NB345_350.out
                have hcz78_0 : w66.cell? ⟨gb350, 0, none⟩ = some (.int .u16 ((rd_T25 y346 x53_2).f0)) := (blk_cell BK350.out 0).trans rfl
                have hcz78_1 : w66.cell? ⟨gb350, 1, none⟩ = some (.int .u32 ((rd_T25 y346 x53_2).f1)) := (blk_cell BK350.out 1).trans rfl
                have hcz78_2 : w66.cell? ⟨gb350, 2, none⟩ = some (.string ((rd_T25 y346 x53_2).f2)) := (blk_cell BK350.out 2).trans rfl
                have hcz78_3 : w66.cell? ⟨gb350, 3, none⟩ = some (.int .i64 ((rd_T25 y346 x53_2).f3)) := (blk_cell BK350.out 3).trans rfl
                have hfz78_0 := blk_frozen BK350.out 0
                have hfz78_1 := blk_frozen BK350.out 1
                have hfz78_2 := blk_frozen BK350.out 2
                have hfz78_3 := blk_frozen BK350.out 3
                go_wp2
                go_meet
                case rel => exact ⟨_, (true), (by first | rfl | (simp; done) | (simp [*]; done)), H', ⟨by have := HJ6.out; have := HK2.out; have := HJ33.out; first | omega | exact Nat.le_refl _⟩, ⟨by (with_reducible repeat (first | apply Kd.R_alloc | apply Kd.R_drewN | apply Kd.R_drew)); exact Kd.R_mono (Kd.R_far (p := ⟨gb367, 3, none⟩) (Kd.R_far (p := ⟨gb367, 2, none⟩) (Kd.R_far (p := ⟨gb367, 1, none⟩) (Kd.R_far (p := ⟨gb367, 0, none⟩) (Kd.R_types HO_12.out BK367.out (by decide)) (fun _ hk => hk.2) (.int .u16 t361)) (fun _ hk => hk.2) (.int .u32 t362)) (fun _ hk => hk.2) (.string t363)) (fun _ hk => hk.2) (.int .i64 t364)) (fun _ hk => trivial)⟩, ⟨by (with_reducible repeat (first | apply Kd.R_alloc | apply Kd.R_drewN | apply Kd.R_drew)); exact Kd.R_mono (Kd.R_far (p := ⟨gb367, 3, none⟩) (Kd.R_far (p := ⟨gb367, 2, none⟩) (Kd.R_far (p := ⟨gb367, 1, none⟩) (Kd.R_far (p := ⟨gb367, 0, none⟩) (Kd.R_mono HO_51.out (fun k_ hk => (⟨hk, hk.2⟩ : _ ∧ k_ ≠ gb367))) (fun _ hk => hk.2) (.int .u16 t361)) (fun _ hk => hk.2) (.int .u32 t362)) (fun _ hk => hk.2) (.string t363)) (fun _ hk => hk.2) (.int .i64 t364)) (fun _ hk => ⟨hk.1.1.1, ⟨hk.1.1.2.1, ⟨hk.1.1.2.2, hk.1.2⟩⟩⟩)⟩, ⟨by (with_reducible repeat (first | refine blk_drewN ?_ _ | refine blk_drew ?_ | refine blk_alloc ?_ _)); refine blk_far ?_ NB342_367.out _; (with_reducible repeat (first | refine blk_drewN ?_ _ | refine blk_drew ?_ | refine blk_alloc ?_ _)); refine blk_far ?_ NB342_367.out _; (with_reducible repeat (first | refine blk_drewN ?_ _ | refine blk_drew ?_ | refine blk_alloc ?_ _)); refine blk_far ?_ NB342_367.out _; (with_reducible repeat (first | refine blk_drewN ?_ _ | refine blk_drew ?_ | refine blk_alloc ?_ _)); refine blk_far ?_ NB342_367.out _; (with_reducible repeat (first | refine blk_drewN ?_ _ | refine blk_drew ?_ | refine blk_alloc ?_ _)); exact BK342.out⟩, ⟨by (with_reducible repeat (first | refine blk_drewN ?_ _ | refine blk_drew ?_ | refine blk_alloc ?_ _)); refine blk_far ?_ NB345_367.out _; (with_reducible repeat (first | refine blk_drewN ?_ _ | refine blk_drew ?_ | refine blk_alloc ?_ _)); refine blk_far ?_ NB345_367.out _; (with_reducible repeat (first | refine blk_drewN ?_ _ | refine blk_drew ?_ | refine blk_alloc ?_ _)); refine blk_far ?_ NB345_367.out _; (with_reducible repeat (first | refine blk_drewN ?_ _ | refine blk_drew ?_ | refine blk_alloc ?_ _)); refine blk_far ?_ NB345_367.out _; (with_reducible repeat (first | refine blk_drewN ?_ _ | refine blk_drew ?_ | refine blk_alloc ?_ _)); exact BK345.out⟩, ⟨by (with_reducible repeat (first | refine blk_drewN ?_ _ | refine blk_drew ?_ | refine blk_alloc ?_ _)); refine blk_far ?_ NB350_367.out _; (with_reducible repeat (first | refine blk_drewN ?_ _ | refine blk_drew ?_ | refine blk_alloc ?_ _)); refine blk_far ?_ NB350_367.out _; (with_reducible repeat (first | refine blk_drewN ?_ _ | refine blk_drew ?_ | refine blk_alloc ?_ _)); refine blk_far ?_ NB350_367.out _; (with_reducible repeat (first | refine blk_drewN ?_ _ | refine blk_drew ?_ | refine blk_alloc ?_ _)); refine blk_far ?_ NB350_367.out _; (with_reducible repeat (first | refine blk_drewN ?_ _ | refine blk_drew ?_ | refine blk_alloc ?_ _)); exact BK350.out⟩, ⟨by (with_reducible repeat (first | refine blk_drewN ?_ _ | refine blk_drew ?_ | refine blk_alloc ?_ _)); refine blk_put (cs := #[.int .u16 t361, .int .u32 t362, .string t363, .int .i64 0]) ?_ 3 _ rfl; (with_reducible repeat (first | refine blk_drewN ?_ _ | refine blk_drew ?_ | refine blk_alloc ?_ _)); refine blk_put (cs := #[.int .u16 t361, .int .u32 t362, .string (⟨#[]⟩ : ByteArray), .int .i64 0]) ?_ 2 _ rfl; (with_reducible repeat (first | refine blk_drewN ?_ _ | refine blk_drew ?_ | refine blk_alloc ?_ _)); refine blk_put (cs := #[.int .u16 t361, .int .u32 0, .string (⟨#[]⟩ : ByteArray), .int .i64 0]) ?_ 1 _ rfl; (with_reducible repeat (first | refine blk_drewN ?_ _ | refine blk_drew ?_ | refine blk_alloc ?_ _)); refine blk_put (cs := #[.int .u16 0, .int .u32 0, .string (⟨#[]⟩ : ByteArray), .int .i64 0]) ?_ 0 _ rfl; (with_reducible repeat (first | refine blk_drewN ?_ _ | refine blk_drew ?_ | refine blk_alloc ?_ _)); exact BK367.out⟩, ⟨by repeat (first | (with_reducible first | exact HB.out | apply below_alloc | apply pw_below_drewN | apply below_drew1 | refine below_set ?_ GE342.out | refine below_set ?_ GE345.out | refine below_set ?_ GE350.out | refine below_set ?_ GE367.out) | exact HB.out)⟩⟩
               ·rw [if_neg c71] at H
                have c71b0 : (!(t361 == ((rd_T25 y346 x53_2).f0)) || (!(t362 == ((rd_T25 y346 x53_2).f1)) || (!(t363.toList == ((rd_T25 y346 x53_2).f2).toList) || (!(t364 == ((rd_T25 y346 x53_2).f3)))))) = false := by simpa using c71
                clear c71
                (first | rw [c71b0] | (simp only [i64_w, i32_w]; rw [c71b0]) | skip)
                by_cases c79 : t365 = (t351.length : Int)
                ·rw [if_pos c79] at H
                 have c79b0 : (t365 == (t351.length : Int)) = true := beq_iff_eq.mpr c79
                 have c79b1 : (t365 != (t351.length : Int)) = false := bne_eq_false_iff_eq.mpr c79
                 clear c79
                 have H' := Aside0.mk H
                 clear H
                 have hnb80 := NB367_342.out
                 have hnc80 := NB342_367.out
                 have hnb81 := NB367_345.out
                 have hnc81 := NB345_367.out
                 have hnb82 := NB367_350.out
                 have hnc82 := NB350_367.out
                 have hcz83_0 : w66.cell? ⟨gb367, 0, none⟩ = some (.int .u16 0) := (blk_cell BK367.out 0).trans rfl
                 have hcz83_1 : w66.cell? ⟨gb367, 1, none⟩ = some (.int .u32 0) := (blk_cell BK367.out 1).trans rfl
                 have hcz83_2 : w66.cell? ⟨gb367, 2, none⟩ = some (.string (⟨#[]⟩ : ByteArray)) := (blk_cell BK367.out 2).trans rfl
                 have hcz83_3 : w66.cell? ⟨gb367, 3, none⟩ = some (.int .i64 0) := (blk_cell BK367.out 3).trans rfl
                 have hfz83_0 := blk_frozen BK367.out 0
                 have hfz83_1 := blk_frozen BK367.out 1
                 have hfz83_2 := blk_frozen BK367.out 2
                 have hfz83_3 := blk_frozen BK367.out 3
                 have hnb84 := NB350_342.out
                 have hnc84 := NB342_350.out
                 have hnb85 := NB350_345.out
                 have hnc85 := NB345_350.out
                 have hcz86_0 : w66.cell? ⟨gb350, 0, none⟩ = some (.int .u16 ((rd_T25 y346 x53_2).f0)) := (blk_cell BK350.out 0).trans rfl
                 have hcz86_1 : w66.cell? ⟨gb350, 1, none⟩ = some (.int .u32 ((rd_T25 y346 x53_2).f1)) := (blk_cell BK350.out 1).trans rfl
                 have hcz86_2 : w66.cell? ⟨gb350, 2, none⟩ = some (.string ((rd_T25 y346 x53_2).f2)) := (blk_cell BK350.out 2).trans rfl
                 have hcz86_3 : w66.cell? ⟨gb350, 3, none⟩ = some (.int .i64 ((rd_T25 y346 x53_2).f3)) := (blk_cell BK350.out 3).trans rfl
                 have hfz86_0 := blk_frozen BK350.out 0
                 have hfz86_1 := blk_frozen BK350.out 1
                 have hfz86_2 := blk_frozen BK350.out 2
                 have hfz86_3 := blk_frozen BK350.out 3
                 go_wp2
                 go_meet
                 case rel => exact ⟨_, ((t366 != 0)), (by first | rfl | (simp; done) | (simp [*]; done)), H', ⟨by have := HJ6.out; have := HK2.out; have := HJ33.out; first | omega | exact Nat.le_refl _⟩, ⟨by (with_reducible repeat (first | apply Kd.R_alloc | apply Kd.R_drewN | apply Kd.R_drew)); exact Kd.R_mono (Kd.R_far (p := ⟨gb367, 3, none⟩) (Kd.R_far (p := ⟨gb367, 2, none⟩) (Kd.R_far (p := ⟨gb367, 1, none⟩) (Kd.R_far (p := ⟨gb367, 0, none⟩) (Kd.R_types HO_12.out BK367.out (by decide)) (fun _ hk => hk.2) (.int .u16 t361)) (fun _ hk => hk.2) (.int .u32 t362)) (fun _ hk => hk.2) (.string t363)) (fun _ hk => hk.2) (.int .i64 t364)) (fun _ hk => trivial)⟩, ⟨by (with_reducible repeat (first | apply Kd.R_alloc | apply Kd.R_drewN | apply Kd.R_drew)); exact Kd.R_mono (Kd.R_far (p := ⟨gb367, 3, none⟩) (Kd.R_far (p := ⟨gb367, 2, none⟩) (Kd.R_far (p := ⟨gb367, 1, none⟩) (Kd.R_far (p := ⟨gb367, 0, none⟩) (Kd.R_mono HO_51.out (fun k_ hk => (⟨hk, hk.2⟩ : _ ∧ k_ ≠ gb367))) (fun _ hk => hk.2) (.int .u16 t361)) (fun _ hk => hk.2) (.int .u32 t362)) (fun _ hk => hk.2) (.string t363)) (fun _ hk => hk.2) (.int .i64 t364)) (fun _ hk => ⟨hk.1.1.1, ⟨hk.1.1.2.1, ⟨hk.1.1.2.2, hk.1.2⟩⟩⟩)⟩, ⟨by (with_reducible repeat (first | refine blk_drewN ?_ _ | refine blk_drew ?_ | refine blk_alloc ?_ _)); refine blk_far ?_ NB342_367.out _; (with_reducible repeat (first | refine blk_drewN ?_ _ | refine blk_drew ?_ | refine blk_alloc ?_ _)); refine blk_far ?_ NB342_367.out _; (with_reducible repeat (first | refine blk_drewN ?_ _ | refine blk_drew ?_ | refine blk_alloc ?_ _)); refine blk_far ?_ NB342_367.out _; (with_reducible repeat (first | refine blk_drewN ?_ _ | refine blk_drew ?_ | refine blk_alloc ?_ _)); refine blk_far ?_ NB342_367.out _; (with_reducible repeat (first | refine blk_drewN ?_ _ | refine blk_drew ?_ | refine blk_alloc ?_ _)); exact BK342.out⟩, ⟨by (with_reducible repeat (first | refine blk_drewN ?_ _ | refine blk_drew ?_ | refine blk_alloc ?_ _)); refine blk_far ?_ NB345_367.out _; (with_reducible repeat (first | refine blk_drewN ?_ _ | refine blk_drew ?_ | refine blk_alloc ?_ _)); refine blk_far ?_ NB345_367.out _; (with_reducible repeat (first | refine blk_drewN ?_ _ | refine blk_drew ?_ | refine blk_alloc ?_ _)); refine blk_far ?_ NB345_367.out _; (with_reducible repeat (first | refine blk_drewN ?_ _ | refine blk_drew ?_ | refine blk_alloc ?_ _)); refine blk_far ?_ NB345_367.out _; (with_reducible repeat (first | refine blk_drewN ?_ _ | refine blk_drew ?_ | refine blk_alloc ?_ _)); exact BK345.out⟩, ⟨by (with_reducible repeat (first | refine blk_drewN ?_ _ | refine blk_drew ?_ | refine blk_alloc ?_ _)); refine blk_far ?_ NB350_367.out _; (with_reducible repeat (first | refine blk_drewN ?_ _ | refine blk_drew ?_ | refine blk_alloc ?_ _)); refine blk_far ?_ NB350_367.out _; (with_reducible repeat (first | refine blk_drewN ?_ _ | refine blk_drew ?_ | refine blk_alloc ?_ _)); refine blk_far ?_ NB350_367.out _; (with_reducible repeat (first | refine blk_drewN ?_ _ | refine blk_drew ?_ | refine blk_alloc ?_ _)); refine blk_far ?_ NB350_367.out _; (with_reducible repeat (first | refine blk_drewN ?_ _ | refine blk_drew ?_ | refine blk_alloc ?_ _)); exact BK350.out⟩, ⟨by (with_reducible repeat (first | refine blk_drewN ?_ _ | refine blk_drew ?_ | refine blk_alloc ?_ _)); refine blk_put (cs := #[.int .u16 t361, .int .u32 t362, .string t363, .int .i64 0]) ?_ 3 _ rfl; (with_reducible repeat (first | refine blk_drewN ?_ _ | refine blk_drew ?_ | refine blk_alloc ?_ _)); refine blk_put (cs := #[.int .u16 t361, .int .u32 t362, .string (⟨#[]⟩ : ByteArray), .int .i64 0]) ?_ 2 _ rfl; (with_reducible repeat (first | refine blk_drewN ?_ _ | refine blk_drew ?_ | refine blk_alloc ?_ _)); refine blk_put (cs := #[.int .u16 t361, .int .u32 0, .string (⟨#[]⟩ : ByteArray), .int .i64 0]) ?_ 1 _ rfl; (with_reducible repeat (first | refine blk_drewN ?_ _ | refine blk_drew ?_ | refine blk_alloc ?_ _)); refine blk_put (cs := #[.int .u16 0, .int .u32 0, .string (⟨#[]⟩ : ByteArray), .int .i64 0]) ?_ 0 _ rfl; (with_reducible repeat (first | refine blk_drewN ?_ _ | refine blk_drew ?_ | refine blk_alloc ?_ _)); exact BK367.out⟩, ⟨by repeat (first | (with_reducible first | exact HB.out | apply below_alloc | apply pw_below_drewN | apply below_drew1 | refine below_set ?_ GE342.out | refine below_set ?_ GE345.out | refine below_set ?_ GE350.out | refine below_set ?_ GE367.out) | exact HB.out)⟩⟩
                ·rw [if_neg c79] at H
                 have c79b0 : (t365 == (t351.length : Int)) = false := beq_eq_false_iff_ne.mpr c79
                 have c79b1 : (t365 != (t351.length : Int)) = true := bne_iff_ne.mpr c79
                 have H' := Aside0.mk H
                 clear H
                 have hnb87 := NB367_342.out
                 have hnc87 := NB342_367.out
                 have hnb88 := NB367_345.out
                 have hnc88 := NB345_367.out
                 have hnb89 := NB367_350.out
                 have hnc89 := NB350_367.out
                 have hcz90_0 : w66.cell? ⟨gb367, 0, none⟩ = some (.int .u16 0) := (blk_cell BK367.out 0).trans rfl
                 have hcz90_1 : w66.cell? ⟨gb367, 1, none⟩ = some (.int .u32 0) := (blk_cell BK367.out 1).trans rfl
                 have hcz90_2 : w66.cell? ⟨gb367, 2, none⟩ = some (.string (⟨#[]⟩ : ByteArray)) := (blk_cell BK367.out 2).trans rfl
                 have hcz90_3 : w66.cell? ⟨gb367, 3, none⟩ = some (.int .i64 0) := (blk_cell BK367.out 3).trans rfl
                 have hfz90_0 := blk_frozen BK367.out 0
                 have hfz90_1 := blk_frozen BK367.out 1
                 have hfz90_2 := blk_frozen BK367.out 2
                 have hfz90_3 := blk_frozen BK367.out 3
                 have hnb91 := NB350_342.out
                 have hnc91 := NB342_350.out
                 have hnb92 := NB350_345.out
                 have hnc92 := NB345_350.out
                 have hcz93_0 : w66.cell? ⟨gb350, 0, none⟩ = some (.int .u16 ((rd_T25 y346 x53_2).f0)) := (blk_cell BK350.out 0).trans rfl
                 have hcz93_1 : w66.cell? ⟨gb350, 1, none⟩ = some (.int .u32 ((rd_T25 y346 x53_2).f1)) := (blk_cell BK350.out 1).trans rfl
                 have hcz93_2 : w66.cell? ⟨gb350, 2, none⟩ = some (.string ((rd_T25 y346 x53_2).f2)) := (blk_cell BK350.out 2).trans rfl
                 have hcz93_3 : w66.cell? ⟨gb350, 3, none⟩ = some (.int .i64 ((rd_T25 y346 x53_2).f3)) := (blk_cell BK350.out 3).trans rfl
                 have hfz93_0 := blk_frozen BK350.out 0
                 have hfz93_1 := blk_frozen BK350.out 1
                 have hfz93_2 := blk_frozen BK350.out 2
                 have hfz93_3 := blk_frozen BK350.out 3
                 go_wp2
                 go_meet
                 case rel => exact ⟨_, (true), (by first | rfl | (simp; done) | (simp [*]; done)), H', ⟨by have := HJ6.out; have := HK2.out; have := HJ33.out; first | omega | exact Nat.le_refl _⟩, ⟨by (with_reducible repeat (first | apply Kd.R_alloc | apply Kd.R_drewN | apply Kd.R_drew)); exact Kd.R_mono (Kd.R_far (p := ⟨gb367, 3, none⟩) (Kd.R_far (p := ⟨gb367, 2, none⟩) (Kd.R_far (p := ⟨gb367, 1, none⟩) (Kd.R_far (p := ⟨gb367, 0, none⟩) (Kd.R_types HO_12.out BK367.out (by decide)) (fun _ hk => hk.2) (.int .u16 t361)) (fun _ hk => hk.2) (.int .u32 t362)) (fun _ hk => hk.2) (.string t363)) (fun _ hk => hk.2) (.int .i64 t364)) (fun _ hk => trivial)⟩, ⟨by (with_reducible repeat (first | apply Kd.R_alloc | apply Kd.R_drewN | apply Kd.R_drew)); exact Kd.R_mono (Kd.R_far (p := ⟨gb367, 3, none⟩) (Kd.R_far (p := ⟨gb367, 2, none⟩) (Kd.R_far (p := ⟨gb367, 1, none⟩) (Kd.R_far (p := ⟨gb367, 0, none⟩) (Kd.R_mono HO_51.out (fun k_ hk => (⟨hk, hk.2⟩ : _ ∧ k_ ≠ gb367))) (fun _ hk => hk.2) (.int .u16 t361)) (fun _ hk => hk.2) (.int .u32 t362)) (fun _ hk => hk.2) (.string t363)) (fun _ hk => hk.2) (.int .i64 t364)) (fun _ hk => ⟨hk.1.1.1, ⟨hk.1.1.2.1, ⟨hk.1.1.2.2, hk.1.2⟩⟩⟩)⟩, ⟨by (with_reducible repeat (first | refine blk_drewN ?_ _ | refine blk_drew ?_ | refine blk_alloc ?_ _)); refine blk_far ?_ NB342_367.out _; (with_reducible repeat (first | refine blk_drewN ?_ _ | refine blk_drew ?_ | refine blk_alloc ?_ _)); refine blk_far ?_ NB342_367.out _; (with_reducible repeat (first | refine blk_drewN ?_ _ | refine blk_drew ?_ | refine blk_alloc ?_ _)); refine blk_far ?_ NB342_367.out _; (with_reducible repeat (first | refine blk_drewN ?_ _ | refine blk_drew ?_ | refine blk_alloc ?_ _)); refine blk_far ?_ NB342_367.out _; (with_reducible repeat (first | refine blk_drewN ?_ _ | refine blk_drew ?_ | refine blk_alloc ?_ _)); exact BK342.out⟩, ⟨by (with_reducible repeat (first | refine blk_drewN ?_ _ | refine blk_drew ?_ | refine blk_alloc ?_ _)); refine blk_far ?_ NB345_367.out _; (with_reducible repeat (first | refine blk_drewN ?_ _ | refine blk_drew ?_ | refine blk_alloc ?_ _)); refine blk_far ?_ NB345_367.out _; (with_reducible repeat (first | refine blk_drewN ?_ _ | refine blk_drew ?_ | refine blk_alloc ?_ _)); refine blk_far ?_ NB345_367.out _; (with_reducible repeat (first | refine blk_drewN ?_ _ | refine blk_drew ?_ | refine blk_alloc ?_ _)); refine blk_far ?_ NB345_367.out _; (with_reducible repeat (first | refine blk_drewN ?_ _ | refine blk_drew ?_ | refine blk_alloc ?_ _)); exact BK345.out⟩, ⟨by (with_reducible repeat (first | refine blk_drewN ?_ _ | refine blk_drew ?_ | refine blk_alloc ?_ _)); refine blk_far ?_ NB350_367.out _; (with_reducible repeat (first | refine blk_drewN ?_ _ | refine blk_drew ?_ | refine blk_alloc ?_ _)); refine blk_far ?_ NB350_367.out _; (with_reducible repeat (first | refine blk_drewN ?_ _ | refine blk_drew ?_ | refine blk_alloc ?_ _)); refine blk_far ?_ NB350_367.out _; (with_reducible repeat (first | refine blk_drewN ?_ _ | refine blk_drew ?_ | refine blk_alloc ?_ _)); refine blk_far ?_ NB350_367.out _; (with_reducible repeat (first | refine blk_drewN ?_ _ | refine blk_drew ?_ | refine blk_alloc ?_ _)); exact BK350.out⟩, ⟨by (with_reducible repeat (first | refine blk_drewN ?_ _ | refine blk_drew ?_ | refine blk_alloc ?_ _)); refine blk_put (cs := #[.int .u16 t361, .int .u32 t362, .string t363, .int .i64 0]) ?_ 3 _ rfl; (with_reducible repeat (first | refine blk_drewN ?_ _ | refine blk_drew ?_ | refine blk_alloc ?_ _)); refine blk_put (cs := #[.int .u16 t361, .int .u32 t362, .string (⟨#[]⟩ : ByteArray), .int .i64 0]) ?_ 2 _ rfl; (with_reducible repeat (first | refine blk_drewN ?_ _ | refine blk_drew ?_ | refine blk_alloc ?_ _)); refine blk_put (cs := #[.int .u16 t361, .int .u32 0, .string (⟨#[]⟩ : ByteArray), .int .i64 0]) ?_ 1 _ rfl; (with_reducible repeat (first | refine blk_drewN ?_ _ | refine blk_drew ?_ | refine blk_alloc ?_ _)); refine blk_put (cs := #[.int .u16 0, .int .u32 0, .string (⟨#[]⟩ : ByteArray), .int .i64 0]) ?_ 0 _ rfl; (with_reducible repeat (first | refine blk_drewN ?_ _ | refine blk_drew ?_ | refine blk_alloc ?_ _)); exact BK367.out⟩, ⟨by repeat (first | (with_reducible first | exact HB.out | apply below_alloc | apply pw_below_drewN | apply below_drew1 | refine below_set ?_ GE342.out | refine below_set ?_ GE345.out | refine below_set ?_ GE350.out | refine below_set ?_ GE367.out) | exact HB.out)⟩⟩
              case rest =>
               clear HC63
               try clear c1
               try clear c2
               try clear p2
               try clear c3
               try clear p3
               try clear q3
               try clear hx3
               try clear c4
               try clear hcv4
               try clear hcv5
               try clear c6
               try clear p6
               try clear c7
               try clear c8
               try clear c9
               try clear c10
               try clear c11
               try clear c12
               try clear c29
               try clear c29b0
               try clear c30
               try clear c30b0
               try clear c31
               try clear c31b0
               try clear p34
               try clear q34
               try clear hx34
               try clear c36
               try clear c37
               try clear c42
               try clear c42b0
               try clear c42b1
               try clear c43
               try clear c43b0
               try clear c43b1
               try clear hcv47
               try clear hcv48
               try clear hcv53
               try clear hcv54
               try clear hcv57
               try clear hcv58
               try clear c60
               try clear c61
               try clear c61b0
               try clear c61b1
               try clear p64
               try clear c67
               try clear c68
               try clear c69
               try clear c71
               try clear c71b0
               try clear c72
               try clear c73
               try clear c74
               try clear c76
               try clear c77
               try clear c79
               try clear c79b0
               try clear c79b1
               try clear c80
               try clear c81
               try clear c82
               try clear c84
               try clear c85
               try clear c87
               try clear c88
               try clear c89
               try clear c91
               try clear c92
               try clear hcz38_0
               try clear hcz38_1
               try clear hcz38_2
               try clear hcz38_3
               try clear hcz40_0
               try clear hcz40_1
               try clear hcz40_2
               try clear hcz40_3
               try clear hcz70_0
               try clear hcz70_1
               try clear hcz70_2
               try clear hcz70_3
               try clear hcz75_0
               try clear hcz75_1
               try clear hcz75_2
               try clear hcz75_3
               try clear hcz78_0
               try clear hcz78_1
               try clear hcz78_2
               try clear hcz78_3
               try clear hcz83_0
               try clear hcz83_1
               try clear hcz83_2
               try clear hcz83_3
               try clear hcz86_0
               try clear hcz86_1
               try clear hcz86_2
               try clear hcz86_3
               try clear hcz90_0
               try clear hcz90_1
               try clear hcz90_2
               try clear hcz90_3
               try clear hcz93_0
               try clear hcz93_1
               try clear hcz93_2
               try clear hcz93_3
               try clear hfz12_1
               try clear hfz12_2
               try clear hfz12_3
               try clear hfz24_0
               try clear hfz24_1
               try clear hfz24_2
               try clear hfz24_3
               try clear hfz25_0
               try clear hfz25_1
               try clear hfz25_2
               try clear hfz25_3
               try clear hfz38_0
               try clear hfz38_1
               try clear hfz38_2
               try clear hfz38_3
               try clear hfz40_0
               try clear hfz40_1
               try clear hfz40_2
               try clear hfz40_3
               try clear hfz70_0
               try clear hfz70_1
               try clear hfz70_2
               try clear hfz70_3
               try clear hfz75_0
               try clear hfz75_1
               try clear hfz75_2
               try clear hfz75_3
               try clear hfz78_0
               try clear hfz78_1
               try clear hfz78_2
               try clear hfz78_3
               try clear hfz83_0
               try clear hfz83_1
               try clear hfz83_2
               try clear hfz83_3
               try clear hfz86_0
               try clear hfz86_1
               try clear hfz86_2
               try clear hfz86_3
               try clear hfz90_0
               try clear hfz90_1
               try clear hfz90_2
               try clear hfz90_3
               try clear hfz93_0
               try clear hfz93_1
               try clear hfz93_2
               try clear hfz93_3
               try clear hx349_0
               try clear hx349_1
               try clear hx349_2
               try clear hx349_3
               try clear p2
               try clear p3
               try clear p34
               try clear p349
               try clear p6
               try clear q3
               try clear q34
               try clear q349
               obtain ⟨kq, x104_62, rfl, HA, HJ62, HO_12, HO_51, BK342, BK345, BK350, BK367, HB⟩ := hcut
               cases kq with
               | zero => exact absurd HA.out (by simp [guichetlaw13_PosBack.j3])
               | succ kj62 =>
                have H := HA.out
                clear HA
                simp only [guichetlaw13_PosBack.j3] at H
                by_cases c94 : x104_62 = true
                ·subst c94
                 have H1 : (none) = some r := by rw [if_pos rfl] at H; exact H
                 clear H
                 have H := H1
                 clear H1
                 exact absurd H (by simp)
                ·replace c94 := Bool.eq_false_iff.mpr c94
                 subst c94
                 have H1 : (if ([] : List Int).length + l3.length < 140737488355328 then ((some (([] : List Int) ++ l3 : List Int)).bind fun y368 => (if y368.length + t351.length < 140737488355328 then ((some (y368 ++ t351 : List Int)).bind fun y371 => ((pos_Read.f kj62 y371).bind fun bt374 => ((guichetref12_PosRead.f kj62 y371).bind fun bt381 => (if (!(bt374.1 == bt381.1) || (!(bt374.2.1 == bt381.2.1) || (!(bt374.2.2.1.toList == bt381.2.2.1.toList) || (!(bt374.2.2.2.1 == bt381.2.2.2.1))))) = true then (none) else (if bt374.2.2.2.2.1 = bt381.2.2.2.2.1 then (if bt374.2.2.2.2.2 = bt381.2.2.2.2.2 then (guichetlaw13_PosBack.l0 kj62 l3 y346 (y346.length : Int) (wrap64 (x53_2 + 1))) else (none)) else (none)))))) else (none))) else (none)) = some r := by rw [if_neg (show ¬ (false = true) by decide)] at H; exact H
                 clear H
                 have H := H1
                 clear H1
                 by_cases c95 : ([] : List Int).length + l3.length < 140737488355328
                 ·rw [if_pos c95] at H
                  have LMc95 := Aside0.mk c95
                  clear c95
                  obtain ⟨y368, hy368⟩ : ∃ y_ : List Int, y_ = (([] : List Int) ++ l3) := ⟨_, rfl⟩
                  replace H : (if y368.length + t351.length < 140737488355328 then ((some (y368 ++ t351 : List Int)).bind fun y371 => ((pos_Read.f kj62 y371).bind fun bt374 => ((guichetref12_PosRead.f kj62 y371).bind fun bt381 => (if (!(bt374.1 == bt381.1) || (!(bt374.2.1 == bt381.2.1) || (!(bt374.2.2.1.toList == bt381.2.2.1.toList) || (!(bt374.2.2.2.1 == bt381.2.2.2.1))))) = true then (none) else (if bt374.2.2.2.2.1 = bt381.2.2.2.2.1 then (if bt374.2.2.2.2.2 = bt381.2.2.2.2.2 then (guichetlaw13_PosBack.l0 kj62 l3 y346 (y346.length : Int) (wrap64 (x53_2 + 1))) else (none)) else (none)))))) else (none)) = some r := by first | (rw [hy368]; with_reducible exact H) | (have H2_ := (Option.bind_some _ _).symm.trans H; rw [hy368]; with_reducible exact H2_) | (have H2_ := (Option.bind_some _ _).symm.trans H; with_reducible exact H2_) | with_reducible exact H | (rw [hy368]; exact H) | exact H
                  have Ny368 := Aside0.mk hy368
                  clear hy368
                  by_cases c96 : y368.length + t351.length < 140737488355328
                  ·rw [if_pos c96] at H
                   have LMc96 := Aside0.mk c96
                   clear c96
                   obtain ⟨y371, hy371⟩ : ∃ y_ : List Int, y_ = (y368 ++ t351) := ⟨_, rfl⟩
                   replace H : ((pos_Read.f kj62 y371).bind fun bt374 => ((guichetref12_PosRead.f kj62 y371).bind fun bt381 => (if (!(bt374.1 == bt381.1) || (!(bt374.2.1 == bt381.2.1) || (!(bt374.2.2.1.toList == bt381.2.2.1.toList) || (!(bt374.2.2.2.1 == bt381.2.2.2.1))))) = true then (none) else (if bt374.2.2.2.2.1 = bt381.2.2.2.2.1 then (if bt374.2.2.2.2.2 = bt381.2.2.2.2.2 then (guichetlaw13_PosBack.l0 kj62 l3 y346 (y346.length : Int) (wrap64 (x53_2 + 1))) else (none)) else (none))))) = some r := by first | (rw [hy371]; with_reducible exact H) | (have H2_ := (Option.bind_some _ _).symm.trans H; rw [hy371]; with_reducible exact H2_) | (have H2_ := (Option.bind_some _ _).symm.trans H; with_reducible exact H2_) | with_reducible exact H | (rw [hy371]; exact H) | exact H
                   have Ny371 := Aside0.mk hy371
                   clear hy371
                   replace H := Option.bind_eq_some_iff.mp H
                   obtain ⟨⟨t374, t375, t376, t377, t378, t379⟩, A970, H⟩ := H
                   replace H : ((guichetref12_PosRead.f kj62 y371).bind fun bt381 => (if (!(t374 == bt381.1) || (!(t375 == bt381.2.1) || (!(t376.toList == bt381.2.2.1.toList) || (!(t377 == bt381.2.2.2.1))))) = true then (none) else (if t378 = bt381.2.2.2.2.1 then (if t379 = bt381.2.2.2.2.2 then (guichetlaw13_PosBack.l0 kj62 l3 y346 (y346.length : Int) (wrap64 (x53_2 + 1))) else (none)) else (none)))) = some r := H
                   have A97 := Aside0.mk A970
                   clear A970
                   replace H := Option.bind_eq_some_iff.mp H
                   obtain ⟨⟨t381, t382, t383, t384, t385, t386⟩, A980, H⟩ := H
                   replace H : (if (!(t374 == t381) || (!(t375 == t382) || (!(t376.toList == t383.toList) || (!(t377 == t384))))) = true then (none) else (if t378 = t385 then (if t379 = t386 then (guichetlaw13_PosBack.l0 kj62 l3 y346 (y346.length : Int) (wrap64 (x53_2 + 1))) else (none)) else (none))) = some r := H
                   have A98 := Aside0.mk A980
                   clear A980
                   by_cases c99 : (!(t374 == t381) || (!(t375 == t382) || (!(t376.toList == t383.toList) || (!(t377 == t384))))) = true
                   ·rw [if_pos c99] at H
                    exact absurd H (by simp)
                   ·rw [if_neg c99] at H
                    have c99b0 : (!(t374 == t381) || (!(t375 == t382) || (!(t376.toList == t383.toList) || (!(t377 == t384))))) = false := by simpa using c99
                    clear c99
                    by_cases c100 : t378 = t385
                    ·rw [if_pos c100] at H
                     have c100b0 : (t378 == t385) = true := beq_iff_eq.mpr c100
                     have c100b1 : (t378 != t385) = false := bne_eq_false_iff_eq.mpr c100
                     clear c100
                     by_cases c101 : t379 = t386
                     ·rw [if_pos c101] at H
                      have c101b0 : (t379 == t386) = true := beq_iff_eq.mpr c101
                      have c101b1 : (t379 != t386) = false := bne_eq_false_iff_eq.mpr c101
                      clear c101
                      have H' := Aside0.mk H
                      clear H
                      go_wp2_with (first | ((with_reducible refine gate_builtin (b := .append) (xs := #[.const (.slice none 0 0), .tmp 105]) rfl ?_); (try (refine gate_guard (by rfl) ?_; dsimp only)); at_builtin; refine Kd.R_append_rows (Kd.int .u8) (w0 := w) w.heap.size rfl (.const (.slice none 0 0)) (.tmp 105) 26 5 (.int .u8 0) 1 rfl Tryd.underlying26 info5 rfl (by decide) (by omega) (.slice none 0 0) ([] : List Int) l3 _ _ _ (fun k_ => some k_ ≠ (.slice Ao64 t351.length co64 : Value).ownBlock) (fun _ => False) rfl rfl ?aO ?aR (fun _ _ h => h) (fun _ h => h.elim) ?aF ?aB ?aS ?aL ?_; (case aR => repeat (first | exact (Kd.C_below HR3.out HB.out) | (with_reducible refine Kd.C_alloc ?_ _) | (with_reducible refine Kd.C_drewN ?_ _) | (with_reducible refine Kd.C_drew ?_))); (case aB => exact (by repeat (first | (with_reducible first | exact HB.out | apply below_alloc | apply pw_below_drewN | apply below_drew1 | refine below_set ?_ GE342.out | refine below_set ?_ GE345.out | refine below_set ?_ GE350.out | refine below_set ?_ GE367.out) | exact HB.out))); (case aF => exact (fun k_ hk => Kd.fresh' (Kd.R_lt (by (with_reducible repeat (first | apply Kd.R_alloc | apply Kd.R_drewN | apply Kd.R_drew)); exact HO_12.out)) k_ hk)); (case aO => exact ((Kd.R_nil _ _ _ _ (fun k_ => some k_ ≠ (.slice Ao64 t351.length co64 : Value).ownBlock)))); (case aS => exact (below_size (by repeat (first | (with_reducible first | exact HB.out | apply below_alloc | apply pw_below_drewN | apply below_drew1 | refine below_set ?_ GE342.out | refine below_set ?_ GE345.out | refine below_set ?_ GE350.out | refine below_set ?_ GE367.out) | exact HB.out)))); (case aL => have := LMc95.out; omega); intro v369 w102 ho hb hg hat; rw [← Ny368.out] at ho; have n0_ := Aside0.mk (Kd.R_after (Kd.R_apart_nil (by (with_reducible repeat (first | apply Kd.R_alloc | apply Kd.R_drewN | apply Kd.R_drew)); exact HO_12.out)) hg hat); have n1_ := Aside0.mk (Kd.R_grown (by (with_reducible repeat (first | apply Kd.R_alloc | apply Kd.R_drewN | apply Kd.R_drew)); exact HO_51.out) hg (fun _ _ => by simp [Value.ownBlock])); have n2_ := Aside0.mk (blk_grown (g := gb342) (o := .cells #[.int .u16 a0_0, .int .u32 a0_1, .string a0_2, .int .i64 a0_3] 25 (0, 0)) (by (with_reducible repeat (first | refine blk_drewN ?_ _ | refine blk_drew ?_ | refine blk_alloc ?_ _)); exact BK342.out) hg (by simp [Value.ownBlock])); have n3_ := Aside0.mk (blk_grown (g := gb345) (o := .cells #[.int .u16 a0_0, .int .u32 (Int.tmod a0_1 1000000), .string t344, .int .i64 (wrap64 ((wrap64 (Int.tmod a2 1000001)) + 1))] 25 (0, 0)) (by (with_reducible repeat (first | refine blk_drewN ?_ _ | refine blk_drew ?_ | refine blk_alloc ?_ _)); exact BK345.out) hg (by simp [Value.ownBlock])); have n4_ := Aside0.mk (blk_grown (g := gb350) (o := .cells #[.int .u16 ((rd_T25 y346 x53_2).f0), .int .u32 ((rd_T25 y346 x53_2).f1), .string ((rd_T25 y346 x53_2).f2), .int .i64 ((rd_T25 y346 x53_2).f3)] 25 (0, 0)) (by (with_reducible repeat (first | refine blk_drewN ?_ _ | refine blk_drew ?_ | refine blk_alloc ?_ _)); exact BK350.out) hg (by simp [Value.ownBlock])); have n5_ := Aside0.mk (blk_grown (g := gb367) (o := .cells #[.int .u16 t361, .int .u32 t362, .string t363, .int .i64 t364] 25 (0, 0)) (by (with_reducible repeat (first | refine blk_drewN ?_ _ | refine blk_drew ?_ | refine blk_alloc ?_ _)); exact BK367.out) hg (by simp [Value.ownBlock])); have n6_ := Aside0.mk (hb); have n7_ := Aside0.mk (ho); clear HO_12; clear HO_51; clear BK342; clear BK345; clear BK350; clear BK367; clear HB; have HO_12 := n0_; have HO_51 := n1_; have BK342 := n2_; have BK345 := n3_; have BK350 := n4_; have BK367 := n5_; have HB := n6_; have HO370 := n7_; clear n0_ n1_ n2_ n3_ n4_ n5_ n6_ n7_; clear ho hb hg hat) | ((with_reducible refine gate_builtin (b := .append) (xs := #[.tmp 106, .tmp 107]) rfl ?_); (try (refine gate_guard (by rfl) ?_; dsimp only)); at_builtin; refine Kd.R_append_rows (Kd.int .u8) (w0 := w) w.heap.size rfl (.tmp 106) (.tmp 107) 26 5 (.int .u8 0) 1 rfl Tryd.underlying26 info5 rfl (by decide) (by omega) v369 y368 t351 _ _ _ (fun k_ => some k_ ≠ (.slice Ao64 t351.length co64 : Value).ownBlock) (fun _ => False) rfl rfl ?aO ?aR (fun _ _ h => h) (fun _ h => h.elim) ?aF ?aB ?aS ?aL ?_; (case aR => repeat (first | exact (Kd.R_reads' HO_12.out).2.2 | (with_reducible refine Kd.C_alloc ?_ _) | (with_reducible refine Kd.C_drewN ?_ _) | (with_reducible refine Kd.C_drew ?_))); (case aB => exact (by repeat (first | (with_reducible first | exact HB.out | apply below_alloc | apply pw_below_drewN | apply below_drew1 | refine below_set ?_ GE342.out | refine below_set ?_ GE345.out | refine below_set ?_ GE350.out | refine below_set ?_ GE367.out) | exact HB.out))); (case aF => exact (fun k_ hk => Kd.fresh' (Kd.R_lt (by (with_reducible repeat (first | apply Kd.R_alloc | apply Kd.R_drewN | apply Kd.R_drew)); exact HO_12.out)) k_ hk)); (case aO => exact (by (with_reducible repeat (first | apply Kd.R_alloc | apply Kd.R_drewN | apply Kd.R_drew)); exact HO370.out)); (case aS => exact (below_size (by repeat (first | (with_reducible first | exact HB.out | apply below_alloc | apply pw_below_drewN | apply below_drew1 | refine below_set ?_ GE342.out | refine below_set ?_ GE345.out | refine below_set ?_ GE350.out | refine below_set ?_ GE367.out) | exact HB.out)))); (case aL => have := LMc96.out; omega); intro v372 w103 ho hb hg hat; rw [← Ny371.out] at ho; have n0_ := Aside0.mk (Kd.R_after (ok := (fun _ => True)) (by (with_reducible repeat (first | apply Kd.R_alloc | apply Kd.R_drewN | apply Kd.R_drew)); exact HO_12.out) hg hat); have n1_ := Aside0.mk (Kd.R_over' (by (with_reducible repeat (first | apply Kd.R_alloc | apply Kd.R_drewN | apply Kd.R_drew)); exact HO_51.out) (Kd.R_typed (by (with_reducible repeat (first | apply Kd.R_alloc | apply Kd.R_drewN | apply Kd.R_drew)); exact HO370.out)) (by decide) hg); have n2_ := Aside0.mk (blk_grown (g := gb342) (o := .cells #[.int .u16 a0_0, .int .u32 a0_1, .string a0_2, .int .i64 a0_3] 25 (0, 0)) (by (with_reducible repeat (first | refine blk_drewN ?_ _ | refine blk_drew ?_ | refine blk_alloc ?_ _)); exact BK342.out) hg (Kd.R_ne HO370.out BK342.out (by decide))); have n3_ := Aside0.mk (blk_grown (g := gb345) (o := .cells #[.int .u16 a0_0, .int .u32 (Int.tmod a0_1 1000000), .string t344, .int .i64 (wrap64 ((wrap64 (Int.tmod a2 1000001)) + 1))] 25 (0, 0)) (by (with_reducible repeat (first | refine blk_drewN ?_ _ | refine blk_drew ?_ | refine blk_alloc ?_ _)); exact BK345.out) hg (Kd.R_ne HO370.out BK345.out (by decide))); have n4_ := Aside0.mk (blk_grown (g := gb350) (o := .cells #[.int .u16 ((rd_T25 y346 x53_2).f0), .int .u32 ((rd_T25 y346 x53_2).f1), .string ((rd_T25 y346 x53_2).f2), .int .i64 ((rd_T25 y346 x53_2).f3)] 25 (0, 0)) (by (with_reducible repeat (first | refine blk_drewN ?_ _ | refine blk_drew ?_ | refine blk_alloc ?_ _)); exact BK350.out) hg (Kd.R_ne HO370.out BK350.out (by decide))); have n5_ := Aside0.mk (blk_grown (g := gb367) (o := .cells #[.int .u16 t361, .int .u32 t362, .string t363, .int .i64 t364] 25 (0, 0)) (by (with_reducible repeat (first | refine blk_drewN ?_ _ | refine blk_drew ?_ | refine blk_alloc ?_ _)); exact BK367.out) hg (Kd.R_ne HO370.out BK367.out (by decide))); have n6_ := Aside0.mk (hb); have n7_ := Aside0.mk (ho); clear HO_12; clear HO_51; clear BK342; clear BK345; clear BK350; clear BK367; clear HB; clear HO370; have HO_12 := n0_; have HO_51 := n1_; have BK342 := n2_; have BK345 := n3_; have BK350 := n4_; have BK367 := n5_; have HB := n6_; have HO373 := n7_; clear n0_ n1_ n2_ n3_ n4_ n5_ n6_ n7_; clear ho hb hg hat; obtain ⟨Ao104, co104, eo104⟩ := Kd.R_slice HO373.out; subst eo104) | ((with_reducible refine gate_callee (f := 12) rfl ?_); refine goesL_ (some 111) rfl rfl Tryd.func12 (by kernel_rfl) rfl #[.slice Ao104 y371.length co104] rfl (by (try simp only [List.map_toArray, List.map_cons, List.map_nil]); first | done | rfl | (simp only [List.length_drop, List.length_take]; rfl) | (rw [hsame_])) ?_; (with_reducible refine (pos_Read.calls kj62 _ _ y371 t374 t375 t376 t377 t378 t379 _ ?side1 ?side2 ?side3 A97.out).mono ?_); (case side1 => exact tab_at HT.out (by repeat (first | (with_reducible first | exact HB.out | apply below_alloc | apply pw_below_drewN | apply below_drew1 | refine below_set ?_ GE342.out | refine below_set ?_ GE345.out | refine below_set ?_ GE350.out | refine below_set ?_ GE367.out) | exact HB.out))); (case side2 => repeat (first | exact (Kd.R_reads' HO373.out).2.2 | (with_reducible refine Kd.C_alloc ?_ _) | (with_reducible refine Kd.C_drewN ?_ _) | (with_reducible refine Kd.C_drew ?_))); (case side3 => exact (Kd.R_reads' HO373.out).2.1); rintro e w105 ⟨rfl, hb⟩; refine ⟨_, rfl, ?_⟩; have n0_ := Aside0.mk (Kd.R_below (by (with_reducible repeat (first | apply Kd.R_alloc | apply Kd.R_drewN | apply Kd.R_drew)); exact HO_12.out) hb); have n1_ := Aside0.mk (Kd.R_below (by (with_reducible repeat (first | apply Kd.R_alloc | apply Kd.R_drewN | apply Kd.R_drew)); exact HO_51.out) hb); have n2_ := Aside0.mk (Kd.R_below (by (with_reducible repeat (first | apply Kd.R_alloc | apply Kd.R_drewN | apply Kd.R_drew)); exact HO373.out) hb); have n3_ := Aside0.mk (blk_below (g := gb342) (o := .cells #[.int .u16 a0_0, .int .u32 a0_1, .string a0_2, .int .i64 a0_3] 25 (0, 0)) (by (with_reducible repeat (first | refine blk_drewN ?_ _ | refine blk_drew ?_ | refine blk_alloc ?_ _)); exact BK342.out) hb); have n4_ := Aside0.mk (blk_below (g := gb345) (o := .cells #[.int .u16 a0_0, .int .u32 (Int.tmod a0_1 1000000), .string t344, .int .i64 (wrap64 ((wrap64 (Int.tmod a2 1000001)) + 1))] 25 (0, 0)) (by (with_reducible repeat (first | refine blk_drewN ?_ _ | refine blk_drew ?_ | refine blk_alloc ?_ _)); exact BK345.out) hb); have n5_ := Aside0.mk (blk_below (g := gb350) (o := .cells #[.int .u16 ((rd_T25 y346 x53_2).f0), .int .u32 ((rd_T25 y346 x53_2).f1), .string ((rd_T25 y346 x53_2).f2), .int .i64 ((rd_T25 y346 x53_2).f3)] 25 (0, 0)) (by (with_reducible repeat (first | refine blk_drewN ?_ _ | refine blk_drew ?_ | refine blk_alloc ?_ _)); exact BK350.out) hb); have n6_ := Aside0.mk (blk_below (g := gb367) (o := .cells #[.int .u16 t361, .int .u32 t362, .string t363, .int .i64 t364] 25 (0, 0)) (by (with_reducible repeat (first | refine blk_drewN ?_ _ | refine blk_drew ?_ | refine blk_alloc ?_ _)); exact BK367.out) hb); have n7_ := Aside0.mk (below_step (by repeat (first | (with_reducible first | exact HB.out | apply below_alloc | apply pw_below_drewN | apply below_drew1 | refine below_set ?_ GE342.out | refine below_set ?_ GE345.out | refine below_set ?_ GE350.out | refine below_set ?_ GE367.out) | exact HB.out)) hb); clear HO_12; clear HO_51; clear HO373; clear BK342; clear BK345; clear BK350; clear BK367; clear HB; have HO_12 := n0_; have HO_51 := n1_; have HO373 := n2_; have BK342 := n3_; have BK345 := n4_; have BK350 := n5_; have BK367 := n6_; have HB := n7_; clear n0_ n1_ n2_ n3_ n4_ n5_ n6_ n7_; (try clear hb); (try clear hb2); (try clear hk); (try clear hi)) | ((with_reducible refine gate_dst (N := 20) rfl ?_); (try (refine gate_guard (by rfl) ?_; dsimp only)); refine box_event ?hg (N := 20) ?hd (cs := #[.int .u16 0, .int .u32 0, .string (⟨#[]⟩ : ByteArray), .int .i64 0]) (t := 25) ?hr ?_; (case hd => rfl); (case hg => rfl); (case hr => first | (go_simp; done) | (go_simp; rfl)); intro gb380 hg w106 hbox hb; have n0_ := Aside0.mk (Kd.R_below (by (with_reducible repeat (first | apply Kd.R_alloc | apply Kd.R_drewN | apply Kd.R_drew)); exact HO_12.out) hb); have n1_ := Aside0.mk (Kd.R_below (Kd.R_elderB (by (with_reducible repeat (first | apply Kd.R_alloc | apply Kd.R_drewN | apply Kd.R_drew)); exact HO_51.out) gb380 (Nat.le_of_eq hg.symm)) hb); have n2_ := Aside0.mk (Kd.R_below (by (with_reducible repeat (first | apply Kd.R_alloc | apply Kd.R_drewN | apply Kd.R_drew)); exact HO373.out) hb); have n3_ := Aside0.mk (blk_below (g := gb342) (o := .cells #[.int .u16 a0_0, .int .u32 a0_1, .string a0_2, .int .i64 a0_3] 25 (0, 0)) (by (with_reducible repeat (first | refine blk_drewN ?_ _ | refine blk_drew ?_ | refine blk_alloc ?_ _)); exact BK342.out) hb); have n4_ := Aside0.mk (blk_below (g := gb345) (o := .cells #[.int .u16 a0_0, .int .u32 (Int.tmod a0_1 1000000), .string t344, .int .i64 (wrap64 ((wrap64 (Int.tmod a2 1000001)) + 1))] 25 (0, 0)) (by (with_reducible repeat (first | refine blk_drewN ?_ _ | refine blk_drew ?_ | refine blk_alloc ?_ _)); exact BK345.out) hb); have n5_ := Aside0.mk (blk_below (g := gb350) (o := .cells #[.int .u16 ((rd_T25 y346 x53_2).f0), .int .u32 ((rd_T25 y346 x53_2).f1), .string ((rd_T25 y346 x53_2).f2), .int .i64 ((rd_T25 y346 x53_2).f3)] 25 (0, 0)) (by (with_reducible repeat (first | refine blk_drewN ?_ _ | refine blk_drew ?_ | refine blk_alloc ?_ _)); exact BK350.out) hb); have n6_ := Aside0.mk (blk_below (g := gb367) (o := .cells #[.int .u16 t361, .int .u32 t362, .string t363, .int .i64 t364] 25 (0, 0)) (by (with_reducible repeat (first | refine blk_drewN ?_ _ | refine blk_drew ?_ | refine blk_alloc ?_ _)); exact BK367.out) hb); have n7_ := Aside0.mk (below_step (by repeat (first | (with_reducible first | exact HB.out | apply below_alloc | apply pw_below_drewN | apply below_drew1 | refine below_set ?_ GE342.out | refine below_set ?_ GE345.out | refine below_set ?_ GE350.out | refine below_set ?_ GE367.out) | exact HB.out)) hb); have n8_ := Aside0.mk (hbox); have n9_ := Aside0.mk ((by rw [hg]; exact (below_size (by repeat (first | (with_reducible first | exact HB.out | apply below_alloc | apply pw_below_drewN | apply below_drew1 | refine below_set ?_ GE342.out | refine below_set ?_ GE345.out | refine below_set ?_ GE350.out | refine below_set ?_ GE367.out) | exact HB.out))) : w.heap.size ≤ gb380)); have n10_ := Aside0.mk ((by rw [hg]; exact (below_size (by repeat (first | (with_reducible first | exact HB.out | apply below_alloc | apply pw_below_drewN | apply below_drew1 | refine below_set ?_ GE342.out | refine below_set ?_ GE345.out | refine below_set ?_ GE350.out | refine below_set ?_ GE367.out) | exact HB.out))) : w.heap.size ≤ gb380)); have n11_ := Aside0.mk ((by rw [hg]; exact Nat.ne_of_lt (blk_lt (g := gb342) (o := .cells #[.int .u16 a0_0, .int .u32 a0_1, .string a0_2, .int .i64 a0_3] 25 (0, 0)) (by (with_reducible repeat (first | refine blk_drewN ?_ _ | refine blk_drew ?_ | refine blk_alloc ?_ _)); exact BK342.out)) : gb342 ≠ gb380)); have n12_ := Aside0.mk ((by rw [hg]; exact Nat.ne_of_gt (blk_lt (g := gb342) (o := .cells #[.int .u16 a0_0, .int .u32 a0_1, .string a0_2, .int .i64 a0_3] 25 (0, 0)) (by (with_reducible repeat (first | refine blk_drewN ?_ _ | refine blk_drew ?_ | refine blk_alloc ?_ _)); exact BK342.out)) : gb380 ≠ gb342)); have n13_ := Aside0.mk ((by rw [hg]; exact Nat.ne_of_lt (blk_lt (g := gb345) (o := .cells #[.int .u16 a0_0, .int .u32 (Int.tmod a0_1 1000000), .string t344, .int .i64 (wrap64 ((wrap64 (Int.tmod a2 1000001)) + 1))] 25 (0, 0)) (by (with_reducible repeat (first | refine blk_drewN ?_ _ | refine blk_drew ?_ | refine blk_alloc ?_ _)); exact BK345.out)) : gb345 ≠ gb380)); have n14_ := Aside0.mk ((by rw [hg]; exact Nat.ne_of_gt (blk_lt (g := gb345) (o := .cells #[.int .u16 a0_0, .int .u32 (Int.tmod a0_1 1000000), .string t344, .int .i64 (wrap64 ((wrap64 (Int.tmod a2 1000001)) + 1))] 25 (0, 0)) (by (with_reducible repeat (first | refine blk_drewN ?_ _ | refine blk_drew ?_ | refine blk_alloc ?_ _)); exact BK345.out)) : gb380 ≠ gb345)); have n15_ := Aside0.mk ((by rw [hg]; exact Nat.ne_of_lt (blk_lt (g := gb350) (o := .cells #[.int .u16 ((rd_T25 y346 x53_2).f0), .int .u32 ((rd_T25 y346 x53_2).f1), .string ((rd_T25 y346 x53_2).f2), .int .i64 ((rd_T25 y346 x53_2).f3)] 25 (0, 0)) (by (with_reducible repeat (first | refine blk_drewN ?_ _ | refine blk_drew ?_ | refine blk_alloc ?_ _)); exact BK350.out)) : gb350 ≠ gb380)); have n16_ := Aside0.mk ((by rw [hg]; exact Nat.ne_of_gt (blk_lt (g := gb350) (o := .cells #[.int .u16 ((rd_T25 y346 x53_2).f0), .int .u32 ((rd_T25 y346 x53_2).f1), .string ((rd_T25 y346 x53_2).f2), .int .i64 ((rd_T25 y346 x53_2).f3)] 25 (0, 0)) (by (with_reducible repeat (first | refine blk_drewN ?_ _ | refine blk_drew ?_ | refine blk_alloc ?_ _)); exact BK350.out)) : gb380 ≠ gb350)); have n17_ := Aside0.mk ((by rw [hg]; exact Nat.ne_of_lt (blk_lt (g := gb367) (o := .cells #[.int .u16 t361, .int .u32 t362, .string t363, .int .i64 t364] 25 (0, 0)) (by (with_reducible repeat (first | refine blk_drewN ?_ _ | refine blk_drew ?_ | refine blk_alloc ?_ _)); exact BK367.out)) : gb367 ≠ gb380)); have n18_ := Aside0.mk ((by rw [hg]; exact Nat.ne_of_gt (blk_lt (g := gb367) (o := .cells #[.int .u16 t361, .int .u32 t362, .string t363, .int .i64 t364] 25 (0, 0)) (by (with_reducible repeat (first | refine blk_drewN ?_ _ | refine blk_drew ?_ | refine blk_alloc ?_ _)); exact BK367.out)) : gb380 ≠ gb367)); clear HO_12; clear HO_51; clear HO373; clear BK342; clear BK345; clear BK350; clear BK367; clear HB; have HO_12 := n0_; have HO_51 := n1_; have HO373 := n2_; have BK342 := n3_; have BK345 := n4_; have BK350 := n5_; have BK367 := n6_; have HB := n7_; have BK380 := n8_; have GW380 := n9_; have GE380 := n10_; have NB342_380 := n11_; have NB380_342 := n12_; have NB345_380 := n13_; have NB380_345 := n14_; have NB350_380 := n15_; have NB380_350 := n16_; have NB367_380 := n17_; have NB380_367 := n18_; clear n0_ n1_ n2_ n3_ n4_ n5_ n6_ n7_ n8_ n9_ n10_ n11_ n12_ n13_ n14_ n15_ n16_ n17_ n18_; clear hb hbox hg; have hnb107 := NB380_342.out; have hnc107 := NB342_380.out; have hnb108 := NB380_345.out; have hnc108 := NB345_380.out; have hnb109 := NB380_350.out; have hnc109 := NB350_380.out; have hnb110 := NB380_367.out; have hnc110 := NB367_380.out; have hcz111_0 : w106.cell? ⟨gb380, 0, none⟩ = some (.int .u16 0) := (blk_cell BK380.out 0).trans rfl; have hcz111_1 : w106.cell? ⟨gb380, 1, none⟩ = some (.int .u32 0) := (blk_cell BK380.out 1).trans rfl; have hcz111_2 : w106.cell? ⟨gb380, 2, none⟩ = some (.string (⟨#[]⟩ : ByteArray)) := (blk_cell BK380.out 2).trans rfl; have hcz111_3 : w106.cell? ⟨gb380, 3, none⟩ = some (.int .i64 0) := (blk_cell BK380.out 3).trans rfl; have hfz111_0 := blk_frozen BK380.out 0; have hfz111_1 := blk_frozen BK380.out 1; have hfz111_2 := blk_frozen BK380.out 2; have hfz111_3 := blk_frozen BK380.out 3) | ((with_reducible refine gate_callee (f := 13) rfl ?_); refine goesL_ (some 117) rfl rfl Tryd.func13 (by kernel_rfl) rfl #[.slice Ao104 y371.length co104] rfl (by (try simp only [List.map_toArray, List.map_cons, List.map_nil]); first | done | rfl | (simp only [List.length_drop, List.length_take]; rfl) | (rw [hsame_])) ?_; (with_reducible refine (guichetref12_PosRead.calls kj62 _ _ y371 t381 t382 t383 t384 t385 t386 _ ?side1 ?side2 A98.out).mono ?_); (case side1 => refine (Kd.R_reads' (e := 5) (base := w.heap.size) (ok := fun k_ => some k_ ≠ (.slice Ao64 t351.length co64 : Value).ownBlock) (n := y371.length) (c := co104) ?_).2.2; exact (by (with_reducible repeat (first | apply Kd.R_alloc | apply Kd.R_drewN | apply Kd.R_drew)); exact (Kd.R_mono (Kd.R_far (p := ⟨gb380, 3, none⟩) (Kd.R_far (p := ⟨gb380, 2, none⟩) (Kd.R_far (p := ⟨gb380, 1, none⟩) (Kd.R_far (p := ⟨gb380, 0, none⟩) (Kd.R_types HO373.out BK380.out (by decide)) (fun _ hk => hk.2) (.int .u16 t374)) (fun _ hk => hk.2) (.int .u32 t375)) (fun _ hk => hk.2) (.string t376)) (fun _ hk => hk.2) (.int .i64 t377)) (fun _ h_ => h_.1)))); (case side2 => exact (Kd.R_reads' HO373.out).2.1); rintro e w112 ⟨rfl, hb⟩; refine ⟨_, rfl, ?_⟩; have n0_ := Aside0.mk (Kd.R_below (by (with_reducible repeat (first | apply Kd.R_alloc | apply Kd.R_drewN | apply Kd.R_drew)); exact (Kd.R_mono (Kd.R_far (p := ⟨gb380, 3, none⟩) (Kd.R_far (p := ⟨gb380, 2, none⟩) (Kd.R_far (p := ⟨gb380, 1, none⟩) (Kd.R_far (p := ⟨gb380, 0, none⟩) (Kd.R_types HO_12.out BK380.out (by decide)) (fun _ hk => hk.2) (.int .u16 t374)) (fun _ hk => hk.2) (.int .u32 t375)) (fun _ hk => hk.2) (.string t376)) (fun _ hk => hk.2) (.int .i64 t377)) (fun _ h_ => h_.1))) hb); have n1_ := Aside0.mk (Kd.R_below (by (with_reducible repeat (first | apply Kd.R_alloc | apply Kd.R_drewN | apply Kd.R_drew)); exact (Kd.R_mono (Kd.R_far (p := ⟨gb380, 3, none⟩) (Kd.R_far (p := ⟨gb380, 2, none⟩) (Kd.R_far (p := ⟨gb380, 1, none⟩) (Kd.R_far (p := ⟨gb380, 0, none⟩) (Kd.R_mono HO_51.out (fun k_ hk => (⟨hk, hk.2⟩ : _ ∧ k_ ≠ gb380))) (fun _ hk => hk.2) (.int .u16 t374)) (fun _ hk => hk.2) (.int .u32 t375)) (fun _ hk => hk.2) (.string t376)) (fun _ hk => hk.2) (.int .i64 t377)) (fun _ h_ => h_.1))) hb); have n2_ := Aside0.mk (Kd.R_below (by (with_reducible repeat (first | apply Kd.R_alloc | apply Kd.R_drewN | apply Kd.R_drew)); exact (Kd.R_mono (Kd.R_far (p := ⟨gb380, 3, none⟩) (Kd.R_far (p := ⟨gb380, 2, none⟩) (Kd.R_far (p := ⟨gb380, 1, none⟩) (Kd.R_far (p := ⟨gb380, 0, none⟩) (Kd.R_types HO373.out BK380.out (by decide)) (fun _ hk => hk.2) (.int .u16 t374)) (fun _ hk => hk.2) (.int .u32 t375)) (fun _ hk => hk.2) (.string t376)) (fun _ hk => hk.2) (.int .i64 t377)) (fun _ h_ => h_.1))) hb); have n3_ := Aside0.mk (blk_below (g := gb342) (o := .cells #[.int .u16 a0_0, .int .u32 a0_1, .string a0_2, .int .i64 a0_3] 25 (0, 0)) (by (with_reducible repeat (first | refine blk_drewN ?_ _ | refine blk_drew ?_ | refine blk_alloc ?_ _)); refine blk_far ?_ NB342_380.out _; (with_reducible repeat (first | refine blk_drewN ?_ _ | refine blk_drew ?_ | refine blk_alloc ?_ _)); refine blk_far ?_ NB342_380.out _; (with_reducible repeat (first | refine blk_drewN ?_ _ | refine blk_drew ?_ | refine blk_alloc ?_ _)); refine blk_far ?_ NB342_380.out _; (with_reducible repeat (first | refine blk_drewN ?_ _ | refine blk_drew ?_ | refine blk_alloc ?_ _)); refine blk_far ?_ NB342_380.out _; (with_reducible repeat (first | refine blk_drewN ?_ _ | refine blk_drew ?_ | refine blk_alloc ?_ _)); exact BK342.out) hb); have n4_ := Aside0.mk (blk_below (g := gb345) (o := .cells #[.int .u16 a0_0, .int .u32 (Int.tmod a0_1 1000000), .string t344, .int .i64 (wrap64 ((wrap64 (Int.tmod a2 1000001)) + 1))] 25 (0, 0)) (by (with_reducible repeat (first | refine blk_drewN ?_ _ | refine blk_drew ?_ | refine blk_alloc ?_ _)); refine blk_far ?_ NB345_380.out _; (with_reducible repeat (first | refine blk_drewN ?_ _ | refine blk_drew ?_ | refine blk_alloc ?_ _)); refine blk_far ?_ NB345_380.out _; (with_reducible repeat (first | refine blk_drewN ?_ _ | refine blk_drew ?_ | refine blk_alloc ?_ _)); refine blk_far ?_ NB345_380.out _; (with_reducible repeat (first | refine blk_drewN ?_ _ | refine blk_drew ?_ | refine blk_alloc ?_ _)); refine blk_far ?_ NB345_380.out _; (with_reducible repeat (first | refine blk_drewN ?_ _ | refine blk_drew ?_ | refine blk_alloc ?_ _)); exact BK345.out) hb); have n5_ := Aside0.mk (blk_below (g := gb350) (o := .cells #[.int .u16 ((rd_T25 y346 x53_2).f0), .int .u32 ((rd_T25 y346 x53_2).f1), .string ((rd_T25 y346 x53_2).f2), .int .i64 ((rd_T25 y346 x53_2).f3)] 25 (0, 0)) (by (with_reducible repeat (first | refine blk_drewN ?_ _ | refine blk_drew ?_ | refine blk_alloc ?_ _)); refine blk_far ?_ NB350_380.out _; (with_reducible repeat (first | refine blk_drewN ?_ _ | refine blk_drew ?_ | refine blk_alloc ?_ _)); refine blk_far ?_ NB350_380.out _; (with_reducible repeat (first | refine blk_drewN ?_ _ | refine blk_drew ?_ | refine blk_alloc ?_ _)); refine blk_far ?_ NB350_380.out _; (with_reducible repeat (first | refine blk_drewN ?_ _ | refine blk_drew ?_ | refine blk_alloc ?_ _)); refine blk_far ?_ NB350_380.out _; (with_reducible repeat (first | refine blk_drewN ?_ _ | refine blk_drew ?_ | refine blk_alloc ?_ _)); exact BK350.out) hb); have n6_ := Aside0.mk (blk_below (g := gb367) (o := .cells #[.int .u16 t361, .int .u32 t362, .string t363, .int .i64 t364] 25 (0, 0)) (by (with_reducible repeat (first | refine blk_drewN ?_ _ | refine blk_drew ?_ | refine blk_alloc ?_ _)); refine blk_far ?_ NB367_380.out _; (with_reducible repeat (first | refine blk_drewN ?_ _ | refine blk_drew ?_ | refine blk_alloc ?_ _)); refine blk_far ?_ NB367_380.out _; (with_reducible repeat (first | refine blk_drewN ?_ _ | refine blk_drew ?_ | refine blk_alloc ?_ _)); refine blk_far ?_ NB367_380.out _; (with_reducible repeat (first | refine blk_drewN ?_ _ | refine blk_drew ?_ | refine blk_alloc ?_ _)); refine blk_far ?_ NB367_380.out _; (with_reducible repeat (first | refine blk_drewN ?_ _ | refine blk_drew ?_ | refine blk_alloc ?_ _)); exact BK367.out) hb); have n7_ := Aside0.mk (blk_below (g := gb380) (o := .cells #[.int .u16 t374, .int .u32 t375, .string t376, .int .i64 t377] 25 (0, 0)) (by (with_reducible repeat (first | refine blk_drewN ?_ _ | refine blk_drew ?_ | refine blk_alloc ?_ _)); refine blk_put (cs := #[.int .u16 t374, .int .u32 t375, .string t376, .int .i64 0]) ?_ 3 _ rfl; (with_reducible repeat (first | refine blk_drewN ?_ _ | refine blk_drew ?_ | refine blk_alloc ?_ _)); refine blk_put (cs := #[.int .u16 t374, .int .u32 t375, .string (⟨#[]⟩ : ByteArray), .int .i64 0]) ?_ 2 _ rfl; (with_reducible repeat (first | refine blk_drewN ?_ _ | refine blk_drew ?_ | refine blk_alloc ?_ _)); refine blk_put (cs := #[.int .u16 t374, .int .u32 0, .string (⟨#[]⟩ : ByteArray), .int .i64 0]) ?_ 1 _ rfl; (with_reducible repeat (first | refine blk_drewN ?_ _ | refine blk_drew ?_ | refine blk_alloc ?_ _)); refine blk_put (cs := #[.int .u16 0, .int .u32 0, .string (⟨#[]⟩ : ByteArray), .int .i64 0]) ?_ 0 _ rfl; (with_reducible repeat (first | refine blk_drewN ?_ _ | refine blk_drew ?_ | refine blk_alloc ?_ _)); exact BK380.out) hb); have n8_ := Aside0.mk (below_step (by repeat (first | (with_reducible first | exact HB.out | apply below_alloc | apply pw_below_drewN | apply below_drew1 | refine below_set ?_ GE342.out | refine below_set ?_ GE345.out | refine below_set ?_ GE350.out | refine below_set ?_ GE367.out | refine below_set ?_ GE380.out) | exact HB.out)) hb); clear HO_12; clear HO_51; clear HO373; clear BK342; clear BK345; clear BK350; clear BK367; clear BK380; clear HB; have HO_12 := n0_; have HO_51 := n1_; have HO373 := n2_; have BK342 := n3_; have BK345 := n4_; have BK350 := n5_; have BK367 := n6_; have BK380 := n7_; have HB := n8_; clear n0_ n1_ n2_ n3_ n4_ n5_ n6_ n7_ n8_; (try clear hb); (try clear hb2); (try clear hk); (try clear hi)) | ((with_reducible refine gate_dst (N := 23) rfl ?_); (try (refine gate_guard (by rfl) ?_; dsimp only)); refine box_event ?hg (N := 23) ?hd (cs := #[.int .u16 0, .int .u32 0, .string (⟨#[]⟩ : ByteArray), .int .i64 0]) (t := 25) ?hr ?_; (case hd => rfl); (case hg => rfl); (case hr => first | (go_simp; done) | (go_simp; rfl)); intro gb387 hg w113 hbox hb; have n0_ := Aside0.mk (Kd.R_below (by (with_reducible repeat (first | apply Kd.R_alloc | apply Kd.R_drewN | apply Kd.R_drew)); exact HO_12.out) hb); have n1_ := Aside0.mk (Kd.R_below (Kd.R_elderB (by (with_reducible repeat (first | apply Kd.R_alloc | apply Kd.R_drewN | apply Kd.R_drew)); exact HO_51.out) gb387 (Nat.le_of_eq hg.symm)) hb); have n2_ := Aside0.mk (Kd.R_below (by (with_reducible repeat (first | apply Kd.R_alloc | apply Kd.R_drewN | apply Kd.R_drew)); exact HO373.out) hb); have n3_ := Aside0.mk (blk_below (g := gb342) (o := .cells #[.int .u16 a0_0, .int .u32 a0_1, .string a0_2, .int .i64 a0_3] 25 (0, 0)) (by (with_reducible repeat (first | refine blk_drewN ?_ _ | refine blk_drew ?_ | refine blk_alloc ?_ _)); exact BK342.out) hb); have n4_ := Aside0.mk (blk_below (g := gb345) (o := .cells #[.int .u16 a0_0, .int .u32 (Int.tmod a0_1 1000000), .string t344, .int .i64 (wrap64 ((wrap64 (Int.tmod a2 1000001)) + 1))] 25 (0, 0)) (by (with_reducible repeat (first | refine blk_drewN ?_ _ | refine blk_drew ?_ | refine blk_alloc ?_ _)); exact BK345.out) hb); have n5_ := Aside0.mk (blk_below (g := gb350) (o := .cells #[.int .u16 ((rd_T25 y346 x53_2).f0), .int .u32 ((rd_T25 y346 x53_2).f1), .string ((rd_T25 y346 x53_2).f2), .int .i64 ((rd_T25 y346 x53_2).f3)] 25 (0, 0)) (by (with_reducible repeat (first | refine blk_drewN ?_ _ | refine blk_drew ?_ | refine blk_alloc ?_ _)); exact BK350.out) hb); have n6_ := Aside0.mk (blk_below (g := gb367) (o := .cells #[.int .u16 t361, .int .u32 t362, .string t363, .int .i64 t364] 25 (0, 0)) (by (with_reducible repeat (first | refine blk_drewN ?_ _ | refine blk_drew ?_ | refine blk_alloc ?_ _)); exact BK367.out) hb); have n7_ := Aside0.mk (blk_below (g := gb380) (o := .cells #[.int .u16 t374, .int .u32 t375, .string t376, .int .i64 t377] 25 (0, 0)) (by (with_reducible repeat (first | refine blk_drewN ?_ _ | refine blk_drew ?_ | refine blk_alloc ?_ _)); exact BK380.out) hb); have n8_ := Aside0.mk (below_step (by repeat (first | (with_reducible first | exact HB.out | apply below_alloc | apply pw_below_drewN | apply below_drew1 | refine below_set ?_ GE342.out | refine below_set ?_ GE345.out | refine below_set ?_ GE350.out | refine below_set ?_ GE367.out | refine below_set ?_ GE380.out) | exact HB.out)) hb); have n9_ := Aside0.mk (hbox); have n10_ := Aside0.mk ((by rw [hg]; exact (below_size (by repeat (first | (with_reducible first | exact HB.out | apply below_alloc | apply pw_below_drewN | apply below_drew1 | refine below_set ?_ GE342.out | refine below_set ?_ GE345.out | refine below_set ?_ GE350.out | refine below_set ?_ GE367.out | refine below_set ?_ GE380.out) | exact HB.out))) : w.heap.size ≤ gb387)); have n11_ := Aside0.mk ((by rw [hg]; exact (below_size (by repeat (first | (with_reducible first | exact HB.out | apply below_alloc | apply pw_below_drewN | apply below_drew1 | refine below_set ?_ GE342.out | refine below_set ?_ GE345.out | refine below_set ?_ GE350.out | refine below_set ?_ GE367.out | refine below_set ?_ GE380.out) | exact HB.out))) : w.heap.size ≤ gb387)); have n12_ := Aside0.mk ((by rw [hg]; exact Nat.ne_of_lt (blk_lt (g := gb342) (o := .cells #[.int .u16 a0_0, .int .u32 a0_1, .string a0_2, .int .i64 a0_3] 25 (0, 0)) (by (with_reducible repeat (first | refine blk_drewN ?_ _ | refine blk_drew ?_ | refine blk_alloc ?_ _)); exact BK342.out)) : gb342 ≠ gb387)); have n13_ := Aside0.mk ((by rw [hg]; exact Nat.ne_of_gt (blk_lt (g := gb342) (o := .cells #[.int .u16 a0_0, .int .u32 a0_1, .string a0_2, .int .i64 a0_3] 25 (0, 0)) (by (with_reducible repeat (first | refine blk_drewN ?_ _ | refine blk_drew ?_ | refine blk_alloc ?_ _)); exact BK342.out)) : gb387 ≠ gb342)); have n14_ := Aside0.mk ((by rw [hg]; exact Nat.ne_of_lt (blk_lt (g := gb345) (o := .cells #[.int .u16 a0_0, .int .u32 (Int.tmod a0_1 1000000), .string t344, .int .i64 (wrap64 ((wrap64 (Int.tmod a2 1000001)) + 1))] 25 (0, 0)) (by (with_reducible repeat (first | refine blk_drewN ?_ _ | refine blk_drew ?_ | refine blk_alloc ?_ _)); exact BK345.out)) : gb345 ≠ gb387)); have n15_ := Aside0.mk ((by rw [hg]; exact Nat.ne_of_gt (blk_lt (g := gb345) (o := .cells #[.int .u16 a0_0, .int .u32 (Int.tmod a0_1 1000000), .string t344, .int .i64 (wrap64 ((wrap64 (Int.tmod a2 1000001)) + 1))] 25 (0, 0)) (by (with_reducible repeat (first | refine blk_drewN ?_ _ | refine blk_drew ?_ | refine blk_alloc ?_ _)); exact BK345.out)) : gb387 ≠ gb345)); have n16_ := Aside0.mk ((by rw [hg]; exact Nat.ne_of_lt (blk_lt (g := gb350) (o := .cells #[.int .u16 ((rd_T25 y346 x53_2).f0), .int .u32 ((rd_T25 y346 x53_2).f1), .string ((rd_T25 y346 x53_2).f2), .int .i64 ((rd_T25 y346 x53_2).f3)] 25 (0, 0)) (by (with_reducible repeat (first | refine blk_drewN ?_ _ | refine blk_drew ?_ | refine blk_alloc ?_ _)); exact BK350.out)) : gb350 ≠ gb387)); have n17_ := Aside0.mk ((by rw [hg]; exact Nat.ne_of_gt (blk_lt (g := gb350) (o := .cells #[.int .u16 ((rd_T25 y346 x53_2).f0), .int .u32 ((rd_T25 y346 x53_2).f1), .string ((rd_T25 y346 x53_2).f2), .int .i64 ((rd_T25 y346 x53_2).f3)] 25 (0, 0)) (by (with_reducible repeat (first | refine blk_drewN ?_ _ | refine blk_drew ?_ | refine blk_alloc ?_ _)); exact BK350.out)) : gb387 ≠ gb350)); have n18_ := Aside0.mk ((by rw [hg]; exact Nat.ne_of_lt (blk_lt (g := gb367) (o := .cells #[.int .u16 t361, .int .u32 t362, .string t363, .int .i64 t364] 25 (0, 0)) (by (with_reducible repeat (first | refine blk_drewN ?_ _ | refine blk_drew ?_ | refine blk_alloc ?_ _)); exact BK367.out)) : gb367 ≠ gb387)); have n19_ := Aside0.mk ((by rw [hg]; exact Nat.ne_of_gt (blk_lt (g := gb367) (o := .cells #[.int .u16 t361, .int .u32 t362, .string t363, .int .i64 t364] 25 (0, 0)) (by (with_reducible repeat (first | refine blk_drewN ?_ _ | refine blk_drew ?_ | refine blk_alloc ?_ _)); exact BK367.out)) : gb387 ≠ gb367)); have n20_ := Aside0.mk ((by rw [hg]; exact Nat.ne_of_lt (blk_lt (g := gb380) (o := .cells #[.int .u16 t374, .int .u32 t375, .string t376, .int .i64 t377] 25 (0, 0)) (by (with_reducible repeat (first | refine blk_drewN ?_ _ | refine blk_drew ?_ | refine blk_alloc ?_ _)); exact BK380.out)) : gb380 ≠ gb387)); have n21_ := Aside0.mk ((by rw [hg]; exact Nat.ne_of_gt (blk_lt (g := gb380) (o := .cells #[.int .u16 t374, .int .u32 t375, .string t376, .int .i64 t377] 25 (0, 0)) (by (with_reducible repeat (first | refine blk_drewN ?_ _ | refine blk_drew ?_ | refine blk_alloc ?_ _)); exact BK380.out)) : gb387 ≠ gb380)); clear HO_12; clear HO_51; clear HO373; clear BK342; clear BK345; clear BK350; clear BK367; clear BK380; clear HB; have HO_12 := n0_; have HO_51 := n1_; have HO373 := n2_; have BK342 := n3_; have BK345 := n4_; have BK350 := n5_; have BK367 := n6_; have BK380 := n7_; have HB := n8_; have BK387 := n9_; have GW387 := n10_; have GE387 := n11_; have NB342_387 := n12_; have NB387_342 := n13_; have NB345_387 := n14_; have NB387_345 := n15_; have NB350_387 := n16_; have NB387_350 := n17_; have NB367_387 := n18_; have NB387_367 := n19_; have NB380_387 := n20_; have NB387_380 := n21_; clear n0_ n1_ n2_ n3_ n4_ n5_ n6_ n7_ n8_ n9_ n10_ n11_ n12_ n13_ n14_ n15_ n16_ n17_ n18_ n19_ n20_ n21_; clear hb hbox hg; have hnb114 := NB387_342.out; have hnc114 := NB342_387.out; have hnb115 := NB387_345.out; have hnc115 := NB345_387.out; have hnb116 := NB387_350.out; have hnc116 := NB350_387.out; have hnb117 := NB387_367.out; have hnc117 := NB367_387.out; have hnb118 := NB387_380.out; have hnc118 := NB380_387.out; have hcz119_0 : w113.cell? ⟨gb387, 0, none⟩ = some (.int .u16 0) := (blk_cell BK387.out 0).trans rfl; have hcz119_1 : w113.cell? ⟨gb387, 1, none⟩ = some (.int .u32 0) := (blk_cell BK387.out 1).trans rfl; have hcz119_2 : w113.cell? ⟨gb387, 2, none⟩ = some (.string (⟨#[]⟩ : ByteArray)) := (blk_cell BK387.out 2).trans rfl; have hcz119_3 : w113.cell? ⟨gb387, 3, none⟩ = some (.int .i64 0) := (blk_cell BK387.out 3).trans rfl; have hfz119_0 := blk_frozen BK387.out 0; have hfz119_1 := blk_frozen BK387.out 1; have hfz119_2 := blk_frozen BK387.out 2; have hfz119_3 := blk_frozen BK387.out 3; have hcz120_0 : w113.cell? ⟨gb380, 0, none⟩ = some (.int .u16 t374) := (blk_cell BK380.out 0).trans rfl; have hcz120_1 : w113.cell? ⟨gb380, 1, none⟩ = some (.int .u32 t375) := (blk_cell BK380.out 1).trans rfl; have hcz120_2 : w113.cell? ⟨gb380, 2, none⟩ = some (.string t376) := (blk_cell BK380.out 2).trans rfl; have hcz120_3 : w113.cell? ⟨gb380, 3, none⟩ = some (.int .i64 t377) := (blk_cell BK380.out 3).trans rfl; have hfz120_0 := blk_frozen BK380.out 0; have hfz120_1 := blk_frozen BK380.out 1; have hfz120_2 := blk_frozen BK380.out 2; have hfz120_3 := blk_frozen BK380.out 3))
                      go_roundg kj62
                      case measure => have := HJ6.out; have := HK2.out; have := HJ33.out; have := HJ62.out; omega
                      case rel => exact ⟨(wrap64 (x53_2 + 1)), (by first | rfl | (simp; done) | (simp [*]; done)), H', ⟨by have := HJ6.out; have := HK2.out; have := HJ33.out; have := HJ62.out; omega⟩, ⟨by (with_reducible repeat (first | apply Kd.R_alloc | apply Kd.R_drewN | apply Kd.R_drew)); exact Kd.R_mono (Kd.R_far (p := ⟨gb387, 3, none⟩) (Kd.R_far (p := ⟨gb387, 2, none⟩) (Kd.R_far (p := ⟨gb387, 1, none⟩) (Kd.R_far (p := ⟨gb387, 0, none⟩) (Kd.R_mono HO_51.out (fun k_ hk => (⟨hk, hk.2⟩ : _ ∧ k_ ≠ gb387))) (fun _ hk => hk.2) (.int .u16 t381)) (fun _ hk => hk.2) (.int .u32 t382)) (fun _ hk => hk.2) (.string t383)) (fun _ hk => hk.2) (.int .i64 t384)) (fun _ hk => ⟨hk.1.1.1.1, hk.1.1.1.2.1⟩)⟩, ⟨by (with_reducible repeat (first | refine blk_drewN ?_ _ | refine blk_drew ?_ | refine blk_alloc ?_ _)); refine blk_far ?_ NB342_387.out _; (with_reducible repeat (first | refine blk_drewN ?_ _ | refine blk_drew ?_ | refine blk_alloc ?_ _)); refine blk_far ?_ NB342_387.out _; (with_reducible repeat (first | refine blk_drewN ?_ _ | refine blk_drew ?_ | refine blk_alloc ?_ _)); refine blk_far ?_ NB342_387.out _; (with_reducible repeat (first | refine blk_drewN ?_ _ | refine blk_drew ?_ | refine blk_alloc ?_ _)); refine blk_far ?_ NB342_387.out _; (with_reducible repeat (first | refine blk_drewN ?_ _ | refine blk_drew ?_ | refine blk_alloc ?_ _)); exact BK342.out⟩, ⟨by (with_reducible repeat (first | refine blk_drewN ?_ _ | refine blk_drew ?_ | refine blk_alloc ?_ _)); refine blk_far ?_ NB345_387.out _; (with_reducible repeat (first | refine blk_drewN ?_ _ | refine blk_drew ?_ | refine blk_alloc ?_ _)); refine blk_far ?_ NB345_387.out _; (with_reducible repeat (first | refine blk_drewN ?_ _ | refine blk_drew ?_ | refine blk_alloc ?_ _)); refine blk_far ?_ NB345_387.out _; (with_reducible repeat (first | refine blk_drewN ?_ _ | refine blk_drew ?_ | refine blk_alloc ?_ _)); refine blk_far ?_ NB345_387.out _; (with_reducible repeat (first | refine blk_drewN ?_ _ | refine blk_drew ?_ | refine blk_alloc ?_ _)); exact BK345.out⟩, ⟨by repeat (first | (with_reducible first | exact HB.out | apply below_alloc | apply pw_below_drewN | apply below_drew1 | refine below_set ?_ GE342.out | refine below_set ?_ GE345.out | refine below_set ?_ GE350.out | refine below_set ?_ GE367.out | refine below_set ?_ GE380.out | refine below_set ?_ GE387.out) | exact HB.out)⟩⟩
                     ·rw [if_neg c101] at H
                      exact absurd H (by simp)
                    ·rw [if_neg c100] at H
                     exact absurd H (by simp)
                  ·rw [if_neg c96] at H
                   exact absurd H (by simp)
                 ·rw [if_neg c95] at H
                  exact absurd H (by simp)
             ·rw [if_neg c61] at H
              have c61b0 : (t358 == 0) = false := beq_eq_false_iff_ne.mpr c61
              have c61b1 : (t358 != 0) = true := bne_iff_ne.mpr c61
              have H' := Aside0.mk H
              clear H
              go_wp2
              go_roundg kj33
              case measure => have := HJ6.out; have := HK2.out; have := HJ33.out; omega
              case rel => exact ⟨(wrap64 (x53_2 + 1)), (by first | rfl | (simp; done) | (simp [*]; done)), H', ⟨by have := HJ6.out; have := HK2.out; have := HJ33.out; omega⟩, ⟨by (with_reducible repeat (first | apply Kd.R_alloc | apply Kd.R_drewN | apply Kd.R_drew)); exact Kd.R_mono HO_51.out (fun _ hk => ⟨hk.1, hk.2.1⟩)⟩, ⟨by (with_reducible repeat (first | refine blk_drewN ?_ _ | refine blk_drew ?_ | refine blk_alloc ?_ _)); exact BK342.out⟩, ⟨by (with_reducible repeat (first | refine blk_drewN ?_ _ | refine blk_drew ?_ | refine blk_alloc ?_ _)); exact BK345.out⟩, ⟨by repeat (first | (with_reducible first | exact HB.out | apply below_alloc | apply pw_below_drewN | apply below_drew1 | refine below_set ?_ GE342.out | refine below_set ?_ GE345.out | refine below_set ?_ GE350.out) | exact HB.out)⟩⟩
         ·rw [if_neg c31] at H
          exact absurd H (by simp)
        ·rw [if_neg c30] at H
         exact absurd H (by simp)
       ·rw [if_neg c29] at H
        have c29b0 : decide (x53_2 < (y346.length : Int)) = false := decide_eq_false c29
        clear c29
        obtain rfl := Option.some.inj H
        go_wp2
        go_ret
        exact ⟨by first | rfl | (simp [errW_none, errW_some] <;> rfl) | (simp [*, errW_none, errW_some] <;> rfl), by repeat (first | (with_reducible first | exact HB.out | apply below_alloc | apply pw_below_drewN | apply below_drew1 | refine below_set ?_ GE342.out | refine below_set ?_ GE345.out) | exact HB.out)⟩
 ·replace c6 := Bool.eq_false_iff.mpr c6
  subst c6
  have H1 : (none) = some r := by rw [if_neg (show ¬ (false = true) by decide)] at H; exact H
  clear H
  have H := H1
  clear H1
  exact absurd H (by simp)

/-- THE ONE PURE STATEMENT of guichetlaw13_PosBack. -/
def guichetlaw13_PosBack.Pure : Prop := ∀ (a0_0 : Int) (a0_1 : Int) (a0_2 : ByteArray) (a0_3 : Int) (a1 : Int) (a2 : Int) (l3 : List Int), (Lit.int .u16 a0_0).wf = true → (Lit.int .u32 a0_1).wf = true → a0_2.size ≤ maxLen → (Lit.int .i64 a0_3).wf = true → (Lit.int .u8 a1).wf = true → (Lit.int .u32 a2).wf = true → l3.length ≤ maxLen → l3.length * 1 ≤ 140737488351232 → (∀ x ∈ l3, (Lit.int .u8 x).wf = true) → ∃ k, guichetlaw13_PosBack.f k a0_0 a0_1 a0_2 a0_3 a1 a2 l3 = some true
theorem guichetlaw13_PosBack.walk (P : guichetlaw13_PosBack.Pure) (a0_0 : Int) (a0_1 : Int) (a0_2 : ByteArray) (a0_3 : Int) (a1 : Int) (a2 : Int) (a3 : Option Addr) (len3 cap3 : Nat) (z3 : List Int) (w : World) (hT : TAB w) (w0_0 : (Lit.int .u16 a0_0).wf = true) (w0_1 : (Lit.int .u32 a0_1).wf = true) (w0_2 : a0_2.size ≤ maxLen) (w0_3 : (Lit.int .i64 a0_3).wf = true) (w1 : (Lit.int .u8 a1).wf = true) (w2 : (Lit.int .u32 a2).wf = true) (w3 : (a3 = none ∧ len3 = 0 ∧ cap3 = 0 ∧ z3 = []) ∨ ∃ x, a3 = some x ∧ len3 ≤ cap3 ∧ cap3 ≤ maxLen ∧ z3.length = cap3 ∧ (∀ i, i < z3.length → w.cell? (x.add i) = some (.int .u8 (z3.getD i 0))) ∧ ∀ n ∈ z3, (Lit.int .u8 n).wf = true) (y3 : len3 * 1 ≤ 140737488351232) :
  Calls Tryd.prog 3 #[.agg #[.int .u16 a0_0, .int .u32 a0_1, .string a0_2, .int .i64 a0_3], .int .u8 a1, .int .u32 a2, .slice a3 len3 cap3] w fun e w' => e = .returned (.bool true) ∧ Below w.heap.size w w' := by
 obtain ⟨l3, rfl, hr3, hm3, hw3, hc3⟩ := ReadsInt.ofRowC w3
 obtain ⟨k, h⟩ := P a0_0 a0_1 a0_2 a0_3 a1 a2 l3 w0_0 w0_1 w0_2 w0_3 w1 w2 hm3 y3 hw3
 refine (guichetlaw13_PosBack.calls k a0_0 a0_1 a0_2 a0_3 a1 a2 _ _ l3 true w hT (Kd.C_of_reads (d := (0 : Int)) (h1 := fun _ => rfl) hr3) hc3 h).mono ?_
 rintro e w' ⟨rfl, hd⟩
 exact ⟨rfl, hd⟩

end Go.Proofs.YtkhgiojpegghoaaDoor.PAll
