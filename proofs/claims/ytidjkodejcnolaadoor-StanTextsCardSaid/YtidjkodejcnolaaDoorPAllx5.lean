-- written by xprint.py out of the translation. Not trusted: Lean checks it.
import Derived.Test.YtidjkodejcnolaaDoorPAllx0
import Derived.Test.YtidjkodejcnolaaDoorPAllx1
import Derived.Test.YtidjkodejcnolaaDoorPAllx2
import Derived.Test.YtidjkodejcnolaaDoorPAllx3
import Derived.Test.YtidjkodejcnolaaDoorPAllx4
namespace Go.Proofs.YtidjkodejcnolaaDoor.PAll
open Go.RowKit Go.Proofs.YtidjkodejcnolaaDoorW.PrintWords Go.Proofs.YtidjkodejcnolaaDoorW.PrintLast Go.Proofs.YtidjkodejcnolaaDoorW.PrintMore
attribute [local go_sem] max2_int min2_int max_two min_two max_three min_three max_four min_four   -- for this text's walks alone
set_option linter.unusedVariables false
set_option linter.unusedSimpArgs false

attribute [local go_sem high] eqA25
/-! ### guichetlaw10_StanTexts: function 3 -/
mutual
def guichetlaw10_StanTexts.j0 : Nat → ByteArray → Int → Int → Int → Int → Int → Int → Option (Bool)
 | 0, _, _, _, _, _, _, _ => none
 | k + 1, x2, x3, x4, x148000, x148001, x149000, x149001 => (stan_Text.f x148000 x148001).bind fun t150 => ((stan_Parse.f k t150).bind fun bt151 => ((guichetref1_KeyText.f k x148000 x148001).bind fun t155 => (if t150.toList = t155.toList then (if (bt151.2.2 != (decide (x148001 ≤ 999999))) = true then (guichetlaw10_StanTexts.j1 k x2 x3 x4 t150 true x148000 x148001 x149000 x149001) else (if bt151.2.2 = true then (guichetlaw10_StanTexts.j1 k x2 x3 x4 t150 (!(bt151.1 == x148000) || (!(bt151.2.1 == x148001))) x148000 x148001 x149000 x149001) else (guichetlaw10_StanTexts.j1 k x2 x3 x4 t150 false x148000 x148001 x149000 x149001))) else (guichetlaw10_StanTexts.j1 k x2 x3 x4 t150 true x148000 x148001 x149000 x149001))))
def guichetlaw10_StanTexts.j1 : Nat → ByteArray → Int → Int → ByteArray → Bool → Int → Int → Int → Int → Option (Bool)
 | 0, _, _, _, _, _, _, _, _, _ => none
 | k + 1, x2, x3, x4, x13, x69, x148000, x148001, x149000, x149001 => if x69 = true then (none) else ((convLit.f [45, 48, 48, 48, 49, 50, 45, 48, 48, 48, 51, 52, 53]).bind fun t156 => (if 0 ≤ (Int.tmod (wrap64 (x3)) 13) then (if (Int.tmod (wrap64 (x3)) 13) < (t156.length : Int) then (if x13.size + 1 ≤ 9223372036854775807 then ((some (([x2, strOfNums (t156.set ((Int.tmod (wrap64 (x3)) 13) : Int).toNat x4), x13 ++ (⟨#[48]⟩ : ByteArray), (⟨#[45, 57, 57, 57, 57, 57, 45, 48, 48, 48, 48, 48, 49]⟩ : ByteArray), (⟨#[45, 54, 53, 53, 51, 54, 45, 48, 48, 48, 48, 48, 49]⟩ : ByteArray)] : List ByteArray) : List ByteArray)).bind fun y160 => (guichetlaw10_StanTexts.l0 k x3 y160 (y160.length : Int) 0 x148000 x148001 x149000 x149001)) else (none)) else (none)) else (none)))
def guichetlaw10_StanTexts.l0 : Nat → Int → List ByteArray → Int → Int → Int → Int → Int → Int → Option (Bool)
 | 0, _, _, _, _, _, _, _, _ => none
 | k + 1, x3, x83, x84, x85, x148000, x148001, x149000, x149001 => if x85 < x84 then (if 0 ≤ x85 then (if x85 < (x83.length : Int) then ((stan_Parse.f k (rdOf ByteArray.empty x83 x85)).bind fun bt164 => ((guichetref1_KeyParse.f k (rdOf ByteArray.empty x83 x85)).bind fun bt168 => (if (!(bt164.1 == bt168.1) || (!(bt164.2.1 == bt168.2.1))) = true then (none) else (if (bt164.2.2 != bt168.2.2) = true then (none) else (guichetlaw10_StanTexts.l0 k x3 x83 x84 (wrap64 (x85 + 1)) x148000 x148001 x149000 x149001))))) else (none)) else (none)) else ((stan_Less.f k x148000 x148001 x149000 x149001).bind fun t172 => ((guichetref1_Less.f x148000 x148001 x149000 x149001).bind fun t173 => (if (t172 == t173) = true then ((stan_Less.f k x149000 x149001 x148000 x148001).bind fun t174 => ((guichetref1_Less.f x149000 x149001 x148000 x148001).bind fun t175 => (if (t174 == t175) = true then ((stan_Less.f k x148000 x148001 x148000 x148001).bind fun t176 => (if t176 = true then (none) else ((guichethelp_Place.f (wrap64 (x3)) 3).bind fun t177 => (some (decide (t177 ≥ 0)))))) else (none)))) else (none))))
end
def guichetlaw10_StanTexts.f (k : Nat) (a0_0 : Int) (a0_1 : Int) (a1_0 : Int) (a1_1 : Int) (a2 : ByteArray) (a3 : Int) (a4 : Int) (a5 : Bool) : Option (Bool) := (guichetlaw10_known.f k).bind fun t149 => (if t149 = true then (if (a2.size : Int) > 60 then (some true) else (if a5 = true then (guichetlaw10_StanTexts.j0 k a2 a3 a4 a0_0 (Int.tmod a0_1 1000001) (IntKind.u16.wrap (a0_0 + (Int.tmod a1_0 2))) (Int.tmod a1_1 5)) else (guichetlaw10_StanTexts.j0 k a2 a3 a4 a0_0 a0_1 a1_0 a1_1))) else (none))
theorem guichetlaw10_StanTexts.mono_l : ∀ k, (∀ y0 y1 y2 y3 y4 y5 y6, LeO (guichetlaw10_StanTexts.j0 k y0 y1 y2 y3 y4 y5 y6) (guichetlaw10_StanTexts.j0 (k + 1) y0 y1 y2 y3 y4 y5 y6)) ∧ (∀ y0 y1 y2 y3 y4 y5 y6 y7 y8, LeO (guichetlaw10_StanTexts.j1 k y0 y1 y2 y3 y4 y5 y6 y7 y8) (guichetlaw10_StanTexts.j1 (k + 1) y0 y1 y2 y3 y4 y5 y6 y7 y8)) ∧ (∀ y0 y1 y2 y3 y4 y5 y6 y7, LeO (guichetlaw10_StanTexts.l0 k y0 y1 y2 y3 y4 y5 y6 y7) (guichetlaw10_StanTexts.l0 (k + 1) y0 y1 y2 y3 y4 y5 y6 y7))
 | 0 => ⟨fun _ _ _ _ _ _ _ r h => by simp [guichetlaw10_StanTexts.j0] at h, fun _ _ _ _ _ _ _ _ _ r h => by simp [guichetlaw10_StanTexts.j1] at h, fun _ _ _ _ _ _ _ _ r h => by simp [guichetlaw10_StanTexts.l0] at h⟩
 | k + 1 => by
  obtain ⟨ih0, ih1, ih2⟩ := guichetlaw10_StanTexts.mono_l k
  refine ⟨?_, ?_, ?_⟩
  ·intro y0 y1 y2 y3 y4 y5 y6
   unfold guichetlaw10_StanTexts.j0
   repeat' first
   | (with_reducible exact ih0 _ _ _ _ _ _ _)
   | (with_reducible exact ih1 _ _ _ _ _ _ _ _ _)
   | (with_reducible exact ih2 _ _ _ _ _ _ _ _)
   | (with_reducible exact guichetlaw10_known.mono _)
   | (with_reducible exact guichetref1_KeyParse.mono _ _)
   | (with_reducible exact guichetref1_KeyText.mono _ _ _)
   | (with_reducible exact stan_Less.mono _ _ _ _ _)
   | (with_reducible exact stan_Parse.mono _ _)
   | (with_reducible exact LeO.refl _)
   | (with_reducible exact LeO.none _)
   | (with_reducible refine LeO.ite ?_ ?_)
   | (with_reducible refine LeO.bind ?_ (fun _ => ?_))
   | exact ih0 _ _ _ _ _ _ _
   | exact ih1 _ _ _ _ _ _ _ _ _
   | exact ih2 _ _ _ _ _ _ _ _
   | exact guichetlaw10_known.mono _
   | exact guichetref1_KeyParse.mono _ _
   | exact guichetref1_KeyText.mono _ _ _
   | exact stan_Less.mono _ _ _ _ _
   | exact stan_Parse.mono _ _
   | exact LeO.none _
   | refine LeO.ite ?_ ?_
   | refine LeO.bind ?_ (fun _ => ?_)
  ·intro y0 y1 y2 y3 y4 y5 y6 y7 y8
   unfold guichetlaw10_StanTexts.j1
   repeat' first
   | (with_reducible exact ih0 _ _ _ _ _ _ _)
   | (with_reducible exact ih1 _ _ _ _ _ _ _ _ _)
   | (with_reducible exact ih2 _ _ _ _ _ _ _ _)
   | (with_reducible exact guichetlaw10_known.mono _)
   | (with_reducible exact guichetref1_KeyParse.mono _ _)
   | (with_reducible exact guichetref1_KeyText.mono _ _ _)
   | (with_reducible exact stan_Less.mono _ _ _ _ _)
   | (with_reducible exact stan_Parse.mono _ _)
   | (with_reducible exact LeO.refl _)
   | (with_reducible exact LeO.none _)
   | (with_reducible refine LeO.ite ?_ ?_)
   | (with_reducible refine LeO.bind ?_ (fun _ => ?_))
   | exact ih0 _ _ _ _ _ _ _
   | exact ih1 _ _ _ _ _ _ _ _ _
   | exact ih2 _ _ _ _ _ _ _ _
   | exact guichetlaw10_known.mono _
   | exact guichetref1_KeyParse.mono _ _
   | exact guichetref1_KeyText.mono _ _ _
   | exact stan_Less.mono _ _ _ _ _
   | exact stan_Parse.mono _ _
   | exact LeO.none _
   | refine LeO.ite ?_ ?_
   | refine LeO.bind ?_ (fun _ => ?_)
  ·intro y0 y1 y2 y3 y4 y5 y6 y7
   unfold guichetlaw10_StanTexts.l0
   repeat' first
   | (with_reducible exact ih0 _ _ _ _ _ _ _)
   | (with_reducible exact ih1 _ _ _ _ _ _ _ _ _)
   | (with_reducible exact ih2 _ _ _ _ _ _ _ _)
   | (with_reducible exact guichetlaw10_known.mono _)
   | (with_reducible exact guichetref1_KeyParse.mono _ _)
   | (with_reducible exact guichetref1_KeyText.mono _ _ _)
   | (with_reducible exact stan_Less.mono _ _ _ _ _)
   | (with_reducible exact stan_Parse.mono _ _)
   | (with_reducible exact LeO.refl _)
   | (with_reducible exact LeO.none _)
   | (with_reducible refine LeO.ite ?_ ?_)
   | (with_reducible refine LeO.bind ?_ (fun _ => ?_))
   | exact ih0 _ _ _ _ _ _ _
   | exact ih1 _ _ _ _ _ _ _ _ _
   | exact ih2 _ _ _ _ _ _ _ _
   | exact guichetlaw10_known.mono _
   | exact guichetref1_KeyParse.mono _ _
   | exact guichetref1_KeyText.mono _ _ _
   | exact stan_Less.mono _ _ _ _ _
   | exact stan_Parse.mono _ _
   | exact LeO.none _
   | refine LeO.ite ?_ ?_
   | refine LeO.bind ?_ (fun _ => ?_)
theorem guichetlaw10_StanTexts.mono : ∀ a0 a1 a2 a3 a4 a5 a6 a7 k, LeO (guichetlaw10_StanTexts.f k a0 a1 a2 a3 a4 a5 a6 a7) (guichetlaw10_StanTexts.f (k + 1) a0 a1 a2 a3 a4 a5 a6 a7) := by
 intro a0 a1 a2 a3 a4 a5 a6 a7 k
 obtain ⟨ih0, ih1, ih2⟩ := guichetlaw10_StanTexts.mono_l k
 unfold guichetlaw10_StanTexts.f
 repeat' first
   | (with_reducible exact ih0 _ _ _ _ _ _ _)
   | (with_reducible exact ih1 _ _ _ _ _ _ _ _ _)
   | (with_reducible exact ih2 _ _ _ _ _ _ _ _)
   | (with_reducible exact guichetlaw10_known.mono _)
   | (with_reducible exact guichetref1_KeyParse.mono _ _)
   | (with_reducible exact guichetref1_KeyText.mono _ _ _)
   | (with_reducible exact stan_Less.mono _ _ _ _ _)
   | (with_reducible exact stan_Parse.mono _ _)
   | (with_reducible exact LeO.refl _)
   | (with_reducible exact LeO.none _)
   | (with_reducible refine LeO.ite ?_ ?_)
   | (with_reducible refine LeO.bind ?_ (fun _ => ?_))
   | exact ih0 _ _ _ _ _ _ _
   | exact ih1 _ _ _ _ _ _ _ _ _
   | exact ih2 _ _ _ _ _ _ _ _
   | exact guichetlaw10_known.mono _
   | exact guichetref1_KeyParse.mono _ _
   | exact guichetref1_KeyText.mono _ _ _
   | exact stan_Less.mono _ _ _ _ _
   | exact stan_Parse.mono _ _
   | exact LeO.none _
   | refine LeO.ite ?_ ?_
   | refine LeO.bind ?_ (fun _ => ?_)
def guichetlaw10_StanTexts.T21 : Bool × List (List Nat × List Nat) := (true, [([], []), ([], []), ([0, 1], [0, 1]), ([], []), ([], []), ([3, 4, 2], [3, 4]), ([2, 5], [2, 5]), ([6, 5], [6]), ([7], [7]), ([7], [7]), ([8, 9, 7, 7], [7, 8, 9]), ([7], [7]), ([7], [7]), ([11, 12, 10, 7], [7, 11, 12]), ([10, 13, 7], [7, 10, 13]), ([7, 14], [7, 14]), ([15, 13], [15]), ([16], [16]), ([16], [16]), ([17, 18, 16, 16], [16, 17, 18]), ([19, 16], [16, 19]), ([16, 20], [16, 20]), ([21, 19], [21]), ([22], [22]), ([23, 22], [22, 23]), ([24, 22, 22], [22, 24]), ([25, 22], [22, 25]), ([22, 26], [22, 26]), ([27, 25, 0, 1, 2, 3, 4, 5, 6, 7, 8, 9, 10, 11, 12, 13, 14, 15, 16, 17, 18, 19, 20, 21, 22, 23, 24, 25, 26, 27], [27])])
def guichetlaw10_StanTexts.B21 : List Nat := [0, 0, 3, 0, 0, 31, 63, 127, 255, 255, 1023, 255, 255, 8191, 16383, 32767, 65535, 131071, 131071, 524287, 1048575, 2097151, 4194303, 8388607, 16777215, 33554431, 67108863, 134217727, 268435455]
theorem guichetlaw10_StanTexts.tab21 : rtab .any (opsOf Tryd.f3 21) = guichetlaw10_StanTexts.T21 := by kernel_rfl
theorem guichetlaw10_StanTexts.bits21 : waitsOk guichetlaw10_StanTexts.T21.2 guichetlaw10_StanTexts.B21 = true := by kernel_rfl
set_option maxHeartbeats 8000000 in
set_option maxRecDepth 100000 in
theorem guichetlaw10_StanTexts.calls (k : Nat) (a0_0 : Int) (a0_1 : Int) (a1_0 : Int) (a1_1 : Int) (a2 : ByteArray) (a3 : Int) (a4 : Int) (a5 : Bool) (r : Bool) (w : World) (hT : TAB w) (h : guichetlaw10_StanTexts.f k a0_0 a0_1 a1_0 a1_1 a2 a3 a4 a5 = some r) :
  Calls Tryd.prog 3 #[.agg #[.int .u16 a0_0, .int .u32 a0_1], .agg #[.int .u16 a1_0, .int .u32 a1_1], .string a2, .int .u8 a3, .int .u8 a4, .bool a5] w fun e w' => e = .returned (.bool r) ∧ Below w.heap.size w w' := by
 have HT := Aside0.mk hT
 clear hT
 have hu25 := Tryd.underlying25
 have HB := Aside0.mk (Below.refl w.heap.size w)
 have H : ((guichetlaw10_known.f k).bind fun t149 => (if t149 = true then (if (a2.size : Int) > 60 then (some true) else (if a5 = true then (guichetlaw10_StanTexts.j0 k a2 a3 a4 a0_0 (Int.tmod a0_1 1000001) (IntKind.u16.wrap (a0_0 + (Int.tmod a1_0 2))) (Int.tmod a1_1 5)) else (guichetlaw10_StanTexts.j0 k a2 a3 a4 a0_0 a0_1 a1_0 a1_1))) else (none))) = some r := h
 clear h
 replace H := Option.bind_eq_some_iff.mp H
 obtain ⟨t149, A70, H⟩ := H
 replace H : (if t149 = true then (if (a2.size : Int) > 60 then (some true) else (if a5 = true then (guichetlaw10_StanTexts.j0 k a2 a3 a4 a0_0 (Int.tmod a0_1 1000001) (IntKind.u16.wrap (a0_0 + (Int.tmod a1_0 2))) (Int.tmod a1_1 5)) else (guichetlaw10_StanTexts.j0 k a2 a3 a4 a0_0 a0_1 a1_0 a1_1))) else (none)) = some r := H
 have A7 := Aside0.mk A70
 clear A70
 by_cases c8 : t149 = true
 ·subst c8
  have H1 : (if (a2.size : Int) > 60 then (some true) else (if a5 = true then (guichetlaw10_StanTexts.j0 k a2 a3 a4 a0_0 (Int.tmod a0_1 1000001) (IntKind.u16.wrap (a0_0 + (Int.tmod a1_0 2))) (Int.tmod a1_1 5)) else (guichetlaw10_StanTexts.j0 k a2 a3 a4 a0_0 a0_1 a1_0 a1_1))) = some r := by rw [if_pos rfl] at H; exact H
  clear H
  have H := H1
  clear H1
  by_cases c9 : (a2.size : Int) > 60
  ·rw [if_pos c9] at H
   have c9b0 : decide (60 < (a2.size : Int)) = true := decide_eq_true c9
   have c9b1 : decide (60 < a2.size) = true := decide_eq_true (by omega)
   clear c9
   obtain rfl := Option.some.inj H
   go_enter Tryd.func3, Tryd.ntmps3
   go_wp2_with (first | ((with_reducible refine gate_dst (N := 6) rfl ?_); refine box_event ?hg (N := 6) ?hd (cs := #[.int .u16 a0_0, .int .u32 a0_1]) (t := 25) ?hr ?_; (case hd => rfl); (case hg => rfl); (case hr => first | (go_simp; done) | (go_simp; rfl)); intro gb147 hg w10 hbox hb; have n0_ := Aside0.mk (below_step (by repeat (first | (with_reducible first | exact HB.out | apply below_alloc | apply pw_below_drewN | apply below_drew1) | exact HB.out)) hb); have n1_ := Aside0.mk (hbox); have n2_ := Aside0.mk ((by rw [hg]; exact (below_size (by repeat (first | (with_reducible first | exact HB.out | apply below_alloc | apply pw_below_drewN | apply below_drew1) | exact HB.out))) : w.heap.size ≤ gb147)); have n3_ := Aside0.mk ((by rw [hg]; exact (below_size (by repeat (first | (with_reducible first | exact HB.out | apply below_alloc | apply pw_below_drewN | apply below_drew1) | exact HB.out))) : w.heap.size ≤ gb147)); clear HB; have HB := n0_; have BK147 := n1_; have GW147 := n2_; have GE147 := n3_; clear n0_ n1_ n2_ n3_; clear hb hbox hg) | ((with_reducible refine gate_dst (N := 7) rfl ?_); refine box_event ?hg (N := 7) ?hd (cs := #[.int .u16 a1_0, .int .u32 a1_1]) (t := 25) ?hr ?_; (case hd => rfl); (case hg => rfl); (case hr => first | (go_simp; done) | (go_simp; rfl)); intro gb148 hg w11 hbox hb; have n0_ := Aside0.mk (blk_below (g := gb147) (o := .cells #[.int .u16 a0_0, .int .u32 a0_1] 25 (0, 0)) (by (with_reducible repeat (first | refine blk_drewN ?_ _ | refine blk_drew ?_ | refine blk_alloc ?_ _)); exact BK147.out) hb); have n1_ := Aside0.mk (below_step (by repeat (first | (with_reducible first | exact HB.out | apply below_alloc | apply pw_below_drewN | apply below_drew1 | refine below_set ?_ GE147.out) | exact HB.out)) hb); have n2_ := Aside0.mk (hbox); have n3_ := Aside0.mk ((by rw [hg]; exact (below_size (by repeat (first | (with_reducible first | exact HB.out | apply below_alloc | apply pw_below_drewN | apply below_drew1 | refine below_set ?_ GE147.out) | exact HB.out))) : w.heap.size ≤ gb148)); have n4_ := Aside0.mk ((by rw [hg]; exact (below_size (by repeat (first | (with_reducible first | exact HB.out | apply below_alloc | apply pw_below_drewN | apply below_drew1 | refine below_set ?_ GE147.out) | exact HB.out))) : w.heap.size ≤ gb148)); have n5_ := Aside0.mk ((by rw [hg]; exact Nat.ne_of_lt (blk_lt (g := gb147) (o := .cells #[.int .u16 a0_0, .int .u32 a0_1] 25 (0, 0)) (by (with_reducible repeat (first | refine blk_drewN ?_ _ | refine blk_drew ?_ | refine blk_alloc ?_ _)); exact BK147.out)) : gb147 ≠ gb148)); have n6_ := Aside0.mk ((by rw [hg]; exact Nat.ne_of_gt (blk_lt (g := gb147) (o := .cells #[.int .u16 a0_0, .int .u32 a0_1] 25 (0, 0)) (by (with_reducible repeat (first | refine blk_drewN ?_ _ | refine blk_drew ?_ | refine blk_alloc ?_ _)); exact BK147.out)) : gb148 ≠ gb147)); clear BK147; clear HB; have BK147 := n0_; have HB := n1_; have BK148 := n2_; have GW148 := n3_; have GE148 := n4_; have NB147_148 := n5_; have NB148_147 := n6_; clear n0_ n1_ n2_ n3_ n4_ n5_ n6_; clear hb hbox hg) | ((with_reducible refine gate_callee (f := 6) rfl ?_); refine goesL_ (some 23) rfl rfl Tryd.func6 (by kernel_rfl) rfl #[] rfl (by (try simp only [List.map_toArray, List.map_cons, List.map_nil]); first | done | rfl | (simp only [List.length_drop, List.length_take]; rfl) | (rw [hsame_])) ?_; (with_reducible refine (guichetlaw10_known.calls k  true _ ?side1 A7.out).mono ?_); (case side1 => exact tab_at HT.out (by repeat (first | (with_reducible first | exact HB.out | apply below_alloc | apply pw_below_drewN | apply below_drew1 | refine below_set ?_ GE147.out | refine below_set ?_ GE148.out) | exact HB.out))); rintro e w12 ⟨rfl, hb⟩; refine ⟨_, rfl, ?_⟩; have n0_ := Aside0.mk (blk_below (g := gb147) (o := .cells #[.int .u16 a0_0, .int .u32 a0_1] 25 (0, 0)) (by (with_reducible repeat (first | refine blk_drewN ?_ _ | refine blk_drew ?_ | refine blk_alloc ?_ _)); exact BK147.out) hb); have n1_ := Aside0.mk (blk_below (g := gb148) (o := .cells #[.int .u16 a1_0, .int .u32 a1_1] 25 (0, 0)) (by (with_reducible repeat (first | refine blk_drewN ?_ _ | refine blk_drew ?_ | refine blk_alloc ?_ _)); exact BK148.out) hb); have n2_ := Aside0.mk (below_step (by repeat (first | (with_reducible first | exact HB.out | apply below_alloc | apply pw_below_drewN | apply below_drew1 | refine below_set ?_ GE147.out | refine below_set ?_ GE148.out) | exact HB.out)) hb); clear BK147; clear BK148; clear HB; have BK147 := n0_; have BK148 := n1_; have HB := n2_; clear n0_ n1_ n2_; (try clear hb); (try clear hb2); (try clear hk); (try clear hi)))
   go_ret
   exact ⟨by first | rfl | (simp [errW_none, errW_some] <;> rfl) | (simp [*, errW_none, errW_some] <;> rfl), by repeat (first | (with_reducible first | exact HB.out | apply below_alloc | apply pw_below_drewN | apply below_drew1 | refine below_set ?_ GE147.out | refine below_set ?_ GE148.out) | exact HB.out)⟩
  ·rw [if_neg c9] at H
   have c9b0 : decide (60 < (a2.size : Int)) = false := decide_eq_false c9
   have c9b1 : decide (60 < a2.size) = false := decide_eq_false (by omega)
   clear c9
   have HC13 := Aside0.mk H
   clear H
   go_enter Tryd.func3, Tryd.ntmps3
   go_upto_if 28 with (first | ((with_reducible refine gate_dst (N := 6) rfl ?_); refine box_event ?hg (N := 6) ?hd (cs := #[.int .u16 a0_0, .int .u32 a0_1]) (t := 25) ?hr ?_; (case hd => rfl); (case hg => rfl); (case hr => first | (go_simp; done) | (go_simp; rfl)); intro gb147 hg w14 hbox hb; have n0_ := Aside0.mk (below_step (by repeat (first | (with_reducible first | exact HB.out | apply below_alloc | apply pw_below_drewN | apply below_drew1) | exact HB.out)) hb); have n1_ := Aside0.mk (hbox); have n2_ := Aside0.mk ((by rw [hg]; exact (below_size (by repeat (first | (with_reducible first | exact HB.out | apply below_alloc | apply pw_below_drewN | apply below_drew1) | exact HB.out))) : w.heap.size ≤ gb147)); have n3_ := Aside0.mk ((by rw [hg]; exact (below_size (by repeat (first | (with_reducible first | exact HB.out | apply below_alloc | apply pw_below_drewN | apply below_drew1) | exact HB.out))) : w.heap.size ≤ gb147)); clear HB; have HB := n0_; have BK147 := n1_; have GW147 := n2_; have GE147 := n3_; clear n0_ n1_ n2_ n3_; clear hb hbox hg) | ((with_reducible refine gate_dst (N := 7) rfl ?_); refine box_event ?hg (N := 7) ?hd (cs := #[.int .u16 a1_0, .int .u32 a1_1]) (t := 25) ?hr ?_; (case hd => rfl); (case hg => rfl); (case hr => first | (go_simp; done) | (go_simp; rfl)); intro gb148 hg w15 hbox hb; have n0_ := Aside0.mk (blk_below (g := gb147) (o := .cells #[.int .u16 a0_0, .int .u32 a0_1] 25 (0, 0)) (by (with_reducible repeat (first | refine blk_drewN ?_ _ | refine blk_drew ?_ | refine blk_alloc ?_ _)); exact BK147.out) hb); have n1_ := Aside0.mk (below_step (by repeat (first | (with_reducible first | exact HB.out | apply below_alloc | apply pw_below_drewN | apply below_drew1 | refine below_set ?_ GE147.out) | exact HB.out)) hb); have n2_ := Aside0.mk (hbox); have n3_ := Aside0.mk ((by rw [hg]; exact (below_size (by repeat (first | (with_reducible first | exact HB.out | apply below_alloc | apply pw_below_drewN | apply below_drew1 | refine below_set ?_ GE147.out) | exact HB.out))) : w.heap.size ≤ gb148)); have n4_ := Aside0.mk ((by rw [hg]; exact (below_size (by repeat (first | (with_reducible first | exact HB.out | apply below_alloc | apply pw_below_drewN | apply below_drew1 | refine below_set ?_ GE147.out) | exact HB.out))) : w.heap.size ≤ gb148)); have n5_ := Aside0.mk ((by rw [hg]; exact Nat.ne_of_lt (blk_lt (g := gb147) (o := .cells #[.int .u16 a0_0, .int .u32 a0_1] 25 (0, 0)) (by (with_reducible repeat (first | refine blk_drewN ?_ _ | refine blk_drew ?_ | refine blk_alloc ?_ _)); exact BK147.out)) : gb147 ≠ gb148)); have n6_ := Aside0.mk ((by rw [hg]; exact Nat.ne_of_gt (blk_lt (g := gb147) (o := .cells #[.int .u16 a0_0, .int .u32 a0_1] 25 (0, 0)) (by (with_reducible repeat (first | refine blk_drewN ?_ _ | refine blk_drew ?_ | refine blk_alloc ?_ _)); exact BK147.out)) : gb148 ≠ gb147)); clear BK147; clear HB; have BK147 := n0_; have HB := n1_; have BK148 := n2_; have GW148 := n3_; have GE148 := n4_; have NB147_148 := n5_; have NB148_147 := n6_; clear n0_ n1_ n2_ n3_ n4_ n5_ n6_; clear hb hbox hg) | ((with_reducible refine gate_callee (f := 6) rfl ?_); refine goesL_ (some 23) rfl rfl Tryd.func6 (by kernel_rfl) rfl #[] rfl (by (try simp only [List.map_toArray, List.map_cons, List.map_nil]); first | done | rfl | (simp only [List.length_drop, List.length_take]; rfl) | (rw [hsame_])) ?_; (with_reducible refine (guichetlaw10_known.calls k  true _ ?side1 A7.out).mono ?_); (case side1 => exact tab_at HT.out (by repeat (first | (with_reducible first | exact HB.out | apply below_alloc | apply pw_below_drewN | apply below_drew1 | refine below_set ?_ GE147.out | refine below_set ?_ GE148.out) | exact HB.out))); rintro e w16 ⟨rfl, hb⟩; refine ⟨_, rfl, ?_⟩; have n0_ := Aside0.mk (blk_below (g := gb147) (o := .cells #[.int .u16 a0_0, .int .u32 a0_1] 25 (0, 0)) (by (with_reducible repeat (first | refine blk_drewN ?_ _ | refine blk_drew ?_ | refine blk_alloc ?_ _)); exact BK147.out) hb); have n1_ := Aside0.mk (blk_below (g := gb148) (o := .cells #[.int .u16 a1_0, .int .u32 a1_1] 25 (0, 0)) (by (with_reducible repeat (first | refine blk_drewN ?_ _ | refine blk_drew ?_ | refine blk_alloc ?_ _)); exact BK148.out) hb); have n2_ := Aside0.mk (below_step (by repeat (first | (with_reducible first | exact HB.out | apply below_alloc | apply pw_below_drewN | apply below_drew1 | refine below_set ?_ GE147.out | refine below_set ?_ GE148.out) | exact HB.out)) hb); clear BK147; clear BK148; clear HB; have BK147 := n0_; have BK148 := n1_; have HB := n2_; clear n0_ n1_ n2_; (try clear hb); (try clear hb2); (try clear hk); (try clear hi)))
   (try simp only [Act.put, List.setIfInBounds_toArray, List.set_cons_zero, List.set_cons_succ])
   go_cut [] (fun wc => ∃ (kq : Nat) (x148001_12 : Int) (x149000_12 : Int) (x149001_12 : Int), Aside0 (guichetlaw10_StanTexts.j0 kq a2 a3 a4 a0_0 x148001_12 x149000_12 x149001_12 = some r) ∧ Aside0 (kq ≤ k) ∧ Aside0 (wc.heap[gb147]? = some (.cells #[.int .u16 a0_0, .int .u32 x148001_12] 25 (0, 0))) ∧ Aside0 (wc.heap[gb148]? = some (.cells #[.int .u16 x149000_12, .int .u32 x149001_12] 25 (0, 0))) ∧ Aside0 (Below w.heap.size w wc))
   case first =>
    have H := HC13.out
    clear HC13
    by_cases c17 : a5 = true
    ·subst c17
     have H1 : (guichetlaw10_StanTexts.j0 k a2 a3 a4 a0_0 (Int.tmod a0_1 1000001) (IntKind.u16.wrap (a0_0 + (Int.tmod a1_0 2))) (Int.tmod a1_1 5)) = some r := by rw [if_pos rfl] at H; exact H
     clear H
     have H := H1
     clear H1
     have H' := Aside0.mk H
     clear H
     have hnb18 := NB147_148.out
     have hnc18 := NB148_147.out
     have hcz19_0 : w16.cell? ⟨gb147, 0, none⟩ = some (.int .u16 a0_0) := (blk_cell BK147.out 0).trans rfl
     have hcz19_1 : w16.cell? ⟨gb147, 1, none⟩ = some (.int .u32 a0_1) := (blk_cell BK147.out 1).trans rfl
     have hfz19_0 := blk_frozen BK147.out 0
     have hfz19_1 := blk_frozen BK147.out 1
     have hcz20_0 : w16.cell? ⟨gb148, 0, none⟩ = some (.int .u16 a1_0) := (blk_cell BK148.out 0).trans rfl
     have hcz20_1 : w16.cell? ⟨gb148, 1, none⟩ = some (.int .u32 a1_1) := (blk_cell BK148.out 1).trans rfl
     have hfz20_0 := blk_frozen BK148.out 0
     have hfz20_1 := blk_frozen BK148.out 1
     go_wp2
     have n0_ := Aside0.mk (blk_drew BK147.out)
     have n1_ := Aside0.mk (blk_drew BK148.out)
     have n2_ := Aside0.mk (below_drew1 HB.out)
     clear BK147 BK148 HB hcz19_0 hcz19_1 hcz20_0 hcz20_1 hfz19_0 hfz19_1 hfz20_0 hfz20_1
     have BK147 := n0_
     have BK148 := n1_
     have HB := n2_
     clear n0_ n1_ n2_
     refine start_ (n := 18) (S := fun w' => w'.cell? ⟨gb147, 0, none⟩ = some (.int .u16 a0_0) ∧ w'.cell? ⟨gb148, 0, none⟩ = some (.int .u16 a1_0) ∧ w'.cell? ⟨gb148, 1, none⟩ = some (.int .u32 a1_1)) (ds := [15, 17]) #[false, false, false, false, false, false, false, false, false, false, false, false, false, false, false, false, false, false] (by kernel_rfl) rfl rfl ⟨(blk_cell BK147.out 0).trans rfl, (blk_cell BK148.out 0).trans rfl, (blk_cell BK148.out 1).trans rfl⟩ (fun hHeld => ?_)
     generalize w16.drew = wr0 at BK147 BK148 HB hHeld ⊢
     refine pure_ (i := 0) (N := some 29) (v := ?_) (a' := ?_) #[true, false, false, false, false, false, false, false, false, false, false, false, false, false, false, false, false, false] rfl rfl (by kernel_rfl) (fun _ _ _ h => h) (Or.inl ⟨by rfl, ?_⟩) ?_ ?_
     rotate_left
     · intro w'
       go_simp
       with_reducible rfl
     rotate_left
     · simp only [Act.put, List.setIfInBounds_toArray, List.set_cons_zero, List.set_cons_succ, i64_w, i32_w]
       rfl
     refine pure_ (i := 3) (N := some 32) (v := ?_) (a' := ?_) #[true, false, false, true, false, false, false, false, false, false, false, false, false, false, false, false, false, false] rfl rfl (by kernel_rfl) (fun _ _ _ h => h) (Or.inl ⟨by rfl, ?_⟩) ?_ ?_
     rotate_left
     · intro w'
       go_simp
       with_reducible rfl
     rotate_left
     · simp only [Act.put, List.setIfInBounds_toArray, List.set_cons_zero, List.set_cons_succ, i64_w, i32_w]
       rfl
     refine pure_ (i := 6) (N := some 35) (v := ?_) (a' := ?_) #[true, false, false, true, false, false, true, false, false, false, false, false, false, false, false, false, false, false] rfl rfl (by kernel_rfl) (fun _ _ _ h => h) (Or.inl ⟨by rfl, ?_⟩) ?_ ?_
     rotate_left
     · intro w'
       go_simp
       with_reducible rfl
     rotate_left
     · simp only [Act.put, List.setIfInBounds_toArray, List.set_cons_zero, List.set_cons_succ, i64_w, i32_w]
       rfl
     refine pure_ (i := 8) (N := some 37) (v := ?_) (a' := ?_) #[true, false, false, true, false, false, true, false, true, false, false, false, false, false, false, false, false, false] rfl rfl (by kernel_rfl) (fun _ _ _ h => h) (Or.inl ⟨by rfl, ?_⟩) ?_ ?_
     rotate_left
     · intro w'
       go_simp
       with_reducible rfl
     rotate_left
     · simp only [Act.put, List.setIfInBounds_toArray, List.set_cons_zero, List.set_cons_succ, i64_w, i32_w]
       rfl
     refine take_ (i := 4) (N := some 33) (v := ?_) (a' := ?_) #[true, false, false, true, true, false, true, false, true, false, false, false, false, false, false, false, false, false] rfl rfl (by kernel_rfl) (fun _ _ _ h => h) (Or.inl ⟨by rfl, ?_⟩) hHeld ?_ ?_
     rotate_left
     · rintro w' ⟨s0, s1, s2⟩
       go_simp
       with_reducible rfl
     rotate_left
     · simp only [Act.put, List.setIfInBounds_toArray, List.set_cons_zero, List.set_cons_succ, i64_w, i32_w]
       rfl
     refine pure_ (i := 5) (N := some 34) (v := ?_) (a' := ?_) #[true, false, false, true, true, true, true, false, true, false, false, false, false, false, false, false, false, false] rfl rfl (by kernel_rfl) (fun _ _ _ h => h) (Or.inl ⟨by rfl, ?_⟩) ?_ ?_
     rotate_left
     · intro w'
       go_simp
       with_reducible rfl
     rotate_left
     · simp only [Act.put, List.setIfInBounds_toArray, List.set_cons_zero, List.set_cons_succ, i64_w, i32_w]
       rfl
     refine take_ (i := 7) (N := some 36) (v := ?_) (a' := ?_) #[true, false, false, true, true, true, true, true, true, false, false, false, false, false, false, false, false, false] rfl rfl (by kernel_rfl) (fun _ _ _ h => h) (Or.inl ⟨by rfl, ?_⟩) hHeld ?_ ?_
     rotate_left
     · rintro w' ⟨s0, s1, s2⟩
       go_simp
       with_reducible rfl
     rotate_left
     · simp only [Act.put, List.setIfInBounds_toArray, List.set_cons_zero, List.set_cons_succ, i64_w, i32_w]
       rfl
     refine take_ (i := 9) (N := some 38) (v := ?_) (a' := ?_) #[true, false, false, true, true, true, true, true, true, true, false, false, false, false, false, false, false, false] rfl rfl (by kernel_rfl) (fun _ _ _ h => h) (Or.inl ⟨by rfl, ?_⟩) hHeld ?_ ?_
     rotate_left
     · rintro w' ⟨s0, s1, s2⟩
       go_simp
       with_reducible rfl
     rotate_left
     · simp only [Act.put, List.setIfInBounds_toArray, List.set_cons_zero, List.set_cons_succ, i64_w, i32_w]
       rfl
     refine pure_ (i := 10) (N := some 39) (v := ?_) (a' := ?_) #[true, false, false, true, true, true, true, true, true, true, true, false, false, false, false, false, false, false] rfl rfl (by kernel_rfl) (fun _ _ _ h => h) (Or.inl ⟨by rfl, ?_⟩) ?_ ?_
     rotate_left
     · intro w'
       go_simp
       with_reducible rfl
     rotate_left
     · simp only [Act.put, List.setIfInBounds_toArray, List.set_cons_zero, List.set_cons_succ, i64_w, i32_w]
       rfl
     refine pure_ (i := 11) (N := some 40) (v := ?_) (a' := ?_) #[true, false, false, true, true, true, true, true, true, true, true, true, false, false, false, false, false, false] rfl rfl (by kernel_rfl) (fun _ _ _ h => h) (Or.inl ⟨by rfl, ?_⟩) ?_ ?_
     rotate_left
     · intro w'
       go_simp
       with_reducible rfl
     rotate_left
     · simp only [Act.put, List.setIfInBounds_toArray, List.set_cons_zero, List.set_cons_succ, i64_w, i32_w]
       rfl
     refine one_ (i := 1) (N := some 30) #[true, true, false, true, true, true, true, true, true, true, true, true, false, false, false, false, false, false] rfl rfl (by kernel_rfl) (by decide) (fun K hK => ?_)
     have hv_ : wr0.cell? ⟨gb147, 1, none⟩ = some (.int .u32 a0_1) := (blk_cell BK147.out 1).trans rfl
     refine value_ (w1 := ?_) (v := ?_) (by rfl) rfl ?_ ?_
     rotate_left 2
     · go_simp
       constructor
       · rfl
       · rfl
     clear hv_
     refine hK.out _ _ ⟨(blk_cell BK147.out 0).trans rfl, (blk_cell BK148.out 0).trans rfl, (blk_cell BK148.out 1).trans rfl⟩ (fun hHeld => ?_)
     clear hK K
     refine norm_ (a' := ?_) ?_ ?_
     rotate_left
     · show Act.put _ (some 30) _ = _
       simp only [Act.put, List.setIfInBounds_toArray, List.set_cons_zero, List.set_cons_succ, i64_w, i32_w]
       rfl
     refine pure_ (i := 2) (N := some 31) (v := ?_) (a' := ?_) #[true, true, true, true, true, true, true, true, true, true, true, true, false, false, false, false, false, false] rfl rfl (by kernel_rfl) (fun _ _ _ h => h) (Or.inl ⟨by rfl, ?_⟩) ?_ ?_
     rotate_left
     · intro w'
       go_simp
       with_reducible rfl
     rotate_left
     · simp only [Act.put, List.setIfInBounds_toArray, List.set_cons_zero, List.set_cons_succ, i64_w, i32_w]
       rfl
     refine pure_ (i := 12) (N := some 41) (v := ?_) (a' := ?_) #[true, true, true, true, true, true, true, true, true, true, true, true, true, false, false, false, false, false] rfl rfl (by kernel_rfl) (fun _ _ _ h => h) (Or.inl ⟨by rfl, ?_⟩) ?_ ?_
     rotate_left
     · intro w'
       go_simp
       with_reducible rfl
     rotate_left
     · simp only [Act.put, List.setIfInBounds_toArray, List.set_cons_zero, List.set_cons_succ, i64_w, i32_w]
       rfl
     refine one_ (i := 13) (N := none) #[true, true, true, true, true, true, true, true, true, true, true, true, true, true, false, false, false, false] rfl rfl (by kernel_rfl) (by decide) (fun K hK => ?_)
     have hv_ : wr0.cell? ⟨gb147, 1, none⟩ = some (.int .u32 a0_1) := (blk_cell BK147.out 1).trans rfl
     have hf_ := blk_frozen BK147.out 1
     refine skip_ (w1 := (wr0.setCell ⟨gb147, 1, none⟩ (.int .u32 (Int.tmod a0_1 1000001)))) (by rfl) rfl ?_ ?_
     · go_simp
     have n0_ : Aside0 ((wr0.setCell ⟨gb147, 1, none⟩ (.int .u32 (Int.tmod a0_1 1000001))).heap[gb147]? = some (.cells #[.int .u16 a0_0, .int .u32 (Int.tmod a0_1 1000001)] 25 (0, 0))) := ⟨blk_put (cs := #[.int .u16 a0_0, .int .u32 a0_1]) BK147.out 1 _ (by simp only [List.setIfInBounds_toArray, List.set_cons_zero, List.set_cons_succ])⟩
     have n1_ : Aside0 ((wr0.setCell ⟨gb147, 1, none⟩ (.int .u32 (Int.tmod a0_1 1000001))).heap[gb148]? = some (.cells #[.int .u16 a1_0, .int .u32 a1_1] 25 (0, 0))) := ⟨blk_far BK148.out NB148_147.out _⟩
     have n2_ : Aside0 (Below w.heap.size w (wr0.setCell ⟨gb147, 1, none⟩ (.int .u32 (Int.tmod a0_1 1000001)))) := ⟨below_set HB.out GE147.out⟩
     clear hv_ hf_ BK147 BK148 HB
     generalize (wr0.setCell ⟨gb147, 1, none⟩ (.int .u32 (Int.tmod a0_1 1000001))) = wr1 at n0_ n1_ n2_ ⊢
     have BK147 := n0_
     have BK148 := n1_
     have HB := n2_
     clear n0_ n1_ n2_
     refine hK.out _ _ ⟨(blk_cell BK147.out 0).trans rfl, (blk_cell BK148.out 0).trans rfl, (blk_cell BK148.out 1).trans rfl⟩ (fun hHeld => ?_)
     clear hK K
     refine pure_ (i := 14) (N := some 42) (v := ?_) (a' := ?_) #[true, true, true, true, true, true, true, true, true, true, true, true, true, true, true, false, false, false] rfl rfl (by kernel_rfl) (fun _ _ _ h => h) (Or.inl ⟨by rfl, ?_⟩) ?_ ?_
     rotate_left
     · intro w'
       go_simp
       with_reducible rfl
     rotate_left
     · simp only [Act.put, List.setIfInBounds_toArray, List.set_cons_zero, List.set_cons_succ, i64_w, i32_w]
       rfl
     refine last_ (i := 15) (N := none) #[true, true, true, true, true, true, true, true, true, true, true, true, true, true, true, true, false, false] rfl rfl (by kernel_rfl) (by decide) (fun K hK => ?_)
     have hv_ : wr1.cell? ⟨gb148, 1, none⟩ = some (.int .u32 a1_1) := (blk_cell BK148.out 1).trans rfl
     have hf_ := blk_frozen BK148.out 1
     refine skip_ (w1 := (wr1.setCell ⟨gb148, 1, none⟩ (.int .u32 (Int.tmod a1_1 5)))) (by rfl) rfl ?_ ?_
     · go_simp
     have n0_ : Aside0 ((wr1.setCell ⟨gb148, 1, none⟩ (.int .u32 (Int.tmod a1_1 5))).heap[gb147]? = some (.cells #[.int .u16 a0_0, .int .u32 (Int.tmod a0_1 1000001)] 25 (0, 0))) := ⟨blk_far BK147.out NB147_148.out _⟩
     have n1_ : Aside0 ((wr1.setCell ⟨gb148, 1, none⟩ (.int .u32 (Int.tmod a1_1 5))).heap[gb148]? = some (.cells #[.int .u16 a1_0, .int .u32 (Int.tmod a1_1 5)] 25 (0, 0))) := ⟨blk_put (cs := #[.int .u16 a1_0, .int .u32 a1_1]) BK148.out 1 _ (by simp only [List.setIfInBounds_toArray, List.set_cons_zero, List.set_cons_succ])⟩
     have n2_ : Aside0 (Below w.heap.size w (wr1.setCell ⟨gb148, 1, none⟩ (.int .u32 (Int.tmod a1_1 5)))) := ⟨below_set HB.out GE148.out⟩
     clear hv_ hf_ BK147 BK148 HB
     generalize (wr1.setCell ⟨gb148, 1, none⟩ (.int .u32 (Int.tmod a1_1 5))) = wr2 at n0_ n1_ n2_ ⊢
     have BK147 := n0_
     have BK148 := n1_
     have HB := n2_
     clear n0_ n1_ n2_
     refine hK.out _ _ ?_
     clear hK K
     refine pure_ (i := 16) (N := some 43) (v := ?_) (a' := ?_) #[true, true, true, true, true, true, true, true, true, true, true, true, true, true, true, true, true, false] rfl rfl (by kernel_rfl) (fun _ _ _ h => h) (Or.inl ⟨by rfl, ?_⟩) ?_ ?_
     rotate_left
     · intro w'
       go_simp
       with_reducible rfl
     rotate_left
     · simp only [Act.put, List.setIfInBounds_toArray, List.set_cons_zero, List.set_cons_succ, i64_w, i32_w]
       rfl
     refine last_ (i := 17) (N := none) #[true, true, true, true, true, true, true, true, true, true, true, true, true, true, true, true, true, true] rfl rfl (by kernel_rfl) (by decide) (fun K hK => ?_)
     have hv_ : wr2.cell? ⟨gb148, 0, none⟩ = some (.int .u16 a1_0) := (blk_cell BK148.out 0).trans rfl
     have hf_ := blk_frozen BK148.out 0
     refine skip_ (w1 := (wr2.setCell ⟨gb148, 0, none⟩ (.int .u16 (IntKind.u16.wrap (a0_0 + (Int.tmod a1_0 2)))))) (by rfl) rfl ?_ ?_
     · go_simp
     have n0_ : Aside0 ((wr2.setCell ⟨gb148, 0, none⟩ (.int .u16 (IntKind.u16.wrap (a0_0 + (Int.tmod a1_0 2))))).heap[gb147]? = some (.cells #[.int .u16 a0_0, .int .u32 (Int.tmod a0_1 1000001)] 25 (0, 0))) := ⟨blk_far BK147.out NB147_148.out _⟩
     have n1_ : Aside0 ((wr2.setCell ⟨gb148, 0, none⟩ (.int .u16 (IntKind.u16.wrap (a0_0 + (Int.tmod a1_0 2))))).heap[gb148]? = some (.cells #[.int .u16 (IntKind.u16.wrap (a0_0 + (Int.tmod a1_0 2))), .int .u32 (Int.tmod a1_1 5)] 25 (0, 0))) := ⟨blk_put (cs := #[.int .u16 a1_0, .int .u32 (Int.tmod a1_1 5)]) BK148.out 0 _ (by simp only [List.setIfInBounds_toArray, List.set_cons_zero, List.set_cons_succ])⟩
     have n2_ : Aside0 (Below w.heap.size w (wr2.setCell ⟨gb148, 0, none⟩ (.int .u16 (IntKind.u16.wrap (a0_0 + (Int.tmod a1_0 2)))))) := ⟨below_set HB.out GE148.out⟩
     clear hv_ hf_ BK147 BK148 HB
     generalize (wr2.setCell ⟨gb148, 0, none⟩ (.int .u16 (IntKind.u16.wrap (a0_0 + (Int.tmod a1_0 2))))) = wr3 at n0_ n1_ n2_ ⊢
     have BK147 := n0_
     have BK148 := n1_
     have HB := n2_
     clear n0_ n1_ n2_
     refine hK.out _ _ ?_
     clear hK K
     refine done_ (by kernel_rfl) ?_
     try go_wp2
     go_meet
     case rel => exact ⟨_, (Int.tmod a0_1 1000001), (IntKind.u16.wrap (a0_0 + (Int.tmod a1_0 2))), (Int.tmod a1_1 5), H', ⟨by first | omega | exact Nat.le_refl _⟩, ⟨BK147.out⟩, ⟨BK148.out⟩, ⟨by repeat (first | (with_reducible first | exact HB.out | apply below_alloc | apply pw_below_drewN | apply below_drew1 | refine below_set ?_ GE147.out | refine below_set ?_ GE148.out) | exact HB.out)⟩⟩
    ·replace c17 := Bool.eq_false_iff.mpr c17
     subst c17
     have H1 : (guichetlaw10_StanTexts.j0 k a2 a3 a4 a0_0 a0_1 a1_0 a1_1) = some r := by rw [if_neg (show ¬ (false = true) by decide)] at H; exact H
     clear H
     have H := H1
     clear H1
     have H' := Aside0.mk H
     clear H
     go_wp2
     go_meet
     case rel => exact ⟨_, (a0_1), (a1_0), (a1_1), H', ⟨by first | omega | exact Nat.le_refl _⟩, ⟨by (with_reducible repeat (first | refine blk_drewN ?_ _ | refine blk_drew ?_ | refine blk_alloc ?_ _)); exact BK147.out⟩, ⟨by (with_reducible repeat (first | refine blk_drewN ?_ _ | refine blk_drew ?_ | refine blk_alloc ?_ _)); exact BK148.out⟩, ⟨by repeat (first | (with_reducible first | exact HB.out | apply below_alloc | apply pw_below_drewN | apply below_drew1 | refine below_set ?_ GE147.out | refine below_set ?_ GE148.out) | exact HB.out)⟩⟩
   case rest =>
    clear HC13
    try clear c1
    try clear p2
    try clear c3
    try clear c6
    try clear c8
    try clear c9
    try clear c9b0
    try clear c9b1
    try clear c17
    try clear c18
    try clear hcz19_0
    try clear hcz19_1
    try clear hcz20_0
    try clear hcz20_1
    try clear hfz19_0
    try clear hfz19_1
    try clear hfz20_0
    try clear hfz20_1
    obtain ⟨kq, x148001_12, x149000_12, x149001_12, HA, HJ12, BK147, BK148, HB⟩ := hcut
    cases kq with
    | zero => exact absurd HA.out (by simp [guichetlaw10_StanTexts.j0])
    | succ kj12 =>
     have H := HA.out
     clear HA
     simp only [guichetlaw10_StanTexts.j0] at H
     replace H := Option.bind_eq_some_iff.mp H
     obtain ⟨t150, A210, H⟩ := H
     replace H : ((stan_Parse.f kj12 t150).bind fun bt151 => ((guichetref1_KeyText.f kj12 a0_0 x148001_12).bind fun t155 => (if t150.toList = t155.toList then (if (bt151.2.2 != (decide (x148001_12 ≤ 999999))) = true then (guichetlaw10_StanTexts.j1 kj12 a2 a3 a4 t150 true a0_0 x148001_12 x149000_12 x149001_12) else (if bt151.2.2 = true then (guichetlaw10_StanTexts.j1 kj12 a2 a3 a4 t150 (!(bt151.1 == a0_0) || (!(bt151.2.1 == x148001_12))) a0_0 x148001_12 x149000_12 x149001_12) else (guichetlaw10_StanTexts.j1 kj12 a2 a3 a4 t150 false a0_0 x148001_12 x149000_12 x149001_12))) else (guichetlaw10_StanTexts.j1 kj12 a2 a3 a4 t150 true a0_0 x148001_12 x149000_12 x149001_12)))) = some r := H
     have A21 := Aside0.mk A210
     clear A210
     replace H := Option.bind_eq_some_iff.mp H
     obtain ⟨⟨t151, t152, t153⟩, A220, H⟩ := H
     replace H : ((guichetref1_KeyText.f kj12 a0_0 x148001_12).bind fun t155 => (if t150.toList = t155.toList then (if (t153 != (decide (x148001_12 ≤ 999999))) = true then (guichetlaw10_StanTexts.j1 kj12 a2 a3 a4 t150 true a0_0 x148001_12 x149000_12 x149001_12) else (if t153 = true then (guichetlaw10_StanTexts.j1 kj12 a2 a3 a4 t150 (!(t151 == a0_0) || (!(t152 == x148001_12))) a0_0 x148001_12 x149000_12 x149001_12) else (guichetlaw10_StanTexts.j1 kj12 a2 a3 a4 t150 false a0_0 x148001_12 x149000_12 x149001_12))) else (guichetlaw10_StanTexts.j1 kj12 a2 a3 a4 t150 true a0_0 x148001_12 x149000_12 x149001_12))) = some r := H
     have A22 := Aside0.mk A220
     clear A220
     have HC23 := Aside0.mk H
     clear H
     have hnb24 := NB147_148.out
     have hnc24 := NB148_147.out
     have hcz25_0 : wc.cell? ⟨gb147, 0, none⟩ = some (.int .u16 a0_0) := (blk_cell BK147.out 0).trans rfl
     have hcz25_1 : wc.cell? ⟨gb147, 1, none⟩ = some (.int .u32 x148001_12) := (blk_cell BK147.out 1).trans rfl
     have hfz25_0 := blk_frozen BK147.out 0
     have hfz25_1 := blk_frozen BK147.out 1
     go_upto_region 9 with (first | ((with_reducible refine gate_callee (f := 7) rfl ?_); refine goesL_ (some 45) rfl rfl Tryd.func7 (by kernel_rfl) rfl #[.agg #[.int .u16 a0_0, .int .u32 x148001_12]] rfl (by (try simp only [List.map_toArray, List.map_cons, List.map_nil]); first | done | rfl | (simp only [List.length_drop, List.length_take]; rfl) | (rw [hsame_])) ?_; (with_reducible refine (stan_Text.calls a0_0 x148001_12 t150 _ ?side1 A21.out).mono ?_); (case side1 => exact tab_at HT.out (by repeat (first | (with_reducible first | exact HB.out | apply below_alloc | apply pw_below_drewN | apply below_drew1 | refine below_set ?_ GE147.out | refine below_set ?_ GE148.out) | exact HB.out))); rintro e w26 ⟨rfl, hb⟩; refine ⟨_, rfl, ?_⟩; have n0_ := Aside0.mk (blk_below (g := gb147) (o := .cells #[.int .u16 a0_0, .int .u32 x148001_12] 25 (0, 0)) (by (with_reducible repeat (first | refine blk_drewN ?_ _ | refine blk_drew ?_ | refine blk_alloc ?_ _)); exact BK147.out) hb); have n1_ := Aside0.mk (blk_below (g := gb148) (o := .cells #[.int .u16 x149000_12, .int .u32 x149001_12] 25 (0, 0)) (by (with_reducible repeat (first | refine blk_drewN ?_ _ | refine blk_drew ?_ | refine blk_alloc ?_ _)); exact BK148.out) hb); have n2_ := Aside0.mk (below_step (by repeat (first | (with_reducible first | exact HB.out | apply below_alloc | apply pw_below_drewN | apply below_drew1 | refine below_set ?_ GE147.out | refine below_set ?_ GE148.out) | exact HB.out)) hb); clear BK147; clear BK148; clear HB; have BK147 := n0_; have BK148 := n1_; have HB := n2_; clear n0_ n1_ n2_; (try clear hb); (try clear hb2); (try clear hk); (try clear hi)) | ((with_reducible refine gate_callee (f := 8) rfl ?_); refine goesL_ (some 48) rfl rfl Tryd.func8 (by kernel_rfl) rfl #[.string t150] rfl (by (try simp only [List.map_toArray, List.map_cons, List.map_nil]); first | done | rfl | (simp only [List.length_drop, List.length_take]; rfl) | (rw [hsame_])) ?_; (with_reducible refine (stan_Parse.calls kj12 t150 t151 t152 t153 _ ?side1 A22.out).mono ?_); (case side1 => exact tab_at HT.out (by repeat (first | (with_reducible first | exact HB.out | apply below_alloc | apply pw_below_drewN | apply below_drew1 | refine below_set ?_ GE147.out | refine below_set ?_ GE148.out) | exact HB.out))); rintro e w27 ⟨rfl, hb⟩; refine ⟨_, rfl, ?_⟩; have n0_ := Aside0.mk (blk_below (g := gb147) (o := .cells #[.int .u16 a0_0, .int .u32 x148001_12] 25 (0, 0)) (by (with_reducible repeat (first | refine blk_drewN ?_ _ | refine blk_drew ?_ | refine blk_alloc ?_ _)); exact BK147.out) hb); have n1_ := Aside0.mk (blk_below (g := gb148) (o := .cells #[.int .u16 x149000_12, .int .u32 x149001_12] 25 (0, 0)) (by (with_reducible repeat (first | refine blk_drewN ?_ _ | refine blk_drew ?_ | refine blk_alloc ?_ _)); exact BK148.out) hb); have n2_ := Aside0.mk (below_step (by repeat (first | (with_reducible first | exact HB.out | apply below_alloc | apply pw_below_drewN | apply below_drew1 | refine below_set ?_ GE147.out | refine below_set ?_ GE148.out) | exact HB.out)) hb); clear BK147; clear BK148; clear HB; have BK147 := n0_; have BK148 := n1_; have HB := n2_; clear n0_ n1_ n2_; (try clear hb); (try clear hb2); (try clear hk); (try clear hi)) | ((with_reducible refine gate_dst (N := 14) rfl ?_); refine box_event ?hg (N := 14) ?hd (cs := #[.int .u16 0, .int .u32 0]) (t := 25) ?hr ?_; (case hd => rfl); (case hg => rfl); (case hr => first | (go_simp; done) | (go_simp; rfl)); intro gb154 hg w28 hbox hb; have n0_ := Aside0.mk (blk_below (g := gb147) (o := .cells #[.int .u16 a0_0, .int .u32 x148001_12] 25 (0, 0)) (by (with_reducible repeat (first | refine blk_drewN ?_ _ | refine blk_drew ?_ | refine blk_alloc ?_ _)); exact BK147.out) hb); have n1_ := Aside0.mk (blk_below (g := gb148) (o := .cells #[.int .u16 x149000_12, .int .u32 x149001_12] 25 (0, 0)) (by (with_reducible repeat (first | refine blk_drewN ?_ _ | refine blk_drew ?_ | refine blk_alloc ?_ _)); exact BK148.out) hb); have n2_ := Aside0.mk (below_step (by repeat (first | (with_reducible first | exact HB.out | apply below_alloc | apply pw_below_drewN | apply below_drew1 | refine below_set ?_ GE147.out | refine below_set ?_ GE148.out) | exact HB.out)) hb); have n3_ := Aside0.mk (hbox); have n4_ := Aside0.mk ((by rw [hg]; exact (below_size (by repeat (first | (with_reducible first | exact HB.out | apply below_alloc | apply pw_below_drewN | apply below_drew1 | refine below_set ?_ GE147.out | refine below_set ?_ GE148.out) | exact HB.out))) : w.heap.size ≤ gb154)); have n5_ := Aside0.mk ((by rw [hg]; exact (below_size (by repeat (first | (with_reducible first | exact HB.out | apply below_alloc | apply pw_below_drewN | apply below_drew1 | refine below_set ?_ GE147.out | refine below_set ?_ GE148.out) | exact HB.out))) : w.heap.size ≤ gb154)); have n6_ := Aside0.mk ((by rw [hg]; exact Nat.ne_of_lt (blk_lt (g := gb147) (o := .cells #[.int .u16 a0_0, .int .u32 x148001_12] 25 (0, 0)) (by (with_reducible repeat (first | refine blk_drewN ?_ _ | refine blk_drew ?_ | refine blk_alloc ?_ _)); exact BK147.out)) : gb147 ≠ gb154)); have n7_ := Aside0.mk ((by rw [hg]; exact Nat.ne_of_gt (blk_lt (g := gb147) (o := .cells #[.int .u16 a0_0, .int .u32 x148001_12] 25 (0, 0)) (by (with_reducible repeat (first | refine blk_drewN ?_ _ | refine blk_drew ?_ | refine blk_alloc ?_ _)); exact BK147.out)) : gb154 ≠ gb147)); have n8_ := Aside0.mk ((by rw [hg]; exact Nat.ne_of_lt (blk_lt (g := gb148) (o := .cells #[.int .u16 x149000_12, .int .u32 x149001_12] 25 (0, 0)) (by (with_reducible repeat (first | refine blk_drewN ?_ _ | refine blk_drew ?_ | refine blk_alloc ?_ _)); exact BK148.out)) : gb148 ≠ gb154)); have n9_ := Aside0.mk ((by rw [hg]; exact Nat.ne_of_gt (blk_lt (g := gb148) (o := .cells #[.int .u16 x149000_12, .int .u32 x149001_12] 25 (0, 0)) (by (with_reducible repeat (first | refine blk_drewN ?_ _ | refine blk_drew ?_ | refine blk_alloc ?_ _)); exact BK148.out)) : gb154 ≠ gb148)); clear BK147; clear BK148; clear HB; have BK147 := n0_; have BK148 := n1_; have HB := n2_; have BK154 := n3_; have GW154 := n4_; have GE154 := n5_; have NB147_154 := n6_; have NB154_147 := n7_; have NB148_154 := n8_; have NB154_148 := n9_; clear n0_ n1_ n2_ n3_ n4_ n5_ n6_ n7_ n8_ n9_; clear hb hbox hg; have hnb29 := NB154_147.out; have hnc29 := NB147_154.out; have hnb30 := NB154_148.out; have hnc30 := NB148_154.out; have hcz31_0 : w28.cell? ⟨gb154, 0, none⟩ = some (.int .u16 0) := (blk_cell BK154.out 0).trans rfl; have hcz31_1 : w28.cell? ⟨gb154, 1, none⟩ = some (.int .u32 0) := (blk_cell BK154.out 1).trans rfl; have hfz31_0 := blk_frozen BK154.out 0; have hfz31_1 := blk_frozen BK154.out 1))
     (try simp only [Act.put, List.setIfInBounds_toArray, List.set_cons_zero, List.set_cons_succ])
     go_cut [69] (fun v69 wc => ∃ (kq : Nat) (x69_22 : Bool), v69 = .bool x69_22 ∧ Aside0 (guichetlaw10_StanTexts.j1 kq a2 a3 a4 t150 x69_22 a0_0 x148001_12 x149000_12 x149001_12 = some r) ∧ Aside0 (kq ≤ kj12) ∧ Aside0 (wc.heap[gb147]? = some (.cells #[.int .u16 a0_0, .int .u32 x148001_12] 25 (0, 0))) ∧ Aside0 (wc.heap[gb148]? = some (.cells #[.int .u16 x149000_12, .int .u32 x149001_12] 25 (0, 0))) ∧ Aside0 (wc.heap[gb154]? = some (.cells #[.int .u16 t151, .int .u32 t152] 25 (0, 0))) ∧ Aside0 (Below w.heap.size w wc))
     case first =>
      have H := HC23.out
      clear HC23
      replace H := Option.bind_eq_some_iff.mp H
      obtain ⟨t155, A320, H⟩ := H
      replace H : (if t150.toList = t155.toList then (if (t153 != (decide (x148001_12 ≤ 999999))) = true then (guichetlaw10_StanTexts.j1 kj12 a2 a3 a4 t150 true a0_0 x148001_12 x149000_12 x149001_12) else (if t153 = true then (guichetlaw10_StanTexts.j1 kj12 a2 a3 a4 t150 (!(t151 == a0_0) || (!(t152 == x148001_12))) a0_0 x148001_12 x149000_12 x149001_12) else (guichetlaw10_StanTexts.j1 kj12 a2 a3 a4 t150 false a0_0 x148001_12 x149000_12 x149001_12))) else (guichetlaw10_StanTexts.j1 kj12 a2 a3 a4 t150 true a0_0 x148001_12 x149000_12 x149001_12)) = some r := H
      have A32 := Aside0.mk A320
      clear A320
      by_cases c33 : t150.toList = t155.toList
      ·rw [if_pos c33] at H
       have c33b0 : (t150.toList == t155.toList) = true := beq_iff_eq.mpr c33
       have c33b1 : (t150.toList != t155.toList) = false := bne_eq_false_iff_eq.mpr c33
       clear c33
       (first | rw [c33b0] | (simp only [i64_w, i32_w]; rw [c33b0]) | skip)
       by_cases c34 : (t153 != (decide (x148001_12 ≤ 999999))) = true
       ·rw [if_pos c34] at H
        have c34b0 : (t153 != (decide (x148001_12 ≤ 999999))) = true := c34
        (try (have c34b1 : decide (t153 = (decide (x148001_12 ≤ 999999))) = false := by simpa using c34))
        (try (have c34b2 : (t153 == (decide (x148001_12 ≤ 999999))) = false := by simpa using c34))
        (try (have c34b3 : ¬ (t153 = (decide (x148001_12 ≤ 999999))) := by simpa using c34))
        clear c34
        have H' := Aside0.mk H
        clear H
        have hnb35 := NB147_148.out
        have hnc35 := NB148_147.out
        have hnb36 := NB147_154.out
        have hnc36 := NB154_147.out
        have hcz37_0 : w28.cell? ⟨gb147, 0, none⟩ = some (.int .u16 a0_0) := (blk_cell BK147.out 0).trans rfl
        have hcz37_1 : w28.cell? ⟨gb147, 1, none⟩ = some (.int .u32 x148001_12) := (blk_cell BK147.out 1).trans rfl
        have hfz37_0 := blk_frozen BK147.out 0
        have hfz37_1 := blk_frozen BK147.out 1
        go_wp2_with (first | ((with_reducible refine gate_callee (f := 9) rfl ?_); refine goesL_ (some 53) rfl rfl Tryd.func9 (by kernel_rfl) rfl #[.agg #[.int .u16 a0_0, .int .u32 x148001_12]] rfl (by (try simp only [List.map_toArray, List.map_cons, List.map_nil]); first | done | rfl | (simp only [List.length_drop, List.length_take]; rfl) | (rw [hsame_])) ?_; (with_reducible refine (guichetref1_KeyText.calls kj12 a0_0 x148001_12 t155 _ A32.out).mono ?_); rintro e w38 ⟨rfl, hb⟩; refine ⟨_, rfl, ?_⟩; have n0_ := Aside0.mk (blk_below (g := gb147) (o := .cells #[.int .u16 a0_0, .int .u32 x148001_12] 25 (0, 0)) (by (with_reducible repeat (first | refine blk_drewN ?_ _ | refine blk_drew ?_ | refine blk_alloc ?_ _)); refine blk_far ?_ NB147_154.out _; (with_reducible repeat (first | refine blk_drewN ?_ _ | refine blk_drew ?_ | refine blk_alloc ?_ _)); refine blk_far ?_ NB147_154.out _; (with_reducible repeat (first | refine blk_drewN ?_ _ | refine blk_drew ?_ | refine blk_alloc ?_ _)); exact BK147.out) hb); have n1_ := Aside0.mk (blk_below (g := gb148) (o := .cells #[.int .u16 x149000_12, .int .u32 x149001_12] 25 (0, 0)) (by (with_reducible repeat (first | refine blk_drewN ?_ _ | refine blk_drew ?_ | refine blk_alloc ?_ _)); refine blk_far ?_ NB148_154.out _; (with_reducible repeat (first | refine blk_drewN ?_ _ | refine blk_drew ?_ | refine blk_alloc ?_ _)); refine blk_far ?_ NB148_154.out _; (with_reducible repeat (first | refine blk_drewN ?_ _ | refine blk_drew ?_ | refine blk_alloc ?_ _)); exact BK148.out) hb); have n2_ := Aside0.mk (blk_below (g := gb154) (o := .cells #[.int .u16 t151, .int .u32 t152] 25 (0, 0)) (by (with_reducible repeat (first | refine blk_drewN ?_ _ | refine blk_drew ?_ | refine blk_alloc ?_ _)); refine blk_put (cs := #[.int .u16 t151, .int .u32 0]) ?_ 1 _ rfl; (with_reducible repeat (first | refine blk_drewN ?_ _ | refine blk_drew ?_ | refine blk_alloc ?_ _)); refine blk_put (cs := #[.int .u16 0, .int .u32 0]) ?_ 0 _ rfl; (with_reducible repeat (first | refine blk_drewN ?_ _ | refine blk_drew ?_ | refine blk_alloc ?_ _)); exact BK154.out) hb); have n3_ := Aside0.mk (below_step (by repeat (first | (with_reducible first | exact HB.out | apply below_alloc | apply pw_below_drewN | apply below_drew1 | refine below_set ?_ GE147.out | refine below_set ?_ GE148.out | refine below_set ?_ GE154.out) | exact HB.out)) hb); clear BK147; clear BK148; clear BK154; clear HB; have BK147 := n0_; have BK148 := n1_; have BK154 := n2_; have HB := n3_; clear n0_ n1_ n2_ n3_; (try clear hb); (try clear hb2); (try clear hk); (try clear hi); have hcz39_0 : w38.cell? ⟨gb147, 0, none⟩ = some (.int .u16 a0_0) := (blk_cell BK147.out 0).trans rfl; have hcz39_1 : w38.cell? ⟨gb147, 1, none⟩ = some (.int .u32 x148001_12) := (blk_cell BK147.out 1).trans rfl; have hfz39_0 := blk_frozen BK147.out 0; have hfz39_1 := blk_frozen BK147.out 1))
        go_meet
        case rel => exact ⟨_, (true), (by first | rfl | (simp; done) | (simp [*]; done)), H', ⟨by have := HJ12.out; first | omega | exact Nat.le_refl _⟩, ⟨by (with_reducible repeat (first | refine blk_drewN ?_ _ | refine blk_drew ?_ | refine blk_alloc ?_ _)); exact BK147.out⟩, ⟨by (with_reducible repeat (first | refine blk_drewN ?_ _ | refine blk_drew ?_ | refine blk_alloc ?_ _)); exact BK148.out⟩, ⟨by (with_reducible repeat (first | refine blk_drewN ?_ _ | refine blk_drew ?_ | refine blk_alloc ?_ _)); exact BK154.out⟩, ⟨by repeat (first | (with_reducible first | exact HB.out | apply below_alloc | apply pw_below_drewN | apply below_drew1 | refine below_set ?_ GE147.out | refine below_set ?_ GE148.out | refine below_set ?_ GE154.out) | exact HB.out)⟩⟩
       ·rw [if_neg c34] at H
        have c34b0 : (t153 != (decide (x148001_12 ≤ 999999))) = false := by simpa using c34
        (try (have c34b1 : decide (t153 = (decide (x148001_12 ≤ 999999))) = true := by simpa using c34))
        (try (have c34b2 : (t153 == (decide (x148001_12 ≤ 999999))) = true := by simpa using c34))
        clear c34
        by_cases c40 : t153 = true
        ·subst c40
         have H1 : (guichetlaw10_StanTexts.j1 kj12 a2 a3 a4 t150 (!(t151 == a0_0) || (!(t152 == x148001_12))) a0_0 x148001_12 x149000_12 x149001_12) = some r := by rw [if_pos rfl] at H; exact H
         clear H
         have H := H1
         clear H1
         have H' := Aside0.mk H
         clear H
         have hnb41 := NB147_148.out
         have hnc41 := NB148_147.out
         have hnb42 := NB147_154.out
         have hnc42 := NB154_147.out
         have hcz43_0 : w28.cell? ⟨gb147, 0, none⟩ = some (.int .u16 a0_0) := (blk_cell BK147.out 0).trans rfl
         have hcz43_1 : w28.cell? ⟨gb147, 1, none⟩ = some (.int .u32 x148001_12) := (blk_cell BK147.out 1).trans rfl
         have hfz43_0 := blk_frozen BK147.out 0
         have hfz43_1 := blk_frozen BK147.out 1
         go_wp2_with (first | ((with_reducible refine gate_callee (f := 9) rfl ?_); refine goesL_ (some 53) rfl rfl Tryd.func9 (by kernel_rfl) rfl #[.agg #[.int .u16 a0_0, .int .u32 x148001_12]] rfl (by (try simp only [List.map_toArray, List.map_cons, List.map_nil]); first | done | rfl | (simp only [List.length_drop, List.length_take]; rfl) | (rw [hsame_])) ?_; (with_reducible refine (guichetref1_KeyText.calls kj12 a0_0 x148001_12 t155 _ A32.out).mono ?_); rintro e w44 ⟨rfl, hb⟩; refine ⟨_, rfl, ?_⟩; have n0_ := Aside0.mk (blk_below (g := gb147) (o := .cells #[.int .u16 a0_0, .int .u32 x148001_12] 25 (0, 0)) (by (with_reducible repeat (first | refine blk_drewN ?_ _ | refine blk_drew ?_ | refine blk_alloc ?_ _)); refine blk_far ?_ NB147_154.out _; (with_reducible repeat (first | refine blk_drewN ?_ _ | refine blk_drew ?_ | refine blk_alloc ?_ _)); refine blk_far ?_ NB147_154.out _; (with_reducible repeat (first | refine blk_drewN ?_ _ | refine blk_drew ?_ | refine blk_alloc ?_ _)); exact BK147.out) hb); have n1_ := Aside0.mk (blk_below (g := gb148) (o := .cells #[.int .u16 x149000_12, .int .u32 x149001_12] 25 (0, 0)) (by (with_reducible repeat (first | refine blk_drewN ?_ _ | refine blk_drew ?_ | refine blk_alloc ?_ _)); refine blk_far ?_ NB148_154.out _; (with_reducible repeat (first | refine blk_drewN ?_ _ | refine blk_drew ?_ | refine blk_alloc ?_ _)); refine blk_far ?_ NB148_154.out _; (with_reducible repeat (first | refine blk_drewN ?_ _ | refine blk_drew ?_ | refine blk_alloc ?_ _)); exact BK148.out) hb); have n2_ := Aside0.mk (blk_below (g := gb154) (o := .cells #[.int .u16 t151, .int .u32 t152] 25 (0, 0)) (by (with_reducible repeat (first | refine blk_drewN ?_ _ | refine blk_drew ?_ | refine blk_alloc ?_ _)); refine blk_put (cs := #[.int .u16 t151, .int .u32 0]) ?_ 1 _ rfl; (with_reducible repeat (first | refine blk_drewN ?_ _ | refine blk_drew ?_ | refine blk_alloc ?_ _)); refine blk_put (cs := #[.int .u16 0, .int .u32 0]) ?_ 0 _ rfl; (with_reducible repeat (first | refine blk_drewN ?_ _ | refine blk_drew ?_ | refine blk_alloc ?_ _)); exact BK154.out) hb); have n3_ := Aside0.mk (below_step (by repeat (first | (with_reducible first | exact HB.out | apply below_alloc | apply pw_below_drewN | apply below_drew1 | refine below_set ?_ GE147.out | refine below_set ?_ GE148.out | refine below_set ?_ GE154.out) | exact HB.out)) hb); clear BK147; clear BK148; clear BK154; clear HB; have BK147 := n0_; have BK148 := n1_; have BK154 := n2_; have HB := n3_; clear n0_ n1_ n2_ n3_; (try clear hb); (try clear hb2); (try clear hk); (try clear hi); have hcz45_0 : w44.cell? ⟨gb147, 0, none⟩ = some (.int .u16 a0_0) := (blk_cell BK147.out 0).trans rfl; have hcz45_1 : w44.cell? ⟨gb147, 1, none⟩ = some (.int .u32 x148001_12) := (blk_cell BK147.out 1).trans rfl; have hfz45_0 := blk_frozen BK147.out 0; have hfz45_1 := blk_frozen BK147.out 1; have hnb46 := NB154_148.out; have hnc46 := NB148_154.out; have hcz47_0 : w44.cell? ⟨gb154, 0, none⟩ = some (.int .u16 t151) := (blk_cell BK154.out 0).trans rfl; have hcz47_1 : w44.cell? ⟨gb154, 1, none⟩ = some (.int .u32 t152) := (blk_cell BK154.out 1).trans rfl; have hfz47_0 := blk_frozen BK154.out 0; have hfz47_1 := blk_frozen BK154.out 1))
         go_meet
         case rel => exact ⟨_, ((!(t151 == a0_0) || (!(t152 == x148001_12)))), (by first | rfl | (simp; done) | (simp [*]; done)), H', ⟨by have := HJ12.out; first | omega | exact Nat.le_refl _⟩, ⟨by (with_reducible repeat (first | refine blk_drewN ?_ _ | refine blk_drew ?_ | refine blk_alloc ?_ _)); exact BK147.out⟩, ⟨by (with_reducible repeat (first | refine blk_drewN ?_ _ | refine blk_drew ?_ | refine blk_alloc ?_ _)); exact BK148.out⟩, ⟨by (with_reducible repeat (first | refine blk_drewN ?_ _ | refine blk_drew ?_ | refine blk_alloc ?_ _)); exact BK154.out⟩, ⟨by repeat (first | (with_reducible first | exact HB.out | apply below_alloc | apply pw_below_drewN | apply below_drew1 | refine below_set ?_ GE147.out | refine below_set ?_ GE148.out | refine below_set ?_ GE154.out) | exact HB.out)⟩⟩
        ·replace c40 := Bool.eq_false_iff.mpr c40
         subst c40
         have H1 : (guichetlaw10_StanTexts.j1 kj12 a2 a3 a4 t150 false a0_0 x148001_12 x149000_12 x149001_12) = some r := by rw [if_neg (show ¬ (false = true) by decide)] at H; exact H
         clear H
         have H := H1
         clear H1
         have H' := Aside0.mk H
         clear H
         have hnb48 := NB147_148.out
         have hnc48 := NB148_147.out
         have hnb49 := NB147_154.out
         have hnc49 := NB154_147.out
         have hcz50_0 : w28.cell? ⟨gb147, 0, none⟩ = some (.int .u16 a0_0) := (blk_cell BK147.out 0).trans rfl
         have hcz50_1 : w28.cell? ⟨gb147, 1, none⟩ = some (.int .u32 x148001_12) := (blk_cell BK147.out 1).trans rfl
         have hfz50_0 := blk_frozen BK147.out 0
         have hfz50_1 := blk_frozen BK147.out 1
         go_wp2_with (first | ((with_reducible refine gate_callee (f := 9) rfl ?_); refine goesL_ (some 53) rfl rfl Tryd.func9 (by kernel_rfl) rfl #[.agg #[.int .u16 a0_0, .int .u32 x148001_12]] rfl (by (try simp only [List.map_toArray, List.map_cons, List.map_nil]); first | done | rfl | (simp only [List.length_drop, List.length_take]; rfl) | (rw [hsame_])) ?_; (with_reducible refine (guichetref1_KeyText.calls kj12 a0_0 x148001_12 t155 _ A32.out).mono ?_); rintro e w51 ⟨rfl, hb⟩; refine ⟨_, rfl, ?_⟩; have n0_ := Aside0.mk (blk_below (g := gb147) (o := .cells #[.int .u16 a0_0, .int .u32 x148001_12] 25 (0, 0)) (by (with_reducible repeat (first | refine blk_drewN ?_ _ | refine blk_drew ?_ | refine blk_alloc ?_ _)); refine blk_far ?_ NB147_154.out _; (with_reducible repeat (first | refine blk_drewN ?_ _ | refine blk_drew ?_ | refine blk_alloc ?_ _)); refine blk_far ?_ NB147_154.out _; (with_reducible repeat (first | refine blk_drewN ?_ _ | refine blk_drew ?_ | refine blk_alloc ?_ _)); exact BK147.out) hb); have n1_ := Aside0.mk (blk_below (g := gb148) (o := .cells #[.int .u16 x149000_12, .int .u32 x149001_12] 25 (0, 0)) (by (with_reducible repeat (first | refine blk_drewN ?_ _ | refine blk_drew ?_ | refine blk_alloc ?_ _)); refine blk_far ?_ NB148_154.out _; (with_reducible repeat (first | refine blk_drewN ?_ _ | refine blk_drew ?_ | refine blk_alloc ?_ _)); refine blk_far ?_ NB148_154.out _; (with_reducible repeat (first | refine blk_drewN ?_ _ | refine blk_drew ?_ | refine blk_alloc ?_ _)); exact BK148.out) hb); have n2_ := Aside0.mk (blk_below (g := gb154) (o := .cells #[.int .u16 t151, .int .u32 t152] 25 (0, 0)) (by (with_reducible repeat (first | refine blk_drewN ?_ _ | refine blk_drew ?_ | refine blk_alloc ?_ _)); refine blk_put (cs := #[.int .u16 t151, .int .u32 0]) ?_ 1 _ rfl; (with_reducible repeat (first | refine blk_drewN ?_ _ | refine blk_drew ?_ | refine blk_alloc ?_ _)); refine blk_put (cs := #[.int .u16 0, .int .u32 0]) ?_ 0 _ rfl; (with_reducible repeat (first | refine blk_drewN ?_ _ | refine blk_drew ?_ | refine blk_alloc ?_ _)); exact BK154.out) hb); have n3_ := Aside0.mk (below_step (by repeat (first | (with_reducible first | exact HB.out | apply below_alloc | apply pw_below_drewN | apply below_drew1 | refine below_set ?_ GE147.out | refine below_set ?_ GE148.out | refine below_set ?_ GE154.out) | exact HB.out)) hb); clear BK147; clear BK148; clear BK154; clear HB; have BK147 := n0_; have BK148 := n1_; have BK154 := n2_; have HB := n3_; clear n0_ n1_ n2_ n3_; (try clear hb); (try clear hb2); (try clear hk); (try clear hi); have hcz52_0 : w51.cell? ⟨gb147, 0, none⟩ = some (.int .u16 a0_0) := (blk_cell BK147.out 0).trans rfl; have hcz52_1 : w51.cell? ⟨gb147, 1, none⟩ = some (.int .u32 x148001_12) := (blk_cell BK147.out 1).trans rfl; have hfz52_0 := blk_frozen BK147.out 0; have hfz52_1 := blk_frozen BK147.out 1))
         go_meet
         case rel => exact ⟨_, (false), (by first | rfl | (simp; done) | (simp [*]; done)), H', ⟨by have := HJ12.out; first | omega | exact Nat.le_refl _⟩, ⟨by (with_reducible repeat (first | refine blk_drewN ?_ _ | refine blk_drew ?_ | refine blk_alloc ?_ _)); exact BK147.out⟩, ⟨by (with_reducible repeat (first | refine blk_drewN ?_ _ | refine blk_drew ?_ | refine blk_alloc ?_ _)); exact BK148.out⟩, ⟨by (with_reducible repeat (first | refine blk_drewN ?_ _ | refine blk_drew ?_ | refine blk_alloc ?_ _)); exact BK154.out⟩, ⟨by repeat (first | (with_reducible first | exact HB.out | apply below_alloc | apply pw_below_drewN | apply below_drew1 | refine below_set ?_ GE147.out | refine below_set ?_ GE148.out | refine below_set ?_ GE154.out) | exact HB.out)⟩⟩
      ·rw [if_neg c33] at H
       have c33b0 : (t150.toList == t155.toList) = false := beq_eq_false_iff_ne.mpr c33
       have c33b1 : (t150.toList != t155.toList) = true := bne_iff_ne.mpr c33
       (first | rw [c33b0] | (simp only [i64_w, i32_w]; rw [c33b0]) | skip)
       have H' := Aside0.mk H
       clear H
       have hnb53 := NB147_148.out
       have hnc53 := NB148_147.out
       have hnb54 := NB147_154.out
       have hnc54 := NB154_147.out
       have hcz55_0 : w28.cell? ⟨gb147, 0, none⟩ = some (.int .u16 a0_0) := (blk_cell BK147.out 0).trans rfl
       have hcz55_1 : w28.cell? ⟨gb147, 1, none⟩ = some (.int .u32 x148001_12) := (blk_cell BK147.out 1).trans rfl
       have hfz55_0 := blk_frozen BK147.out 0
       have hfz55_1 := blk_frozen BK147.out 1
       go_wp2_with (first | ((with_reducible refine gate_callee (f := 9) rfl ?_); refine goesL_ (some 53) rfl rfl Tryd.func9 (by kernel_rfl) rfl #[.agg #[.int .u16 a0_0, .int .u32 x148001_12]] rfl (by (try simp only [List.map_toArray, List.map_cons, List.map_nil]); first | done | rfl | (simp only [List.length_drop, List.length_take]; rfl) | (rw [hsame_])) ?_; (with_reducible refine (guichetref1_KeyText.calls kj12 a0_0 x148001_12 t155 _ A32.out).mono ?_); rintro e w56 ⟨rfl, hb⟩; refine ⟨_, rfl, ?_⟩; have n0_ := Aside0.mk (blk_below (g := gb147) (o := .cells #[.int .u16 a0_0, .int .u32 x148001_12] 25 (0, 0)) (by (with_reducible repeat (first | refine blk_drewN ?_ _ | refine blk_drew ?_ | refine blk_alloc ?_ _)); refine blk_far ?_ NB147_154.out _; (with_reducible repeat (first | refine blk_drewN ?_ _ | refine blk_drew ?_ | refine blk_alloc ?_ _)); refine blk_far ?_ NB147_154.out _; (with_reducible repeat (first | refine blk_drewN ?_ _ | refine blk_drew ?_ | refine blk_alloc ?_ _)); exact BK147.out) hb); have n1_ := Aside0.mk (blk_below (g := gb148) (o := .cells #[.int .u16 x149000_12, .int .u32 x149001_12] 25 (0, 0)) (by (with_reducible repeat (first | refine blk_drewN ?_ _ | refine blk_drew ?_ | refine blk_alloc ?_ _)); refine blk_far ?_ NB148_154.out _; (with_reducible repeat (first | refine blk_drewN ?_ _ | refine blk_drew ?_ | refine blk_alloc ?_ _)); refine blk_far ?_ NB148_154.out _; (with_reducible repeat (first | refine blk_drewN ?_ _ | refine blk_drew ?_ | refine blk_alloc ?_ _)); exact BK148.out) hb); have n2_ := Aside0.mk (blk_below (g := gb154) (o := .cells #[.int .u16 t151, .int .u32 t152] 25 (0, 0)) (by (with_reducible repeat (first | refine blk_drewN ?_ _ | refine blk_drew ?_ | refine blk_alloc ?_ _)); refine blk_put (cs := #[.int .u16 t151, .int .u32 0]) ?_ 1 _ rfl; (with_reducible repeat (first | refine blk_drewN ?_ _ | refine blk_drew ?_ | refine blk_alloc ?_ _)); refine blk_put (cs := #[.int .u16 0, .int .u32 0]) ?_ 0 _ rfl; (with_reducible repeat (first | refine blk_drewN ?_ _ | refine blk_drew ?_ | refine blk_alloc ?_ _)); exact BK154.out) hb); have n3_ := Aside0.mk (below_step (by repeat (first | (with_reducible first | exact HB.out | apply below_alloc | apply pw_below_drewN | apply below_drew1 | refine below_set ?_ GE147.out | refine below_set ?_ GE148.out | refine below_set ?_ GE154.out) | exact HB.out)) hb); clear BK147; clear BK148; clear BK154; clear HB; have BK147 := n0_; have BK148 := n1_; have BK154 := n2_; have HB := n3_; clear n0_ n1_ n2_ n3_; (try clear hb); (try clear hb2); (try clear hk); (try clear hi)))
       go_meet
       case rel => exact ⟨_, (true), (by first | rfl | (simp; done) | (simp [*]; done)), H', ⟨by have := HJ12.out; first | omega | exact Nat.le_refl _⟩, ⟨by (with_reducible repeat (first | refine blk_drewN ?_ _ | refine blk_drew ?_ | refine blk_alloc ?_ _)); exact BK147.out⟩, ⟨by (with_reducible repeat (first | refine blk_drewN ?_ _ | refine blk_drew ?_ | refine blk_alloc ?_ _)); exact BK148.out⟩, ⟨by (with_reducible repeat (first | refine blk_drewN ?_ _ | refine blk_drew ?_ | refine blk_alloc ?_ _)); exact BK154.out⟩, ⟨by repeat (first | (with_reducible first | exact HB.out | apply below_alloc | apply pw_below_drewN | apply below_drew1 | refine below_set ?_ GE147.out | refine below_set ?_ GE148.out | refine below_set ?_ GE154.out) | exact HB.out)⟩⟩
     case rest =>
      clear HC23
      try clear c1
      try clear c2
      try clear p2
      try clear c3
      try clear c4
      try clear c5
      try clear c6
      try clear c7
      try clear c8
      try clear c9
      try clear c9b0
      try clear c9b1
      try clear c17
      try clear c18
      try clear c24
      try clear c29
      try clear c30
      try clear c33
      try clear c33b0
      try clear c33b1
      try clear c34
      try clear c34b0
      try clear c34b1
      try clear c34b2
      try clear c35
      try clear c36
      try clear c40
      try clear c41
      try clear c42
      try clear c46
      try clear c48
      try clear c49
      try clear c53
      try clear c54
      try clear hcz19_0
      try clear hcz19_1
      try clear hcz20_0
      try clear hcz20_1
      try clear hcz25_0
      try clear hcz25_1
      try clear hcz31_0
      try clear hcz31_1
      try clear hcz37_0
      try clear hcz37_1
      try clear hcz39_0
      try clear hcz39_1
      try clear hcz43_0
      try clear hcz43_1
      try clear hcz45_0
      try clear hcz45_1
      try clear hcz47_0
      try clear hcz47_1
      try clear hcz50_0
      try clear hcz50_1
      try clear hcz52_0
      try clear hcz52_1
      try clear hcz55_0
      try clear hcz55_1
      try clear hfz19_0
      try clear hfz19_1
      try clear hfz20_0
      try clear hfz20_1
      try clear hfz25_0
      try clear hfz25_1
      try clear hfz31_0
      try clear hfz31_1
      try clear hfz37_0
      try clear hfz37_1
      try clear hfz39_0
      try clear hfz39_1
      try clear hfz43_0
      try clear hfz43_1
      try clear hfz45_0
      try clear hfz45_1
      try clear hfz47_0
      try clear hfz47_1
      try clear hfz50_0
      try clear hfz50_1
      try clear hfz52_0
      try clear hfz52_1
      try clear hfz55_0
      try clear hfz55_1
      try clear p2
      obtain ⟨kq, x69_22, rfl, HA, HJ22, BK147, BK148, BK154, HB⟩ := hcut
      cases kq with
      | zero => exact absurd HA.out (by simp [guichetlaw10_StanTexts.j1])
      | succ kj22 =>
       have H := HA.out
       clear HA
       simp only [guichetlaw10_StanTexts.j1] at H
       by_cases c57 : x69_22 = true
       ·subst c57
        have H1 : (none) = some r := by rw [if_pos rfl] at H; exact H
        clear H
        have H := H1
        clear H1
        exact absurd H (by simp)
       ·replace c57 := Bool.eq_false_iff.mpr c57
        subst c57
        have H1 : ((convLit.f [45, 48, 48, 48, 49, 50, 45, 48, 48, 48, 51, 52, 53]).bind fun t156 => (if 0 ≤ (Int.tmod (wrap64 (a3)) 13) then (if (Int.tmod (wrap64 (a3)) 13) < (t156.length : Int) then (if t150.size + 1 ≤ 9223372036854775807 then ((some (([a2, strOfNums (t156.set ((Int.tmod (wrap64 (a3)) 13) : Int).toNat a4), t150 ++ (⟨#[48]⟩ : ByteArray), (⟨#[45, 57, 57, 57, 57, 57, 45, 48, 48, 48, 48, 48, 49]⟩ : ByteArray), (⟨#[45, 54, 53, 53, 51, 54, 45, 48, 48, 48, 48, 48, 49]⟩ : ByteArray)] : List ByteArray) : List ByteArray)).bind fun y160 => (guichetlaw10_StanTexts.l0 kj22 a3 y160 (y160.length : Int) 0 a0_0 x148001_12 x149000_12 x149001_12)) else (none)) else (none)) else (none))) = some r := by rw [if_neg (show ¬ (false = true) by decide)] at H; exact H
        clear H
        have H := H1
        clear H1
        replace H := Option.bind_eq_some_iff.mp H
        obtain ⟨t156, A580, H⟩ := H
        replace H : (if 0 ≤ (Int.tmod (wrap64 (a3)) 13) then (if (Int.tmod (wrap64 (a3)) 13) < (t156.length : Int) then (if t150.size + 1 ≤ 9223372036854775807 then ((some (([a2, strOfNums (t156.set ((Int.tmod (wrap64 (a3)) 13) : Int).toNat a4), t150 ++ (⟨#[48]⟩ : ByteArray), (⟨#[45, 57, 57, 57, 57, 57, 45, 48, 48, 48, 48, 48, 49]⟩ : ByteArray), (⟨#[45, 54, 53, 53, 51, 54, 45, 48, 48, 48, 48, 48, 49]⟩ : ByteArray)] : List ByteArray) : List ByteArray)).bind fun y160 => (guichetlaw10_StanTexts.l0 kj22 a3 y160 (y160.length : Int) 0 a0_0 x148001_12 x149000_12 x149001_12)) else (none)) else (none)) else (none)) = some r := H
        have A58 := Aside0.mk A580
        clear A580
        obtain ⟨ji59, hji59⟩ : ∃ j_ : Int, (Int.tmod (wrap64 (a3)) 13) = j_ := ⟨_, rfl⟩
        replace H : (if 0 ≤ (ji59) then (if (ji59) < (t156.length : Int) then (if t150.size + 1 ≤ 9223372036854775807 then ((some (([a2, strOfNums (t156.set ((ji59) : Int).toNat a4), t150 ++ (⟨#[48]⟩ : ByteArray), (⟨#[45, 57, 57, 57, 57, 57, 45, 48, 48, 48, 48, 48, 49]⟩ : ByteArray), (⟨#[45, 54, 53, 53, 51, 54, 45, 48, 48, 48, 48, 48, 49]⟩ : ByteArray)] : List ByteArray) : List ByteArray)).bind fun y160 => (guichetlaw10_StanTexts.l0 kj22 a3 y160 (y160.length : Int) 0 a0_0 x148001_12 x149000_12 x149001_12)) else (none)) else (none)) else (none)) = some r := by first | (rw [hji59] at H; exact H) | (simp only [hji59] at H ⊢; exact H)
        (try rw [hji59] at A58)
        by_cases c60 : 0 ≤ (ji59)
        ·rw [if_pos c60] at H
         have c60b0 : decide (0 ≤ (ji59)) = true := decide_eq_true c60
         clear c60
         by_cases c61 : (ji59) < (t156.length : Int)
         ·rw [if_pos c61] at H
          have c61b0 : decide ((ji59) < (t156.length : Int)) = true := decide_eq_true c61
          clear c61
          obtain ⟨y159, hy159⟩ : ∃ y_ : List Int, y_ = (t156.set ((ji59) : Int).toNat a4) := ⟨_, rfl⟩
          replace H : (if t150.size + 1 ≤ 9223372036854775807 then ((some (([a2, strOfNums y159, t150 ++ (⟨#[48]⟩ : ByteArray), (⟨#[45, 57, 57, 57, 57, 57, 45, 48, 48, 48, 48, 48, 49]⟩ : ByteArray), (⟨#[45, 54, 53, 53, 51, 54, 45, 48, 48, 48, 48, 48, 49]⟩ : ByteArray)] : List ByteArray) : List ByteArray)).bind fun y160 => (guichetlaw10_StanTexts.l0 kj22 a3 y160 (y160.length : Int) 0 a0_0 x148001_12 x149000_12 x149001_12)) else (none)) = some r := by first | (rw [hy159]; with_reducible exact H) | (have H2_ := (Option.bind_some _ _).symm.trans H; rw [hy159]; with_reducible exact H2_) | (have H2_ := (Option.bind_some _ _).symm.trans H; with_reducible exact H2_) | with_reducible exact H | (rw [hy159]; exact H) | exact H
          have Ny159 := Aside0.mk hy159
          clear hy159
          by_cases c63 : t150.size + 1 ≤ 9223372036854775807
          ·rw [if_pos c63] at H
           have c63b0 := eq_true c63
           have c63b1 : decide (t150.size + 1 ≤ 9223372036854775807) = true := decide_eq_true c63
           try have c63b2 : (9223372036854775807 < t150.size + 1) = False := eq_false (Nat.not_lt.2 c63)
           obtain ⟨y160, hy160⟩ : ∃ y_ : List ByteArray, y_ = (([a2, strOfNums y159, t150 ++ (⟨#[48]⟩ : ByteArray), (⟨#[45, 57, 57, 57, 57, 57, 45, 48, 48, 48, 48, 48, 49]⟩ : ByteArray), (⟨#[45, 54, 53, 53, 51, 54, 45, 48, 48, 48, 48, 48, 49]⟩ : ByteArray)] : List ByteArray)) := ⟨_, rfl⟩
           replace H : (guichetlaw10_StanTexts.l0 kj22 a3 y160 (y160.length : Int) 0 a0_0 x148001_12 x149000_12 x149001_12) = some r := by first | (rw [hy160]; with_reducible exact H) | (have H2_ := (Option.bind_some _ _).symm.trans H; rw [hy160]; with_reducible exact H2_) | (have H2_ := (Option.bind_some _ _).symm.trans H; with_reducible exact H2_) | with_reducible exact H | (rw [hy160]; exact H) | exact H
           have Ny160 := Aside0.mk hy160
           clear hy160
           have H' := Aside0.mk H
           clear H
           go_wp2_with (first | ((with_reducible refine gate_conv (s := 30) (t := 30) rfl ?_); refine convLitB_law rfl 30 5 _ rfl Tryd.underlying30 Tryd.underlying5 _ _ rfl (by first | rfl | simp) ⟨rfl, rfl⟩ rfl (by decide) A58.out ?_; intro v157 w64 ho0 hb; have n0_ := Aside0.mk (Kd.B_lower (Kd.B_mono (ok' := fun k_ => True) ho0 (fun _ hk_ => trivial)) (below_size (by repeat (first | (with_reducible first | exact HB.out | apply below_alloc | apply pw_below_drewN | apply below_drew1 | refine below_set ?_ GE147.out | refine below_set ?_ GE148.out | refine below_set ?_ GE154.out) | exact HB.out)))); have n1_ := Aside0.mk (blk_below (g := gb147) (o := .cells #[.int .u16 a0_0, .int .u32 x148001_12] 25 (0, 0)) (by (with_reducible repeat (first | refine blk_drewN ?_ _ | refine blk_drew ?_ | refine blk_alloc ?_ _)); exact BK147.out) hb); have n2_ := Aside0.mk (blk_below (g := gb148) (o := .cells #[.int .u16 x149000_12, .int .u32 x149001_12] 25 (0, 0)) (by (with_reducible repeat (first | refine blk_drewN ?_ _ | refine blk_drew ?_ | refine blk_alloc ?_ _)); exact BK148.out) hb); have n3_ := Aside0.mk (blk_below (g := gb154) (o := .cells #[.int .u16 t151, .int .u32 t152] 25 (0, 0)) (by (with_reducible repeat (first | refine blk_drewN ?_ _ | refine blk_drew ?_ | refine blk_alloc ?_ _)); exact BK154.out) hb); have n4_ := Aside0.mk (below_step (by repeat (first | (with_reducible first | exact HB.out | apply below_alloc | apply pw_below_drewN | apply below_drew1 | refine below_set ?_ GE147.out | refine below_set ?_ GE148.out | refine below_set ?_ GE154.out) | exact HB.out)) hb); clear BK147; clear BK148; clear BK154; clear HB; have HO158 := n0_; have BK147 := n1_; have BK148 := n2_; have BK154 := n3_; have HB := n4_; clear n0_ n1_ n2_ n3_ n4_; (try clear hb); (try clear hb2); (try clear hk); (try clear hi); (try clear ho0); have p62 : 0 ≤ ((ji59) : Int) := of_decide_eq_true (by first | (with_reducible assumption) | assumption); have q62 : ((ji59) : Int) < ((t156.length : Int) : Int) := of_decide_eq_true (by first | (with_reducible assumption) | assumption); obtain ⟨go62, co62, eo62, gb62, gl62, cl62, HG62⟩ := Kd.B_form HO158.out (by omega); (first | cases eo62 | (injection eo62 with ea_ en_ ec_; (first | subst ea_ | (injection ea_ with ea_; subst ea_)); subst ec_; clear en_)); have GB62 := Aside0.mk gb62; have GG62 := Aside0.mk HG62; clear gb62 gl62 HG62; obtain ⟨hx62_0, hf62_0⟩ := Kd.B_celln 0 HO158.out ((ji59) : Int) p62 q62; replace p62 := eq_true p62; replace q62 := eq_true q62; obtain ⟨hy65_, hz65_⟩ := Kd.B_celln 0 HO158.out ((ji59) : Int) (of_decide_eq_true (by first | (with_reducible assumption) | assumption)) (of_decide_eq_true (by first | (with_reducible assumption) | assumption)); have HP65 := Kd.B_putg HO158.out ((ji59) : Int) a4) | ((with_reducible refine gate_store (t := 5) (p := 77) rfl ?_); refine store_event (t := 5) (p := 77) (v := ?vo_w66) (w1 := (w64.setCell ⟨go62, ((ji59) : Int).toNat, none⟩ (.int .u8 a4))) ?hg ?ho ?hn ?hr ?_; (case ho => rfl); (case hg => rfl); (case hn => rfl); (case hr => first | (go_simp; done) | (go_simp; rfl)); intro w66 hw; have hg : w64.grownBy w66 (some go62) := (by rw [hw]; exact HP65.2); have hp_ : Kd.B (Kd.int .u8) 5 w66 w.heap.size (fun _ => True) (.slice (some ⟨go62, 0, none⟩) t156.length co62) y159 := (by rw [hw, Ny159.out]; exact HP65.1); clear HP65; have n0_ := Aside0.mk (blk_grown (g := gb147) (o := .cells #[.int .u16 a0_0, .int .u32 x148001_12] 25 (0, 0)) (by (with_reducible repeat (first | refine blk_drewN ?_ _ | refine blk_drew ?_ | refine blk_alloc ?_ _)); exact BK147.out) hg (Kd.B_ne HO158.out BK147.out (by decide))); have n1_ := Aside0.mk (blk_grown (g := gb148) (o := .cells #[.int .u16 x149000_12, .int .u32 x149001_12] 25 (0, 0)) (by (with_reducible repeat (first | refine blk_drewN ?_ _ | refine blk_drew ?_ | refine blk_alloc ?_ _)); exact BK148.out) hg (Kd.B_ne HO158.out BK148.out (by decide))); have n2_ := Aside0.mk (blk_grown (g := gb154) (o := .cells #[.int .u16 t151, .int .u32 t152] 25 (0, 0)) (by (with_reducible repeat (first | refine blk_drewN ?_ _ | refine blk_drew ?_ | refine blk_alloc ?_ _)); exact BK154.out) hg (Kd.B_ne HO158.out BK154.out (by decide))); have n3_ := Aside0.mk (hp_); have n4_ := Aside0.mk ((by rw [hw]; exact below_set (HB.out) GB62.out : Below w.heap.size w w66)); clear BK147; clear BK148; clear BK154; clear HO158; clear HB; have BK147 := n0_; have BK148 := n1_; have BK154 := n2_; have HO158 := n3_; have HB := n4_; clear n0_ n1_ n2_ n3_ n4_; clear hg hw hp_; have hcv67 := Kd.B_string (P := Tryd.prog) Tryd.underlying30 Tryd.underlying5 Tryd.underlying9 HO158.out) | ((with_reducible refine gate_dst (N := 83) rfl ?_); refine Kd.R_lit Kd.string _ 9 ?hg (N := 83) ?hd (xs := ([a2, strOfNums y159, t150 ++ (⟨#[48]⟩ : ByteArray), (⟨#[45, 57, 57, 57, 57, 57, 45, 48, 48, 48, 48, 48, 49]⟩ : ByteArray), (⟨#[45, 54, 53, 53, 51, 54, 45, 48, 48, 48, 48, 48, 49]⟩ : ByteArray)] : List ByteArray)) (inner := [.string a2, .string (strOfNums y159), .string (t150 ++ (⟨#[48]⟩ : ByteArray)), .string (⟨#[45, 57, 57, 57, 57, 57, 45, 48, 48, 48, 48, 48, 49]⟩ : ByteArray), .string (⟨#[45, 54, 53, 53, 51, 54, 45, 48, 48, 48, 48, 48, 49]⟩ : ByteArray)]) (ok := fun _ => True) (okp := fun _ => True) ?hr ?hp (fun _ hk => hk) trivial (Below.refl _ _) (Nat.le_refl _) (by simp) ?_; (case hd => rfl); (case hg => rfl); (case hr => first | (go_simp; done) | (go_simp; rfl)); (case hp => exact (Reps.one (show Kd.M Kd.string _ _ _ a2 [.string a2] from rfl) (Reps.one (show Kd.M Kd.string _ _ _ (strOfNums y159) [.string (strOfNums y159)] from rfl) (Reps.one (show Kd.M Kd.string _ _ _ (t150 ++ (⟨#[48]⟩ : ByteArray)) [.string (t150 ++ (⟨#[48]⟩ : ByteArray))] from rfl) (Reps.one (show Kd.M Kd.string _ _ _ (⟨#[45, 57, 57, 57, 57, 57, 45, 48, 48, 48, 48, 48, 49]⟩ : ByteArray) [.string (⟨#[45, 57, 57, 57, 57, 57, 45, 48, 48, 48, 48, 48, 49]⟩ : ByteArray)] from rfl) (Reps.one (show Kd.M Kd.string _ _ _ (⟨#[45, 54, 53, 53, 51, 54, 45, 48, 48, 48, 48, 48, 49]⟩ : ByteArray) [.string (⟨#[45, 54, 53, 53, 51, 54, 45, 48, 48, 48, 48, 48, 49]⟩ : ByteArray)] from rfl) (Reps.none _ _))))))); intro v161 w68 ho69 hb hg_ hnew_; clear hg_ hnew_; (first | rw [← Ny160.out] at ho69 | (simp only [Int.reduceToNat] at ho69; rw [← Ny160.out] at ho69)); have n0_ := Aside0.mk (Kd.B_below (by (with_reducible repeat (first | apply Kd.B_alloc | apply Kd.B_drewN | apply Kd.B_drew)); exact HO158.out) hb); have n1_ := Aside0.mk (Kd.R_lower ho69 (below_size (by repeat (first | (with_reducible first | exact HB.out | apply below_alloc | apply pw_below_drewN | apply below_drew1 | refine below_set ?_ GE147.out | refine below_set ?_ GE148.out | refine below_set ?_ GE154.out) | exact HB.out)))); have n2_ := Aside0.mk (blk_below (g := gb147) (o := .cells #[.int .u16 a0_0, .int .u32 x148001_12] 25 (0, 0)) (by (with_reducible repeat (first | refine blk_drewN ?_ _ | refine blk_drew ?_ | refine blk_alloc ?_ _)); exact BK147.out) hb); have n3_ := Aside0.mk (blk_below (g := gb148) (o := .cells #[.int .u16 x149000_12, .int .u32 x149001_12] 25 (0, 0)) (by (with_reducible repeat (first | refine blk_drewN ?_ _ | refine blk_drew ?_ | refine blk_alloc ?_ _)); exact BK148.out) hb); have n4_ := Aside0.mk (blk_below (g := gb154) (o := .cells #[.int .u16 t151, .int .u32 t152] 25 (0, 0)) (by (with_reducible repeat (first | refine blk_drewN ?_ _ | refine blk_drew ?_ | refine blk_alloc ?_ _)); exact BK154.out) hb); have n5_ := Aside0.mk (below_step (by repeat (first | (with_reducible first | exact HB.out | apply below_alloc | apply pw_below_drewN | apply below_drew1 | refine below_set ?_ GE147.out | refine below_set ?_ GE148.out | refine below_set ?_ GE154.out) | exact HB.out)) hb); clear HO158; clear BK147; clear BK148; clear BK154; clear HB; have HO158 := n0_; have HO162 := n1_; have BK147 := n2_; have BK148 := n3_; have BK154 := n4_; have HB := n5_; clear n0_ n1_ n2_ n3_ n4_ n5_; clear hb ho69; obtain ⟨Ao70, co70, eo70⟩ := Kd.R_slice HO162.out; subst eo70))
           go_loopg [85] kj22 (fun kq v85 w' => ∃ (x85_3 : Int), v85 = .int .i64 x85_3 ∧ Aside0 (guichetlaw10_StanTexts.l0 kq a3 y160 (y160.length : Int) x85_3 a0_0 x148001_12 x149000_12 x149001_12 = some r) ∧ Aside0 (kq ≤ kj22) ∧ Aside0 (Kd.R Kd.string 9 w' w.heap.size (fun _ => True) (.slice Ao70 y160.length co70) y160) ∧ Aside0 (w'.heap[gb147]? = some (.cells #[.int .u16 a0_0, .int .u32 x148001_12] 25 (0, 0))) ∧ Aside0 (w'.heap[gb148]? = some (.cells #[.int .u16 x149000_12, .int .u32 x149001_12] 25 (0, 0))) ∧ Aside0 (w'.heap[gb154]? = some (.cells #[.int .u16 t151, .int .u32 t152] 25 (0, 0))) ∧ Aside0 (Below w.heap.size w w'))
           case atStart => exact ⟨(0), (by first | rfl | (simp; done) | (simp [*]; done)), H', ⟨Nat.le_refl _⟩, ⟨by (with_reducible repeat (first | apply Kd.R_alloc | apply Kd.R_drewN | apply Kd.R_drew)); first | exact HO162.out | exact Kd.R_mono HO162.out (fun _ hk_ => by omega)⟩, ⟨by (with_reducible repeat (first | refine blk_drewN ?_ _ | refine blk_drew ?_ | refine blk_alloc ?_ _)); exact BK147.out⟩, ⟨by (with_reducible repeat (first | refine blk_drewN ?_ _ | refine blk_drew ?_ | refine blk_alloc ?_ _)); exact BK148.out⟩, ⟨by (with_reducible repeat (first | refine blk_drewN ?_ _ | refine blk_drew ?_ | refine blk_alloc ?_ _)); exact BK154.out⟩, ⟨by repeat (first | (with_reducible first | exact HB.out | apply below_alloc | apply pw_below_drewN | apply below_drew1 | refine below_set ?_ GE147.out | refine below_set ?_ GE148.out | refine below_set ?_ GE154.out) | exact HB.out)⟩⟩
           case round =>
            clear H'
            try clear c1
            try clear c2
            try clear p2
            try clear c3
            try clear c4
            try clear c5
            try clear c6
            try clear p6
            try clear q6
            try clear hx6
            try clear hcv6
            try clear hf6
            try clear c7
            try clear c8
            try clear c9
            try clear c9b0
            try clear c9b1
            try clear c17
            try clear c18
            try clear c24
            try clear c29
            try clear c30
            try clear c33
            try clear c33b0
            try clear c33b1
            try clear c34
            try clear c34b0
            try clear c34b1
            try clear c34b2
            try clear c35
            try clear c36
            try clear c40
            try clear c41
            try clear c42
            try clear c46
            try clear c48
            try clear c49
            try clear c53
            try clear c54
            try clear c57
            try clear c60
            try clear c60b0
            try clear c61
            try clear c61b0
            try clear p62
            try clear q62
            try clear hx62
            try clear hf62
            try clear c63
            try clear c63b0
            try clear c63b1
            try clear c63b2
            try clear p64
            try clear hcv67
            try clear hcz19_0
            try clear hcz19_1
            try clear hcz20_0
            try clear hcz20_1
            try clear hcz25_0
            try clear hcz25_1
            try clear hcz31_0
            try clear hcz31_1
            try clear hcz37_0
            try clear hcz37_1
            try clear hcz39_0
            try clear hcz39_1
            try clear hcz43_0
            try clear hcz43_1
            try clear hcz45_0
            try clear hcz45_1
            try clear hcz47_0
            try clear hcz47_1
            try clear hcz50_0
            try clear hcz50_1
            try clear hcz52_0
            try clear hcz52_1
            try clear hcz55_0
            try clear hcz55_1
            try clear hfz19_0
            try clear hfz19_1
            try clear hfz20_0
            try clear hfz20_1
            try clear hfz25_0
            try clear hfz25_1
            try clear hfz31_0
            try clear hfz31_1
            try clear hfz37_0
            try clear hfz37_1
            try clear hfz39_0
            try clear hfz39_1
            try clear hfz43_0
            try clear hfz43_1
            try clear hfz45_0
            try clear hfz45_1
            try clear hfz47_0
            try clear hfz47_1
            try clear hfz50_0
            try clear hfz50_1
            try clear hfz52_0
            try clear hfz52_1
            try clear hfz55_0
            try clear hfz55_1
            try clear hx62_0
            try clear p2
            try clear p62
            try clear q62
            obtain ⟨x85_3, rfl, HA, HK3, HO_83, BK147, BK148, BK154, HB⟩ := hrel
            cases gk with
            | zero => exact absurd HA.out (by simp [guichetlaw10_StanTexts.l0])
            | succ k3 =>
             have H := HA.out
             clear HA
             simp only [guichetlaw10_StanTexts.l0] at H
             by_cases c71 : x85_3 < (y160.length : Int)
             ·rw [if_pos c71] at H
              have c71b0 : decide (x85_3 < (y160.length : Int)) = true := decide_eq_true c71
              clear c71
              by_cases c72 : 0 ≤ x85_3
              ·rw [if_pos c72] at H
               have c72b0 : decide (0 ≤ x85_3) = true := decide_eq_true c72
               clear c72
               by_cases c73 : x85_3 < (y160.length : Int)
               ·rw [if_pos c73] at H
                have c73b0 : decide (x85_3 < (y160.length : Int)) = true := decide_eq_true c73
                clear c73
                replace H := Option.bind_eq_some_iff.mp H
                obtain ⟨⟨t164, t165, t166⟩, A740, H⟩ := H
                replace H : ((guichetref1_KeyParse.f k3 (rdOf ByteArray.empty y160 x85_3)).bind fun bt168 => (if (!(t164 == bt168.1) || (!(t165 == bt168.2.1))) = true then (none) else (if (t166 != bt168.2.2) = true then (none) else (guichetlaw10_StanTexts.l0 k3 a3 y160 (y160.length : Int) (wrap64 (x85_3 + 1)) a0_0 x148001_12 x149000_12 x149001_12)))) = some r := H
                have A74 := Aside0.mk A740
                clear A740
                replace H := Option.bind_eq_some_iff.mp H
                obtain ⟨⟨t168, t169, t170⟩, A750, H⟩ := H
                replace H : (if (!(t164 == t168) || (!(t165 == t169))) = true then (none) else (if (t166 != t170) = true then (none) else (guichetlaw10_StanTexts.l0 k3 a3 y160 (y160.length : Int) (wrap64 (x85_3 + 1)) a0_0 x148001_12 x149000_12 x149001_12))) = some r := H
                have A75 := Aside0.mk A750
                clear A750
                by_cases c76 : (!(t164 == t168) || (!(t165 == t169))) = true
                ·rw [if_pos c76] at H
                 exact absurd H (by simp)
                ·rw [if_neg c76] at H
                 have c76b0 : (!(t164 == t168) || (!(t165 == t169))) = false := by simpa using c76
                 clear c76
                 by_cases c77 : (t166 != t170) = true
                 ·rw [if_pos c77] at H
                  exact absurd H (by simp)
                 ·rw [if_neg c77] at H
                  have c77b0 : (t166 != t170) = false := by simpa using c77
                  (try (have c77b1 : decide (t166 = t170) = true := by simpa using c77))
                  (try (have c77b2 : (t166 == t170) = true := by simpa using c77))
                  clear c77
                  have H' := Aside0.mk H
                  clear H
                  have p163 : 0 ≤ (x85_3 : Int) := of_decide_eq_true (by first | (with_reducible assumption) | assumption)
                  have q163 : x85_3 < (y160.length : Int) := of_decide_eq_true (by first | (with_reducible assumption) | assumption)
                  obtain ⟨ad163, e163, hx163_0⟩ := Kd.at_string (Kd.R_reads' HO_83.out).2.2 x85_3 p163 q163
                  cases e163
                  replace p163 := eq_true p163
                  replace q163 := eq_true q163
                  go_wp2_with (first | ((with_reducible refine gate_callee (f := 8) rfl ?_); refine goesL_ (some 91) rfl rfl Tryd.func8 (by kernel_rfl) rfl #[.string (rdOf ByteArray.empty y160 x85_3)] rfl (by (try simp only [List.map_toArray, List.map_cons, List.map_nil]); first | done | rfl | (simp only [List.length_drop, List.length_take]; rfl) | (rw [hsame_])) ?_; (with_reducible refine (stan_Parse.calls k3 (rdOf ByteArray.empty y160 x85_3) t164 t165 t166 _ ?side1 A74.out).mono ?_); (case side1 => exact tab_at HT.out (by repeat (first | (with_reducible first | exact HB.out | apply below_alloc | apply pw_below_drewN | apply below_drew1 | refine below_set ?_ GE147.out | refine below_set ?_ GE148.out | refine below_set ?_ GE154.out) | exact HB.out))); rintro e w78 ⟨rfl, hb⟩; refine ⟨_, rfl, ?_⟩; have n0_ := Aside0.mk (Kd.R_below (by (with_reducible repeat (first | apply Kd.R_alloc | apply Kd.R_drewN | apply Kd.R_drew)); exact HO_83.out) hb); have n1_ := Aside0.mk (blk_below (g := gb147) (o := .cells #[.int .u16 a0_0, .int .u32 x148001_12] 25 (0, 0)) (by (with_reducible repeat (first | refine blk_drewN ?_ _ | refine blk_drew ?_ | refine blk_alloc ?_ _)); exact BK147.out) hb); have n2_ := Aside0.mk (blk_below (g := gb148) (o := .cells #[.int .u16 x149000_12, .int .u32 x149001_12] 25 (0, 0)) (by (with_reducible repeat (first | refine blk_drewN ?_ _ | refine blk_drew ?_ | refine blk_alloc ?_ _)); exact BK148.out) hb); have n3_ := Aside0.mk (blk_below (g := gb154) (o := .cells #[.int .u16 t151, .int .u32 t152] 25 (0, 0)) (by (with_reducible repeat (first | refine blk_drewN ?_ _ | refine blk_drew ?_ | refine blk_alloc ?_ _)); exact BK154.out) hb); have n4_ := Aside0.mk (below_step (by repeat (first | (with_reducible first | exact HB.out | apply below_alloc | apply pw_below_drewN | apply below_drew1 | refine below_set ?_ GE147.out | refine below_set ?_ GE148.out | refine below_set ?_ GE154.out) | exact HB.out)) hb); clear HO_83; clear BK147; clear BK148; clear BK154; clear HB; have HO_83 := n0_; have BK147 := n1_; have BK148 := n2_; have BK154 := n3_; have HB := n4_; clear n0_ n1_ n2_ n3_ n4_; (try clear hb); (try clear hb2); (try clear hk); (try clear hi)) | ((with_reducible refine gate_dst (N := 19) rfl ?_); refine box_event ?hg (N := 19) ?hd (cs := #[.int .u16 0, .int .u32 0]) (t := 25) ?hr ?_; (case hd => rfl); (case hg => rfl); (case hr => first | (go_simp; done) | (go_simp; rfl)); intro gb167 hg w79 hbox hb; have n0_ := Aside0.mk (Kd.R_below (by (with_reducible repeat (first | apply Kd.R_alloc | apply Kd.R_drewN | apply Kd.R_drew)); exact HO_83.out) hb); have n1_ := Aside0.mk (blk_below (g := gb147) (o := .cells #[.int .u16 a0_0, .int .u32 x148001_12] 25 (0, 0)) (by (with_reducible repeat (first | refine blk_drewN ?_ _ | refine blk_drew ?_ | refine blk_alloc ?_ _)); exact BK147.out) hb); have n2_ := Aside0.mk (blk_below (g := gb148) (o := .cells #[.int .u16 x149000_12, .int .u32 x149001_12] 25 (0, 0)) (by (with_reducible repeat (first | refine blk_drewN ?_ _ | refine blk_drew ?_ | refine blk_alloc ?_ _)); exact BK148.out) hb); have n3_ := Aside0.mk (blk_below (g := gb154) (o := .cells #[.int .u16 t151, .int .u32 t152] 25 (0, 0)) (by (with_reducible repeat (first | refine blk_drewN ?_ _ | refine blk_drew ?_ | refine blk_alloc ?_ _)); exact BK154.out) hb); have n4_ := Aside0.mk (below_step (by repeat (first | (with_reducible first | exact HB.out | apply below_alloc | apply pw_below_drewN | apply below_drew1 | refine below_set ?_ GE147.out | refine below_set ?_ GE148.out | refine below_set ?_ GE154.out) | exact HB.out)) hb); have n5_ := Aside0.mk (hbox); have n6_ := Aside0.mk ((by rw [hg]; exact (below_size (by repeat (first | (with_reducible first | exact HB.out | apply below_alloc | apply pw_below_drewN | apply below_drew1 | refine below_set ?_ GE147.out | refine below_set ?_ GE148.out | refine below_set ?_ GE154.out) | exact HB.out))) : w.heap.size ≤ gb167)); have n7_ := Aside0.mk ((by rw [hg]; exact (below_size (by repeat (first | (with_reducible first | exact HB.out | apply below_alloc | apply pw_below_drewN | apply below_drew1 | refine below_set ?_ GE147.out | refine below_set ?_ GE148.out | refine below_set ?_ GE154.out) | exact HB.out))) : w.heap.size ≤ gb167)); have n8_ := Aside0.mk ((by rw [hg]; exact Nat.ne_of_lt (blk_lt (g := gb147) (o := .cells #[.int .u16 a0_0, .int .u32 x148001_12] 25 (0, 0)) (by (with_reducible repeat (first | refine blk_drewN ?_ _ | refine blk_drew ?_ | refine blk_alloc ?_ _)); exact BK147.out)) : gb147 ≠ gb167)); have n9_ := Aside0.mk ((by rw [hg]; exact Nat.ne_of_gt (blk_lt (g := gb147) (o := .cells #[.int .u16 a0_0, .int .u32 x148001_12] 25 (0, 0)) (by (with_reducible repeat (first | refine blk_drewN ?_ _ | refine blk_drew ?_ | refine blk_alloc ?_ _)); exact BK147.out)) : gb167 ≠ gb147)); have n10_ := Aside0.mk ((by rw [hg]; exact Nat.ne_of_lt (blk_lt (g := gb148) (o := .cells #[.int .u16 x149000_12, .int .u32 x149001_12] 25 (0, 0)) (by (with_reducible repeat (first | refine blk_drewN ?_ _ | refine blk_drew ?_ | refine blk_alloc ?_ _)); exact BK148.out)) : gb148 ≠ gb167)); have n11_ := Aside0.mk ((by rw [hg]; exact Nat.ne_of_gt (blk_lt (g := gb148) (o := .cells #[.int .u16 x149000_12, .int .u32 x149001_12] 25 (0, 0)) (by (with_reducible repeat (first | refine blk_drewN ?_ _ | refine blk_drew ?_ | refine blk_alloc ?_ _)); exact BK148.out)) : gb167 ≠ gb148)); have n12_ := Aside0.mk ((by rw [hg]; exact Nat.ne_of_lt (blk_lt (g := gb154) (o := .cells #[.int .u16 t151, .int .u32 t152] 25 (0, 0)) (by (with_reducible repeat (first | refine blk_drewN ?_ _ | refine blk_drew ?_ | refine blk_alloc ?_ _)); exact BK154.out)) : gb154 ≠ gb167)); have n13_ := Aside0.mk ((by rw [hg]; exact Nat.ne_of_gt (blk_lt (g := gb154) (o := .cells #[.int .u16 t151, .int .u32 t152] 25 (0, 0)) (by (with_reducible repeat (first | refine blk_drewN ?_ _ | refine blk_drew ?_ | refine blk_alloc ?_ _)); exact BK154.out)) : gb167 ≠ gb154)); clear HO_83; clear BK147; clear BK148; clear BK154; clear HB; have HO_83 := n0_; have BK147 := n1_; have BK148 := n2_; have BK154 := n3_; have HB := n4_; have BK167 := n5_; have GW167 := n6_; have GE167 := n7_; have NB147_167 := n8_; have NB167_147 := n9_; have NB148_167 := n10_; have NB167_148 := n11_; have NB154_167 := n12_; have NB167_154 := n13_; clear n0_ n1_ n2_ n3_ n4_ n5_ n6_ n7_ n8_ n9_ n10_ n11_ n12_ n13_; clear hb hbox hg; have hnb80 := NB167_147.out; have hnc80 := NB147_167.out; have hnb81 := NB167_148.out; have hnc81 := NB148_167.out; have hnb82 := NB167_154.out; have hnc82 := NB154_167.out; have hcz83_0 : w79.cell? ⟨gb167, 0, none⟩ = some (.int .u16 0) := (blk_cell BK167.out 0).trans rfl; have hcz83_1 : w79.cell? ⟨gb167, 1, none⟩ = some (.int .u32 0) := (blk_cell BK167.out 1).trans rfl; have hfz83_0 := blk_frozen BK167.out 0; have hfz83_1 := blk_frozen BK167.out 1) | ((with_reducible refine gate_callee (f := 10) rfl ?_); refine goesL_ (some 96) rfl rfl Tryd.func10 (by kernel_rfl) rfl #[.string (rdOf ByteArray.empty y160 x85_3)] rfl (by (try simp only [List.map_toArray, List.map_cons, List.map_nil]); first | done | rfl | (simp only [List.length_drop, List.length_take]; rfl) | (rw [hsame_])) ?_; (with_reducible refine (guichetref1_KeyParse.calls k3 (rdOf ByteArray.empty y160 x85_3) t168 t169 t170 _ A75.out).mono ?_); rintro e w84 ⟨rfl, hb⟩; refine ⟨_, rfl, ?_⟩; have n0_ := Aside0.mk (Kd.R_below (by (with_reducible repeat (first | apply Kd.R_alloc | apply Kd.R_drewN | apply Kd.R_drew)); exact (Kd.R_mono (Kd.R_far (p := ⟨gb167, 1, none⟩) (Kd.R_far (p := ⟨gb167, 0, none⟩) (Kd.R_types HO_83.out BK167.out (by decide)) (fun _ hk => hk.2) (.int .u16 t164)) (fun _ hk => hk.2) (.int .u32 t165)) (fun _ h_ => h_.1))) hb); have n1_ := Aside0.mk (blk_below (g := gb147) (o := .cells #[.int .u16 a0_0, .int .u32 x148001_12] 25 (0, 0)) (by (with_reducible repeat (first | refine blk_drewN ?_ _ | refine blk_drew ?_ | refine blk_alloc ?_ _)); refine blk_far ?_ NB147_167.out _; (with_reducible repeat (first | refine blk_drewN ?_ _ | refine blk_drew ?_ | refine blk_alloc ?_ _)); refine blk_far ?_ NB147_167.out _; (with_reducible repeat (first | refine blk_drewN ?_ _ | refine blk_drew ?_ | refine blk_alloc ?_ _)); exact BK147.out) hb); have n2_ := Aside0.mk (blk_below (g := gb148) (o := .cells #[.int .u16 x149000_12, .int .u32 x149001_12] 25 (0, 0)) (by (with_reducible repeat (first | refine blk_drewN ?_ _ | refine blk_drew ?_ | refine blk_alloc ?_ _)); refine blk_far ?_ NB148_167.out _; (with_reducible repeat (first | refine blk_drewN ?_ _ | refine blk_drew ?_ | refine blk_alloc ?_ _)); refine blk_far ?_ NB148_167.out _; (with_reducible repeat (first | refine blk_drewN ?_ _ | refine blk_drew ?_ | refine blk_alloc ?_ _)); exact BK148.out) hb); have n3_ := Aside0.mk (blk_below (g := gb154) (o := .cells #[.int .u16 t151, .int .u32 t152] 25 (0, 0)) (by (with_reducible repeat (first | refine blk_drewN ?_ _ | refine blk_drew ?_ | refine blk_alloc ?_ _)); refine blk_far ?_ NB154_167.out _; (with_reducible repeat (first | refine blk_drewN ?_ _ | refine blk_drew ?_ | refine blk_alloc ?_ _)); refine blk_far ?_ NB154_167.out _; (with_reducible repeat (first | refine blk_drewN ?_ _ | refine blk_drew ?_ | refine blk_alloc ?_ _)); exact BK154.out) hb); have n4_ := Aside0.mk (blk_below (g := gb167) (o := .cells #[.int .u16 t164, .int .u32 t165] 25 (0, 0)) (by (with_reducible repeat (first | refine blk_drewN ?_ _ | refine blk_drew ?_ | refine blk_alloc ?_ _)); refine blk_put (cs := #[.int .u16 t164, .int .u32 0]) ?_ 1 _ rfl; (with_reducible repeat (first | refine blk_drewN ?_ _ | refine blk_drew ?_ | refine blk_alloc ?_ _)); refine blk_put (cs := #[.int .u16 0, .int .u32 0]) ?_ 0 _ rfl; (with_reducible repeat (first | refine blk_drewN ?_ _ | refine blk_drew ?_ | refine blk_alloc ?_ _)); exact BK167.out) hb); have n5_ := Aside0.mk (below_step (by repeat (first | (with_reducible first | exact HB.out | apply below_alloc | apply pw_below_drewN | apply below_drew1 | refine below_set ?_ GE147.out | refine below_set ?_ GE148.out | refine below_set ?_ GE154.out | refine below_set ?_ GE167.out) | exact HB.out)) hb); clear HO_83; clear BK147; clear BK148; clear BK154; clear BK167; clear HB; have HO_83 := n0_; have BK147 := n1_; have BK148 := n2_; have BK154 := n3_; have BK167 := n4_; have HB := n5_; clear n0_ n1_ n2_ n3_ n4_ n5_; (try clear hb); (try clear hb2); (try clear hk); (try clear hi)) | ((with_reducible refine gate_dst (N := 21) rfl ?_); refine box_event ?hg (N := 21) ?hd (cs := #[.int .u16 0, .int .u32 0]) (t := 25) ?hr ?_; (case hd => rfl); (case hg => rfl); (case hr => first | (go_simp; done) | (go_simp; rfl)); intro gb171 hg w85 hbox hb; have n0_ := Aside0.mk (Kd.R_below (by (with_reducible repeat (first | apply Kd.R_alloc | apply Kd.R_drewN | apply Kd.R_drew)); exact HO_83.out) hb); have n1_ := Aside0.mk (blk_below (g := gb147) (o := .cells #[.int .u16 a0_0, .int .u32 x148001_12] 25 (0, 0)) (by (with_reducible repeat (first | refine blk_drewN ?_ _ | refine blk_drew ?_ | refine blk_alloc ?_ _)); exact BK147.out) hb); have n2_ := Aside0.mk (blk_below (g := gb148) (o := .cells #[.int .u16 x149000_12, .int .u32 x149001_12] 25 (0, 0)) (by (with_reducible repeat (first | refine blk_drewN ?_ _ | refine blk_drew ?_ | refine blk_alloc ?_ _)); exact BK148.out) hb); have n3_ := Aside0.mk (blk_below (g := gb154) (o := .cells #[.int .u16 t151, .int .u32 t152] 25 (0, 0)) (by (with_reducible repeat (first | refine blk_drewN ?_ _ | refine blk_drew ?_ | refine blk_alloc ?_ _)); exact BK154.out) hb); have n4_ := Aside0.mk (blk_below (g := gb167) (o := .cells #[.int .u16 t164, .int .u32 t165] 25 (0, 0)) (by (with_reducible repeat (first | refine blk_drewN ?_ _ | refine blk_drew ?_ | refine blk_alloc ?_ _)); exact BK167.out) hb); have n5_ := Aside0.mk (below_step (by repeat (first | (with_reducible first | exact HB.out | apply below_alloc | apply pw_below_drewN | apply below_drew1 | refine below_set ?_ GE147.out | refine below_set ?_ GE148.out | refine below_set ?_ GE154.out | refine below_set ?_ GE167.out) | exact HB.out)) hb); have n6_ := Aside0.mk (hbox); have n7_ := Aside0.mk ((by rw [hg]; exact (below_size (by repeat (first | (with_reducible first | exact HB.out | apply below_alloc | apply pw_below_drewN | apply below_drew1 | refine below_set ?_ GE147.out | refine below_set ?_ GE148.out | refine below_set ?_ GE154.out | refine below_set ?_ GE167.out) | exact HB.out))) : w.heap.size ≤ gb171)); have n8_ := Aside0.mk ((by rw [hg]; exact (below_size (by repeat (first | (with_reducible first | exact HB.out | apply below_alloc | apply pw_below_drewN | apply below_drew1 | refine below_set ?_ GE147.out | refine below_set ?_ GE148.out | refine below_set ?_ GE154.out | refine below_set ?_ GE167.out) | exact HB.out))) : w.heap.size ≤ gb171)); have n9_ := Aside0.mk ((by rw [hg]; exact Nat.ne_of_lt (blk_lt (g := gb147) (o := .cells #[.int .u16 a0_0, .int .u32 x148001_12] 25 (0, 0)) (by (with_reducible repeat (first | refine blk_drewN ?_ _ | refine blk_drew ?_ | refine blk_alloc ?_ _)); exact BK147.out)) : gb147 ≠ gb171)); have n10_ := Aside0.mk ((by rw [hg]; exact Nat.ne_of_gt (blk_lt (g := gb147) (o := .cells #[.int .u16 a0_0, .int .u32 x148001_12] 25 (0, 0)) (by (with_reducible repeat (first | refine blk_drewN ?_ _ | refine blk_drew ?_ | refine blk_alloc ?_ _)); exact BK147.out)) : gb171 ≠ gb147)); have n11_ := Aside0.mk ((by rw [hg]; exact Nat.ne_of_lt (blk_lt (g := gb148) (o := .cells #[.int .u16 x149000_12, .int .u32 x149001_12] 25 (0, 0)) (by (with_reducible repeat (first | refine blk_drewN ?_ _ | refine blk_drew ?_ | refine blk_alloc ?_ _)); exact BK148.out)) : gb148 ≠ gb171)); have n12_ := Aside0.mk ((by rw [hg]; exact Nat.ne_of_gt (blk_lt (g := gb148) (o := .cells #[.int .u16 x149000_12, .int .u32 x149001_12] 25 (0, 0)) (by (with_reducible repeat (first | refine blk_drewN ?_ _ | refine blk_drew ?_ | refine blk_alloc ?_ _)); exact BK148.out)) : gb171 ≠ gb148)); have n13_ := Aside0.mk ((by rw [hg]; exact Nat.ne_of_lt (blk_lt (g := gb154) (o := .cells #[.int .u16 t151, .int .u32 t152] 25 (0, 0)) (by (with_reducible repeat (first | refine blk_drewN ?_ _ | refine blk_drew ?_ | refine blk_alloc ?_ _)); exact BK154.out)) : gb154 ≠ gb171)); have n14_ := Aside0.mk ((by rw [hg]; exact Nat.ne_of_gt (blk_lt (g := gb154) (o := .cells #[.int .u16 t151, .int .u32 t152] 25 (0, 0)) (by (with_reducible repeat (first | refine blk_drewN ?_ _ | refine blk_drew ?_ | refine blk_alloc ?_ _)); exact BK154.out)) : gb171 ≠ gb154)); have n15_ := Aside0.mk ((by rw [hg]; exact Nat.ne_of_lt (blk_lt (g := gb167) (o := .cells #[.int .u16 t164, .int .u32 t165] 25 (0, 0)) (by (with_reducible repeat (first | refine blk_drewN ?_ _ | refine blk_drew ?_ | refine blk_alloc ?_ _)); exact BK167.out)) : gb167 ≠ gb171)); have n16_ := Aside0.mk ((by rw [hg]; exact Nat.ne_of_gt (blk_lt (g := gb167) (o := .cells #[.int .u16 t164, .int .u32 t165] 25 (0, 0)) (by (with_reducible repeat (first | refine blk_drewN ?_ _ | refine blk_drew ?_ | refine blk_alloc ?_ _)); exact BK167.out)) : gb171 ≠ gb167)); clear HO_83; clear BK147; clear BK148; clear BK154; clear BK167; clear HB; have HO_83 := n0_; have BK147 := n1_; have BK148 := n2_; have BK154 := n3_; have BK167 := n4_; have HB := n5_; have BK171 := n6_; have GW171 := n7_; have GE171 := n8_; have NB147_171 := n9_; have NB171_147 := n10_; have NB148_171 := n11_; have NB171_148 := n12_; have NB154_171 := n13_; have NB171_154 := n14_; have NB167_171 := n15_; have NB171_167 := n16_; clear n0_ n1_ n2_ n3_ n4_ n5_ n6_ n7_ n8_ n9_ n10_ n11_ n12_ n13_ n14_ n15_ n16_; clear hb hbox hg; have hnb86 := NB171_147.out; have hnc86 := NB147_171.out; have hnb87 := NB171_148.out; have hnc87 := NB148_171.out; have hnb88 := NB171_154.out; have hnc88 := NB154_171.out; have hnb89 := NB171_167.out; have hnc89 := NB167_171.out; have hcz90_0 : w85.cell? ⟨gb171, 0, none⟩ = some (.int .u16 0) := (blk_cell BK171.out 0).trans rfl; have hcz90_1 : w85.cell? ⟨gb171, 1, none⟩ = some (.int .u32 0) := (blk_cell BK171.out 1).trans rfl; have hfz90_0 := blk_frozen BK171.out 0; have hfz90_1 := blk_frozen BK171.out 1; have hcz91_0 : w85.cell? ⟨gb167, 0, none⟩ = some (.int .u16 t164) := (blk_cell BK167.out 0).trans rfl; have hcz91_1 : w85.cell? ⟨gb167, 1, none⟩ = some (.int .u32 t165) := (blk_cell BK167.out 1).trans rfl; have hfz91_0 := blk_frozen BK167.out 0; have hfz91_1 := blk_frozen BK167.out 1))
                  go_roundg k3
                  case measure => have := HJ12.out; have := HJ22.out; have := HK3.out; omega
                  case rel => exact ⟨(wrap64 (x85_3 + 1)), (by first | rfl | (simp; done) | (simp [*]; done)), H', ⟨by have := HJ12.out; have := HJ22.out; have := HK3.out; omega⟩, ⟨by (with_reducible repeat (first | apply Kd.R_alloc | apply Kd.R_drewN | apply Kd.R_drew)); exact Kd.R_mono (Kd.R_far (p := ⟨gb171, 1, none⟩) (Kd.R_far (p := ⟨gb171, 0, none⟩) (Kd.R_types HO_83.out BK171.out (by decide)) (fun _ hk => hk.2) (.int .u16 t168)) (fun _ hk => hk.2) (.int .u32 t169)) (fun _ hk => trivial)⟩, ⟨by (with_reducible repeat (first | refine blk_drewN ?_ _ | refine blk_drew ?_ | refine blk_alloc ?_ _)); refine blk_far ?_ NB147_171.out _; (with_reducible repeat (first | refine blk_drewN ?_ _ | refine blk_drew ?_ | refine blk_alloc ?_ _)); refine blk_far ?_ NB147_171.out _; (with_reducible repeat (first | refine blk_drewN ?_ _ | refine blk_drew ?_ | refine blk_alloc ?_ _)); exact BK147.out⟩, ⟨by (with_reducible repeat (first | refine blk_drewN ?_ _ | refine blk_drew ?_ | refine blk_alloc ?_ _)); refine blk_far ?_ NB148_171.out _; (with_reducible repeat (first | refine blk_drewN ?_ _ | refine blk_drew ?_ | refine blk_alloc ?_ _)); refine blk_far ?_ NB148_171.out _; (with_reducible repeat (first | refine blk_drewN ?_ _ | refine blk_drew ?_ | refine blk_alloc ?_ _)); exact BK148.out⟩, ⟨by (with_reducible repeat (first | refine blk_drewN ?_ _ | refine blk_drew ?_ | refine blk_alloc ?_ _)); refine blk_far ?_ NB154_171.out _; (with_reducible repeat (first | refine blk_drewN ?_ _ | refine blk_drew ?_ | refine blk_alloc ?_ _)); refine blk_far ?_ NB154_171.out _; (with_reducible repeat (first | refine blk_drewN ?_ _ | refine blk_drew ?_ | refine blk_alloc ?_ _)); exact BK154.out⟩, ⟨by repeat (first | (with_reducible first | exact HB.out | apply below_alloc | apply pw_below_drewN | apply below_drew1 | refine below_set ?_ GE147.out | refine below_set ?_ GE148.out | refine below_set ?_ GE154.out | refine below_set ?_ GE167.out | refine below_set ?_ GE171.out) | exact HB.out)⟩⟩
               ·rw [if_neg c73] at H
                exact absurd H (by simp)
              ·rw [if_neg c72] at H
               exact absurd H (by simp)
             ·rw [if_neg c71] at H
              have c71b0 : decide (x85_3 < (y160.length : Int)) = false := decide_eq_false c71
              clear c71
              replace H := Option.bind_eq_some_iff.mp H
              obtain ⟨t172, A920, H⟩ := H
              replace H : ((guichetref1_Less.f a0_0 x148001_12 x149000_12 x149001_12).bind fun t173 => (if (t172 == t173) = true then ((stan_Less.f k3 x149000_12 x149001_12 a0_0 x148001_12).bind fun t174 => ((guichetref1_Less.f x149000_12 x149001_12 a0_0 x148001_12).bind fun t175 => (if (t174 == t175) = true then ((stan_Less.f k3 a0_0 x148001_12 a0_0 x148001_12).bind fun t176 => (if t176 = true then (none) else ((guichethelp_Place.f (wrap64 (a3)) 3).bind fun t177 => (some (decide (t177 ≥ 0)))))) else (none)))) else (none))) = some r := H
              have A92 := Aside0.mk A920
              clear A920
              replace H := Option.bind_eq_some_iff.mp H
              obtain ⟨t173, A930, H⟩ := H
              replace H : (if (t172 == t173) = true then ((stan_Less.f k3 x149000_12 x149001_12 a0_0 x148001_12).bind fun t174 => ((guichetref1_Less.f x149000_12 x149001_12 a0_0 x148001_12).bind fun t175 => (if (t174 == t175) = true then ((stan_Less.f k3 a0_0 x148001_12 a0_0 x148001_12).bind fun t176 => (if t176 = true then (none) else ((guichethelp_Place.f (wrap64 (a3)) 3).bind fun t177 => (some (decide (t177 ≥ 0)))))) else (none)))) else (none)) = some r := H
              have A93 := Aside0.mk A930
              clear A930
              by_cases c94 : (t172 == t173) = true
              ·rw [if_pos c94] at H
               have c94b0 : (t172 == t173) = true := c94
               (try (have c94b1 : decide (t172 = t173) = true := by simpa using c94))
               (try (have c94b2 : (t172 == t173) = true := by simpa using c94))
               clear c94
               replace H := Option.bind_eq_some_iff.mp H
               obtain ⟨t174, A950, H⟩ := H
               replace H : ((guichetref1_Less.f x149000_12 x149001_12 a0_0 x148001_12).bind fun t175 => (if (t174 == t175) = true then ((stan_Less.f k3 a0_0 x148001_12 a0_0 x148001_12).bind fun t176 => (if t176 = true then (none) else ((guichethelp_Place.f (wrap64 (a3)) 3).bind fun t177 => (some (decide (t177 ≥ 0)))))) else (none))) = some r := H
               have A95 := Aside0.mk A950
               clear A950
               replace H := Option.bind_eq_some_iff.mp H
               obtain ⟨t175, A960, H⟩ := H
               replace H : (if (t174 == t175) = true then ((stan_Less.f k3 a0_0 x148001_12 a0_0 x148001_12).bind fun t176 => (if t176 = true then (none) else ((guichethelp_Place.f (wrap64 (a3)) 3).bind fun t177 => (some (decide (t177 ≥ 0)))))) else (none)) = some r := H
               have A96 := Aside0.mk A960
               clear A960
               by_cases c97 : (t174 == t175) = true
               ·rw [if_pos c97] at H
                have c97b0 : (t174 == t175) = true := c97
                (try (have c97b1 : decide (t174 = t175) = true := by simpa using c97))
                (try (have c97b2 : (t174 == t175) = true := by simpa using c97))
                clear c97
                replace H := Option.bind_eq_some_iff.mp H
                obtain ⟨t176, A980, H⟩ := H
                replace H : (if t176 = true then (none) else ((guichethelp_Place.f (wrap64 (a3)) 3).bind fun t177 => (some (decide (t177 ≥ 0))))) = some r := H
                have A98 := Aside0.mk A980
                clear A980
                by_cases c99 : t176 = true
                ·subst c99
                 have H1 : (none) = some r := by rw [if_pos rfl] at H; exact H
                 clear H
                 have H := H1
                 clear H1
                 exact absurd H (by simp)
                ·replace c99 := Bool.eq_false_iff.mpr c99
                 subst c99
                 have H1 : ((guichethelp_Place.f (wrap64 (a3)) 3).bind fun t177 => (some (decide (t177 ≥ 0)))) = some r := by rw [if_neg (show ¬ (false = true) by decide)] at H; exact H
                 clear H
                 have H := H1
                 clear H1
                 replace H := Option.bind_eq_some_iff.mp H
                 obtain ⟨t177, A1000, H⟩ := H
                 replace H : (some (decide (t177 ≥ 0))) = some r := H
                 have A100 := Aside0.mk A1000
                 clear A1000
                 obtain rfl := Option.some.inj H
                 (try rw [c9b0] at c94b0)
                 (try rw [c9b1] at c94b0)
                 (try rw [c60b0] at c94b0)
                 (try rw [c61b0] at c94b0)
                 (try rw [c63b1] at c94b0)
                 (try rw [c71b0] at c94b0)
                 (try rw [c97b0] at c94b0)
                 (try simp at c94b0)
                 (try rw [c9b0] at c97b0)
                 (try rw [c9b1] at c97b0)
                 (try rw [c60b0] at c97b0)
                 (try rw [c61b0] at c97b0)
                 (try rw [c63b1] at c97b0)
                 (try rw [c71b0] at c97b0)
                 (try rw [c94b0] at c97b0)
                 (try simp at c97b0)
                 try go_wp2
                 have n0_ := Aside0.mk (Kd.R_drew HO_83.out)
                 have n1_ := Aside0.mk (blk_drew BK147.out)
                 have n2_ := Aside0.mk (blk_drew BK148.out)
                 have n3_ := Aside0.mk (blk_drew BK154.out)
                 have n4_ := Aside0.mk (below_drew1 HB.out)
                 clear HO_83
                 clear BK147
                 clear BK148
                 clear BK154
                 clear HB
                 have HO_83 := n0_
                 have BK147 := n1_
                 have BK148 := n2_
                 have BK154 := n3_
                 have HB := n4_
                 clear n0_ n1_ n2_ n3_ n4_
                 refine start_ (n := 29) (S := fun w' => w'.cell? ⟨gb147, 0, none⟩ = some (.int .u16 a0_0) ∧ w'.cell? ⟨gb147, 1, none⟩ = some (.int .u32 x148001_12) ∧ w'.cell? ⟨gb148, 0, none⟩ = some (.int .u16 x149000_12) ∧ w'.cell? ⟨gb148, 1, none⟩ = some (.int .u32 x149001_12)) (ds := []) #[false, false, false, false, false, false, false, false, false, false, false, false, false, false, false, false, false, false, false, false, false, false, false, false, false, false, false, false, false] (by kernel_rfl) rfl rfl ⟨(blk_cell BK147.out 0).trans rfl, (blk_cell BK147.out 1).trans rfl, (blk_cell BK148.out 0).trans rfl, (blk_cell BK148.out 1).trans rfl⟩ (fun hHeld => ?_); refine with_tabW guichetlaw10_StanTexts.tab21 guichetlaw10_StanTexts.bits21 (fun HT_ HW_ => ?_)
                 generalize wr.drew = w101 at HO_83 BK147 BK148 BK154 HB hHeld ⊢
                 refine take_ (i := 0) (N := some 108) (v := ?_) (a' := ?_) #[true, false, false, false, false, false, false, false, false, false, false, false, false, false, false, false, false, false, false, false, false, false, false, false, false, false, false, false, false] rfl rfl (take_ofW HT_.out HW_.out (by kernel_rfl)) (fun _ _ _ h => h) (Or.inl ⟨by rfl, ?_⟩) hHeld ?_ ?_
                 rotate_left
                 ·rintro w' ⟨s0, s1, s2, s3⟩
                  go_simp
                  with_reducible rfl
                 rotate_left
                 ·simp only [Act.put, List.setIfInBounds_toArray, List.set_cons_zero, List.set_cons_succ, i64_w, i32_w]
                  rfl
                 refine take_ (i := 1) (N := some 109) (v := ?_) (a' := ?_) #[true, true, false, false, false, false, false, false, false, false, false, false, false, false, false, false, false, false, false, false, false, false, false, false, false, false, false, false, false] rfl rfl (take_ofW HT_.out HW_.out (by kernel_rfl)) (fun _ _ _ h => h) (Or.inl ⟨by rfl, ?_⟩) hHeld ?_ ?_
                 rotate_left
                 ·rintro w' ⟨s0, s1, s2, s3⟩
                  go_simp
                  with_reducible rfl
                 rotate_left
                 ·simp only [Act.put, List.setIfInBounds_toArray, List.set_cons_zero, List.set_cons_succ, i64_w, i32_w]
                  rfl
                 refine take_ (i := 3) (N := some 111) (v := ?_) (a' := ?_) #[true, true, false, true, false, false, false, false, false, false, false, false, false, false, false, false, false, false, false, false, false, false, false, false, false, false, false, false, false] rfl rfl (take_ofW HT_.out HW_.out (by kernel_rfl)) (fun _ _ _ h => h) (Or.inl ⟨by rfl, ?_⟩) hHeld ?_ ?_
                 rotate_left
                 ·rintro w' ⟨s0, s1, s2, s3⟩
                  go_simp
                  with_reducible rfl
                 rotate_left
                 ·simp only [Act.put, List.setIfInBounds_toArray, List.set_cons_zero, List.set_cons_succ, i64_w, i32_w]
                  rfl
                 refine take_ (i := 4) (N := some 112) (v := ?_) (a' := ?_) #[true, true, false, true, true, false, false, false, false, false, false, false, false, false, false, false, false, false, false, false, false, false, false, false, false, false, false, false, false] rfl rfl (take_ofW HT_.out HW_.out (by kernel_rfl)) (fun _ _ _ h => h) (Or.inl ⟨by rfl, ?_⟩) hHeld ?_ ?_
                 rotate_left
                 ·rintro w' ⟨s0, s1, s2, s3⟩
                  go_simp
                  with_reducible rfl
                 rotate_left
                 ·simp only [Act.put, List.setIfInBounds_toArray, List.set_cons_zero, List.set_cons_succ, i64_w, i32_w]
                  rfl
                 refine one_ (i := 2) (N := some 110) #[true, true, true, true, true, false, false, false, false, false, false, false, false, false, false, false, false, false, false, false, false, false, false, false, false, false, false, false, false] rfl rfl (one_of HT_.out (by kernel_rfl)) (by decide) (fun K hK => ?_)
                 refine goes_ Tryd.func11 (by kernel_rfl) rfl #[.agg #[.int .u16 a0_0, .int .u32 x148001_12], .agg #[.int .u16 x149000_12, .int .u32 x149001_12]] (by rfl) rfl rfl (by (try simp only [List.map_toArray, List.map_cons, List.map_nil]); first | done | rfl | (simp only [List.length_drop, List.length_take]; rfl)) ?_
                 with_reducible refine (stan_Less.calls k3 a0_0 x148001_12 x149000_12 x149001_12 t172 _ A92.out).mono ?_
                 rintro e w102 ⟨rfl, hb⟩
                 refine ⟨_, rfl, ?_⟩
                 have n0_ := Aside0.mk (Kd.R_below (by (with_reducible repeat (first | apply Kd.R_alloc | apply Kd.R_drewN | apply Kd.R_drew)); exact HO_83.out) hb)
                 have n1_ := Aside0.mk (blk_below (g := gb147) (o := .cells #[.int .u16 a0_0, .int .u32 x148001_12] 25 (0, 0)) (by (with_reducible repeat (first | refine blk_drewN ?_ _ | refine blk_drew ?_ | refine blk_alloc ?_ _)); exact BK147.out) hb)
                 have n2_ := Aside0.mk (blk_below (g := gb148) (o := .cells #[.int .u16 x149000_12, .int .u32 x149001_12] 25 (0, 0)) (by (with_reducible repeat (first | refine blk_drewN ?_ _ | refine blk_drew ?_ | refine blk_alloc ?_ _)); exact BK148.out) hb)
                 have n3_ := Aside0.mk (blk_below (g := gb154) (o := .cells #[.int .u16 t151, .int .u32 t152] 25 (0, 0)) (by (with_reducible repeat (first | refine blk_drewN ?_ _ | refine blk_drew ?_ | refine blk_alloc ?_ _)); exact BK154.out) hb)
                 have n4_ := Aside0.mk (below_step (by repeat (first | (with_reducible first | exact HB.out | apply below_alloc | apply pw_below_drewN | apply below_drew1 | refine below_set ?_ GE147.out | refine below_set ?_ GE148.out | refine below_set ?_ GE154.out) | exact HB.out)) hb)
                 clear HO_83
                 clear BK147
                 clear BK148
                 clear BK154
                 clear HB
                 have HO_83 := n0_
                 have BK147 := n1_
                 have BK148 := n2_
                 have BK154 := n3_
                 have HB := n4_
                 clear n0_ n1_ n2_ n3_ n4_
                 (try clear hb)
                 (try clear hb2)
                 (try clear hk)
                 (try clear hi)
                 refine hK.out _ _ ⟨(blk_cell BK147.out 0).trans rfl, (blk_cell BK147.out 1).trans rfl, (blk_cell BK148.out 0).trans rfl, (blk_cell BK148.out 1).trans rfl⟩ (fun hHeld => ?_)
                 clear hK K
                 refine norm_ (a' := ?_) ?_ ?_
                 rotate_left
                 ·show Act.put _ (some 110) _ = _
                  simp only [Act.put, List.setIfInBounds_toArray, List.set_cons_zero, List.set_cons_succ, i64_w, i32_w]
                  rfl
                 refine one_ (i := 5) (N := some 113) #[true, true, true, true, true, true, false, false, false, false, false, false, false, false, false, false, false, false, false, false, false, false, false, false, false, false, false, false, false] rfl rfl (one_of HT_.out (by kernel_rfl)) (by decide) (fun K hK => ?_)
                 refine goes_ Tryd.func12 (by kernel_rfl) rfl #[.agg #[.int .u16 a0_0, .int .u32 x148001_12], .agg #[.int .u16 x149000_12, .int .u32 x149001_12]] (by rfl) rfl rfl (by (try simp only [List.map_toArray, List.map_cons, List.map_nil]); first | done | rfl | (simp only [List.length_drop, List.length_take]; rfl)) ?_
                 with_reducible refine (guichetref1_Less.calls a0_0 x148001_12 x149000_12 x149001_12 t173 _ A93.out).mono ?_
                 rintro e w103 ⟨rfl, hb⟩
                 refine ⟨_, rfl, ?_⟩
                 have n0_ := Aside0.mk (Kd.R_below (by (with_reducible repeat (first | apply Kd.R_alloc | apply Kd.R_drewN | apply Kd.R_drew)); exact HO_83.out) hb)
                 have n1_ := Aside0.mk (blk_below (g := gb147) (o := .cells #[.int .u16 a0_0, .int .u32 x148001_12] 25 (0, 0)) (by (with_reducible repeat (first | refine blk_drewN ?_ _ | refine blk_drew ?_ | refine blk_alloc ?_ _)); exact BK147.out) hb)
                 have n2_ := Aside0.mk (blk_below (g := gb148) (o := .cells #[.int .u16 x149000_12, .int .u32 x149001_12] 25 (0, 0)) (by (with_reducible repeat (first | refine blk_drewN ?_ _ | refine blk_drew ?_ | refine blk_alloc ?_ _)); exact BK148.out) hb)
                 have n3_ := Aside0.mk (blk_below (g := gb154) (o := .cells #[.int .u16 t151, .int .u32 t152] 25 (0, 0)) (by (with_reducible repeat (first | refine blk_drewN ?_ _ | refine blk_drew ?_ | refine blk_alloc ?_ _)); exact BK154.out) hb)
                 have n4_ := Aside0.mk (below_step (by repeat (first | (with_reducible first | exact HB.out | apply below_alloc | apply pw_below_drewN | apply below_drew1 | refine below_set ?_ GE147.out | refine below_set ?_ GE148.out | refine below_set ?_ GE154.out) | exact HB.out)) hb)
                 clear HO_83
                 clear BK147
                 clear BK148
                 clear BK154
                 clear HB
                 have HO_83 := n0_
                 have BK147 := n1_
                 have BK148 := n2_
                 have BK154 := n3_
                 have HB := n4_
                 clear n0_ n1_ n2_ n3_ n4_
                 (try clear hb)
                 (try clear hb2)
                 (try clear hk)
                 (try clear hi)
                 refine hK.out _ _ ⟨(blk_cell BK147.out 0).trans rfl, (blk_cell BK147.out 1).trans rfl, (blk_cell BK148.out 0).trans rfl, (blk_cell BK148.out 1).trans rfl⟩ (fun hHeld => ?_)
                 clear hK K
                 refine norm_ (a' := ?_) ?_ ?_
                 rotate_left
                 ·show Act.put _ (some 113) _ = _
                  simp only [Act.put, List.setIfInBounds_toArray, List.set_cons_zero, List.set_cons_succ, i64_w, i32_w]
                  rfl
                 refine pure_ (i := 6) (N := some 114) (v := ?_) (a' := ?_) #[true, true, true, true, true, true, true, false, false, false, false, false, false, false, false, false, false, false, false, false, false, false, false, false, false, false, false, false, false] rfl rfl (any_of HT_.out (by kernel_rfl)) (fun _ _ _ h => h) (Or.inl ⟨by rfl, ?_⟩) ?_ ?_
                 rotate_left
                 ·intro w'
                  go_simp
                  with_reducible rfl
                 rotate_left
                 ·simp only [Act.put, List.setIfInBounds_toArray, List.set_cons_zero, List.set_cons_succ, i64_w, i32_w]
                  rfl
                 refine pure_ (i := 7) (N := some 115) (v := ?_) (a' := ?_) #[true, true, true, true, true, true, true, true, false, false, false, false, false, false, false, false, false, false, false, false, false, false, false, false, false, false, false, false, false] rfl rfl (any_of HT_.out (by kernel_rfl)) (fun _ _ _ h => h) (Or.inl ⟨by rfl, ?_⟩) ?_ ?_
                 rotate_left
                 ·intro w'
                  go_simp
                  with_reducible rfl
                 rotate_left
                 ·simp only [Act.put, List.setIfInBounds_toArray, List.set_cons_zero, List.set_cons_succ, i64_w, i32_w]
                  rfl
                 refine take_ (i := 8) (N := some 116) (v := ?_) (a' := ?_) #[true, true, true, true, true, true, true, true, true, false, false, false, false, false, false, false, false, false, false, false, false, false, false, false, false, false, false, false, false] rfl rfl (take_ofW HT_.out HW_.out (by kernel_rfl)) (fun _ _ _ h => h) (Or.inl ⟨by rfl, ?_⟩) hHeld ?_ ?_
                 rotate_left
                 ·rintro w' ⟨s0, s1, s2, s3⟩
                  go_simp
                  with_reducible rfl
                 rotate_left
                 ·simp only [Act.put, List.setIfInBounds_toArray, List.set_cons_zero, List.set_cons_succ, i64_w, i32_w]
                  rfl
                 refine take_ (i := 9) (N := some 117) (v := ?_) (a' := ?_) #[true, true, true, true, true, true, true, true, true, true, false, false, false, false, false, false, false, false, false, false, false, false, false, false, false, false, false, false, false] rfl rfl (take_ofW HT_.out HW_.out (by kernel_rfl)) (fun _ _ _ h => h) (Or.inl ⟨by rfl, ?_⟩) hHeld ?_ ?_
                 rotate_left
                 ·rintro w' ⟨s0, s1, s2, s3⟩
                  go_simp
                  with_reducible rfl
                 rotate_left
                 ·simp only [Act.put, List.setIfInBounds_toArray, List.set_cons_zero, List.set_cons_succ, i64_w, i32_w]
                  rfl
                 refine take_ (i := 11) (N := some 119) (v := ?_) (a' := ?_) #[true, true, true, true, true, true, true, true, true, true, false, true, false, false, false, false, false, false, false, false, false, false, false, false, false, false, false, false, false] rfl rfl (take_ofW HT_.out HW_.out (by kernel_rfl)) (fun _ _ _ h => h) (Or.inl ⟨by rfl, ?_⟩) hHeld ?_ ?_
                 rotate_left
                 ·rintro w' ⟨s0, s1, s2, s3⟩
                  go_simp
                  with_reducible rfl
                 rotate_left
                 ·simp only [Act.put, List.setIfInBounds_toArray, List.set_cons_zero, List.set_cons_succ, i64_w, i32_w]
                  rfl
                 refine take_ (i := 12) (N := some 120) (v := ?_) (a' := ?_) #[true, true, true, true, true, true, true, true, true, true, false, true, true, false, false, false, false, false, false, false, false, false, false, false, false, false, false, false, false] rfl rfl (take_ofW HT_.out HW_.out (by kernel_rfl)) (fun _ _ _ h => h) (Or.inl ⟨by rfl, ?_⟩) hHeld ?_ ?_
                 rotate_left
                 ·rintro w' ⟨s0, s1, s2, s3⟩
                  go_simp
                  with_reducible rfl
                 rotate_left
                 ·simp only [Act.put, List.setIfInBounds_toArray, List.set_cons_zero, List.set_cons_succ, i64_w, i32_w]
                  rfl
                 refine one_ (i := 10) (N := some 118) #[true, true, true, true, true, true, true, true, true, true, true, true, true, false, false, false, false, false, false, false, false, false, false, false, false, false, false, false, false] rfl rfl (one_of HT_.out (by kernel_rfl)) (by decide) (fun K hK => ?_)
                 refine goes_ Tryd.func11 (by kernel_rfl) rfl #[.agg #[.int .u16 x149000_12, .int .u32 x149001_12], .agg #[.int .u16 a0_0, .int .u32 x148001_12]] (by rfl) rfl rfl (by (try simp only [List.map_toArray, List.map_cons, List.map_nil]); first | done | rfl | (simp only [List.length_drop, List.length_take]; rfl)) ?_
                 with_reducible refine (stan_Less.calls k3 x149000_12 x149001_12 a0_0 x148001_12 t174 _ A95.out).mono ?_
                 rintro e w104 ⟨rfl, hb⟩
                 refine ⟨_, rfl, ?_⟩
                 have n0_ := Aside0.mk (Kd.R_below (by (with_reducible repeat (first | apply Kd.R_alloc | apply Kd.R_drewN | apply Kd.R_drew)); exact HO_83.out) hb)
                 have n1_ := Aside0.mk (blk_below (g := gb147) (o := .cells #[.int .u16 a0_0, .int .u32 x148001_12] 25 (0, 0)) (by (with_reducible repeat (first | refine blk_drewN ?_ _ | refine blk_drew ?_ | refine blk_alloc ?_ _)); exact BK147.out) hb)
                 have n2_ := Aside0.mk (blk_below (g := gb148) (o := .cells #[.int .u16 x149000_12, .int .u32 x149001_12] 25 (0, 0)) (by (with_reducible repeat (first | refine blk_drewN ?_ _ | refine blk_drew ?_ | refine blk_alloc ?_ _)); exact BK148.out) hb)
                 have n3_ := Aside0.mk (blk_below (g := gb154) (o := .cells #[.int .u16 t151, .int .u32 t152] 25 (0, 0)) (by (with_reducible repeat (first | refine blk_drewN ?_ _ | refine blk_drew ?_ | refine blk_alloc ?_ _)); exact BK154.out) hb)
                 have n4_ := Aside0.mk (below_step (by repeat (first | (with_reducible first | exact HB.out | apply below_alloc | apply pw_below_drewN | apply below_drew1 | refine below_set ?_ GE147.out | refine below_set ?_ GE148.out | refine below_set ?_ GE154.out) | exact HB.out)) hb)
                 clear HO_83
                 clear BK147
                 clear BK148
                 clear BK154
                 clear HB
                 have HO_83 := n0_
                 have BK147 := n1_
                 have BK148 := n2_
                 have BK154 := n3_
                 have HB := n4_
                 clear n0_ n1_ n2_ n3_ n4_
                 (try clear hb)
                 (try clear hb2)
                 (try clear hk)
                 (try clear hi)
                 refine hK.out _ _ ⟨(blk_cell BK147.out 0).trans rfl, (blk_cell BK147.out 1).trans rfl, (blk_cell BK148.out 0).trans rfl, (blk_cell BK148.out 1).trans rfl⟩ (fun hHeld => ?_)
                 clear hK K
                 refine norm_ (a' := ?_) ?_ ?_
                 rotate_left
                 ·show Act.put _ (some 118) _ = _
                  simp only [Act.put, List.setIfInBounds_toArray, List.set_cons_zero, List.set_cons_succ, i64_w, i32_w]
                  rfl
                 refine one_ (i := 13) (N := some 121) #[true, true, true, true, true, true, true, true, true, true, true, true, true, true, false, false, false, false, false, false, false, false, false, false, false, false, false, false, false] rfl rfl (one_of HT_.out (by kernel_rfl)) (by decide) (fun K hK => ?_)
                 refine goes_ Tryd.func12 (by kernel_rfl) rfl #[.agg #[.int .u16 x149000_12, .int .u32 x149001_12], .agg #[.int .u16 a0_0, .int .u32 x148001_12]] (by rfl) rfl rfl (by (try simp only [List.map_toArray, List.map_cons, List.map_nil]); first | done | rfl | (simp only [List.length_drop, List.length_take]; rfl)) ?_
                 with_reducible refine (guichetref1_Less.calls x149000_12 x149001_12 a0_0 x148001_12 t175 _ A96.out).mono ?_
                 rintro e w105 ⟨rfl, hb⟩
                 refine ⟨_, rfl, ?_⟩
                 have n0_ := Aside0.mk (Kd.R_below (by (with_reducible repeat (first | apply Kd.R_alloc | apply Kd.R_drewN | apply Kd.R_drew)); exact HO_83.out) hb)
                 have n1_ := Aside0.mk (blk_below (g := gb147) (o := .cells #[.int .u16 a0_0, .int .u32 x148001_12] 25 (0, 0)) (by (with_reducible repeat (first | refine blk_drewN ?_ _ | refine blk_drew ?_ | refine blk_alloc ?_ _)); exact BK147.out) hb)
                 have n2_ := Aside0.mk (blk_below (g := gb148) (o := .cells #[.int .u16 x149000_12, .int .u32 x149001_12] 25 (0, 0)) (by (with_reducible repeat (first | refine blk_drewN ?_ _ | refine blk_drew ?_ | refine blk_alloc ?_ _)); exact BK148.out) hb)
                 have n3_ := Aside0.mk (blk_below (g := gb154) (o := .cells #[.int .u16 t151, .int .u32 t152] 25 (0, 0)) (by (with_reducible repeat (first | refine blk_drewN ?_ _ | refine blk_drew ?_ | refine blk_alloc ?_ _)); exact BK154.out) hb)
                 have n4_ := Aside0.mk (below_step (by repeat (first | (with_reducible first | exact HB.out | apply below_alloc | apply pw_below_drewN | apply below_drew1 | refine below_set ?_ GE147.out | refine below_set ?_ GE148.out | refine below_set ?_ GE154.out) | exact HB.out)) hb)
                 clear HO_83
                 clear BK147
                 clear BK148
                 clear BK154
                 clear HB
                 have HO_83 := n0_
                 have BK147 := n1_
                 have BK148 := n2_
                 have BK154 := n3_
                 have HB := n4_
                 clear n0_ n1_ n2_ n3_ n4_
                 (try clear hb)
                 (try clear hb2)
                 (try clear hk)
                 (try clear hi)
                 refine hK.out _ _ ⟨(blk_cell BK147.out 0).trans rfl, (blk_cell BK147.out 1).trans rfl, (blk_cell BK148.out 0).trans rfl, (blk_cell BK148.out 1).trans rfl⟩ (fun hHeld => ?_)
                 clear hK K
                 refine norm_ (a' := ?_) ?_ ?_
                 rotate_left
                 ·show Act.put _ (some 121) _ = _
                  simp only [Act.put, List.setIfInBounds_toArray, List.set_cons_zero, List.set_cons_succ, i64_w, i32_w]
                  rfl
                 refine pure_ (i := 14) (N := some 122) (v := ?_) (a' := ?_) #[true, true, true, true, true, true, true, true, true, true, true, true, true, true, true, false, false, false, false, false, false, false, false, false, false, false, false, false, false] rfl rfl (any_of HT_.out (by kernel_rfl)) (fun _ _ _ h => h) (Or.inl ⟨by rfl, ?_⟩) ?_ ?_
                 rotate_left
                 ·intro w'
                  go_simp
                  with_reducible rfl
                 rotate_left
                 ·simp only [Act.put, List.setIfInBounds_toArray, List.set_cons_zero, List.set_cons_succ, i64_w, i32_w]
                  rfl
                 refine pure_ (i := 15) (N := some 123) (v := ?_) (a' := ?_) #[true, true, true, true, true, true, true, true, true, true, true, true, true, true, true, true, false, false, false, false, false, false, false, false, false, false, false, false, false] rfl rfl (any_of HT_.out (by kernel_rfl)) (fun _ _ _ h => h) (Or.inl ⟨by rfl, ?_⟩) ?_ ?_
                 rotate_left
                 ·intro w'
                  go_simp
                  with_reducible rfl
                 rotate_left
                 ·simp only [Act.put, List.setIfInBounds_toArray, List.set_cons_zero, List.set_cons_succ, i64_w, i32_w]
                  rfl
                 refine pure_ (i := 16) (N := some 124) (v := ?_) (a' := ?_) #[true, true, true, true, true, true, true, true, true, true, true, true, true, true, true, true, true, false, false, false, false, false, false, false, false, false, false, false, false] rfl rfl (any_of HT_.out (by kernel_rfl)) (fun _ _ _ h => h) (Or.inl ⟨by rfl, ?_⟩) ?_ ?_
                 rotate_left
                 ·intro w'
                  go_simp
                  with_reducible rfl
                 rotate_left
                 ·simp only [Act.put, List.setIfInBounds_toArray, List.set_cons_zero, List.set_cons_succ, i64_w, i32_w]
                  rfl
                 refine take_ (i := 17) (N := some 125) (v := ?_) (a' := ?_) #[true, true, true, true, true, true, true, true, true, true, true, true, true, true, true, true, true, true, false, false, false, false, false, false, false, false, false, false, false] rfl rfl (take_ofW HT_.out HW_.out (by kernel_rfl)) (fun _ _ _ h => h) (Or.inl ⟨by rfl, ?_⟩) hHeld ?_ ?_
                 rotate_left
                 ·rintro w' ⟨s0, s1, s2, s3⟩
                  go_simp
                  with_reducible rfl
                 rotate_left
                 ·simp only [Act.put, List.setIfInBounds_toArray, List.set_cons_zero, List.set_cons_succ, i64_w, i32_w]
                  rfl
                 refine take_ (i := 18) (N := some 126) (v := ?_) (a' := ?_) #[true, true, true, true, true, true, true, true, true, true, true, true, true, true, true, true, true, true, true, false, false, false, false, false, false, false, false, false, false] rfl rfl (take_ofW HT_.out HW_.out (by kernel_rfl)) (fun _ _ _ h => h) (Or.inl ⟨by rfl, ?_⟩) hHeld ?_ ?_
                 rotate_left
                 ·rintro w' ⟨s0, s1, s2, s3⟩
                  go_simp
                  with_reducible rfl
                 rotate_left
                 ·simp only [Act.put, List.setIfInBounds_toArray, List.set_cons_zero, List.set_cons_succ, i64_w, i32_w]
                  rfl
                 refine one_ (i := 19) (N := some 127) #[true, true, true, true, true, true, true, true, true, true, true, true, true, true, true, true, true, true, true, true, false, false, false, false, false, false, false, false, false] rfl rfl (one_of HT_.out (by kernel_rfl)) (by decide) (fun K hK => ?_)
                 refine goes_ Tryd.func11 (by kernel_rfl) rfl #[.agg #[.int .u16 a0_0, .int .u32 x148001_12], .agg #[.int .u16 a0_0, .int .u32 x148001_12]] (by rfl) rfl rfl (by (try simp only [List.map_toArray, List.map_cons, List.map_nil]); first | done | rfl | (simp only [List.length_drop, List.length_take]; rfl)) ?_
                 with_reducible refine (stan_Less.calls k3 a0_0 x148001_12 a0_0 x148001_12 false _ A98.out).mono ?_
                 rintro e w106 ⟨rfl, hb⟩
                 refine ⟨_, rfl, ?_⟩
                 have n0_ := Aside0.mk (Kd.R_below (by (with_reducible repeat (first | apply Kd.R_alloc | apply Kd.R_drewN | apply Kd.R_drew)); exact HO_83.out) hb)
                 have n1_ := Aside0.mk (blk_below (g := gb147) (o := .cells #[.int .u16 a0_0, .int .u32 x148001_12] 25 (0, 0)) (by (with_reducible repeat (first | refine blk_drewN ?_ _ | refine blk_drew ?_ | refine blk_alloc ?_ _)); exact BK147.out) hb)
                 have n2_ := Aside0.mk (blk_below (g := gb148) (o := .cells #[.int .u16 x149000_12, .int .u32 x149001_12] 25 (0, 0)) (by (with_reducible repeat (first | refine blk_drewN ?_ _ | refine blk_drew ?_ | refine blk_alloc ?_ _)); exact BK148.out) hb)
                 have n3_ := Aside0.mk (blk_below (g := gb154) (o := .cells #[.int .u16 t151, .int .u32 t152] 25 (0, 0)) (by (with_reducible repeat (first | refine blk_drewN ?_ _ | refine blk_drew ?_ | refine blk_alloc ?_ _)); exact BK154.out) hb)
                 have n4_ := Aside0.mk (below_step (by repeat (first | (with_reducible first | exact HB.out | apply below_alloc | apply pw_below_drewN | apply below_drew1 | refine below_set ?_ GE147.out | refine below_set ?_ GE148.out | refine below_set ?_ GE154.out) | exact HB.out)) hb)
                 clear HO_83
                 clear BK147
                 clear BK148
                 clear BK154
                 clear HB
                 have HO_83 := n0_
                 have BK147 := n1_
                 have BK148 := n2_
                 have BK154 := n3_
                 have HB := n4_
                 clear n0_ n1_ n2_ n3_ n4_
                 (try clear hb)
                 (try clear hb2)
                 (try clear hk)
                 (try clear hi)
                 refine hK.out _ _ ⟨(blk_cell BK147.out 0).trans rfl, (blk_cell BK147.out 1).trans rfl, (blk_cell BK148.out 0).trans rfl, (blk_cell BK148.out 1).trans rfl⟩ (fun hHeld => ?_)
                 clear hK K
                 refine norm_ (a' := ?_) ?_ ?_
                 rotate_left
                 ·show Act.put _ (some 127) _ = _
                  simp only [Act.put, List.setIfInBounds_toArray, List.set_cons_zero, List.set_cons_succ, i64_w, i32_w]
                  rfl
                 refine pure_ (i := 20) (N := some 128) (v := ?_) (a' := ?_) #[true, true, true, true, true, true, true, true, true, true, true, true, true, true, true, true, true, true, true, true, true, false, false, false, false, false, false, false, false] rfl rfl (any_of HT_.out (by kernel_rfl)) (fun _ _ _ h => h) (Or.inl ⟨by rfl, ?_⟩) ?_ ?_
                 rotate_left
                 ·intro w'
                  go_simp
                  with_reducible rfl
                 rotate_left
                 ·simp only [Act.put, List.setIfInBounds_toArray, List.set_cons_zero, List.set_cons_succ, i64_w, i32_w]
                  rfl
                 refine pure_ (i := 21) (N := some 129) (v := ?_) (a' := ?_) #[true, true, true, true, true, true, true, true, true, true, true, true, true, true, true, true, true, true, true, true, true, true, false, false, false, false, false, false, false] rfl rfl (any_of HT_.out (by kernel_rfl)) (fun _ _ _ h => h) (Or.inl ⟨by rfl, ?_⟩) ?_ ?_
                 rotate_left
                 ·intro w'
                  go_simp
                  with_reducible rfl
                 rotate_left
                 ·simp only [Act.put, List.setIfInBounds_toArray, List.set_cons_zero, List.set_cons_succ, i64_w, i32_w]
                  rfl
                 refine pure_ (i := 22) (N := some 130) (v := ?_) (a' := ?_) #[true, true, true, true, true, true, true, true, true, true, true, true, true, true, true, true, true, true, true, true, true, true, true, false, false, false, false, false, false] rfl rfl (any_of HT_.out (by kernel_rfl)) (fun _ _ _ h => h) (Or.inl ⟨by rfl, ?_⟩) ?_ ?_
                 rotate_left
                 ·intro w'
                  go_simp
                  with_reducible rfl
                 rotate_left
                 ·simp only [Act.put, List.setIfInBounds_toArray, List.set_cons_zero, List.set_cons_succ, i64_w, i32_w]
                  rfl
                 refine pure_ (i := 23) (N := some 131) (v := ?_) (a' := ?_) #[true, true, true, true, true, true, true, true, true, true, true, true, true, true, true, true, true, true, true, true, true, true, true, true, false, false, false, false, false] rfl rfl (any_of HT_.out (by kernel_rfl)) (fun _ _ _ h => h) (Or.inl ⟨by rfl, ?_⟩) ?_ ?_
                 rotate_left
                 ·intro w'
                  go_simp
                  with_reducible rfl
                 rotate_left
                 ·simp only [Act.put, List.setIfInBounds_toArray, List.set_cons_zero, List.set_cons_succ, i64_w, i32_w]
                  rfl
                 refine pure_ (i := 24) (N := some 132) (v := ?_) (a' := ?_) #[true, true, true, true, true, true, true, true, true, true, true, true, true, true, true, true, true, true, true, true, true, true, true, true, true, false, false, false, false] rfl rfl (any_of HT_.out (by kernel_rfl)) (fun _ _ _ h => h) (Or.inl ⟨by rfl, ?_⟩) ?_ ?_
                 rotate_left
                 ·intro w'
                  go_simp
                  with_reducible rfl
                 rotate_left
                 ·simp only [Act.put, List.setIfInBounds_toArray, List.set_cons_zero, List.set_cons_succ, i64_w, i32_w]
                  rfl
                 refine one_ (i := 25) (N := some 133) #[true, true, true, true, true, true, true, true, true, true, true, true, true, true, true, true, true, true, true, true, true, true, true, true, true, true, false, false, false] rfl rfl (one_of HT_.out (by kernel_rfl)) (by decide) (fun K hK => ?_)
                 refine goes_ Tryd.func13 (by kernel_rfl) rfl #[.int .i64 (wrap64 (a3)), .int .i64 3] (by rfl) rfl rfl (by (try simp only [List.map_toArray, List.map_cons, List.map_nil]); first | done | rfl | (simp only [List.length_drop, List.length_take]; rfl)) ?_
                 with_reducible refine (guichethelp_Place.calls (wrap64 (a3)) 3 t177 _ A100.out).mono ?_
                 rintro e w' ⟨rfl, ⟨nd, rfl⟩⟩
                 refine ⟨_, rfl, ?_⟩
                 refine hK.out _ _ ⟨(blk_cell BK147.out 0).trans rfl, (blk_cell BK147.out 1).trans rfl, (blk_cell BK148.out 0).trans rfl, (blk_cell BK148.out 1).trans rfl⟩ (fun hHeld => ?_)
                 clear hK K
                 refine norm_ (a' := ?_) ?_ ?_
                 rotate_left
                 ·show Act.put _ (some 133) _ = _
                  simp only [Act.put, List.setIfInBounds_toArray, List.set_cons_zero, List.set_cons_succ, i64_w, i32_w]
                  rfl
                 refine pure_ (i := 26) (N := some 134) (v := ?_) (a' := ?_) #[true, true, true, true, true, true, true, true, true, true, true, true, true, true, true, true, true, true, true, true, true, true, true, true, true, true, true, false, false] rfl rfl (any_of HT_.out (by kernel_rfl)) (fun _ _ _ h => h) (Or.inl ⟨by rfl, ?_⟩) ?_ ?_
                 rotate_left
                 ·intro w'
                  go_simp
                  with_reducible rfl
                 rotate_left
                 ·simp only [Act.put, List.setIfInBounds_toArray, List.set_cons_zero, List.set_cons_succ, i64_w, i32_w]
                  rfl
                 refine pure_ (i := 27) (N := some 135) (v := ?_) (a' := ?_) #[true, true, true, true, true, true, true, true, true, true, true, true, true, true, true, true, true, true, true, true, true, true, true, true, true, true, true, true, false] rfl rfl (any_of HT_.out (by kernel_rfl)) (fun _ _ _ h => h) (Or.inl ⟨by rfl, ?_⟩) ?_ ?_
                 rotate_left
                 ·intro w'
                  go_simp
                  with_reducible rfl
                 rotate_left
                 ·simp only [Act.put, List.setIfInBounds_toArray, List.set_cons_zero, List.set_cons_succ, i64_w, i32_w]
                  rfl
                 refine pure_ (i := 28) (N := some 12) (v := ?_) (a' := ?_) #[true, true, true, true, true, true, true, true, true, true, true, true, true, true, true, true, true, true, true, true, true, true, true, true, true, true, true, true, true] rfl rfl (any_of HT_.out (by kernel_rfl)) (fun _ _ _ h => h) (Or.inl ⟨by rfl, ?_⟩) ?_ ?_
                 rotate_left
                 ·intro w'
                  go_simp
                  with_reducible rfl
                 rotate_left
                 ·simp only [Act.put, List.setIfInBounds_toArray, List.set_cons_zero, List.set_cons_succ, i64_w, i32_w]
                  rfl
                 refine done_ (done_of HT_.out (by kernel_rfl)) ?_; (try simp only [IntKind.wrap_u32]); (try simp only [c76b0])
                 try go_wp2
                 go_ret
                 exact ⟨by first | rfl | (simp [errW_none, errW_some] <;> rfl) | (simp only [← hji59]; first | rfl | (simp [errW_none, errW_some] <;> rfl)) | (simp [*, errW_none, errW_some] <;> rfl), by repeat (first | (with_reducible first | exact HB.out | apply below_alloc | apply pw_below_drewN | apply below_drew1 | refine below_set ?_ GE147.out | refine below_set ?_ GE148.out | refine below_set ?_ GE154.out) | exact HB.out)⟩
               ·rw [if_neg c97] at H
                have c97b0 : (t174 == t175) = false := by simpa using c97
                (try (have c97b1 : decide (t174 = t175) = false := by simpa using c97))
                (try (have c97b2 : (t174 == t175) = false := by simpa using c97))
                (try (have c97b3 : ¬ (t174 = t175) := by simpa using c97))
                clear c97
                exact absurd H (by simp)
              ·rw [if_neg c94] at H
               have c94b0 : (t172 == t173) = false := by simpa using c94
               (try (have c94b1 : decide (t172 = t173) = false := by simpa using c94))
               (try (have c94b2 : (t172 == t173) = false := by simpa using c94))
               (try (have c94b3 : ¬ (t172 = t173) := by simpa using c94))
               clear c94
               exact absurd H (by simp)
          ·rw [if_neg c63] at H
           exact absurd H (by simp)
         ·rw [if_neg c61] at H
          exact absurd H (by simp)
        ·rw [if_neg c60] at H
         exact absurd H (by simp)
 ·replace c8 := Bool.eq_false_iff.mpr c8
  subst c8
  have H1 : (none) = some r := by rw [if_neg (show ¬ (false = true) by decide)] at H; exact H
  clear H
  have H := H1
  clear H1
  exact absurd H (by simp)

/-- THE ONE PURE STATEMENT of guichetlaw10_StanTexts. -/
def guichetlaw10_StanTexts.Pure : Prop := ∀ (a0_0 : Int) (a0_1 : Int) (a1_0 : Int) (a1_1 : Int) (a2 : ByteArray) (a3 : Int) (a4 : Int) (a5 : Bool), (Lit.int .u16 a0_0).wf = true → (Lit.int .u32 a0_1).wf = true → (Lit.int .u16 a1_0).wf = true → (Lit.int .u32 a1_1).wf = true → a2.size ≤ 140737488351232 → (Lit.int .u8 a3).wf = true → (Lit.int .u8 a4).wf = true → ∃ k, guichetlaw10_StanTexts.f k a0_0 a0_1 a1_0 a1_1 a2 a3 a4 a5 = some true
theorem guichetlaw10_StanTexts.walk (P : guichetlaw10_StanTexts.Pure) (a0_0 : Int) (a0_1 : Int) (a1_0 : Int) (a1_1 : Int) (a2 : ByteArray) (a3 : Int) (a4 : Int) (a5 : Bool) (w : World) (hT : TAB w) (w0_0 : (Lit.int .u16 a0_0).wf = true) (w0_1 : (Lit.int .u32 a0_1).wf = true) (w1_0 : (Lit.int .u16 a1_0).wf = true) (w1_1 : (Lit.int .u32 a1_1).wf = true) (w2 : a2.size ≤ 140737488351232) (w3 : (Lit.int .u8 a3).wf = true) (w4 : (Lit.int .u8 a4).wf = true) :
  Calls Tryd.prog 3 #[.agg #[.int .u16 a0_0, .int .u32 a0_1], .agg #[.int .u16 a1_0, .int .u32 a1_1], .string a2, .int .u8 a3, .int .u8 a4, .bool a5] w fun e w' => e = .returned (.bool true) ∧ Below w.heap.size w w' := by
 obtain ⟨k, h⟩ := P a0_0 a0_1 a1_0 a1_1 a2 a3 a4 a5 w0_0 w0_1 w1_0 w1_1 w2 w3 w4
 refine (guichetlaw10_StanTexts.calls k a0_0 a0_1 a1_0 a1_1 a2 a3 a4 a5 true w hT h).mono ?_
 rintro e w' ⟨rfl, hd⟩
 exact ⟨rfl, hd⟩

end Go.Proofs.YtidjkodejcnolaaDoor.PAll
