-- written by xprint.py out of the translation. Not trusted: Lean checks it.
import Derived.Test.YtbpkkgifjcpekaaDoorPAllx0
import Derived.Test.YtbpkkgifjcpekaaDoorPAllx2
import Derived.Test.YtbpkkgifjcpekaaDoorPAllx3
import Derived.Test.YtbpkkgifjcpekaaDoorPAllx5
import Derived.Test.YtbpkkgifjcpekaaDoorPAllx7
namespace Go.Proofs.YtbpkkgifjcpekaaDoor.PAll
open Go.RowKit Go.Proofs.YtbpkkgifjcpekaaDoorW.PrintWords Go.Proofs.YtbpkkgifjcpekaaDoorW.PrintLast Go.Proofs.YtbpkkgifjcpekaaDoorW.PrintMore
attribute [local go_sem] max2_int min2_int max_two min_two max_three min_three max_four min_four   -- for this text's walks alone
set_option linter.unusedVariables false
set_option linter.unusedSimpArgs false

/-! ### guichetlaw11_WireReads: function 5 -/
mutual
def guichetlaw11_WireReads.j0 : Nat → List Int → List Int → Bool → Option (Bool)
  | 0, _, _, _ => none
  | k + 1, x0, x1, x27 => if x27 = true then (some true) else (guichetlaw11_WireReads.l0 k x0 x1 ([] : List Int) 0)
def guichetlaw11_WireReads.l0 : Nat → List Int → List Int → List Int → Int → Option (Bool)
  | 0, _, _, _, _ => none
  | k + 1, x0, x1, x5, x6 => if x6 < (x1.length : Int) then (if 0 ≤ x6 then (if (Int.tmod (rd x1 x6) 8) = 0 then (guichetlaw11_WireReads.j2 k x0 x1 x5 x6 (Int.tmod (rd x1 x6) 8) ((Int.tmod (rd x1 x6) 8) == 0)) else (guichetlaw11_WireReads.j2 k x0 x1 x5 x6 (Int.tmod (rd x1 x6) 8) ((Int.tmod (rd x1 x6) 8) == 1))) else (none)) else ((some (([x0, x5] : List (List Int)) : List (List Int))).bind fun y382 => (guichetlaw11_WireReads.l1 k y382 (y382.length : Int) 0))
def guichetlaw11_WireReads.j2 : Nat → List Int → List Int → List Int → Int → Int → Bool → Option (Bool)
  | 0, _, _, _, _, _, _ => none
  | k + 1, x0, x1, x5, x6, x38, x46 => if x46 = true then (if x5.length < 140737488355328 then (guichetlaw11_WireReads.l0 k x0 x1 (x5 ++ [2]) (wrap64 (x6 + 1))) else (none)) else (if x38 = 2 then (guichetlaw11_WireReads.j3 k x0 x1 x5 x6 x38 (x38 == 2)) else (guichetlaw11_WireReads.j3 k x0 x1 x5 x6 x38 (x38 == 3)))
def guichetlaw11_WireReads.j3 : Nat → List Int → List Int → List Int → Int → Int → Bool → Option (Bool)
  | 0, _, _, _, _, _, _ => none
  | k + 1, x0, x1, x5, x6, x38, x52 => if x52 = true then (if x5.length < 140737488355328 then (guichetlaw11_WireReads.l0 k x0 x1 (x5 ++ [3]) (wrap64 (x6 + 1))) else (none)) else (if x38 = 4 then ((some (([97, 98] : List Int) : List Int)).bind fun y355 => (if x5.length + y355.length < 140737488355328 then (guichetlaw11_WireReads.l0 k x0 x1 (x5 ++ y355) (wrap64 (x6 + 1))) else (none))) else (if x38 = 5 then (if 0 ≤ x6 then (if x6 < (x1.length : Int) then ((guichetref1_Frame.f k (([120, (((Int.tdiv (rd x1 x6) 8) % 256) + 60) % 256] : List Int))).bind fun bt365 => (if x5.length + bt365.1.length < 140737488355328 then (guichetlaw11_WireReads.l0 k x0 x1 (x5 ++ bt365.1) (wrap64 (x6 + 1))) else (none))) else (none)) else (none)) else (if x38 = 6 then ((some (([2, 3, 3] : List Int) : List Int)).bind fun y372 => (if x5.length + y372.length < 140737488355328 then (guichetlaw11_WireReads.l0 k x0 x1 (x5 ++ y372) (wrap64 (x6 + 1))) else (none))) else (if 0 ≤ x6 then (if x6 < (x1.length : Int) then (if x5.length < 140737488355328 then (guichetlaw11_WireReads.l0 k x0 x1 (x5 ++ [rd x1 x6]) (wrap64 (x6 + 1))) else (none)) else (none)) else (none)))))
def guichetlaw11_WireReads.l1 : Nat → List (List Int) → Int → Int → Option (Bool)
  | 0, _, _, _ => none
  | k + 1, x86, x87, x88 => if x88 < x87 then (if 0 ≤ x88 then (if x88 < (x86.length : Int) then (guichetlaw11_WireReads.l2 k (rd_L3 x86 x88) 0 x86 x87 x88) else (none)) else (none)) else (some true)
def guichetlaw11_WireReads.l2 : Nat → List Int → Int → List (List Int) → Int → Int → Option (Bool)
  | 0, _, _, _, _, _ => none
  | k + 1, x10, x11, x86, x87, x88 => if x11 < 10 then ((wire_Unframe.f k x10).bind fun bt386 => ((guichetref1_Unframe.f k x10).bind fun bt391 => (if (strOfNums bt386.1).toList = (strOfNums bt391.1).toList then (if bt386.2.1 = bt391.2.1 then (guichetlaw11_WireReads.j6 k x10 x11 bt386.2.2 bt391.2.1 x86 x87 x88 (bt386.2.2 != bt391.2.2)) else (guichetlaw11_WireReads.j6 k x10 x11 bt386.2.2 bt391.2.1 x86 x87 x88 true)) else (guichetlaw11_WireReads.j6 k x10 x11 bt386.2.2 bt391.2.1 x86 x87 x88 true)))) else (guichetlaw11_WireReads.l1 k x86 x87 (wrap64 (x88 + 1)))
def guichetlaw11_WireReads.j6 : Nat → List Int → Int → Bool → Int → List (List Int) → Int → Int → Bool → Option (Bool)
  | 0, _, _, _, _, _, _, _, _ => none
  | k + 1, x10, x11, x14, x16, x86, x87, x88, x122 => if x122 = true then (some false) else (if x14 = true then (if 0 ≤ x16 then (if x16 ≤ (x10.length : Int) then (guichetlaw11_WireReads.l2 k (x10.drop (x16 : Int).toNat) (wrap64 (x11 + 1)) x86 x87 x88) else (none)) else (none)) else (guichetlaw11_WireReads.l1 k x86 x87 (wrap64 (x88 + 1))))
end
def guichetlaw11_WireReads.f (k : Nat) (l0 : List Int) (l1 : List Int) : Option (Bool) := (guichetlaw11_known.f k).bind fun t347 => (if t347 = true then (if (l0.length : Int) > 200 then (guichetlaw11_WireReads.j0 k l0 l1 true) else (guichetlaw11_WireReads.j0 k l0 l1 (decide ((l1.length : Int) > 40)))) else (some false))
theorem guichetlaw11_WireReads.mono_l : ∀ k, (∀ y0 y1 y2, LeO (guichetlaw11_WireReads.j0 k y0 y1 y2) (guichetlaw11_WireReads.j0 (k + 1) y0 y1 y2)) ∧ (∀ y0 y1 y2 y3, LeO (guichetlaw11_WireReads.l0 k y0 y1 y2 y3) (guichetlaw11_WireReads.l0 (k + 1) y0 y1 y2 y3)) ∧ (∀ y0 y1 y2 y3 y4 y5, LeO (guichetlaw11_WireReads.j2 k y0 y1 y2 y3 y4 y5) (guichetlaw11_WireReads.j2 (k + 1) y0 y1 y2 y3 y4 y5)) ∧ (∀ y0 y1 y2 y3 y4 y5, LeO (guichetlaw11_WireReads.j3 k y0 y1 y2 y3 y4 y5) (guichetlaw11_WireReads.j3 (k + 1) y0 y1 y2 y3 y4 y5)) ∧ (∀ y0 y1 y2, LeO (guichetlaw11_WireReads.l1 k y0 y1 y2) (guichetlaw11_WireReads.l1 (k + 1) y0 y1 y2)) ∧ (∀ y0 y1 y2 y3 y4, LeO (guichetlaw11_WireReads.l2 k y0 y1 y2 y3 y4) (guichetlaw11_WireReads.l2 (k + 1) y0 y1 y2 y3 y4)) ∧ (∀ y0 y1 y2 y3 y4 y5 y6 y7, LeO (guichetlaw11_WireReads.j6 k y0 y1 y2 y3 y4 y5 y6 y7) (guichetlaw11_WireReads.j6 (k + 1) y0 y1 y2 y3 y4 y5 y6 y7))
  | 0 => ⟨fun _ _ _ r h => by simp [guichetlaw11_WireReads.j0] at h, fun _ _ _ _ r h => by simp [guichetlaw11_WireReads.l0] at h, fun _ _ _ _ _ _ r h => by simp [guichetlaw11_WireReads.j2] at h, fun _ _ _ _ _ _ r h => by simp [guichetlaw11_WireReads.j3] at h, fun _ _ _ r h => by simp [guichetlaw11_WireReads.l1] at h, fun _ _ _ _ _ r h => by simp [guichetlaw11_WireReads.l2] at h, fun _ _ _ _ _ _ _ _ r h => by simp [guichetlaw11_WireReads.j6] at h⟩
  | k + 1 => by
    obtain ⟨ih0, ih1, ih2, ih3, ih4, ih5, ih6⟩ := guichetlaw11_WireReads.mono_l k
    refine ⟨?_, ?_, ?_, ?_, ?_, ?_, ?_⟩
    · intro y0 y1 y2
      unfold guichetlaw11_WireReads.j0
      repeat' first
      | (with_reducible exact ih0 _ _ _)
      | (with_reducible exact ih1 _ _ _ _)
      | (with_reducible exact ih2 _ _ _ _ _ _)
      | (with_reducible exact ih3 _ _ _ _ _ _)
      | (with_reducible exact ih4 _ _ _)
      | (with_reducible exact ih5 _ _ _ _ _)
      | (with_reducible exact ih6 _ _ _ _ _ _ _ _)
      | (with_reducible exact guichetlaw11_known.mono _)
      | (with_reducible exact guichetref1_Frame.mono _ _)
      | (with_reducible exact guichetref1_Unframe.mono _ _)
      | (with_reducible exact wire_Unframe.mono _ _)
      | (with_reducible exact LeO.refl _)
      | (with_reducible exact LeO.none _)
      | (with_reducible refine LeO.ite ?_ ?_)
      | (with_reducible refine LeO.bind ?_ (fun _ => ?_))
      | exact ih0 _ _ _
      | exact ih1 _ _ _ _
      | exact ih2 _ _ _ _ _ _
      | exact ih3 _ _ _ _ _ _
      | exact ih4 _ _ _
      | exact ih5 _ _ _ _ _
      | exact ih6 _ _ _ _ _ _ _ _
      | exact guichetlaw11_known.mono _
      | exact guichetref1_Frame.mono _ _
      | exact guichetref1_Unframe.mono _ _
      | exact wire_Unframe.mono _ _
      | exact LeO.none _
      | refine LeO.ite ?_ ?_
      | refine LeO.bind ?_ (fun _ => ?_)
    · intro y0 y1 y2 y3
      unfold guichetlaw11_WireReads.l0
      repeat' first
      | (with_reducible exact ih0 _ _ _)
      | (with_reducible exact ih1 _ _ _ _)
      | (with_reducible exact ih2 _ _ _ _ _ _)
      | (with_reducible exact ih3 _ _ _ _ _ _)
      | (with_reducible exact ih4 _ _ _)
      | (with_reducible exact ih5 _ _ _ _ _)
      | (with_reducible exact ih6 _ _ _ _ _ _ _ _)
      | (with_reducible exact guichetlaw11_known.mono _)
      | (with_reducible exact guichetref1_Frame.mono _ _)
      | (with_reducible exact guichetref1_Unframe.mono _ _)
      | (with_reducible exact wire_Unframe.mono _ _)
      | (with_reducible exact LeO.refl _)
      | (with_reducible exact LeO.none _)
      | (with_reducible refine LeO.ite ?_ ?_)
      | (with_reducible refine LeO.bind ?_ (fun _ => ?_))
      | exact ih0 _ _ _
      | exact ih1 _ _ _ _
      | exact ih2 _ _ _ _ _ _
      | exact ih3 _ _ _ _ _ _
      | exact ih4 _ _ _
      | exact ih5 _ _ _ _ _
      | exact ih6 _ _ _ _ _ _ _ _
      | exact guichetlaw11_known.mono _
      | exact guichetref1_Frame.mono _ _
      | exact guichetref1_Unframe.mono _ _
      | exact wire_Unframe.mono _ _
      | exact LeO.none _
      | refine LeO.ite ?_ ?_
      | refine LeO.bind ?_ (fun _ => ?_)
    · intro y0 y1 y2 y3 y4 y5
      unfold guichetlaw11_WireReads.j2
      repeat' first
      | (with_reducible exact ih0 _ _ _)
      | (with_reducible exact ih1 _ _ _ _)
      | (with_reducible exact ih2 _ _ _ _ _ _)
      | (with_reducible exact ih3 _ _ _ _ _ _)
      | (with_reducible exact ih4 _ _ _)
      | (with_reducible exact ih5 _ _ _ _ _)
      | (with_reducible exact ih6 _ _ _ _ _ _ _ _)
      | (with_reducible exact guichetlaw11_known.mono _)
      | (with_reducible exact guichetref1_Frame.mono _ _)
      | (with_reducible exact guichetref1_Unframe.mono _ _)
      | (with_reducible exact wire_Unframe.mono _ _)
      | (with_reducible exact LeO.refl _)
      | (with_reducible exact LeO.none _)
      | (with_reducible refine LeO.ite ?_ ?_)
      | (with_reducible refine LeO.bind ?_ (fun _ => ?_))
      | exact ih0 _ _ _
      | exact ih1 _ _ _ _
      | exact ih2 _ _ _ _ _ _
      | exact ih3 _ _ _ _ _ _
      | exact ih4 _ _ _
      | exact ih5 _ _ _ _ _
      | exact ih6 _ _ _ _ _ _ _ _
      | exact guichetlaw11_known.mono _
      | exact guichetref1_Frame.mono _ _
      | exact guichetref1_Unframe.mono _ _
      | exact wire_Unframe.mono _ _
      | exact LeO.none _
      | refine LeO.ite ?_ ?_
      | refine LeO.bind ?_ (fun _ => ?_)
    · intro y0 y1 y2 y3 y4 y5
      unfold guichetlaw11_WireReads.j3
      repeat' first
      | (with_reducible exact ih0 _ _ _)
      | (with_reducible exact ih1 _ _ _ _)
      | (with_reducible exact ih2 _ _ _ _ _ _)
      | (with_reducible exact ih3 _ _ _ _ _ _)
      | (with_reducible exact ih4 _ _ _)
      | (with_reducible exact ih5 _ _ _ _ _)
      | (with_reducible exact ih6 _ _ _ _ _ _ _ _)
      | (with_reducible exact guichetlaw11_known.mono _)
      | (with_reducible exact guichetref1_Frame.mono _ _)
      | (with_reducible exact guichetref1_Unframe.mono _ _)
      | (with_reducible exact wire_Unframe.mono _ _)
      | (with_reducible exact LeO.refl _)
      | (with_reducible exact LeO.none _)
      | (with_reducible refine LeO.ite ?_ ?_)
      | (with_reducible refine LeO.bind ?_ (fun _ => ?_))
      | exact ih0 _ _ _
      | exact ih1 _ _ _ _
      | exact ih2 _ _ _ _ _ _
      | exact ih3 _ _ _ _ _ _
      | exact ih4 _ _ _
      | exact ih5 _ _ _ _ _
      | exact ih6 _ _ _ _ _ _ _ _
      | exact guichetlaw11_known.mono _
      | exact guichetref1_Frame.mono _ _
      | exact guichetref1_Unframe.mono _ _
      | exact wire_Unframe.mono _ _
      | exact LeO.none _
      | refine LeO.ite ?_ ?_
      | refine LeO.bind ?_ (fun _ => ?_)
    · intro y0 y1 y2
      unfold guichetlaw11_WireReads.l1
      repeat' first
      | (with_reducible exact ih0 _ _ _)
      | (with_reducible exact ih1 _ _ _ _)
      | (with_reducible exact ih2 _ _ _ _ _ _)
      | (with_reducible exact ih3 _ _ _ _ _ _)
      | (with_reducible exact ih4 _ _ _)
      | (with_reducible exact ih5 _ _ _ _ _)
      | (with_reducible exact ih6 _ _ _ _ _ _ _ _)
      | (with_reducible exact guichetlaw11_known.mono _)
      | (with_reducible exact guichetref1_Frame.mono _ _)
      | (with_reducible exact guichetref1_Unframe.mono _ _)
      | (with_reducible exact wire_Unframe.mono _ _)
      | (with_reducible exact LeO.refl _)
      | (with_reducible exact LeO.none _)
      | (with_reducible refine LeO.ite ?_ ?_)
      | (with_reducible refine LeO.bind ?_ (fun _ => ?_))
      | exact ih0 _ _ _
      | exact ih1 _ _ _ _
      | exact ih2 _ _ _ _ _ _
      | exact ih3 _ _ _ _ _ _
      | exact ih4 _ _ _
      | exact ih5 _ _ _ _ _
      | exact ih6 _ _ _ _ _ _ _ _
      | exact guichetlaw11_known.mono _
      | exact guichetref1_Frame.mono _ _
      | exact guichetref1_Unframe.mono _ _
      | exact wire_Unframe.mono _ _
      | exact LeO.none _
      | refine LeO.ite ?_ ?_
      | refine LeO.bind ?_ (fun _ => ?_)
    · intro y0 y1 y2 y3 y4
      unfold guichetlaw11_WireReads.l2
      repeat' first
      | (with_reducible exact ih0 _ _ _)
      | (with_reducible exact ih1 _ _ _ _)
      | (with_reducible exact ih2 _ _ _ _ _ _)
      | (with_reducible exact ih3 _ _ _ _ _ _)
      | (with_reducible exact ih4 _ _ _)
      | (with_reducible exact ih5 _ _ _ _ _)
      | (with_reducible exact ih6 _ _ _ _ _ _ _ _)
      | (with_reducible exact guichetlaw11_known.mono _)
      | (with_reducible exact guichetref1_Frame.mono _ _)
      | (with_reducible exact guichetref1_Unframe.mono _ _)
      | (with_reducible exact wire_Unframe.mono _ _)
      | (with_reducible exact LeO.refl _)
      | (with_reducible exact LeO.none _)
      | (with_reducible refine LeO.ite ?_ ?_)
      | (with_reducible refine LeO.bind ?_ (fun _ => ?_))
      | exact ih0 _ _ _
      | exact ih1 _ _ _ _
      | exact ih2 _ _ _ _ _ _
      | exact ih3 _ _ _ _ _ _
      | exact ih4 _ _ _
      | exact ih5 _ _ _ _ _
      | exact ih6 _ _ _ _ _ _ _ _
      | exact guichetlaw11_known.mono _
      | exact guichetref1_Frame.mono _ _
      | exact guichetref1_Unframe.mono _ _
      | exact wire_Unframe.mono _ _
      | exact LeO.none _
      | refine LeO.ite ?_ ?_
      | refine LeO.bind ?_ (fun _ => ?_)
    · intro y0 y1 y2 y3 y4 y5 y6 y7
      unfold guichetlaw11_WireReads.j6
      repeat' first
      | (with_reducible exact ih0 _ _ _)
      | (with_reducible exact ih1 _ _ _ _)
      | (with_reducible exact ih2 _ _ _ _ _ _)
      | (with_reducible exact ih3 _ _ _ _ _ _)
      | (with_reducible exact ih4 _ _ _)
      | (with_reducible exact ih5 _ _ _ _ _)
      | (with_reducible exact ih6 _ _ _ _ _ _ _ _)
      | (with_reducible exact guichetlaw11_known.mono _)
      | (with_reducible exact guichetref1_Frame.mono _ _)
      | (with_reducible exact guichetref1_Unframe.mono _ _)
      | (with_reducible exact wire_Unframe.mono _ _)
      | (with_reducible exact LeO.refl _)
      | (with_reducible exact LeO.none _)
      | (with_reducible refine LeO.ite ?_ ?_)
      | (with_reducible refine LeO.bind ?_ (fun _ => ?_))
      | exact ih0 _ _ _
      | exact ih1 _ _ _ _
      | exact ih2 _ _ _ _ _ _
      | exact ih3 _ _ _ _ _ _
      | exact ih4 _ _ _
      | exact ih5 _ _ _ _ _
      | exact ih6 _ _ _ _ _ _ _ _
      | exact guichetlaw11_known.mono _
      | exact guichetref1_Frame.mono _ _
      | exact guichetref1_Unframe.mono _ _
      | exact wire_Unframe.mono _ _
      | exact LeO.none _
      | refine LeO.ite ?_ ?_
      | refine LeO.bind ?_ (fun _ => ?_)
theorem guichetlaw11_WireReads.mono : ∀ a0 a1 k, LeO (guichetlaw11_WireReads.f k a0 a1) (guichetlaw11_WireReads.f (k + 1) a0 a1) := by
  intro a0 a1 k
  obtain ⟨ih0, ih1, ih2, ih3, ih4, ih5, ih6⟩ := guichetlaw11_WireReads.mono_l k
  unfold guichetlaw11_WireReads.f
  repeat' first
      | (with_reducible exact ih0 _ _ _)
      | (with_reducible exact ih1 _ _ _ _)
      | (with_reducible exact ih2 _ _ _ _ _ _)
      | (with_reducible exact ih3 _ _ _ _ _ _)
      | (with_reducible exact ih4 _ _ _)
      | (with_reducible exact ih5 _ _ _ _ _)
      | (with_reducible exact ih6 _ _ _ _ _ _ _ _)
      | (with_reducible exact guichetlaw11_known.mono _)
      | (with_reducible exact guichetref1_Frame.mono _ _)
      | (with_reducible exact guichetref1_Unframe.mono _ _)
      | (with_reducible exact wire_Unframe.mono _ _)
      | (with_reducible exact LeO.refl _)
      | (with_reducible exact LeO.none _)
      | (with_reducible refine LeO.ite ?_ ?_)
      | (with_reducible refine LeO.bind ?_ (fun _ => ?_))
      | exact ih0 _ _ _
      | exact ih1 _ _ _ _
      | exact ih2 _ _ _ _ _ _
      | exact ih3 _ _ _ _ _ _
      | exact ih4 _ _ _
      | exact ih5 _ _ _ _ _
      | exact ih6 _ _ _ _ _ _ _ _
      | exact guichetlaw11_known.mono _
      | exact guichetref1_Frame.mono _ _
      | exact guichetref1_Unframe.mono _ _
      | exact wire_Unframe.mono _ _
      | exact LeO.none _
      | refine LeO.ite ?_ ?_
      | refine LeO.bind ?_ (fun _ => ?_)
set_option maxHeartbeats 8000000 in
set_option maxRecDepth 100000 in
theorem guichetlaw11_WireReads.calls (k : Nat) (P0_ : Nat → Prop) (A0 : Option Addr) (c0 : Nat) (l0 : List Int) (A1 : Option Addr) (c1 : Nat) (l1 : List Int) (r : Bool) (w : World) (hs0 : Kd.V (Kd.int .u8) 5 w w.heap.size (fun k_ => P0_ k_) (.slice A0 l0.length c0) l0) (hr1 : Kd.C (Kd.int .u8) w A1 l1.length l1) (hc1 : l1.length ≤ c1) (h : guichetlaw11_WireReads.f k l0 l1 = some r) :
    Calls Tryd.prog 5 #[.slice A0 l0.length c0, .slice A1 l1.length c1] w fun e w' => e = .returned (.bool r) ∧ Below w.heap.size w w' := by
  have HO0 := Aside0.mk (show Kd.V (Kd.int .u8) 5 w w.heap.size (fun k_ => (P0_ k_ ∨ w.heap.size ≤ k_)) (.slice A0 l0.length c0) l0 from Kd.V_mono hs0 (fun k_ hk => .inl hk))
  have HR1 := Aside0.mk hr1
  have HC1 := Aside0.mk hc1
  clear hr1 hc1
  have HB := Aside0.mk (Below.refl w.heap.size w)
  have H : ((guichetlaw11_known.f k).bind fun t347 => (if t347 = true then (if (l0.length : Int) > 200 then (guichetlaw11_WireReads.j0 k l0 l1 true) else (guichetlaw11_WireReads.j0 k l0 l1 (decide ((l1.length : Int) > 40)))) else (some false))) = some r := h
  clear h
  replace H := Option.bind_eq_some_iff.mp H
  obtain ⟨t347, A30, H⟩ := H
  replace H : (if t347 = true then (if (l0.length : Int) > 200 then (guichetlaw11_WireReads.j0 k l0 l1 true) else (guichetlaw11_WireReads.j0 k l0 l1 (decide ((l1.length : Int) > 40)))) else (some false)) = some r := H
  have A3 := Aside0.mk A30
  clear A30
  by_cases c4 : t347 = true
  · subst c4
    have H1 : (if (l0.length : Int) > 200 then (guichetlaw11_WireReads.j0 k l0 l1 true) else (guichetlaw11_WireReads.j0 k l0 l1 (decide ((l1.length : Int) > 40)))) = some r := by rw [if_pos rfl] at H; exact H
    clear H
    have H := H1
    clear H1
    have HC5 := Aside0.mk H
    clear H
    go_enter Tryd.func5, Tryd.ntmps5
    go_upto_region 3 with (first | ((with_reducible refine gate_callee (f := 9) rfl ?_); refine goesL_ (some 18) rfl rfl Tryd.func9 (by kernel_rfl) rfl #[] rfl (by (try simp only [List.map_toArray, List.map_cons, List.map_nil]); first | done | rfl | (simp only [List.length_drop, List.length_take]; rfl)) ?_; (with_reducible refine (guichetlaw11_known.calls k  true _ A3.out).mono ?_); rintro e w6 ⟨rfl, hb⟩; refine ⟨_, rfl, ?_⟩; have n0_ := Aside0.mk (Kd.V_below (by (with_reducible repeat (first | apply Kd.V_alloc | apply Kd.V_drewN | apply Kd.V_drew)); exact HO0.out) hb); have n1_ := Aside0.mk (below_step (by repeat (first | (with_reducible first | exact HB.out | apply below_alloc | apply pw_below_drewN | apply below_drew1) | exact HB.out)) hb); clear HO0; clear HB; have HO0 := n0_; have HB := n1_; clear n0_ n1_; (try clear hb); (try clear hb2); (try clear hk); (try clear hi)))
    (try simp only [Act.put, List.setIfInBounds_toArray, List.set_cons_zero, List.set_cons_succ])
    go_cut [27] (fun v27 wc => ∃ (kq : Nat) (x27_4 : Bool), v27 = .bool x27_4 ∧ Aside0 (guichetlaw11_WireReads.j0 kq l0 l1 x27_4 = some r) ∧ Aside0 (kq ≤ k) ∧ Aside0 (Kd.V (Kd.int .u8) 5 wc w.heap.size (fun k_ => (P0_ k_ ∨ w.heap.size ≤ k_)) (.slice A0 l0.length c0) l0) ∧ Aside0 (Below w.heap.size w wc))
    case first =>
      have H := HC5.out
      clear HC5
      by_cases c7 : (l0.length : Int) > 200
      · rw [if_pos c7] at H
        have c7b0 : decide (200 < (l0.length : Int)) = true := decide_eq_true c7
        have c7b1 : decide (200 < l0.length) = true := decide_eq_true (by omega)
        clear c7
        (first | rw [c7b0] | (simp only [i64_w, i32_w]; rw [c7b0]) | skip)
        have H' := Aside0.mk H
        clear H
        go_wp2
        go_meet
        case rel => exact ⟨_, (true), (by first | rfl | (simp; done) | (simp [*]; done)), H', ⟨by first | omega | exact Nat.le_refl _⟩, ⟨by (with_reducible repeat (first | apply Kd.V_alloc | apply Kd.V_drewN | apply Kd.V_drew)); exact HO0.out⟩, ⟨by repeat (first | (with_reducible first | exact HB.out | apply below_alloc | apply pw_below_drewN | apply below_drew1) | exact HB.out)⟩⟩
      · rw [if_neg c7] at H
        have c7b0 : decide (200 < (l0.length : Int)) = false := decide_eq_false c7
        have c7b1 : decide (200 < l0.length) = false := decide_eq_false (by omega)
        clear c7
        (first | rw [c7b0] | (simp only [i64_w, i32_w]; rw [c7b0]) | skip)
        have H' := Aside0.mk H
        clear H
        go_wp2
        go_meet
        case rel => exact ⟨_, (decide ((l1.length : Int) > 40)), (by first | rfl | (simp; done) | (simp [*]; done)), H', ⟨by first | omega | exact Nat.le_refl _⟩, ⟨by (with_reducible repeat (first | apply Kd.V_alloc | apply Kd.V_drewN | apply Kd.V_drew)); exact HO0.out⟩, ⟨by repeat (first | (with_reducible first | exact HB.out | apply below_alloc | apply pw_below_drewN | apply below_drew1) | exact HB.out)⟩⟩
    case rest =>
      clear HC5
      try clear c1
      try clear p2
      try clear c4
      try clear c5
      try clear c7
      try clear c7b0
      try clear c7b1
      obtain ⟨kq, x27_4, rfl, HA, HJ4, HO_0, HB⟩ := hcut
      cases kq with
      | zero => exact absurd HA.out (by simp [guichetlaw11_WireReads.j0])
      | succ kj4 =>
        have H := HA.out
        clear HA
        simp only [guichetlaw11_WireReads.j0] at H
        by_cases c8 : x27_4 = true
        · subst c8
          have H1 : (some true) = some r := by rw [if_pos rfl] at H; exact H
          clear H
          have H := H1
          clear H1
          obtain rfl := Option.some.inj H
          go_wp2
          go_ret
          exact ⟨by first | rfl | (simp [errW_none, errW_some] <;> rfl) | (simp [*, errW_none, errW_some] <;> rfl), by repeat (first | (with_reducible first | exact HB.out | apply below_alloc | apply pw_below_drewN | apply below_drew1) | exact HB.out)⟩
        · replace c8 := Bool.eq_false_iff.mpr c8
          subst c8
          have H1 : (guichetlaw11_WireReads.l0 kj4 l0 l1 ([] : List Int) 0) = some r := by rw [if_neg (show ¬ (false = true) by decide)] at H; exact H
          clear H
          have H := H1
          clear H1
          have H' := Aside0.mk H
          clear H
          go_wp2
          go_loopg [5, 6] kj4 (fun kq v5 v6 w' => ∃ (x5_2 : List Int) (x6_2 : Int), v6 = .int .i64 x6_2 ∧ Aside0 (guichetlaw11_WireReads.l0 kq l0 l1 x5_2 x6_2 = some r) ∧ Aside0 (kq ≤ kj4) ∧ Aside0 (Kd.V (Kd.int .u8) 5 w' w.heap.size (fun k_ => (P0_ k_ ∨ w.heap.size ≤ k_) ∧ some k_ ≠ (v5 : Value).ownBlock) (.slice A0 l0.length c0) l0) ∧ Aside0 (Kd.R (Kd.int .u8) 5 w' w.heap.size (fun k_ => (w.heap.size ≤ k_)) v5 x5_2) ∧ Aside0 (Below w.heap.size w w'))
          case atStart => exact ⟨(([] : List Int)), (0), (by first | rfl | (simp; done) | (simp [*]; done)), H', ⟨Nat.le_refl _⟩, ⟨by (with_reducible repeat (first | apply Kd.V_alloc | apply Kd.V_drewN | apply Kd.V_drew)); exact Kd.V_mono HO_0.out (fun _ hk => ⟨hk, (by simp [Value.ownBlock])⟩)⟩, ⟨by first | exact Kd.R_nil _ _ _ _ _ | exact Kd.N_nil _ _ _ _ _ | exact Kd.V_nil _ _ _ _ _ | exact Kd.Q_nil _ _ _ _ _ | exact Kd.S_nil _ _ _ _ _⟩, ⟨by repeat (first | (with_reducible first | exact HB.out | apply below_alloc | apply pw_below_drewN | apply below_drew1) | exact HB.out)⟩⟩
          case round =>
            clear H'
            try clear c1
            try clear p2
            try clear c4
            try clear c5
            try clear c7
            try clear c7b0
            try clear c7b1
            try clear c8
            try clear p2
            obtain ⟨x5_2, x6_2, rfl, HA, HK2, HO_0, HO_5, HB⟩ := hrel
            cases gk with
            | zero => exact absurd HA.out (by simp [guichetlaw11_WireReads.l0])
            | succ k2 =>
              have H := HA.out
              clear HA
              simp only [guichetlaw11_WireReads.l0] at H
              by_cases c9 : x6_2 < (l1.length : Int)
              · rw [if_pos c9] at H
                have c9b0 : decide (x6_2 < (l1.length : Int)) = true := decide_eq_true c9
                clear c9
                by_cases c10 : 0 ≤ x6_2
                · rw [if_pos c10] at H
                  have c10b0 : decide (0 ≤ x6_2) = true := decide_eq_true c10
                  clear c10
                  have HC11 := Aside0.mk H
                  clear H
                  have p348 : 0 ≤ (x6_2 : Int) := of_decide_eq_true (by first | (with_reducible assumption) | assumption)
                  have q348 : x6_2 < (l1.length : Int) := of_decide_eq_true (by first | (with_reducible assumption) | assumption)
                  obtain ⟨ad348, e348, hx348_0⟩ := Kd.at_int HR1.out x6_2 p348 q348
                  cases e348
                  replace hx348_0 := (HB.out.cell (World.block_lt_of_cell? w _ hx348_0)).trans hx348_0
                  replace p348 := eq_true p348
                  replace q348 := eq_true q348
                  go_upto_if 46 with (fail)
                  go_cut [46] (fun v46 wc => ∃ (kq : Nat) (x46_10 : Bool), v46 = .bool x46_10 ∧ Aside0 (guichetlaw11_WireReads.j2 kq l0 l1 x5_2 x6_2 (Int.tmod (rd l1 x6_2) 8) x46_10 = some r) ∧ Aside0 (kq ≤ k2) ∧ Aside0 (Kd.V (Kd.int .u8) 5 wc w.heap.size (fun k_ => (P0_ k_ ∨ w.heap.size ≤ k_) ∧ some k_ ≠ (u5 : Value).ownBlock) (.slice A0 l0.length c0) l0) ∧ Aside0 (Kd.R (Kd.int .u8) 5 wc w.heap.size (fun k_ => (w.heap.size ≤ k_)) u5 x5_2) ∧ Aside0 (Below w.heap.size w wc))
                  case first =>
                    have H := HC11.out
                    clear HC11
                    by_cases c12 : (Int.tmod (rd l1 x6_2) 8) = 0
                    · rw [if_pos c12] at H
                      have c12b0 : ((Int.tmod (rd l1 x6_2) 8) == 0) = true := beq_iff_eq.mpr c12
                      have c12b1 : ((Int.tmod (rd l1 x6_2) 8) != 0) = false := bne_eq_false_iff_eq.mpr c12
                      clear c12
                      (first | rw [c12b0] | (simp only [i64_w, i32_w]; rw [c12b0]) | skip)
                      have H' := Aside0.mk H
                      clear H
                      go_wp2
                      go_meet
                      case rel => exact ⟨_, (((Int.tmod (rd l1 x6_2) 8) == 0)), (by first | rfl | (simp; done) | (simp [*]; done)), H', ⟨by have := HJ4.out; have := HK2.out; first | omega | exact Nat.le_refl _⟩, ⟨by (with_reducible repeat (first | apply Kd.V_alloc | apply Kd.V_drewN | apply Kd.V_drew)); exact HO_0.out⟩, ⟨by (with_reducible repeat (first | apply Kd.R_alloc | apply Kd.R_drewN | apply Kd.R_drew)); exact HO_5.out⟩, ⟨by repeat (first | (with_reducible first | exact HB.out | apply below_alloc | apply pw_below_drewN | apply below_drew1) | exact HB.out)⟩⟩
                    · rw [if_neg c12] at H
                      have c12b0 : ((Int.tmod (rd l1 x6_2) 8) == 0) = false := beq_eq_false_iff_ne.mpr c12
                      have c12b1 : ((Int.tmod (rd l1 x6_2) 8) != 0) = true := bne_iff_ne.mpr c12
                      (first | rw [c12b0] | (simp only [i64_w, i32_w]; rw [c12b0]) | skip)
                      have H' := Aside0.mk H
                      clear H
                      go_wp2
                      go_meet
                      case rel => exact ⟨_, (((Int.tmod (rd l1 x6_2) 8) == 1)), (by first | rfl | (simp; done) | (simp [*]; done)), H', ⟨by have := HJ4.out; have := HK2.out; first | omega | exact Nat.le_refl _⟩, ⟨by (with_reducible repeat (first | apply Kd.V_alloc | apply Kd.V_drewN | apply Kd.V_drew)); exact HO_0.out⟩, ⟨by (with_reducible repeat (first | apply Kd.R_alloc | apply Kd.R_drewN | apply Kd.R_drew)); exact HO_5.out⟩, ⟨by repeat (first | (with_reducible first | exact HB.out | apply below_alloc | apply pw_below_drewN | apply below_drew1) | exact HB.out)⟩⟩
                  case rest =>
                    clear HC11
                    try clear c1
                    try clear p2
                    try clear p3
                    try clear q3
                    try clear hx3
                    try clear c4
                    try clear c5
                    try clear c7
                    try clear c7b0
                    try clear c7b1
                    try clear c8
                    try clear c9
                    try clear c9b0
                    try clear c10
                    try clear c10b0
                    try clear c12
                    try clear c12b0
                    try clear c12b1
                    try clear hx348_0
                    try clear p2
                    try clear p348
                    try clear q348
                    obtain ⟨kq, x46_10, rfl, HA, HJ10, HO_0, HO_5, HB⟩ := hcut
                    cases kq with
                    | zero => exact absurd HA.out (by simp [guichetlaw11_WireReads.j2])
                    | succ kj10 =>
                      have H := HA.out
                      clear HA
                      simp only [guichetlaw11_WireReads.j2] at H
                      by_cases c13 : x46_10 = true
                      · subst c13
                        have H1 : (if x5_2.length < 140737488355328 then (guichetlaw11_WireReads.l0 kj10 l0 l1 (x5_2 ++ [2]) (wrap64 (x6_2 + 1))) else (none)) = some r := by rw [if_pos rfl] at H; exact H
                        clear H
                        have H := H1
                        clear H1
                        by_cases c14 : x5_2.length < 140737488355328
                        · rw [if_pos c14] at H
                          have LMc14 := Aside0.mk c14
                          clear c14
                          obtain ⟨y349, hy349⟩ : ∃ y_ : List Int, y_ = (x5_2 ++ [2]) := ⟨_, rfl⟩
                          replace H : (guichetlaw11_WireReads.l0 kj10 l0 l1 y349 (wrap64 (x6_2 + 1))) = some r := by first | (rw [hy349]; with_reducible exact H) | (have H2_ := (Option.bind_some _ _).symm.trans H; rw [hy349]; with_reducible exact H2_) | (have H2_ := (Option.bind_some _ _).symm.trans H; with_reducible exact H2_) | with_reducible exact H | (rw [hy349]; exact H) | exact H
                          have Ny349 := Aside0.mk hy349
                          clear hy349
                          have H' := Aside0.mk H
                          clear H
                          go_wp2_with (first | ((with_reducible refine gate_builtin (b := .append) (xs := #[.tmp 49, .tmp 50]) rfl ?_); (try (refine gate_guard (by rfl) ?_; dsimp only)); at_builtin; refine Kd.R_append (Kd.int .u8) (w0 := w) w.heap.size rfl (.tmp 49) (.tmp 50) 22 5 (.int .u8 0) 1 rfl Tryd.underlying22 info5 rfl (by decide) (by omega) u5 x5_2 2 [.int .u8 2] (fun k_ => (w.heap.size ≤ k_)) (fun _ => False) rfl rfl ?aP (fun _ hk => hk.elim) ?aF ?aO ?aB ?aS ?aL ?_; (case aP => exact rfl); (case aB => exact (by repeat (first | (with_reducible first | exact HB.out | apply below_alloc | apply pw_below_drewN | apply below_drew1) | exact HB.out))); (case aF => exact (fun k_ hk => (Nat.le_trans (below_size (by repeat (first | (with_reducible first | exact HB.out | apply below_alloc | apply pw_below_drewN | apply below_drew1) | exact HB.out))) hk))); (case aO => exact (by (with_reducible repeat (first | apply Kd.R_alloc | apply Kd.R_drewN | apply Kd.R_drew)); exact HO_5.out)); (case aS => exact (below_size (by repeat (first | (with_reducible first | exact HB.out | apply below_alloc | apply pw_below_drewN | apply below_drew1) | exact HB.out)))); (case aL => have := LMc14.out; omega); intro v350 w15 ho hb hg hat; rw [← Ny349.out] at ho; have n0_ := Aside0.mk (Kd.V_afterv (ok := (fun k_ => (P0_ k_ ∨ w.heap.size ≤ k_))) (by (with_reducible repeat (first | apply Kd.V_alloc | apply Kd.V_drewN | apply Kd.V_drew)); exact HO_0.out) hg hat); have n1_ := Aside0.mk (hb); have n2_ := Aside0.mk (ho); clear HO_0; clear HB; clear HO_5; have HO_0 := n0_; have HB := n1_; have HO351 := n2_; clear n0_ n1_ n2_; clear ho hb hg hat))
                          go_roundg kj10
                          case measure => have := HJ4.out; have := HK2.out; have := HJ10.out; omega
                          case rel => exact ⟨(y349), (wrap64 (x6_2 + 1)), (by first | rfl | (simp; done) | (simp [*]; done)), H', ⟨by have := HJ4.out; have := HK2.out; have := HJ10.out; omega⟩, ⟨by (with_reducible repeat (first | apply Kd.V_alloc | apply Kd.V_drewN | apply Kd.V_drew)); exact HO_0.out⟩, ⟨by (with_reducible repeat (first | apply Kd.R_alloc | apply Kd.R_drewN | apply Kd.R_drew)); exact HO351.out⟩, ⟨by repeat (first | (with_reducible first | exact HB.out | apply below_alloc | apply pw_below_drewN | apply below_drew1) | exact HB.out)⟩⟩
                        · rw [if_neg c14] at H
                          exact absurd H (by simp)
                      · replace c13 := Bool.eq_false_iff.mpr c13
                        subst c13
                        have H1 : (if (Int.tmod (rd l1 x6_2) 8) = 2 then (guichetlaw11_WireReads.j3 kj10 l0 l1 x5_2 x6_2 (Int.tmod (rd l1 x6_2) 8) ((Int.tmod (rd l1 x6_2) 8) == 2)) else (guichetlaw11_WireReads.j3 kj10 l0 l1 x5_2 x6_2 (Int.tmod (rd l1 x6_2) 8) ((Int.tmod (rd l1 x6_2) 8) == 3))) = some r := by rw [if_neg (show ¬ (false = true) by decide)] at H; exact H
                        clear H
                        have H := H1
                        clear H1
                        have HC16 := Aside0.mk H
                        clear H
                        go_upto_if 52 with (fail)
                        go_cut [52] (fun v52 wc => ∃ (kq : Nat) (x52_15 : Bool), v52 = .bool x52_15 ∧ Aside0 (guichetlaw11_WireReads.j3 kq l0 l1 x5_2 x6_2 (Int.tmod (rd l1 x6_2) 8) x52_15 = some r) ∧ Aside0 (kq ≤ kj10) ∧ Aside0 (Kd.V (Kd.int .u8) 5 wc w.heap.size (fun k_ => (P0_ k_ ∨ w.heap.size ≤ k_) ∧ some k_ ≠ (u5 : Value).ownBlock) (.slice A0 l0.length c0) l0) ∧ Aside0 (Kd.R (Kd.int .u8) 5 wc w.heap.size (fun k_ => (w.heap.size ≤ k_)) u5 x5_2) ∧ Aside0 (Below w.heap.size w wc))
                        case first =>
                          have H := HC16.out
                          clear HC16
                          by_cases c17 : (Int.tmod (rd l1 x6_2) 8) = 2
                          · rw [if_pos c17] at H
                            have c17b0 : ((Int.tmod (rd l1 x6_2) 8) == 2) = true := beq_iff_eq.mpr c17
                            have c17b1 : ((Int.tmod (rd l1 x6_2) 8) != 2) = false := bne_eq_false_iff_eq.mpr c17
                            clear c17
                            (first | rw [c17b0] | (simp only [i64_w, i32_w]; rw [c17b0]) | skip)
                            have H' := Aside0.mk H
                            clear H
                            go_wp2
                            go_meet
                            case rel => exact ⟨_, (((Int.tmod (rd l1 x6_2) 8) == 2)), (by first | rfl | (simp; done) | (simp [*]; done)), H', ⟨by have := HJ4.out; have := HK2.out; have := HJ10.out; first | omega | exact Nat.le_refl _⟩, ⟨by (with_reducible repeat (first | apply Kd.V_alloc | apply Kd.V_drewN | apply Kd.V_drew)); exact HO_0.out⟩, ⟨by (with_reducible repeat (first | apply Kd.R_alloc | apply Kd.R_drewN | apply Kd.R_drew)); exact HO_5.out⟩, ⟨by repeat (first | (with_reducible first | exact HB.out | apply below_alloc | apply pw_below_drewN | apply below_drew1) | exact HB.out)⟩⟩
                          · rw [if_neg c17] at H
                            have c17b0 : ((Int.tmod (rd l1 x6_2) 8) == 2) = false := beq_eq_false_iff_ne.mpr c17
                            have c17b1 : ((Int.tmod (rd l1 x6_2) 8) != 2) = true := bne_iff_ne.mpr c17
                            (first | rw [c17b0] | (simp only [i64_w, i32_w]; rw [c17b0]) | skip)
                            have H' := Aside0.mk H
                            clear H
                            go_wp2
                            go_meet
                            case rel => exact ⟨_, (((Int.tmod (rd l1 x6_2) 8) == 3)), (by first | rfl | (simp; done) | (simp [*]; done)), H', ⟨by have := HJ4.out; have := HK2.out; have := HJ10.out; first | omega | exact Nat.le_refl _⟩, ⟨by (with_reducible repeat (first | apply Kd.V_alloc | apply Kd.V_drewN | apply Kd.V_drew)); exact HO_0.out⟩, ⟨by (with_reducible repeat (first | apply Kd.R_alloc | apply Kd.R_drewN | apply Kd.R_drew)); exact HO_5.out⟩, ⟨by repeat (first | (with_reducible first | exact HB.out | apply below_alloc | apply pw_below_drewN | apply below_drew1) | exact HB.out)⟩⟩
                        case rest =>
                          clear HC16
                          try clear c1
                          try clear p2
                          try clear p3
                          try clear q3
                          try clear hx3
                          try clear c4
                          try clear c5
                          try clear p6
                          try clear c7
                          try clear c7b0
                          try clear c7b1
                          try clear c8
                          try clear c9
                          try clear c9b0
                          try clear c10
                          try clear c10b0
                          try clear c12
                          try clear c12b0
                          try clear c12b1
                          try clear c13
                          try clear c14
                          try clear c17
                          try clear c17b0
                          try clear c17b1
                          try clear hx348_0
                          try clear p2
                          try clear p3
                          try clear p348
                          try clear q3
                          try clear q348
                          obtain ⟨kq, x52_15, rfl, HA, HJ15, HO_0, HO_5, HB⟩ := hcut
                          cases kq with
                          | zero => exact absurd HA.out (by simp [guichetlaw11_WireReads.j3])
                          | succ kj15 =>
                            have H := HA.out
                            clear HA
                            simp only [guichetlaw11_WireReads.j3] at H
                            by_cases c18 : x52_15 = true
                            · subst c18
                              have H1 : (if x5_2.length < 140737488355328 then (guichetlaw11_WireReads.l0 kj15 l0 l1 (x5_2 ++ [3]) (wrap64 (x6_2 + 1))) else (none)) = some r := by rw [if_pos rfl] at H; exact H
                              clear H
                              have H := H1
                              clear H1
                              by_cases c19 : x5_2.length < 140737488355328
                              · rw [if_pos c19] at H
                                have LMc19 := Aside0.mk c19
                                clear c19
                                obtain ⟨y352, hy352⟩ : ∃ y_ : List Int, y_ = (x5_2 ++ [3]) := ⟨_, rfl⟩
                                replace H : (guichetlaw11_WireReads.l0 kj15 l0 l1 y352 (wrap64 (x6_2 + 1))) = some r := by first | (rw [hy352]; with_reducible exact H) | (have H2_ := (Option.bind_some _ _).symm.trans H; rw [hy352]; with_reducible exact H2_) | (have H2_ := (Option.bind_some _ _).symm.trans H; with_reducible exact H2_) | with_reducible exact H | (rw [hy352]; exact H) | exact H
                                have Ny352 := Aside0.mk hy352
                                clear hy352
                                have H' := Aside0.mk H
                                clear H
                                go_wp2_with (first | ((with_reducible refine gate_builtin (b := .append) (xs := #[.tmp 55, .tmp 56]) rfl ?_); (try (refine gate_guard (by rfl) ?_; dsimp only)); at_builtin; refine Kd.R_append (Kd.int .u8) (w0 := w) w.heap.size rfl (.tmp 55) (.tmp 56) 22 5 (.int .u8 0) 1 rfl Tryd.underlying22 info5 rfl (by decide) (by omega) u5 x5_2 3 [.int .u8 3] (fun k_ => (w.heap.size ≤ k_)) (fun _ => False) rfl rfl ?aP (fun _ hk => hk.elim) ?aF ?aO ?aB ?aS ?aL ?_; (case aP => exact rfl); (case aB => exact (by repeat (first | (with_reducible first | exact HB.out | apply below_alloc | apply pw_below_drewN | apply below_drew1) | exact HB.out))); (case aF => exact (fun k_ hk => (Nat.le_trans (below_size (by repeat (first | (with_reducible first | exact HB.out | apply below_alloc | apply pw_below_drewN | apply below_drew1) | exact HB.out))) hk))); (case aO => exact (by (with_reducible repeat (first | apply Kd.R_alloc | apply Kd.R_drewN | apply Kd.R_drew)); exact HO_5.out)); (case aS => exact (below_size (by repeat (first | (with_reducible first | exact HB.out | apply below_alloc | apply pw_below_drewN | apply below_drew1) | exact HB.out)))); (case aL => have := LMc19.out; omega); intro v353 w20 ho hb hg hat; rw [← Ny352.out] at ho; have n0_ := Aside0.mk (Kd.V_afterv (ok := (fun k_ => (P0_ k_ ∨ w.heap.size ≤ k_))) (by (with_reducible repeat (first | apply Kd.V_alloc | apply Kd.V_drewN | apply Kd.V_drew)); exact HO_0.out) hg hat); have n1_ := Aside0.mk (hb); have n2_ := Aside0.mk (ho); clear HO_0; clear HB; clear HO_5; have HO_0 := n0_; have HB := n1_; have HO354 := n2_; clear n0_ n1_ n2_; clear ho hb hg hat))
                                go_roundg kj15
                                case measure => have := HJ4.out; have := HK2.out; have := HJ10.out; have := HJ15.out; omega
                                case rel => exact ⟨(y352), (wrap64 (x6_2 + 1)), (by first | rfl | (simp; done) | (simp [*]; done)), H', ⟨by have := HJ4.out; have := HK2.out; have := HJ10.out; have := HJ15.out; omega⟩, ⟨by (with_reducible repeat (first | apply Kd.V_alloc | apply Kd.V_drewN | apply Kd.V_drew)); exact HO_0.out⟩, ⟨by (with_reducible repeat (first | apply Kd.R_alloc | apply Kd.R_drewN | apply Kd.R_drew)); exact HO354.out⟩, ⟨by repeat (first | (with_reducible first | exact HB.out | apply below_alloc | apply pw_below_drewN | apply below_drew1) | exact HB.out)⟩⟩
                              · rw [if_neg c19] at H
                                exact absurd H (by simp)
                            · replace c18 := Bool.eq_false_iff.mpr c18
                              subst c18
                              have H1 : (if (Int.tmod (rd l1 x6_2) 8) = 4 then ((some (([97, 98] : List Int) : List Int)).bind fun y355 => (if x5_2.length + y355.length < 140737488355328 then (guichetlaw11_WireReads.l0 kj15 l0 l1 (x5_2 ++ y355) (wrap64 (x6_2 + 1))) else (none))) else (if (Int.tmod (rd l1 x6_2) 8) = 5 then (if 0 ≤ x6_2 then (if x6_2 < (l1.length : Int) then ((guichetref1_Frame.f kj15 (([120, (((Int.tdiv (rd l1 x6_2) 8) % 256) + 60) % 256] : List Int))).bind fun bt365 => (if x5_2.length + bt365.1.length < 140737488355328 then (guichetlaw11_WireReads.l0 kj15 l0 l1 (x5_2 ++ bt365.1) (wrap64 (x6_2 + 1))) else (none))) else (none)) else (none)) else (if (Int.tmod (rd l1 x6_2) 8) = 6 then ((some (([2, 3, 3] : List Int) : List Int)).bind fun y372 => (if x5_2.length + y372.length < 140737488355328 then (guichetlaw11_WireReads.l0 kj15 l0 l1 (x5_2 ++ y372) (wrap64 (x6_2 + 1))) else (none))) else (if 0 ≤ x6_2 then (if x6_2 < (l1.length : Int) then (if x5_2.length < 140737488355328 then (guichetlaw11_WireReads.l0 kj15 l0 l1 (x5_2 ++ [rd l1 x6_2]) (wrap64 (x6_2 + 1))) else (none)) else (none)) else (none))))) = some r := by rw [if_neg (show ¬ (false = true) by decide)] at H; exact H
                              clear H
                              have H := H1
                              clear H1
                              by_cases c21 : (Int.tmod (rd l1 x6_2) 8) = 4
                              · rw [if_pos c21] at H
                                have c21b0 : ((Int.tmod (rd l1 x6_2) 8) == 4) = true := beq_iff_eq.mpr c21
                                have c21b1 : ((Int.tmod (rd l1 x6_2) 8) != 4) = false := bne_eq_false_iff_eq.mpr c21
                                clear c21
                                obtain ⟨y355, hy355⟩ : ∃ y_ : List Int, y_ = (([97, 98] : List Int)) := ⟨_, rfl⟩
                                replace H : (if x5_2.length + y355.length < 140737488355328 then (guichetlaw11_WireReads.l0 kj15 l0 l1 (x5_2 ++ y355) (wrap64 (x6_2 + 1))) else (none)) = some r := by first | (rw [hy355]; with_reducible exact H) | (have H2_ := (Option.bind_some _ _).symm.trans H; rw [hy355]; with_reducible exact H2_) | (have H2_ := (Option.bind_some _ _).symm.trans H; with_reducible exact H2_) | with_reducible exact H | (rw [hy355]; exact H) | exact H
                                have Ny355 := Aside0.mk hy355
                                clear hy355
                                by_cases c22 : x5_2.length + y355.length < 140737488355328
                                · rw [if_pos c22] at H
                                  have LMc22 := Aside0.mk c22
                                  clear c22
                                  obtain ⟨y358, hy358⟩ : ∃ y_ : List Int, y_ = (x5_2 ++ y355) := ⟨_, rfl⟩
                                  replace H : (guichetlaw11_WireReads.l0 kj15 l0 l1 y358 (wrap64 (x6_2 + 1))) = some r := by first | (rw [hy358]; with_reducible exact H) | (have H2_ := (Option.bind_some _ _).symm.trans H; rw [hy358]; with_reducible exact H2_) | (have H2_ := (Option.bind_some _ _).symm.trans H; with_reducible exact H2_) | with_reducible exact H | (rw [hy358]; exact H) | exact H
                                  have Ny358 := Aside0.mk hy358
                                  clear hy358
                                  have H' := Aside0.mk H
                                  clear H
                                  go_wp2_with (first | ((with_reducible refine gate_dst (N := 61) rfl ?_); (try (refine gate_guard (by rfl) ?_; dsimp only)); refine Kd.R_lit (Kd.int .u8) _ 5 ?hg (N := 61) ?hd (xs := ([97, 98] : List Int)) (inner := [.int .u8 97, .int .u8 98]) (ok := fun _ => True) (okp := fun _ => True) ?hr ?hp (fun _ hk => hk) trivial (Below.refl _ _) (Nat.le_refl _) (by simp) ?_; (case hd => rfl); (case hg => rfl); (case hr => first | (go_simp; done) | (go_simp; rfl)); (case hp => exact (Reps.one (show Kd.M (Kd.int .u8) _ _ _ 97 [.int .u8 97] from rfl) (Reps.one (show Kd.M (Kd.int .u8) _ _ _ 98 [.int .u8 98] from rfl) (Reps.none _ _)))); intro v356 w23 ho24 hb hg_ hnew_; clear hg_ hnew_; (first | rw [← Ny355.out] at ho24 | (simp only [Int.reduceToNat] at ho24; rw [← Ny355.out] at ho24)); have n0_ := Aside0.mk (Kd.V_elder' (by (with_reducible repeat (first | apply Kd.V_alloc | apply Kd.V_drewN | apply Kd.V_drew)); exact HO_0.out) (Kd.R_base ho24) hb); have n1_ := Aside0.mk (Kd.R_elder' (by (with_reducible repeat (first | apply Kd.R_alloc | apply Kd.R_drewN | apply Kd.R_drew)); exact HO_5.out) (Kd.R_base ho24) hb); have n2_ := Aside0.mk (Kd.R_lower (Kd.R_new' (Kd.R_newM (M := fun k_ => (w.heap.size ≤ k_)) ho24 (below_size (by repeat (first | (with_reducible first | exact HB.out | apply below_alloc | apply pw_below_drewN | apply below_drew1) | exact HB.out))) (fun k_ h_ => h_)) (Kd.R_lt (by (with_reducible repeat (first | apply Kd.R_alloc | apply Kd.R_drewN | apply Kd.R_drew)); exact HO_5.out))) (below_size (by repeat (first | (with_reducible first | exact HB.out | apply below_alloc | apply pw_below_drewN | apply below_drew1) | exact HB.out)))); have n3_ := Aside0.mk (below_step (by repeat (first | (with_reducible first | exact HB.out | apply below_alloc | apply pw_below_drewN | apply below_drew1) | exact HB.out)) hb); clear HO_0; clear HO_5; clear HB; have HO_0 := n0_; have HO_5 := n1_; have HO357 := n2_; have HB := n3_; clear n0_ n1_ n2_ n3_; clear hb ho24; obtain ⟨Ao26, co26, eo26⟩ := Kd.R_slice HO357.out; subst eo26) | ((with_reducible refine gate_builtin (b := .append) (xs := #[.tmp 60, .tmp 61]) rfl ?_); (try (refine gate_guard (by rfl) ?_; dsimp only)); at_builtin; refine Kd.R_append_rows (Kd.int .u8) (w0 := w) w.heap.size rfl (.tmp 60) (.tmp 61) 22 5 (.int .u8 0) 1 rfl Tryd.underlying22 info5 rfl (by decide) (by omega) u5 x5_2 y355 _ _ _ (fun k_ => (w.heap.size ≤ k_) ∧ some k_ ≠ (.slice Ao26 y355.length co26 : Value).ownBlock) (fun _ => False) rfl rfl ?aO ?aR (fun _ _ h => h) (fun _ h => h.elim) ?aF ?aB ?aS ?aL ?_; (case aR => repeat (first | exact (Kd.R_reads' HO357.out).2.2 | (with_reducible refine Kd.C_alloc ?_ _) | (with_reducible refine Kd.C_drewN ?_ _) | (with_reducible refine Kd.C_drew ?_))); (case aB => exact (by repeat (first | (with_reducible first | exact HB.out | apply below_alloc | apply pw_below_drewN | apply below_drew1) | exact HB.out))); (case aF => exact (fun k_ hk => ⟨(Nat.le_trans (below_size (by repeat (first | (with_reducible first | exact HB.out | apply below_alloc | apply pw_below_drewN | apply below_drew1) | exact HB.out))) hk), Kd.fresh' (Kd.R_lt (by (with_reducible repeat (first | apply Kd.R_alloc | apply Kd.R_drewN | apply Kd.R_drew)); exact HO357.out)) k_ hk⟩)); (case aO => exact (by (with_reducible repeat (first | apply Kd.R_alloc | apply Kd.R_drewN | apply Kd.R_drew)); exact HO_5.out)); (case aS => exact (below_size (by repeat (first | (with_reducible first | exact HB.out | apply below_alloc | apply pw_below_drewN | apply below_drew1) | exact HB.out)))); (case aL => have := LMc22.out; omega); intro v359 w25 ho hb hg hat; rw [← Ny358.out] at ho; have n0_ := Aside0.mk (Kd.V_afterv (ok := (fun k_ => (P0_ k_ ∨ w.heap.size ≤ k_) ∧ some k_ ≠ (.slice Ao26 y355.length co26 : Value).ownBlock)) (by (with_reducible repeat (first | apply Kd.V_alloc | apply Kd.V_drewN | apply Kd.V_drew)); exact Kd.V_mono HO_0.out (fun _ hk => ⟨⟨hk.1.1, hk.2⟩, hk.1.2⟩)) hg hat); have n1_ := Aside0.mk (Kd.R_after (ok := (fun k_ => (w.heap.size ≤ k_))) (by (with_reducible repeat (first | apply Kd.R_alloc | apply Kd.R_drewN | apply Kd.R_drew)); exact Kd.R_mono HO357.out (fun _ hk => ⟨hk.1.1, hk.2⟩)) hg hat); have n2_ := Aside0.mk (hb); have n3_ := Aside0.mk (ho); clear HO_0; clear HO357; clear HB; clear HO_5; have HO_0 := n0_; have HO357 := n1_; have HB := n2_; have HO360 := n3_; clear n0_ n1_ n2_ n3_; clear ho hb hg hat))
                                  go_roundg kj15
                                  case measure => have := HJ4.out; have := HK2.out; have := HJ10.out; have := HJ15.out; omega
                                  case rel => exact ⟨(y358), (wrap64 (x6_2 + 1)), (by first | rfl | (simp; done) | (simp [*]; done)), H', ⟨by have := HJ4.out; have := HK2.out; have := HJ10.out; have := HJ15.out; omega⟩, ⟨by (with_reducible repeat (first | apply Kd.V_alloc | apply Kd.V_drewN | apply Kd.V_drew)); exact Kd.V_mono HO_0.out (fun _ hk => ⟨hk.1.1, hk.2⟩)⟩, ⟨by (with_reducible repeat (first | apply Kd.R_alloc | apply Kd.R_drewN | apply Kd.R_drew)); exact Kd.R_mono HO360.out (fun _ hk => hk.1)⟩, ⟨by repeat (first | (with_reducible first | exact HB.out | apply below_alloc | apply pw_below_drewN | apply below_drew1) | exact HB.out)⟩⟩
                                · rw [if_neg c22] at H
                                  exact absurd H (by simp)
                              · rw [if_neg c21] at H
                                have c21b0 : ((Int.tmod (rd l1 x6_2) 8) == 4) = false := beq_eq_false_iff_ne.mpr c21
                                have c21b1 : ((Int.tmod (rd l1 x6_2) 8) != 4) = true := bne_iff_ne.mpr c21
                                by_cases c27 : (Int.tmod (rd l1 x6_2) 8) = 5
                                · rw [if_pos c27] at H
                                  have c27b0 : ((Int.tmod (rd l1 x6_2) 8) == 5) = true := beq_iff_eq.mpr c27
                                  have c27b1 : ((Int.tmod (rd l1 x6_2) 8) != 5) = false := bne_eq_false_iff_eq.mpr c27
                                  clear c27
                                  by_cases c28 : 0 ≤ x6_2
                                  · rw [if_pos c28] at H
                                    have c28b0 : decide (0 ≤ x6_2) = true := decide_eq_true c28
                                    clear c28
                                    by_cases c29 : x6_2 < (l1.length : Int)
                                    · rw [if_pos c29] at H
                                      have c29b0 : decide (x6_2 < (l1.length : Int)) = true := decide_eq_true c29
                                      clear c29
                                      obtain ⟨y362, hy362⟩ : ∃ y_ : List Int, y_ = (([120, (((Int.tdiv (rd l1 x6_2) 8) % 256) + 60) % 256] : List Int)) := ⟨_, rfl⟩
                                      replace H : ((guichetref1_Frame.f kj15 y362).bind fun bt365 => (if x5_2.length + bt365.1.length < 140737488355328 then (guichetlaw11_WireReads.l0 kj15 l0 l1 (x5_2 ++ bt365.1) (wrap64 (x6_2 + 1))) else (none))) = some r := by first | (rw [hy362]; with_reducible exact H) | (have H2_ := (Option.bind_some _ _).symm.trans H; rw [hy362]; with_reducible exact H2_) | (have H2_ := (Option.bind_some _ _).symm.trans H; with_reducible exact H2_) | with_reducible exact H | (rw [hy362]; exact H) | exact H
                                      have Ny362 := Aside0.mk hy362
                                      clear hy362
                                      replace H := Option.bind_eq_some_iff.mp H
                                      obtain ⟨⟨t365, t366⟩, A300, H⟩ := H
                                      replace H : (if x5_2.length + t365.length < 140737488355328 then (guichetlaw11_WireReads.l0 kj15 l0 l1 (x5_2 ++ t365) (wrap64 (x6_2 + 1))) else (none)) = some r := H
                                      have A30 := Aside0.mk A300
                                      clear A300
                                      by_cases c31 : x5_2.length + t365.length < 140737488355328
                                      · rw [if_pos c31] at H
                                        have LMc31 := Aside0.mk c31
                                        clear c31
                                        obtain ⟨y369, hy369⟩ : ∃ y_ : List Int, y_ = (x5_2 ++ t365) := ⟨_, rfl⟩
                                        replace H : (guichetlaw11_WireReads.l0 kj15 l0 l1 y369 (wrap64 (x6_2 + 1))) = some r := by first | (rw [hy369]; with_reducible exact H) | (have H2_ := (Option.bind_some _ _).symm.trans H; rw [hy369]; with_reducible exact H2_) | (have H2_ := (Option.bind_some _ _).symm.trans H; with_reducible exact H2_) | with_reducible exact H | (rw [hy369]; exact H) | exact H
                                        have Ny369 := Aside0.mk hy369
                                        clear hy369
                                        have H' := Aside0.mk H
                                        clear H
                                        have p361 : 0 ≤ (x6_2 : Int) := of_decide_eq_true (by first | (with_reducible assumption) | assumption)
                                        have q361 : x6_2 < (l1.length : Int) := of_decide_eq_true (by first | (with_reducible assumption) | assumption)
                                        obtain ⟨ad361, e361, hx361_0⟩ := Kd.at_int HR1.out x6_2 p361 q361
                                        obtain rfl : ad348 = ad361 := (by injection e361)
                                        replace hx361_0 := (HB.out.cell (World.block_lt_of_cell? w _ hx361_0)).trans hx361_0
                                        replace p361 := eq_true p361
                                        replace q361 := eq_true q361
                                        go_wp2_with (first | ((with_reducible refine gate_dst (N := 72) rfl ?_); (try (refine gate_guard (by rfl) ?_; dsimp only)); refine Kd.R_lit (Kd.int .u8) _ 5 ?hg (N := 72) ?hd (xs := ([120, (((Int.tdiv (rd l1 x6_2) 8) % 256) + 60) % 256] : List Int)) (inner := [.int .u8 120, .int .u8 ((((Int.tdiv (rd l1 x6_2) 8) % 256) + 60) % 256)]) (ok := fun _ => True) (okp := fun _ => True) ?hr ?hp (fun _ hk => hk) trivial (Below.refl _ _) (Nat.le_refl _) (by simp) ?_; (case hd => rfl); (case hg => rfl); (case hr => first | (go_simp; done) | (go_simp; rfl)); (case hp => exact (Reps.one (show Kd.M (Kd.int .u8) _ _ _ 120 [.int .u8 120] from rfl) (Reps.one (show Kd.M (Kd.int .u8) _ _ _ ((((Int.tdiv (rd l1 x6_2) 8) % 256) + 60) % 256) [.int .u8 ((((Int.tdiv (rd l1 x6_2) 8) % 256) + 60) % 256)] from rfl) (Reps.none _ _)))); intro v363 w32 ho33 hb hg_ hnew_; clear hg_ hnew_; (first | rw [← Ny362.out] at ho33 | (simp only [Int.reduceToNat] at ho33; rw [← Ny362.out] at ho33)); have n0_ := Aside0.mk (Kd.V_elder' (by (with_reducible repeat (first | apply Kd.V_alloc | apply Kd.V_drewN | apply Kd.V_drew)); exact HO_0.out) (Kd.R_base ho33) hb); have n1_ := Aside0.mk (Kd.R_elder' (by (with_reducible repeat (first | apply Kd.R_alloc | apply Kd.R_drewN | apply Kd.R_drew)); exact HO_5.out) (Kd.R_base ho33) hb); have n2_ := Aside0.mk (Kd.R_lower (Kd.R_new' (Kd.R_newM (M := fun k_ => (w.heap.size ≤ k_)) ho33 (below_size (by repeat (first | (with_reducible first | exact HB.out | apply below_alloc | apply pw_below_drewN | apply below_drew1) | exact HB.out))) (fun k_ h_ => h_)) (Kd.R_lt (by (with_reducible repeat (first | apply Kd.R_alloc | apply Kd.R_drewN | apply Kd.R_drew)); exact HO_5.out))) (below_size (by repeat (first | (with_reducible first | exact HB.out | apply below_alloc | apply pw_below_drewN | apply below_drew1) | exact HB.out)))); have n3_ := Aside0.mk (below_step (by repeat (first | (with_reducible first | exact HB.out | apply below_alloc | apply pw_below_drewN | apply below_drew1) | exact HB.out)) hb); clear HO_0; clear HO_5; clear HB; have HO_0 := n0_; have HO_5 := n1_; have HO364 := n2_; have HB := n3_; clear n0_ n1_ n2_ n3_; clear hb ho33; obtain ⟨Ao34, co34, eo34⟩ := Kd.R_slice HO364.out; subst eo34) | ((with_reducible refine gate_callee (f := 18) rfl ?_); refine goesL_ (some 73) rfl rfl Tryd.func18 (by kernel_rfl) rfl #[.slice Ao34 y362.length co34] rfl (by (try simp only [List.map_toArray, List.map_cons, List.map_nil]); first | done | rfl | (simp only [List.length_drop, List.length_take]; rfl)) ?_; (with_reducible refine (guichetref1_Frame.calls kj15 _ _ y362 t365 t366 _ ?side1 ?side2 A30.out).mono ?_); (case side1 => repeat (first | exact (Kd.R_reads' HO364.out).2.2 | (with_reducible refine Kd.C_alloc ?_ _) | (with_reducible refine Kd.C_drewN ?_ _) | (with_reducible refine Kd.C_drew ?_))); (case side2 => exact (Kd.R_reads' HO364.out).2.1); rintro e w35 ⟨v367, rfl, ho0, hb⟩; refine ⟨_, rfl, ?_⟩; have n0_ := Aside0.mk (Kd.V_elder' (by (with_reducible repeat (first | apply Kd.V_alloc | apply Kd.V_drewN | apply Kd.V_drew)); exact HO_0.out) (Kd.R_base ho0) hb); have n1_ := Aside0.mk (Kd.R_elder' (by (with_reducible repeat (first | apply Kd.R_alloc | apply Kd.R_drewN | apply Kd.R_drew)); exact HO_5.out) (Kd.R_base ho0) hb); have n2_ := Aside0.mk (Kd.R_elder' (by (with_reducible repeat (first | apply Kd.R_alloc | apply Kd.R_drewN | apply Kd.R_drew)); exact HO364.out) (Kd.R_base ho0) hb); have n3_ := Aside0.mk (Kd.R_lower (Kd.R_new' (Kd.R_new' (Kd.R_newM (M := fun k_ => (w.heap.size ≤ k_)) ho0 (below_size (by repeat (first | (with_reducible first | exact HB.out | apply below_alloc | apply pw_below_drewN | apply below_drew1) | exact HB.out))) (fun k_ h_ => h_)) (Kd.R_lt (by (with_reducible repeat (first | apply Kd.R_alloc | apply Kd.R_drewN | apply Kd.R_drew)); exact HO_5.out))) (Kd.R_lt (by (with_reducible repeat (first | apply Kd.R_alloc | apply Kd.R_drewN | apply Kd.R_drew)); exact HO364.out))) (below_size (by repeat (first | (with_reducible first | exact HB.out | apply below_alloc | apply pw_below_drewN | apply below_drew1) | exact HB.out)))); have n4_ := Aside0.mk (below_step (by repeat (first | (with_reducible first | exact HB.out | apply below_alloc | apply pw_below_drewN | apply below_drew1) | exact HB.out)) hb); clear HO_0; clear HO_5; clear HO364; clear HB; have HO_0 := n0_; have HO_5 := n1_; have HO364 := n2_; have HO368 := n3_; have HB := n4_; clear n0_ n1_ n2_ n3_ n4_; (try clear hb); (try clear hb2); (try clear hk); (try clear hi); (try clear ho0); obtain ⟨Ao37, co37, eo37⟩ := Kd.R_slice HO368.out; subst eo37) | ((with_reducible refine gate_builtin (b := .append) (xs := #[.tmp 76, .tmp 77]) rfl ?_); (try (refine gate_guard (by rfl) ?_; dsimp only)); at_builtin; refine Kd.R_append_rows (Kd.int .u8) (w0 := w) w.heap.size rfl (.tmp 76) (.tmp 77) 22 5 (.int .u8 0) 1 rfl Tryd.underlying22 info5 rfl (by decide) (by omega) u5 x5_2 t365 _ _ _ (fun k_ => (w.heap.size ≤ k_) ∧ some k_ ≠ (.slice Ao34 y362.length co34 : Value).ownBlock ∧ some k_ ≠ (.slice Ao37 t365.length co37 : Value).ownBlock) (fun _ => False) rfl rfl ?aO ?aR (fun _ _ h => h) (fun _ h => h.elim) ?aF ?aB ?aS ?aL ?_; (case aR => repeat (first | exact (Kd.R_reads' HO368.out).2.2 | (with_reducible refine Kd.C_alloc ?_ _) | (with_reducible refine Kd.C_drewN ?_ _) | (with_reducible refine Kd.C_drew ?_))); (case aB => exact (by repeat (first | (with_reducible first | exact HB.out | apply below_alloc | apply pw_below_drewN | apply below_drew1) | exact HB.out))); (case aF => exact (fun k_ hk => ⟨(Nat.le_trans (below_size (by repeat (first | (with_reducible first | exact HB.out | apply below_alloc | apply pw_below_drewN | apply below_drew1) | exact HB.out))) hk), Kd.fresh' (Kd.R_lt (by (with_reducible repeat (first | apply Kd.R_alloc | apply Kd.R_drewN | apply Kd.R_drew)); exact HO364.out)) k_ hk, Kd.fresh' (Kd.R_lt (by (with_reducible repeat (first | apply Kd.R_alloc | apply Kd.R_drewN | apply Kd.R_drew)); exact HO368.out)) k_ hk⟩)); (case aO => exact (by (with_reducible repeat (first | apply Kd.R_alloc | apply Kd.R_drewN | apply Kd.R_drew)); exact Kd.R_mono HO_5.out (fun _ hk => ⟨hk.1.1, ⟨hk.1.2, hk.2⟩⟩))); (case aS => exact (below_size (by repeat (first | (with_reducible first | exact HB.out | apply below_alloc | apply pw_below_drewN | apply below_drew1) | exact HB.out)))); (case aL => have := LMc31.out; omega); intro v370 w36 ho hb hg hat; rw [← Ny369.out] at ho; have n0_ := Aside0.mk (Kd.V_afterv (ok := (fun k_ => (P0_ k_ ∨ w.heap.size ≤ k_) ∧ some k_ ≠ (.slice Ao34 y362.length co34 : Value).ownBlock ∧ some k_ ≠ (.slice Ao37 t365.length co37 : Value).ownBlock)) (by (with_reducible repeat (first | apply Kd.V_alloc | apply Kd.V_drewN | apply Kd.V_drew)); exact Kd.V_mono HO_0.out (fun _ hk => ⟨⟨hk.1.1.1, ⟨hk.1.2, hk.2⟩⟩, hk.1.1.2⟩)) hg hat); have n1_ := Aside0.mk (Kd.R_after (ok := (fun k_ => (w.heap.size ≤ k_) ∧ some k_ ≠ (.slice Ao37 t365.length co37 : Value).ownBlock)) (by (with_reducible repeat (first | apply Kd.R_alloc | apply Kd.R_drewN | apply Kd.R_drew)); exact Kd.R_mono HO364.out (fun _ hk => ⟨⟨hk.1.1.1, hk.2⟩, hk.1.2⟩)) hg hat); have n2_ := Aside0.mk (Kd.R_after (ok := (fun k_ => (w.heap.size ≤ k_) ∧ some k_ ≠ (.slice Ao34 y362.length co34 : Value).ownBlock)) (by (with_reducible repeat (first | apply Kd.R_alloc | apply Kd.R_drewN | apply Kd.R_drew)); exact Kd.R_mono HO368.out (fun _ hk => ⟨⟨hk.1.1.1, hk.2⟩, hk.1.2⟩)) hg hat); have n3_ := Aside0.mk (hb); have n4_ := Aside0.mk (ho); clear HO_0; clear HO364; clear HO368; clear HB; clear HO_5; have HO_0 := n0_; have HO364 := n1_; have HO368 := n2_; have HB := n3_; have HO371 := n4_; clear n0_ n1_ n2_ n3_ n4_; clear ho hb hg hat))
                                        go_roundg kj15
                                        case measure => have := HJ4.out; have := HK2.out; have := HJ10.out; have := HJ15.out; omega
                                        case rel => exact ⟨(y369), (wrap64 (x6_2 + 1)), (by first | rfl | (simp; done) | (simp [*]; done)), H', ⟨by have := HJ4.out; have := HK2.out; have := HJ10.out; have := HJ15.out; omega⟩, ⟨by (with_reducible repeat (first | apply Kd.V_alloc | apply Kd.V_drewN | apply Kd.V_drew)); exact Kd.V_mono HO_0.out (fun _ hk => ⟨hk.1.1, hk.2⟩)⟩, ⟨by (with_reducible repeat (first | apply Kd.R_alloc | apply Kd.R_drewN | apply Kd.R_drew)); exact Kd.R_mono HO371.out (fun _ hk => hk.1)⟩, ⟨by repeat (first | (with_reducible first | exact HB.out | apply below_alloc | apply pw_below_drewN | apply below_drew1) | exact HB.out)⟩⟩
                                      · rw [if_neg c31] at H
                                        exact absurd H (by simp)
                                    · rw [if_neg c29] at H
                                      exact absurd H (by simp)
                                  · rw [if_neg c28] at H
                                    exact absurd H (by simp)
                                · rw [if_neg c27] at H
                                  have c27b0 : ((Int.tmod (rd l1 x6_2) 8) == 5) = false := beq_eq_false_iff_ne.mpr c27
                                  have c27b1 : ((Int.tmod (rd l1 x6_2) 8) != 5) = true := bne_iff_ne.mpr c27
                                  by_cases c38 : (Int.tmod (rd l1 x6_2) 8) = 6
                                  · rw [if_pos c38] at H
                                    have c38b0 : ((Int.tmod (rd l1 x6_2) 8) == 6) = true := beq_iff_eq.mpr c38
                                    have c38b1 : ((Int.tmod (rd l1 x6_2) 8) != 6) = false := bne_eq_false_iff_eq.mpr c38
                                    clear c38
                                    obtain ⟨y372, hy372⟩ : ∃ y_ : List Int, y_ = (([2, 3, 3] : List Int)) := ⟨_, rfl⟩
                                    replace H : (if x5_2.length + y372.length < 140737488355328 then (guichetlaw11_WireReads.l0 kj15 l0 l1 (x5_2 ++ y372) (wrap64 (x6_2 + 1))) else (none)) = some r := by first | (rw [hy372]; with_reducible exact H) | (have H2_ := (Option.bind_some _ _).symm.trans H; rw [hy372]; with_reducible exact H2_) | (have H2_ := (Option.bind_some _ _).symm.trans H; with_reducible exact H2_) | with_reducible exact H | (rw [hy372]; exact H) | exact H
                                    have Ny372 := Aside0.mk hy372
                                    clear hy372
                                    by_cases c39 : x5_2.length + y372.length < 140737488355328
                                    · rw [if_pos c39] at H
                                      have LMc39 := Aside0.mk c39
                                      clear c39
                                      obtain ⟨y375, hy375⟩ : ∃ y_ : List Int, y_ = (x5_2 ++ y372) := ⟨_, rfl⟩
                                      replace H : (guichetlaw11_WireReads.l0 kj15 l0 l1 y375 (wrap64 (x6_2 + 1))) = some r := by first | (rw [hy375]; with_reducible exact H) | (have H2_ := (Option.bind_some _ _).symm.trans H; rw [hy375]; with_reducible exact H2_) | (have H2_ := (Option.bind_some _ _).symm.trans H; with_reducible exact H2_) | with_reducible exact H | (rw [hy375]; exact H) | exact H
                                      have Ny375 := Aside0.mk hy375
                                      clear hy375
                                      have H' := Aside0.mk H
                                      clear H
                                      go_wp2_with (first | ((with_reducible refine gate_dst (N := 82) rfl ?_); (try (refine gate_guard (by rfl) ?_; dsimp only)); refine Kd.R_lit (Kd.int .u8) _ 5 ?hg (N := 82) ?hd (xs := ([2, 3, 3] : List Int)) (inner := [.int .u8 2, .int .u8 3, .int .u8 3]) (ok := fun _ => True) (okp := fun _ => True) ?hr ?hp (fun _ hk => hk) trivial (Below.refl _ _) (Nat.le_refl _) (by simp) ?_; (case hd => rfl); (case hg => rfl); (case hr => first | (go_simp; done) | (go_simp; rfl)); (case hp => exact (Reps.one (show Kd.M (Kd.int .u8) _ _ _ 2 [.int .u8 2] from rfl) (Reps.one (show Kd.M (Kd.int .u8) _ _ _ 3 [.int .u8 3] from rfl) (Reps.one (show Kd.M (Kd.int .u8) _ _ _ 3 [.int .u8 3] from rfl) (Reps.none _ _))))); intro v373 w40 ho41 hb hg_ hnew_; clear hg_ hnew_; (first | rw [← Ny372.out] at ho41 | (simp only [Int.reduceToNat] at ho41; rw [← Ny372.out] at ho41)); have n0_ := Aside0.mk (Kd.V_elder' (by (with_reducible repeat (first | apply Kd.V_alloc | apply Kd.V_drewN | apply Kd.V_drew)); exact HO_0.out) (Kd.R_base ho41) hb); have n1_ := Aside0.mk (Kd.R_elder' (by (with_reducible repeat (first | apply Kd.R_alloc | apply Kd.R_drewN | apply Kd.R_drew)); exact HO_5.out) (Kd.R_base ho41) hb); have n2_ := Aside0.mk (Kd.R_lower (Kd.R_new' (Kd.R_newM (M := fun k_ => (w.heap.size ≤ k_)) ho41 (below_size (by repeat (first | (with_reducible first | exact HB.out | apply below_alloc | apply pw_below_drewN | apply below_drew1) | exact HB.out))) (fun k_ h_ => h_)) (Kd.R_lt (by (with_reducible repeat (first | apply Kd.R_alloc | apply Kd.R_drewN | apply Kd.R_drew)); exact HO_5.out))) (below_size (by repeat (first | (with_reducible first | exact HB.out | apply below_alloc | apply pw_below_drewN | apply below_drew1) | exact HB.out)))); have n3_ := Aside0.mk (below_step (by repeat (first | (with_reducible first | exact HB.out | apply below_alloc | apply pw_below_drewN | apply below_drew1) | exact HB.out)) hb); clear HO_0; clear HO_5; clear HB; have HO_0 := n0_; have HO_5 := n1_; have HO374 := n2_; have HB := n3_; clear n0_ n1_ n2_ n3_; clear hb ho41; obtain ⟨Ao43, co43, eo43⟩ := Kd.R_slice HO374.out; subst eo43) | ((with_reducible refine gate_builtin (b := .append) (xs := #[.tmp 81, .tmp 82]) rfl ?_); (try (refine gate_guard (by rfl) ?_; dsimp only)); at_builtin; refine Kd.R_append_rows (Kd.int .u8) (w0 := w) w.heap.size rfl (.tmp 81) (.tmp 82) 22 5 (.int .u8 0) 1 rfl Tryd.underlying22 info5 rfl (by decide) (by omega) u5 x5_2 y372 _ _ _ (fun k_ => (w.heap.size ≤ k_) ∧ some k_ ≠ (.slice Ao43 y372.length co43 : Value).ownBlock) (fun _ => False) rfl rfl ?aO ?aR (fun _ _ h => h) (fun _ h => h.elim) ?aF ?aB ?aS ?aL ?_; (case aR => repeat (first | exact (Kd.R_reads' HO374.out).2.2 | (with_reducible refine Kd.C_alloc ?_ _) | (with_reducible refine Kd.C_drewN ?_ _) | (with_reducible refine Kd.C_drew ?_))); (case aB => exact (by repeat (first | (with_reducible first | exact HB.out | apply below_alloc | apply pw_below_drewN | apply below_drew1) | exact HB.out))); (case aF => exact (fun k_ hk => ⟨(Nat.le_trans (below_size (by repeat (first | (with_reducible first | exact HB.out | apply below_alloc | apply pw_below_drewN | apply below_drew1) | exact HB.out))) hk), Kd.fresh' (Kd.R_lt (by (with_reducible repeat (first | apply Kd.R_alloc | apply Kd.R_drewN | apply Kd.R_drew)); exact HO374.out)) k_ hk⟩)); (case aO => exact (by (with_reducible repeat (first | apply Kd.R_alloc | apply Kd.R_drewN | apply Kd.R_drew)); exact HO_5.out)); (case aS => exact (below_size (by repeat (first | (with_reducible first | exact HB.out | apply below_alloc | apply pw_below_drewN | apply below_drew1) | exact HB.out)))); (case aL => have := LMc39.out; omega); intro v376 w42 ho hb hg hat; rw [← Ny375.out] at ho; have n0_ := Aside0.mk (Kd.V_afterv (ok := (fun k_ => (P0_ k_ ∨ w.heap.size ≤ k_) ∧ some k_ ≠ (.slice Ao43 y372.length co43 : Value).ownBlock)) (by (with_reducible repeat (first | apply Kd.V_alloc | apply Kd.V_drewN | apply Kd.V_drew)); exact Kd.V_mono HO_0.out (fun _ hk => ⟨⟨hk.1.1, hk.2⟩, hk.1.2⟩)) hg hat); have n1_ := Aside0.mk (Kd.R_after (ok := (fun k_ => (w.heap.size ≤ k_))) (by (with_reducible repeat (first | apply Kd.R_alloc | apply Kd.R_drewN | apply Kd.R_drew)); exact Kd.R_mono HO374.out (fun _ hk => ⟨hk.1.1, hk.2⟩)) hg hat); have n2_ := Aside0.mk (hb); have n3_ := Aside0.mk (ho); clear HO_0; clear HO374; clear HB; clear HO_5; have HO_0 := n0_; have HO374 := n1_; have HB := n2_; have HO377 := n3_; clear n0_ n1_ n2_ n3_; clear ho hb hg hat))
                                      go_roundg kj15
                                      case measure => have := HJ4.out; have := HK2.out; have := HJ10.out; have := HJ15.out; omega
                                      case rel => exact ⟨(y375), (wrap64 (x6_2 + 1)), (by first | rfl | (simp; done) | (simp [*]; done)), H', ⟨by have := HJ4.out; have := HK2.out; have := HJ10.out; have := HJ15.out; omega⟩, ⟨by (with_reducible repeat (first | apply Kd.V_alloc | apply Kd.V_drewN | apply Kd.V_drew)); exact Kd.V_mono HO_0.out (fun _ hk => ⟨hk.1.1, hk.2⟩)⟩, ⟨by (with_reducible repeat (first | apply Kd.R_alloc | apply Kd.R_drewN | apply Kd.R_drew)); exact Kd.R_mono HO377.out (fun _ hk => hk.1)⟩, ⟨by repeat (first | (with_reducible first | exact HB.out | apply below_alloc | apply pw_below_drewN | apply below_drew1) | exact HB.out)⟩⟩
                                    · rw [if_neg c39] at H
                                      exact absurd H (by simp)
                                  · rw [if_neg c38] at H
                                    have c38b0 : ((Int.tmod (rd l1 x6_2) 8) == 6) = false := beq_eq_false_iff_ne.mpr c38
                                    have c38b1 : ((Int.tmod (rd l1 x6_2) 8) != 6) = true := bne_iff_ne.mpr c38
                                    by_cases c44 : 0 ≤ x6_2
                                    · rw [if_pos c44] at H
                                      have c44b0 : decide (0 ≤ x6_2) = true := decide_eq_true c44
                                      clear c44
                                      by_cases c45 : x6_2 < (l1.length : Int)
                                      · rw [if_pos c45] at H
                                        have c45b0 : decide (x6_2 < (l1.length : Int)) = true := decide_eq_true c45
                                        clear c45
                                        by_cases c46 : x5_2.length < 140737488355328
                                        · rw [if_pos c46] at H
                                          have LMc46 := Aside0.mk c46
                                          clear c46
                                          obtain ⟨y379, hy379⟩ : ∃ y_ : List Int, y_ = (x5_2 ++ [rd l1 x6_2]) := ⟨_, rfl⟩
                                          replace H : (guichetlaw11_WireReads.l0 kj15 l0 l1 y379 (wrap64 (x6_2 + 1))) = some r := by first | (rw [hy379]; with_reducible exact H) | (have H2_ := (Option.bind_some _ _).symm.trans H; rw [hy379]; with_reducible exact H2_) | (have H2_ := (Option.bind_some _ _).symm.trans H; with_reducible exact H2_) | with_reducible exact H | (rw [hy379]; exact H) | exact H
                                          have Ny379 := Aside0.mk hy379
                                          clear hy379
                                          have H' := Aside0.mk H
                                          clear H
                                          have p378 : 0 ≤ (x6_2 : Int) := of_decide_eq_true (by first | (with_reducible assumption) | assumption)
                                          have q378 : x6_2 < (l1.length : Int) := of_decide_eq_true (by first | (with_reducible assumption) | assumption)
                                          obtain ⟨ad378, e378, hx378_0⟩ := Kd.at_int HR1.out x6_2 p378 q378
                                          obtain rfl : ad348 = ad378 := (by injection e378)
                                          replace hx378_0 := (HB.out.cell (World.block_lt_of_cell? w _ hx378_0)).trans hx378_0
                                          replace p378 := eq_true p378
                                          replace q378 := eq_true q378
                                          go_wp2_with (first | ((with_reducible refine gate_builtin (b := .append) (xs := #[.tmp 39, .tmp 44]) rfl ?_); (try (refine gate_guard (by rfl) ?_; dsimp only)); at_builtin; refine Kd.R_append (Kd.int .u8) (w0 := w) w.heap.size rfl (.tmp 39) (.tmp 44) 22 5 (.int .u8 0) 1 rfl Tryd.underlying22 info5 rfl (by decide) (by omega) u5 x5_2 (rd l1 x6_2) [.int .u8 (rd l1 x6_2)] (fun k_ => (w.heap.size ≤ k_)) (fun _ => False) rfl rfl ?aP (fun _ hk => hk.elim) ?aF ?aO ?aB ?aS ?aL ?_; (case aP => exact rfl); (case aB => exact (by repeat (first | (with_reducible first | exact HB.out | apply below_alloc | apply pw_below_drewN | apply below_drew1) | exact HB.out))); (case aF => exact (fun k_ hk => (Nat.le_trans (below_size (by repeat (first | (with_reducible first | exact HB.out | apply below_alloc | apply pw_below_drewN | apply below_drew1) | exact HB.out))) hk))); (case aO => exact (by (with_reducible repeat (first | apply Kd.R_alloc | apply Kd.R_drewN | apply Kd.R_drew)); exact HO_5.out)); (case aS => exact (below_size (by repeat (first | (with_reducible first | exact HB.out | apply below_alloc | apply pw_below_drewN | apply below_drew1) | exact HB.out)))); (case aL => have := LMc46.out; omega); intro v380 w47 ho hb hg hat; rw [← Ny379.out] at ho; have n0_ := Aside0.mk (Kd.V_afterv (ok := (fun k_ => (P0_ k_ ∨ w.heap.size ≤ k_))) (by (with_reducible repeat (first | apply Kd.V_alloc | apply Kd.V_drewN | apply Kd.V_drew)); exact HO_0.out) hg hat); have n1_ := Aside0.mk (hb); have n2_ := Aside0.mk (ho); clear HO_0; clear HB; clear HO_5; have HO_0 := n0_; have HB := n1_; have HO381 := n2_; clear n0_ n1_ n2_; clear ho hb hg hat))
                                          go_roundg kj15
                                          case measure => have := HJ4.out; have := HK2.out; have := HJ10.out; have := HJ15.out; omega
                                          case rel => exact ⟨(y379), (wrap64 (x6_2 + 1)), (by first | rfl | (simp; done) | (simp [*]; done)), H', ⟨by have := HJ4.out; have := HK2.out; have := HJ10.out; have := HJ15.out; omega⟩, ⟨by (with_reducible repeat (first | apply Kd.V_alloc | apply Kd.V_drewN | apply Kd.V_drew)); exact HO_0.out⟩, ⟨by (with_reducible repeat (first | apply Kd.R_alloc | apply Kd.R_drewN | apply Kd.R_drew)); exact HO381.out⟩, ⟨by repeat (first | (with_reducible first | exact HB.out | apply below_alloc | apply pw_below_drewN | apply below_drew1) | exact HB.out)⟩⟩
                                        · rw [if_neg c46] at H
                                          exact absurd H (by simp)
                                      · rw [if_neg c45] at H
                                        exact absurd H (by simp)
                                    · rw [if_neg c44] at H
                                      exact absurd H (by simp)
                · rw [if_neg c10] at H
                  exact absurd H (by simp)
              · rw [if_neg c9] at H
                have c9b0 : decide (x6_2 < (l1.length : Int)) = false := decide_eq_false c9
                clear c9
                obtain ⟨y382, hy382⟩ : ∃ y_ : List (List Int), y_ = (([l0, x5_2] : List (List Int))) := ⟨_, rfl⟩
                replace H : (guichetlaw11_WireReads.l1 k2 y382 (y382.length : Int) 0) = some r := by first | (rw [hy382]; with_reducible exact H) | (have H2_ := (Option.bind_some _ _).symm.trans H; rw [hy382]; with_reducible exact H2_) | (have H2_ := (Option.bind_some _ _).symm.trans H; with_reducible exact H2_) | with_reducible exact H | (rw [hy382]; exact H) | exact H
                have Ny382 := Aside0.mk hy382
                clear hy382
                have H' := Aside0.mk H
                clear H
                obtain ⟨Ao48, co48, eo48⟩ := Kd.R_slice HO_5.out
                subst eo48
                go_wp2_with (first | ((with_reducible refine gate_dst (N := 86) rfl ?_); (try (refine gate_guard (by rfl) ?_; dsimp only)); refine Kd.N_lit (Kd.slice 5 (Kd.int .u8)) _ 22 ?hg (N' := 86) ?hd (xs := ([l0, x5_2] : List (List Int))) (inner := [.slice A0 l0.length c0, .slice Ao48 x5_2.length co48]) (ok := (fun k_ => (P0_ k_ ∨ w.heap.size ≤ k_))) (okp := (fun k_ => (P0_ k_ ∨ w.heap.size ≤ k_))) ?hr ?hp (fun _ hk => hk) ((show ∀ k_, wr.heap.size ≤ k_ → (fun k_ => (P0_ k_ ∨ w.heap.size ≤ k_)) k_ from fun k_ hk => (.inr (Nat.le_trans (below_size (by repeat (first | (with_reducible first | exact HB.out | apply below_alloc | apply pw_below_drewN | apply below_drew1) | exact HB.out))) hk))) _ (Nat.le_refl _)) (Below.refl _ _) (Nat.le_refl _) (by simp) ?_; (case hd => rfl); (case hg => rfl); (case hr => first | (go_simp; done) | (go_simp; rfl)); (case hp => exact (Reps.one (show Kd.FK (Kd.slice 5 (Kd.int .u8)) _ _ l0 [.slice A0 l0.length c0] from (Kd.FK_slice_mk (Kd.V_reads' (Kd.V_mono (ok' := (fun k_ => (P0_ k_ ∨ w.heap.size ≤ k_))) (HO_0.out) (fun k_ hk => hk.1))).2.1 (Kd.V_F (Kd.V_mono (ok' := (fun k_ => (P0_ k_ ∨ w.heap.size ≤ k_))) (HO_0.out) (fun k_ hk => hk.1))))) (Reps.one (show Kd.FK (Kd.slice 5 (Kd.int .u8)) _ _ x5_2 [.slice Ao48 x5_2.length co48] from (Kd.FK_slice_mk (Kd.R_reads' (Kd.R_mono (ok' := (fun k_ => (P0_ k_ ∨ w.heap.size ≤ k_))) (HO_5.out) (fun k_ hk => (.inr (hk))))).2.1 (Kd.R_F (Kd.R_mono (ok' := (fun k_ => (P0_ k_ ∨ w.heap.size ≤ k_))) (HO_5.out) (fun k_ hk => (.inr (hk))))))) (Reps.none _ _)))); intro v383 w49 ho50 hb hg_ hnew_; clear hg_ hnew_; (first | rw [← Ny382.out] at ho50 | (simp only [Int.reduceToNat] at ho50; rw [← Ny382.out] at ho50)); have n0_ := Aside0.mk (Kd.V_elder' (by (with_reducible repeat (first | apply Kd.V_alloc | apply Kd.V_drewN | apply Kd.V_drew)); exact HO_0.out) (Kd.N_base ho50) hb); have n1_ := Aside0.mk (Kd.N_lower ho50 (below_size (by repeat (first | (with_reducible first | exact HB.out | apply below_alloc | apply pw_below_drewN | apply below_drew1) | exact HB.out)))); have n2_ := Aside0.mk (below_step (by repeat (first | (with_reducible first | exact HB.out | apply below_alloc | apply pw_below_drewN | apply below_drew1) | exact HB.out)) hb); clear HO_0; clear HB; clear HO_5; have HO_0 := n0_; have HO384 := n1_; have HB := n2_; clear n0_ n1_ n2_; clear hb ho50; obtain ⟨Ao51, co51, eo51⟩ := Kd.N_slice HO384.out; subst eo51))
                go_loopg [88] k2 (fun kq v88 w' => ∃ (x88_3 : Int), v88 = .int .i64 x88_3 ∧ Aside0 (guichetlaw11_WireReads.l1 kq y382 (y382.length : Int) x88_3 = some r) ∧ Aside0 (kq ≤ k2) ∧ Aside0 (Kd.N (Kd.slice 5 (Kd.int .u8)) 22 w' w.heap.size (fun k_ => (P0_ k_ ∨ w.heap.size ≤ k_)) (.slice Ao51 y382.length co51) y382) ∧ Aside0 (Below w.heap.size w w'))
                case atStart => exact ⟨(0), (by first | rfl | (simp; done) | (simp [*]; done)), H', ⟨Nat.le_refl _⟩, ⟨by (with_reducible repeat (first | apply Kd.N_alloc | apply Kd.N_drewN | apply Kd.N_drew)); exact HO384.out⟩, ⟨by repeat (first | (with_reducible first | exact HB.out | apply below_alloc | apply pw_below_drewN | apply below_drew1) | exact HB.out)⟩⟩
                case round =>
                  clear H'
                  try clear c1
                  try clear c2
                  try clear p2
                  try clear c3
                  try clear p3
                  try clear q3
                  try clear hx3
                  try clear c4
                  try clear c5
                  try clear p6
                  try clear c7
                  try clear c7b0
                  try clear c7b1
                  try clear c8
                  try clear c9
                  try clear c9b0
                  try clear c10
                  try clear c10b0
                  try clear c12
                  try clear c12b0
                  try clear c12b1
                  try clear c13
                  try clear c14
                  try clear c17
                  try clear c17b0
                  try clear c17b1
                  try clear c18
                  try clear c19
                  try clear c21
                  try clear c21b0
                  try clear c21b1
                  try clear c22
                  try clear c27
                  try clear c27b0
                  try clear c27b1
                  try clear c28
                  try clear c28b0
                  try clear c29
                  try clear c29b0
                  try clear c31
                  try clear p34
                  try clear q34
                  try clear hx34
                  try clear p36
                  try clear q36
                  try clear hx36
                  try clear p37
                  try clear q37
                  try clear hx37
                  try clear c38
                  try clear c38b0
                  try clear c38b1
                  try clear c39
                  try clear c44
                  try clear c44b0
                  try clear c45
                  try clear c45b0
                  try clear c46
                  try clear hx348_0
                  try clear hx361_0
                  try clear hx378_0
                  try clear p2
                  try clear p3
                  try clear p348
                  try clear p361
                  try clear p378
                  try clear p6
                  try clear q3
                  try clear q348
                  try clear q361
                  try clear q378
                  obtain ⟨x88_3, rfl, HA, HK3, HO_86, HB⟩ := hrel
                  cases gk with
                  | zero => exact absurd HA.out (by simp [guichetlaw11_WireReads.l1])
                  | succ k3 =>
                    have H := HA.out
                    clear HA
                    simp only [guichetlaw11_WireReads.l1] at H
                    by_cases c52 : x88_3 < (y382.length : Int)
                    · rw [if_pos c52] at H
                      have c52b0 : decide (x88_3 < (y382.length : Int)) = true := decide_eq_true c52
                      clear c52
                      by_cases c53 : 0 ≤ x88_3
                      · rw [if_pos c53] at H
                        have c53b0 : decide (0 ≤ x88_3) = true := decide_eq_true c53
                        clear c53
                        by_cases c54 : x88_3 < (y382.length : Int)
                        · rw [if_pos c54] at H
                          have c54b0 : decide (x88_3 < (y382.length : Int)) = true := decide_eq_true c54
                          clear c54
                          have H' := Aside0.mk H
                          clear H
                          have p385 : 0 ≤ (x88_3 : Int) := of_decide_eq_true (by first | (with_reducible assumption) | assumption)
                          have q385 : x88_3 < (y382.length : Int) := of_decide_eq_true (by first | (with_reducible assumption) | assumption)
                          obtain ⟨ad385, A385_0, c385_0, e385, hx385_0, hl385_0, hi385_0⟩ := at_L3 (Kd.N_reads' HO_86.out).2.2 x88_3 p385 q385
                          cases e385
                          obtain ⟨ce385, hce385, hMe385, hcc385⟩ := Kd.N_get HO_86.out [] x88_3 p385 (by first | exact q385 | exact of_decide_eq_true (by first | (with_reducible assumption) | assumption) | (have e_ := (Kd.N_reads' HO_86.out).1; omega))
                          obtain ⟨ua385_0, uc385_0, rfl, ul385_0, ge385_0⟩ := Kd.FK_slice_open hMe385
                          have hv385_0 := hcc385 0 _ rfl
                          rw [Nat.add_zero, show ((Kd.slice 5 (Kd.int .u8))).sz = 1 from rfl, Nat.mul_one] at hv385_0
                          replace hv385_0 := Option.some.inj (hv385_0.symm.trans hx385_0)
                          injection hv385_0 with hva_ hvn_ hvc_
                          rw [hva_] at ge385_0
                          rw [hvc_] at ul385_0
                          have HL385_0 := Aside0.mk (show Kd.V (Kd.int .u8) 5 _ w.heap.size _ _ (rd_L3 y382 x88_3) from Kd.V_mk ul385_0 ge385_0)
                          clear hva_ hvn_ hvc_ ge385_0 ul385_0
                          clear hcc385 hce385
                          have HR385_0 := Aside0.mk hi385_0
                          have HC385_0 := Aside0.mk hl385_0
                          clear hi385_0 hl385_0
                          replace p385 := eq_true p385
                          replace q385 := eq_true q385
                          go_wp2
                          go_loopg [10, 11] k3 (fun kq v10 v11 w' => ∃ (x10_4 : List Int) (x11_4 : Int), v11 = .int .i64 x11_4 ∧ Aside0 (guichetlaw11_WireReads.l2 kq x10_4 x11_4 y382 (y382.length : Int) x88_3 = some r) ∧ Aside0 (kq ≤ k3) ∧ Aside0 (Kd.V (Kd.int .u8) 5 w' w.heap.size (fun k_ => (P0_ k_ ∨ w.heap.size ≤ k_) ∧ some k_ ≠ ((.slice (some ad385) y382.length co51) : Value).ownBlock) v10 x10_4) ∧ Aside0 (Kd.N (Kd.slice 5 (Kd.int .u8)) 22 w' w.heap.size (fun k_ => (P0_ k_ ∨ w.heap.size ≤ k_)) (.slice (some ad385) y382.length co51) y382) ∧ Aside0 (Kd.C (Kd.int .u8) w' A385_0 (rd_L3 y382 x88_3).length (rd_L3 y382 x88_3)) ∧ Aside0 (Below w.heap.size w w'))
                          case atStart => exact ⟨(rd_L3 y382 x88_3), (0), (by first | rfl | (simp; done) | (simp [*]; done)), H', ⟨Nat.le_refl _⟩, ⟨by (with_reducible repeat (first | apply Kd.V_alloc | apply Kd.V_drewN | apply Kd.V_drew)); exact HL385_0.out⟩, ⟨by (with_reducible repeat (first | apply Kd.N_alloc | apply Kd.N_drewN | apply Kd.N_drew)); exact HO_86.out⟩, ⟨by repeat (first | (with_reducible exact HR385_0.out) | (with_reducible refine Kd.C_alloc ?_ _) | (with_reducible refine Kd.C_drewN ?_ _) | (with_reducible refine Kd.C_drew ?_) | exact HR385_0.out)⟩, ⟨by repeat (first | (with_reducible first | exact HB.out | apply below_alloc | apply pw_below_drewN | apply below_drew1) | exact HB.out)⟩⟩
                          case round =>
                            clear H'
                            try clear c1
                            try clear c2
                            try clear p2
                            try clear c3
                            try clear p3
                            try clear q3
                            try clear hx3
                            try clear c4
                            try clear c5
                            try clear p6
                            try clear c7
                            try clear c7b0
                            try clear c7b1
                            try clear c8
                            try clear c9
                            try clear c9b0
                            try clear c10
                            try clear c10b0
                            try clear c12
                            try clear c12b0
                            try clear c12b1
                            try clear c13
                            try clear c14
                            try clear c17
                            try clear c17b0
                            try clear c17b1
                            try clear c18
                            try clear c19
                            try clear c21
                            try clear c21b0
                            try clear c21b1
                            try clear c22
                            try clear c27
                            try clear c27b0
                            try clear c27b1
                            try clear c28
                            try clear c28b0
                            try clear c29
                            try clear c29b0
                            try clear c31
                            try clear p34
                            try clear q34
                            try clear hx34
                            try clear p36
                            try clear q36
                            try clear hx36
                            try clear p37
                            try clear q37
                            try clear hx37
                            try clear c38
                            try clear c38b0
                            try clear c38b1
                            try clear p38
                            try clear q38
                            try clear hx38
                            try clear c39
                            try clear c44
                            try clear c44b0
                            try clear c45
                            try clear c45b0
                            try clear c46
                            try clear c52
                            try clear c52b0
                            try clear c53
                            try clear c53b0
                            try clear c54
                            try clear c54b0
                            try clear hx348_0
                            try clear hx361_0
                            try clear hx378_0
                            try clear hx385_0
                            try clear p2
                            try clear p3
                            try clear p34
                            try clear p348
                            try clear p36
                            try clear p361
                            try clear p37
                            try clear p378
                            try clear p385
                            try clear p6
                            try clear q3
                            try clear q34
                            try clear q348
                            try clear q36
                            try clear q361
                            try clear q37
                            try clear q378
                            try clear q385
                            obtain ⟨x10_4, x11_4, rfl, HA, HK4, HO_10, HO_86, HR385_0, HB⟩ := hrel
                            cases gk with
                            | zero => exact absurd HA.out (by simp [guichetlaw11_WireReads.l2])
                            | succ k4 =>
                              have H := HA.out
                              clear HA
                              simp only [guichetlaw11_WireReads.l2] at H
                              by_cases c55 : x11_4 < 10
                              · rw [if_pos c55] at H
                                have c55b0 : decide (x11_4 < 10) = true := decide_eq_true c55
                                clear c55
                                replace H := Option.bind_eq_some_iff.mp H
                                obtain ⟨⟨t386, t387, t388⟩, A560, H⟩ := H
                                replace H : ((guichetref1_Unframe.f k4 x10_4).bind fun bt391 => (if (strOfNums t386).toList = (strOfNums bt391.1).toList then (if t387 = bt391.2.1 then (guichetlaw11_WireReads.j6 k4 x10_4 x11_4 t388 bt391.2.1 y382 (y382.length : Int) x88_3 (t388 != bt391.2.2)) else (guichetlaw11_WireReads.j6 k4 x10_4 x11_4 t388 bt391.2.1 y382 (y382.length : Int) x88_3 true)) else (guichetlaw11_WireReads.j6 k4 x10_4 x11_4 t388 bt391.2.1 y382 (y382.length : Int) x88_3 true))) = some r := H
                                have A56 := Aside0.mk A560
                                clear A560
                                replace H := Option.bind_eq_some_iff.mp H
                                obtain ⟨⟨t391, t392, t393⟩, A570, H⟩ := H
                                replace H : (if (strOfNums t386).toList = (strOfNums t391).toList then (if t387 = t392 then (guichetlaw11_WireReads.j6 k4 x10_4 x11_4 t388 t392 y382 (y382.length : Int) x88_3 (t388 != t393)) else (guichetlaw11_WireReads.j6 k4 x10_4 x11_4 t388 t392 y382 (y382.length : Int) x88_3 true)) else (guichetlaw11_WireReads.j6 k4 x10_4 x11_4 t388 t392 y382 (y382.length : Int) x88_3 true)) = some r := H
                                have A57 := Aside0.mk A570
                                clear A570
                                have HC58 := Aside0.mk H
                                clear H
                                obtain ⟨Ao59, co59, eo59⟩ := Kd.V_slice HO_10.out
                                subst eo59
                                go_upto_region 32 with (first | ((with_reducible refine gate_callee (f := 19) rfl ?_); refine goesL_ (some 98) rfl rfl Tryd.func19 (by kernel_rfl) rfl #[.slice Ao59 x10_4.length co59] rfl (by (try simp only [List.map_toArray, List.map_cons, List.map_nil]); first | done | rfl | (simp only [List.length_drop, List.length_take]; rfl)) ?_; (with_reducible refine (wire_Unframe.calls k4 _ _ x10_4 t386 t387 t388 _ ?side1 ?side2 A56.out).mono ?_); (case side1 => repeat (first | exact (Kd.V_reads' HO_10.out).2.2 | (with_reducible refine Kd.C_alloc ?_ _) | (with_reducible refine Kd.C_drewN ?_ _) | (with_reducible refine Kd.C_drew ?_))); (case side2 => exact (Kd.V_reads' HO_10.out).2.1); rintro e w60 ⟨v389, rfl, ho0, hb⟩; refine ⟨_, rfl, ?_⟩; have n0_ := Aside0.mk (Kd.V_elder' (by (with_reducible repeat (first | apply Kd.V_alloc | apply Kd.V_drewN | apply Kd.V_drew)); exact HO_10.out) (Kd.R_base ho0) hb); have n1_ := Aside0.mk (Kd.N_elder' (by (with_reducible repeat (first | apply Kd.N_alloc | apply Kd.N_drewN | apply Kd.N_drew)); exact HO_86.out) (Kd.R_base ho0) hb); have n2_ := Aside0.mk (Kd.R_lower (Kd.R_newM (M := fun k_ => (w.heap.size ≤ k_)) ho0 (below_size (by repeat (first | (with_reducible first | exact HB.out | apply below_alloc | apply pw_below_drewN | apply below_drew1) | exact HB.out))) (fun k_ h_ => h_)) (below_size (by repeat (first | (with_reducible first | exact HB.out | apply below_alloc | apply pw_below_drewN | apply below_drew1) | exact HB.out)))); have n3_ := Aside0.mk (Kd.C_below (by repeat (first | (with_reducible exact HR385_0.out) | (with_reducible refine Kd.C_alloc ?_ _) | (with_reducible refine Kd.C_drewN ?_ _) | (with_reducible refine Kd.C_drew ?_) | exact HR385_0.out)) hb); have n4_ := Aside0.mk (below_step (by repeat (first | (with_reducible first | exact HB.out | apply below_alloc | apply pw_below_drewN | apply below_drew1) | exact HB.out)) hb); clear HO_10; clear HO_86; clear HR385_0; clear HB; have HO_10 := n0_; have HO_86 := n1_; have HO390 := n2_; have HR385_0 := n3_; have HB := n4_; clear n0_ n1_ n2_ n3_ n4_; (try clear hb); (try clear hb2); (try clear hk); (try clear hi); (try clear ho0)) | ((with_reducible refine gate_callee (f := 20) rfl ?_); refine goesL_ (some 104) rfl rfl Tryd.func20 (by kernel_rfl) rfl #[.slice Ao59 x10_4.length co59] rfl (by (try simp only [List.map_toArray, List.map_cons, List.map_nil]); first | done | rfl | (simp only [List.length_drop, List.length_take]; rfl)) ?_; (with_reducible refine (guichetref1_Unframe.calls k4 _ _ x10_4 t391 t392 t393 _ ?side1 ?side2 A57.out).mono ?_); (case side1 => repeat (first | exact (Kd.V_reads' HO_10.out).2.2 | (with_reducible refine Kd.C_alloc ?_ _) | (with_reducible refine Kd.C_drewN ?_ _) | (with_reducible refine Kd.C_drew ?_))); (case side2 => exact (Kd.V_reads' HO_10.out).2.1); rintro e w61 ⟨v394, rfl, ho0, hb⟩; refine ⟨_, rfl, ?_⟩; have n0_ := Aside0.mk (Kd.V_elder' (by (with_reducible repeat (first | apply Kd.V_alloc | apply Kd.V_drewN | apply Kd.V_drew)); exact HO_10.out) (Kd.R_base ho0) hb); have n1_ := Aside0.mk (Kd.N_elder' (by (with_reducible repeat (first | apply Kd.N_alloc | apply Kd.N_drewN | apply Kd.N_drew)); exact HO_86.out) (Kd.R_base ho0) hb); have n2_ := Aside0.mk (Kd.R_elder' (by (with_reducible repeat (first | apply Kd.R_alloc | apply Kd.R_drewN | apply Kd.R_drew)); exact HO390.out) (Kd.R_base ho0) hb); have n3_ := Aside0.mk (Kd.R_lower (Kd.R_new' (Kd.R_newM (M := fun k_ => (w.heap.size ≤ k_)) ho0 (below_size (by repeat (first | (with_reducible first | exact HB.out | apply below_alloc | apply pw_below_drewN | apply below_drew1) | exact HB.out))) (fun k_ h_ => h_)) (Kd.R_lt (by (with_reducible repeat (first | apply Kd.R_alloc | apply Kd.R_drewN | apply Kd.R_drew)); exact HO390.out))) (below_size (by repeat (first | (with_reducible first | exact HB.out | apply below_alloc | apply pw_below_drewN | apply below_drew1) | exact HB.out)))); have n4_ := Aside0.mk (Kd.C_below (by repeat (first | (with_reducible exact HR385_0.out) | (with_reducible refine Kd.C_alloc ?_ _) | (with_reducible refine Kd.C_drewN ?_ _) | (with_reducible refine Kd.C_drew ?_) | exact HR385_0.out)) hb); have n5_ := Aside0.mk (below_step (by repeat (first | (with_reducible first | exact HB.out | apply below_alloc | apply pw_below_drewN | apply below_drew1) | exact HB.out)) hb); clear HO_10; clear HO_86; clear HO390; clear HR385_0; clear HB; have HO_10 := n0_; have HO_86 := n1_; have HO390 := n2_; have HO395 := n3_; have HR385_0 := n4_; have HB := n5_; clear n0_ n1_ n2_ n3_ n4_ n5_; (try clear hb); (try clear hb2); (try clear hk); (try clear hi); (try clear ho0)))
                                (try simp only [Act.put, List.setIfInBounds_toArray, List.set_cons_zero, List.set_cons_succ])
                                go_cut [122] (fun v122 wc => ∃ (kq : Nat) (x122_57 : Bool), v122 = .bool x122_57 ∧ Aside0 (guichetlaw11_WireReads.j6 kq x10_4 x11_4 t388 t392 y382 (y382.length : Int) x88_3 x122_57 = some r) ∧ Aside0 (kq ≤ k4) ∧ Aside0 (Kd.V (Kd.int .u8) 5 wc w.heap.size (fun k_ => (P0_ k_ ∨ w.heap.size ≤ k_) ∧ some k_ ≠ ((.slice (some ad385) y382.length co51) : Value).ownBlock) (.slice Ao59 x10_4.length co59) x10_4) ∧ Aside0 (Kd.N (Kd.slice 5 (Kd.int .u8)) 22 wc w.heap.size (fun k_ => (P0_ k_ ∨ w.heap.size ≤ k_)) (.slice (some ad385) y382.length co51) y382) ∧ Aside0 (Kd.C (Kd.int .u8) wc A385_0 (rd_L3 y382 x88_3).length (rd_L3 y382 x88_3)) ∧ Aside0 (Below w.heap.size w wc))
                                case first =>
                                  have H := HC58.out
                                  clear HC58
                                  by_cases c62 : (strOfNums t386).toList = (strOfNums t391).toList
                                  · rw [if_pos c62] at H
                                    have c62b0 : ((strOfNums t386).toList == (strOfNums t391).toList) = true := beq_iff_eq.mpr c62
                                    have c62b1 : ((strOfNums t386).toList != (strOfNums t391).toList) = false := bne_eq_false_iff_eq.mpr c62
                                    clear c62
                                    (first | rw [c62b0] | (simp only [i64_w, i32_w]; rw [c62b0]) | skip)
                                    by_cases c63 : t387 = t392
                                    · rw [if_pos c63] at H
                                      have c63b0 : (t387 == t392) = true := beq_iff_eq.mpr c63
                                      have c63b1 : (t387 != t392) = false := bne_eq_false_iff_eq.mpr c63
                                      clear c63
                                      have H' := Aside0.mk H
                                      clear H
                                      have hcv64 := own_string (P := Tryd.prog) Tryd.underlying22 Tryd.underlying5 Tryd.underlying9 (Kd.own_of_R HO390.out)
                                      have hcv65 := own_string (P := Tryd.prog) Tryd.underlying22 Tryd.underlying5 Tryd.underlying9 (Kd.own_of_R HO395.out)
                                      go_wp2
                                      go_meet
                                      case rel => exact ⟨_, ((t388 != t393)), (by first | rfl | (simp; done) | (simp [*]; done)), H', ⟨by have := HJ4.out; have := HK2.out; have := HK3.out; have := HK4.out; first | omega | exact Nat.le_refl _⟩, ⟨by (with_reducible repeat (first | apply Kd.V_alloc | apply Kd.V_drewN | apply Kd.V_drew)); exact Kd.V_mono HO_10.out (fun _ hk => ⟨hk.1.1.1, hk.1.1.2⟩)⟩, ⟨by (with_reducible repeat (first | apply Kd.N_alloc | apply Kd.N_drewN | apply Kd.N_drew)); exact Kd.N_mono HO_86.out (fun _ hk => hk.1.1)⟩, ⟨by repeat (first | (with_reducible exact HR385_0.out) | (with_reducible refine Kd.C_alloc ?_ _) | (with_reducible refine Kd.C_drewN ?_ _) | (with_reducible refine Kd.C_drew ?_) | exact HR385_0.out)⟩, ⟨by repeat (first | (with_reducible first | exact HB.out | apply below_alloc | apply pw_below_drewN | apply below_drew1) | exact HB.out)⟩⟩
                                    · rw [if_neg c63] at H
                                      have c63b0 : (t387 == t392) = false := beq_eq_false_iff_ne.mpr c63
                                      have c63b1 : (t387 != t392) = true := bne_iff_ne.mpr c63
                                      have H' := Aside0.mk H
                                      clear H
                                      have hcv66 := own_string (P := Tryd.prog) Tryd.underlying22 Tryd.underlying5 Tryd.underlying9 (Kd.own_of_R HO390.out)
                                      have hcv67 := own_string (P := Tryd.prog) Tryd.underlying22 Tryd.underlying5 Tryd.underlying9 (Kd.own_of_R HO395.out)
                                      go_wp2
                                      go_meet
                                      case rel => exact ⟨_, (true), (by first | rfl | (simp; done) | (simp [*]; done)), H', ⟨by have := HJ4.out; have := HK2.out; have := HK3.out; have := HK4.out; first | omega | exact Nat.le_refl _⟩, ⟨by (with_reducible repeat (first | apply Kd.V_alloc | apply Kd.V_drewN | apply Kd.V_drew)); exact Kd.V_mono HO_10.out (fun _ hk => ⟨hk.1.1.1, hk.1.1.2⟩)⟩, ⟨by (with_reducible repeat (first | apply Kd.N_alloc | apply Kd.N_drewN | apply Kd.N_drew)); exact Kd.N_mono HO_86.out (fun _ hk => hk.1.1)⟩, ⟨by repeat (first | (with_reducible exact HR385_0.out) | (with_reducible refine Kd.C_alloc ?_ _) | (with_reducible refine Kd.C_drewN ?_ _) | (with_reducible refine Kd.C_drew ?_) | exact HR385_0.out)⟩, ⟨by repeat (first | (with_reducible first | exact HB.out | apply below_alloc | apply pw_below_drewN | apply below_drew1) | exact HB.out)⟩⟩
                                  · rw [if_neg c62] at H
                                    have c62b0 : ((strOfNums t386).toList == (strOfNums t391).toList) = false := beq_eq_false_iff_ne.mpr c62
                                    have c62b1 : ((strOfNums t386).toList != (strOfNums t391).toList) = true := bne_iff_ne.mpr c62
                                    (first | rw [c62b0] | (simp only [i64_w, i32_w]; rw [c62b0]) | skip)
                                    have H' := Aside0.mk H
                                    clear H
                                    have hcv68 := own_string (P := Tryd.prog) Tryd.underlying22 Tryd.underlying5 Tryd.underlying9 (Kd.own_of_R HO390.out)
                                    have hcv69 := own_string (P := Tryd.prog) Tryd.underlying22 Tryd.underlying5 Tryd.underlying9 (Kd.own_of_R HO395.out)
                                    go_wp2
                                    go_meet
                                    case rel => exact ⟨_, (true), (by first | rfl | (simp; done) | (simp [*]; done)), H', ⟨by have := HJ4.out; have := HK2.out; have := HK3.out; have := HK4.out; first | omega | exact Nat.le_refl _⟩, ⟨by (with_reducible repeat (first | apply Kd.V_alloc | apply Kd.V_drewN | apply Kd.V_drew)); exact Kd.V_mono HO_10.out (fun _ hk => ⟨hk.1.1.1, hk.1.1.2⟩)⟩, ⟨by (with_reducible repeat (first | apply Kd.N_alloc | apply Kd.N_drewN | apply Kd.N_drew)); exact Kd.N_mono HO_86.out (fun _ hk => hk.1.1)⟩, ⟨by repeat (first | (with_reducible exact HR385_0.out) | (with_reducible refine Kd.C_alloc ?_ _) | (with_reducible refine Kd.C_drewN ?_ _) | (with_reducible refine Kd.C_drew ?_) | exact HR385_0.out)⟩, ⟨by repeat (first | (with_reducible first | exact HB.out | apply below_alloc | apply pw_below_drewN | apply below_drew1) | exact HB.out)⟩⟩
                                case rest =>
                                  clear HC58
                                  try clear c1
                                  try clear c2
                                  try clear p2
                                  try clear c3
                                  try clear p3
                                  try clear q3
                                  try clear hx3
                                  try clear c4
                                  try clear c5
                                  try clear c6
                                  try clear p6
                                  try clear hcv6
                                  try clear c7
                                  try clear c7b0
                                  try clear c7b1
                                  try clear c8
                                  try clear c9
                                  try clear c9b0
                                  try clear c10
                                  try clear c10b0
                                  try clear c12
                                  try clear c12b0
                                  try clear c12b1
                                  try clear c13
                                  try clear c14
                                  try clear c17
                                  try clear c17b0
                                  try clear c17b1
                                  try clear c18
                                  try clear c19
                                  try clear c20
                                  try clear c21
                                  try clear c21b0
                                  try clear c21b1
                                  try clear c22
                                  try clear c27
                                  try clear c27b0
                                  try clear c27b1
                                  try clear c28
                                  try clear c28b0
                                  try clear c29
                                  try clear c29b0
                                  try clear c31
                                  try clear p34
                                  try clear q34
                                  try clear hx34
                                  try clear p36
                                  try clear q36
                                  try clear hx36
                                  try clear p37
                                  try clear q37
                                  try clear hx37
                                  try clear c38
                                  try clear c38b0
                                  try clear c38b1
                                  try clear p38
                                  try clear q38
                                  try clear hx38
                                  try clear c39
                                  try clear c44
                                  try clear c44b0
                                  try clear c45
                                  try clear c45b0
                                  try clear c46
                                  try clear c52
                                  try clear c52b0
                                  try clear c53
                                  try clear c53b0
                                  try clear c54
                                  try clear c54b0
                                  try clear c55
                                  try clear c55b0
                                  try clear c62
                                  try clear c62b0
                                  try clear c62b1
                                  try clear c63
                                  try clear c63b0
                                  try clear c63b1
                                  try clear p64
                                  try clear hcv64
                                  try clear hcv65
                                  try clear hcv66
                                  try clear hcv67
                                  try clear hcv68
                                  try clear hcv69
                                  try clear hx348_0
                                  try clear hx361_0
                                  try clear hx378_0
                                  try clear hx385_0
                                  try clear p2
                                  try clear p3
                                  try clear p34
                                  try clear p348
                                  try clear p36
                                  try clear p361
                                  try clear p37
                                  try clear p378
                                  try clear p38
                                  try clear p385
                                  try clear p6
                                  try clear q3
                                  try clear q34
                                  try clear q348
                                  try clear q36
                                  try clear q361
                                  try clear q37
                                  try clear q378
                                  try clear q38
                                  try clear q385
                                  obtain ⟨kq, x122_57, rfl, HA, HJ57, HO_10, HO_86, HR385_0, HB⟩ := hcut
                                  cases kq with
                                  | zero => exact absurd HA.out (by simp [guichetlaw11_WireReads.j6])
                                  | succ kj57 =>
                                    have H := HA.out
                                    clear HA
                                    simp only [guichetlaw11_WireReads.j6] at H
                                    by_cases c70 : x122_57 = true
                                    · subst c70
                                      have H1 : (some false) = some r := by rw [if_pos rfl] at H; exact H
                                      clear H
                                      have H := H1
                                      clear H1
                                      obtain rfl := Option.some.inj H
                                      go_wp2
                                      go_ret
                                      exact ⟨by first | rfl | (simp [errW_none, errW_some] <;> rfl) | (simp [*, errW_none, errW_some] <;> rfl), by repeat (first | (with_reducible first | exact HB.out | apply below_alloc | apply pw_below_drewN | apply below_drew1) | exact HB.out)⟩
                                    · replace c70 := Bool.eq_false_iff.mpr c70
                                      subst c70
                                      have H1 : (if t388 = true then (if 0 ≤ t392 then (if t392 ≤ (x10_4.length : Int) then (guichetlaw11_WireReads.l2 kj57 (x10_4.drop (t392 : Int).toNat) (wrap64 (x11_4 + 1)) y382 (y382.length : Int) x88_3) else (none)) else (none)) else (guichetlaw11_WireReads.l1 kj57 y382 (y382.length : Int) (wrap64 (x88_3 + 1)))) = some r := by rw [if_neg (show ¬ (false = true) by decide)] at H; exact H
                                      clear H
                                      have H := H1
                                      clear H1
                                      by_cases c71 : t388 = true
                                      · subst c71
                                        have H1 : (if 0 ≤ t392 then (if t392 ≤ (x10_4.length : Int) then (guichetlaw11_WireReads.l2 kj57 (x10_4.drop (t392 : Int).toNat) (wrap64 (x11_4 + 1)) y382 (y382.length : Int) x88_3) else (none)) else (none)) = some r := by rw [if_pos rfl] at H; exact H
                                        clear H
                                        have H := H1
                                        clear H1
                                        by_cases c72 : 0 ≤ t392
                                        · rw [if_pos c72] at H
                                          have c72b0 := eq_true c72
                                          have c72b1 : decide (0 ≤ t392) = true := decide_eq_true c72
                                          clear c72
                                          by_cases c73 : t392 ≤ (x10_4.length : Int)
                                          · rw [if_pos c73] at H
                                            have c73b0 := eq_true c73
                                            have c73b1 : decide (t392 ≤ (x10_4.length : Int)) = true := decide_eq_true c73
                                            clear c73
                                            obtain ⟨y396, hy396⟩ : ∃ y_ : List Int, y_ = (x10_4.drop (t392 : Int).toNat) := ⟨_, rfl⟩
                                            replace H : (guichetlaw11_WireReads.l2 kj57 y396 (wrap64 (x11_4 + 1)) y382 (y382.length : Int) x88_3) = some r := by first | (rw [hy396]; with_reducible exact H) | (have H2_ := (Option.bind_some _ _).symm.trans H; rw [hy396]; with_reducible exact H2_) | (have H2_ := (Option.bind_some _ _).symm.trans H; with_reducible exact H2_) | with_reducible exact H | (rw [hy396]; exact H) | exact H
                                            have Ny396 := Aside0.mk hy396
                                            clear hy396
                                            have H' := Aside0.mk H
                                            clear H
                                            have q74 : (t392 : Int) ≤ ((x10_4.length : Int) : Int) := of_decide_eq_true (by first | (with_reducible assumption) | assumption)
                                            obtain ⟨i074, hi074, _, hsz74, _⟩ := info_parts info5
                                            have hroom74 : x10_4.length ≤ co59 := (Kd.V_reads' HO_10.out).2.1
                                            have hC74 : Kd.F (Kd.int .u8) _ _ Ao59 x10_4.length x10_4 := (Kd.V_at (base := w.heap.size) HO_10.out).2.2
                                            have q074 : (0 : Int) ≤ (t392 : Int) := of_decide_eq_true (by first | (with_reducible assumption) | assumption)
                                            have hcut74 := cut_from (P := Tryd.prog) 22 5 .i64 Tryd.underlying22 hi074 1 hsz74 Ao59 x10_4.length co59 t392 q074 q74
                                            have hr74 := Kd.F_cut (m := (t392 : Int).toNat) (c := co59) hC74 (by omega) hroom74
                                            obtain ⟨A74, hA74⟩ : ∃ A1, A1 = (if co59 = (t392 : Int).toNat then Ao59 else (Ao59 : Option Addr).map (·.add ((t392 : Int).toNat * 1))) := ⟨_, rfl⟩
                                            obtain ⟨c74, hc74⟩ : ∃ c1, c1 = co59 - (t392 : Int).toNat := ⟨_, rfl⟩
                                            have hy74 : y396.length = x10_4.length - (t392 : Int).toNat := (by rw [Ny396.out, List.length_drop] <;> omega)
                                            rw [show (x10_4).drop (t392 : Int).toNat = y396 from Ny396.out.symm] at hr74
                                            replace hr74 : Kd.F (Kd.int .u8) _ _ A74 y396.length y396 := (by rw [hA74]; exact hr74)
                                            rw [← hy74, ← hA74, ← hc74] at hcut74
                                            have HO400 := Aside0.mk (show Kd.V (Kd.int .u8) 5 _ w.heap.size _ (.slice A74 y396.length c74) y396 from Kd.V_mk (by rw [hy74, hc74]; exact Nat.sub_le_sub_right hroom74 _) hr74)
                                            have HC400 := Aside0.mk (show y396.length ≤ c74 from by rw [hy74, hc74]; exact Nat.sub_le_sub_right hroom74 _)
                                            clear hr74 hC74 hroom74 hi074 hsz74 hc74
                                            have KY74 := Aside0.mk hy74
                                            have KA74 := Aside0.mk hA74
                                            clear hy74 hA74
                                            replace q74 := eq_true q74
                                            go_wp2
                                            go_roundg kj57
                                            case measure => have := HJ4.out; have := HK2.out; have := HK3.out; have := HK4.out; have := HJ57.out; omega
                                            case rel => exact ⟨(y396), (wrap64 (x11_4 + 1)), (by first | rfl | (simp; done) | (simp [*]; done)), H', ⟨by have := HJ4.out; have := HK2.out; have := HK3.out; have := HK4.out; have := HJ57.out; omega⟩, ⟨by (with_reducible repeat (first | apply Kd.V_alloc | apply Kd.V_drewN | apply Kd.V_drew)); exact HO400.out⟩, ⟨by (with_reducible repeat (first | apply Kd.N_alloc | apply Kd.N_drewN | apply Kd.N_drew)); exact HO_86.out⟩, ⟨by repeat (first | (with_reducible exact HR385_0.out) | (with_reducible refine Kd.C_alloc ?_ _) | (with_reducible refine Kd.C_drewN ?_ _) | (with_reducible refine Kd.C_drew ?_) | exact HR385_0.out)⟩, ⟨by repeat (first | (with_reducible first | exact HB.out | apply below_alloc | apply pw_below_drewN | apply below_drew1) | exact HB.out)⟩⟩
                                          · rw [if_neg c73] at H
                                            exact absurd H (by simp)
                                        · rw [if_neg c72] at H
                                          exact absurd H (by simp)
                                      · replace c71 := Bool.eq_false_iff.mpr c71
                                        subst c71
                                        have H1 : (guichetlaw11_WireReads.l1 kj57 y382 (y382.length : Int) (wrap64 (x88_3 + 1))) = some r := by rw [if_neg (show ¬ (false = true) by decide)] at H; exact H
                                        clear H
                                        have H := H1
                                        clear H1
                                        have H' := Aside0.mk H
                                        clear H
                                        go_wp2
                                        go_roundg kj57
                                        case measure => have := HJ4.out; have := HK2.out; have := HK3.out; have := HK4.out; have := HJ57.out; omega
                                        case rel => exact ⟨(wrap64 (x88_3 + 1)), (by first | rfl | (simp; done) | (simp [*]; done)), H', ⟨by have := HJ4.out; have := HK2.out; have := HK3.out; have := HK4.out; have := HJ57.out; omega⟩, ⟨by (with_reducible repeat (first | apply Kd.N_alloc | apply Kd.N_drewN | apply Kd.N_drew)); exact HO_86.out⟩, ⟨by repeat (first | (with_reducible first | exact HB.out | apply below_alloc | apply pw_below_drewN | apply below_drew1) | exact HB.out)⟩⟩
                              · rw [if_neg c55] at H
                                have c55b0 : decide (x11_4 < 10) = false := decide_eq_false c55
                                clear c55
                                have H' := Aside0.mk H
                                clear H
                                go_wp2
                                go_roundg k4
                                case measure => have := HJ4.out; have := HK2.out; have := HK3.out; have := HK4.out; omega
                                case rel => exact ⟨(wrap64 (x88_3 + 1)), (by first | rfl | (simp; done) | (simp [*]; done)), H', ⟨by have := HJ4.out; have := HK2.out; have := HK3.out; have := HK4.out; omega⟩, ⟨by (with_reducible repeat (first | apply Kd.N_alloc | apply Kd.N_drewN | apply Kd.N_drew)); exact HO_86.out⟩, ⟨by repeat (first | (with_reducible first | exact HB.out | apply below_alloc | apply pw_below_drewN | apply below_drew1) | exact HB.out)⟩⟩
                        · rw [if_neg c54] at H
                          exact absurd H (by simp)
                      · rw [if_neg c53] at H
                        exact absurd H (by simp)
                    · rw [if_neg c52] at H
                      have c52b0 : decide (x88_3 < (y382.length : Int)) = false := decide_eq_false c52
                      clear c52
                      obtain rfl := Option.some.inj H
                      go_wp2
                      go_ret
                      exact ⟨by first | rfl | (simp [errW_none, errW_some] <;> rfl) | (simp [*, errW_none, errW_some] <;> rfl), by repeat (first | (with_reducible first | exact HB.out | apply below_alloc | apply pw_below_drewN | apply below_drew1) | exact HB.out)⟩
  · replace c4 := Bool.eq_false_iff.mpr c4
    subst c4
    have H1 : (some false) = some r := by rw [if_neg (show ¬ (false = true) by decide)] at H; exact H
    clear H
    have H := H1
    clear H1
    obtain rfl := Option.some.inj H
    go_enter Tryd.func5, Tryd.ntmps5
    go_wp2_with (first | ((with_reducible refine gate_callee (f := 9) rfl ?_); refine goesL_ (some 18) rfl rfl Tryd.func9 (by kernel_rfl) rfl #[] rfl (by (try simp only [List.map_toArray, List.map_cons, List.map_nil]); first | done | rfl | (simp only [List.length_drop, List.length_take]; rfl)) ?_; (with_reducible refine (guichetlaw11_known.calls k  false _ A3.out).mono ?_); rintro e w75 ⟨rfl, hb⟩; refine ⟨_, rfl, ?_⟩; have n0_ := Aside0.mk (Kd.V_below (by (with_reducible repeat (first | apply Kd.V_alloc | apply Kd.V_drewN | apply Kd.V_drew)); exact HO0.out) hb); have n1_ := Aside0.mk (below_step (by repeat (first | (with_reducible first | exact HB.out | apply below_alloc | apply pw_below_drewN | apply below_drew1) | exact HB.out)) hb); clear HO0; clear HB; have HO0 := n0_; have HB := n1_; clear n0_ n1_; (try clear hb); (try clear hb2); (try clear hk); (try clear hi)))
    go_ret
    exact ⟨by first | rfl | (simp [errW_none, errW_some] <;> rfl) | (simp [*, errW_none, errW_some] <;> rfl), by repeat (first | (with_reducible first | exact HB.out | apply below_alloc | apply pw_below_drewN | apply below_drew1) | exact HB.out)⟩

/-- THE ONE PURE STATEMENT of guichetlaw11_WireReads. -/
def guichetlaw11_WireReads.Pure : Prop := ∀ (l0 : List Int) (l1 : List Int), l0.length ≤ maxLen → l0.length * 1 ≤ 140737488351232 → (∀ x ∈ l0, (Lit.int .u8 x).wf = true) → l1.length ≤ maxLen → l1.length * 1 ≤ 140737488351232 → (∀ x ∈ l1, (Lit.int .u8 x).wf = true) → ∃ k, guichetlaw11_WireReads.f k l0 l1 = some true
theorem guichetlaw11_WireReads.walk (P : guichetlaw11_WireReads.Pure) (a0 : Option Addr) (len0 cap0 : Nat) (z0 : List Int) (a1 : Option Addr) (len1 cap1 : Nat) (z1 : List Int) (w : World) (w0 : (a0 = none ∧ len0 = 0 ∧ cap0 = 0 ∧ z0 = []) ∨ ∃ x, a0 = some x ∧ len0 ≤ cap0 ∧ cap0 ≤ maxLen ∧ z0.length = cap0 ∧ (∀ i, i < z0.length → w.cell? (x.add i) = some (.int .u8 (z0.getD i 0))) ∧ ∀ n ∈ z0, (Lit.int .u8 n).wf = true) (y0 : len0 * 1 ≤ 140737488351232) (w1 : (a1 = none ∧ len1 = 0 ∧ cap1 = 0 ∧ z1 = []) ∨ ∃ x, a1 = some x ∧ len1 ≤ cap1 ∧ cap1 ≤ maxLen ∧ z1.length = cap1 ∧ (∀ i, i < z1.length → w.cell? (x.add i) = some (.int .u8 (z1.getD i 0))) ∧ ∀ n ∈ z1, (Lit.int .u8 n).wf = true) (y1 : len1 * 1 ≤ 140737488351232) :
    Calls Tryd.prog 5 #[.slice a0 len0 cap0, .slice a1 len1 cap1] w fun e w' => e = .returned (.bool true) ∧ Below w.heap.size w w' := by
  obtain ⟨l0, rfl, hr0, hm0, hw0, hc0⟩ := ReadsInt.ofRowC w0
  obtain ⟨l1, rfl, hr1, hm1, hw1, hc1⟩ := ReadsInt.ofRowC w1
  obtain ⟨k, h⟩ := P l0 l1 hm0 y0 hw0 hm1 y1 hw1
  refine (guichetlaw11_WireReads.calls k (fun k_ => k_ < w.heap.size) _ _ l0 _ _ l1 true w (Kd.V_mk hc0 (Kd.C_F (Kd.heap_int .u8) (Kd.C_of_reads (d := (0 : Int)) (h1 := fun _ => rfl) hr0))) (Kd.C_of_reads (d := (0 : Int)) (h1 := fun _ => rfl) hr1) hc1 h).mono ?_
  rintro e w' ⟨rfl, hd⟩
  exact ⟨rfl, hd⟩

end Go.Proofs.YtbpkkgifjcpekaaDoor.PAll
