-- written by xprint.py out of the translation. Not trusted: Lean checks it.
import Derived.Test.YtnnoanfiehjleaaDoorPAllx0
import Derived.Test.YtnnoanfiehjleaaDoorPAllx5
namespace Go.Proofs.YtnnoanfiehjleaaDoor.PAll
open Go.RowKit Go.Proofs.YtnnoanfiehjleaaDoorW.PrintWords Go.Proofs.YtnnoanfiehjleaaDoorW.PrintLast Go.Proofs.YtnnoanfiehjleaaDoorW.PrintMore
attribute [local go_sem] max2_int min2_int max_two min_two max_three min_three max_four min_four   -- for this text's walks alone
set_option linter.unusedVariables false
set_option linter.unusedSimpArgs false

/-! ### guichetref12_Run: function 11 -/
mutual
def guichetref12_Run.l0 : Nat → List (S34) → List ByteArray → ByteArray → Int → Int → Int → Bool → ByteArray → Int → Option (Int × Int × Bool × ByteArray × Int)
 | 0, _, _, _, _, _, _, _, _, _ => none
 | k + 1, x0, x2, x8, x9, x193000, x193001, x193002, x193003, x193004 => if x193001 < 200 then ((guichetref12_Find.f k x0 x193000).bind fun bt193 => (if bt193.2.2.2.2 = true then ((guichetref12_kind.f k bt193.2.1).bind fun t199 => (if t199 = true then (guichetref12_Run.j1 k x0 x2 x8 x9 (bt193.2.1 == 90) x193000 x193001 x193002 x193003 x193004 bt193.1 bt193.2.1 bt193.2.2.1 bt193.2.2.2.1) else (guichetref12_Run.j1 k x0 x2 x8 x9 true x193000 x193001 x193002 x193003 x193004 bt193.1 bt193.2.1 bt193.2.2.1 bt193.2.2.2.1))) else (guichetref12_Run.j1 k x0 x2 x8 x9 true x193000 x193001 x193002 x193003 x193004 bt193.1 bt193.2.1 bt193.2.2.1 bt193.2.2.2.1))) else (some (x193000, x193001, x193002, x193003, x193004))
def guichetref12_Run.j1 : Nat → List (S34) → List ByteArray → ByteArray → Int → Bool → Int → Int → Bool → ByteArray → Int → Int → Int → Int → Int → Option (Int × Int × Bool × ByteArray × Int)
 | 0, _, _, _, _, _, _, _, _, _, _, _, _, _, _ => none
 | k + 1, x0, x2, x8, x9, x45, x193000, x193001, x193002, x193003, x193004, x199000, x199001, x199002, x199003 => if x45 = true then (some (x193000, x193001, x193002, x193003, x193004)) else (if x199001 = 73 then (if x8.toList = ([] : List UInt8) then (guichetref12_Run.l0 k x0 x2 x8 x9 x199002 (wrap64 (x193001 + 1)) x193002 x193003 x193004) else (if x9 = 0 then (guichetref12_Run.l0 k x0 x2 x8 x9 x199002 (wrap64 (x193001 + 1)) x193002 x193003 x193004) else (if x193002 = true then (guichetref12_Run.l0 k x0 x2 x8 x9 x199002 (wrap64 (x193001 + 1)) x193002 x193003 x193004) else (guichetref12_Run.l0 k x0 x2 x8 x9 x199002 (wrap64 (x193001 + 1)) true x8 x9)))) else (if (x2.length : Int) = 0 then (some (x193000, x193001, x193002, x193003, x193004)) else (if 0 < (x2.length : Int) then (if 1 ≤ (x2.length : Int) then ((some (x2.drop 1 : List ByteArray)).bind fun y201 => ((guichetref1_Num.f k (rdOf ByteArray.empty x2 0)).bind fun bt206 => (if x199001 = 65 then ((guichetref1_Pan.f k (rdOf ByteArray.empty x2 0)).bind fun t208 => (if t208 = true then (guichetref12_Run.l0 k x0 y201 (rdOf ByteArray.empty x2 0) x9 x199002 (wrap64 (x193001 + 1)) x193002 x193003 x193004) else (guichetref12_Run.l0 k x0 y201 x8 x9 x199000 (wrap64 (x193001 + 1)) x193002 x193003 x193004))) else (if x199001 = 66 then (if ((rdOf ByteArray.empty x2 0).size : Int) = 4 then (if bt206.2 = true then (guichetref12_Run.l0 k x0 y201 x8 x9 x199002 (wrap64 (x193001 + 1)) x193002 x193003 x193004) else (guichetref12_Run.l0 k x0 y201 x8 x9 x199003 (wrap64 (x193001 + 1)) x193002 x193003 x193004)) else (guichetref12_Run.l0 k x0 y201 x8 x9 x199003 (wrap64 (x193001 + 1)) x193002 x193003 x193004)) else (if x199001 = 68 then (if bt206.2 = true then (if ((rdOf ByteArray.empty x2 0).size : Int) ≤ 7 then (guichetref12_Run.l0 k x0 y201 x8 bt206.1 x199002 (wrap64 (x193001 + 1)) x193002 x193003 x193004) else (guichetref12_Run.l0 k x0 y201 x8 x9 x199003 (wrap64 (x193001 + 1)) x193002 x193003 x193004)) else (guichetref12_Run.l0 k x0 y201 x8 x9 x199003 (wrap64 (x193001 + 1)) x193002 x193003 x193004)) else (if (rdOf ByteArray.empty x2 0).toList = ([50] : List UInt8) then (guichetref12_Run.l0 k x0 y201 x8 x9 x199003 (wrap64 (x193001 + 1)) x193002 x193003 x193004) else (if (rdOf ByteArray.empty x2 0).toList = ([49] : List UInt8) then (guichetref12_Run.l0 k x0 y201 x8 x9 x199002 (wrap64 (x193001 + 1)) x193002 x193003 x193004) else (guichetref12_Run.l0 k x0 y201 x8 x9 x199000 (wrap64 (x193001 + 1)) x193002 x193003 x193004)))))))) else (none)) else (none))))
end
def guichetref12_Run.f (k : Nat) (l0 : List (S34)) (a1 : Int) (l2 : List ByteArray) : Option (Int × Int × Bool × ByteArray × Int) := if 0 ≤ (mn (l2.length : Int) 100) then (if (mn (l2.length : Int) 100) ≤ (l2.length : Int) then (guichetref12_Run.l0 k l0 (l2.take ((mn (l2.length : Int) 100) : Int).toNat) (⟨#[]⟩ : ByteArray) 0 a1 0 false (⟨#[]⟩ : ByteArray) 0) else (none)) else (none)
theorem guichetref12_Run.mono_l : ∀ k, (∀ y0 y1 y2 y3 y4 y5 y6 y7 y8, LeO (guichetref12_Run.l0 k y0 y1 y2 y3 y4 y5 y6 y7 y8) (guichetref12_Run.l0 (k + 1) y0 y1 y2 y3 y4 y5 y6 y7 y8)) ∧ (∀ y0 y1 y2 y3 y4 y5 y6 y7 y8 y9 y10 y11 y12 y13, LeO (guichetref12_Run.j1 k y0 y1 y2 y3 y4 y5 y6 y7 y8 y9 y10 y11 y12 y13) (guichetref12_Run.j1 (k + 1) y0 y1 y2 y3 y4 y5 y6 y7 y8 y9 y10 y11 y12 y13))
 | 0 => ⟨fun _ _ _ _ _ _ _ _ _ r h => by simp [guichetref12_Run.l0] at h, fun _ _ _ _ _ _ _ _ _ _ _ _ _ _ r h => by simp [guichetref12_Run.j1] at h⟩
 | k + 1 => by
  obtain ⟨ih0, ih1⟩ := guichetref12_Run.mono_l k
  refine ⟨?_, ?_⟩
  ·intro y0 y1 y2 y3 y4 y5 y6 y7 y8
   unfold guichetref12_Run.l0
   repeat' first
   | (with_reducible exact ih0 _ _ _ _ _ _ _ _ _)
   | (with_reducible exact ih1 _ _ _ _ _ _ _ _ _ _ _ _ _ _)
   | (with_reducible exact guichetref12_Find.mono _ _ _)
   | (with_reducible exact guichetref12_kind.mono _ _)
   | (with_reducible exact guichetref1_Num.mono _ _)
   | (with_reducible exact guichetref1_Pan.mono _ _)
   | (with_reducible exact LeO.refl _)
   | (with_reducible exact LeO.none _)
   | (with_reducible refine LeO.ite ?_ ?_)
   | (with_reducible refine LeO.bind ?_ (fun _ => ?_))
   | exact ih0 _ _ _ _ _ _ _ _ _
   | exact ih1 _ _ _ _ _ _ _ _ _ _ _ _ _ _
   | exact guichetref12_Find.mono _ _ _
   | exact guichetref12_kind.mono _ _
   | exact guichetref1_Num.mono _ _
   | exact guichetref1_Pan.mono _ _
   | exact LeO.none _
   | refine LeO.ite ?_ ?_
   | refine LeO.bind ?_ (fun _ => ?_)
  ·intro y0 y1 y2 y3 y4 y5 y6 y7 y8 y9 y10 y11 y12 y13
   unfold guichetref12_Run.j1
   repeat' first
   | (with_reducible exact ih0 _ _ _ _ _ _ _ _ _)
   | (with_reducible exact ih1 _ _ _ _ _ _ _ _ _ _ _ _ _ _)
   | (with_reducible exact guichetref12_Find.mono _ _ _)
   | (with_reducible exact guichetref12_kind.mono _ _)
   | (with_reducible exact guichetref1_Num.mono _ _)
   | (with_reducible exact guichetref1_Pan.mono _ _)
   | (with_reducible exact LeO.refl _)
   | (with_reducible exact LeO.none _)
   | (with_reducible refine LeO.ite ?_ ?_)
   | (with_reducible refine LeO.bind ?_ (fun _ => ?_))
   | exact ih0 _ _ _ _ _ _ _ _ _
   | exact ih1 _ _ _ _ _ _ _ _ _ _ _ _ _ _
   | exact guichetref12_Find.mono _ _ _
   | exact guichetref12_kind.mono _ _
   | exact guichetref1_Num.mono _ _
   | exact guichetref1_Pan.mono _ _
   | exact LeO.none _
   | refine LeO.ite ?_ ?_
   | refine LeO.bind ?_ (fun _ => ?_)
theorem guichetref12_Run.mono : ∀ a0 a1 a2 k, LeO (guichetref12_Run.f k a0 a1 a2) (guichetref12_Run.f (k + 1) a0 a1 a2) := by
 intro a0 a1 a2 k
 obtain ⟨ih0, ih1⟩ := guichetref12_Run.mono_l k
 unfold guichetref12_Run.f
 repeat' first
   | (with_reducible exact ih0 _ _ _ _ _ _ _ _ _)
   | (with_reducible exact ih1 _ _ _ _ _ _ _ _ _ _ _ _ _ _)
   | (with_reducible exact guichetref12_Find.mono _ _ _)
   | (with_reducible exact guichetref12_kind.mono _ _)
   | (with_reducible exact guichetref1_Num.mono _ _)
   | (with_reducible exact guichetref1_Pan.mono _ _)
   | (with_reducible exact LeO.refl _)
   | (with_reducible exact LeO.none _)
   | (with_reducible refine LeO.ite ?_ ?_)
   | (with_reducible refine LeO.bind ?_ (fun _ => ?_))
   | exact ih0 _ _ _ _ _ _ _ _ _
   | exact ih1 _ _ _ _ _ _ _ _ _ _ _ _ _ _
   | exact guichetref12_Find.mono _ _ _
   | exact guichetref12_kind.mono _ _
   | exact guichetref1_Num.mono _ _
   | exact guichetref1_Pan.mono _ _
   | exact LeO.none _
   | refine LeO.ite ?_ ?_
   | refine LeO.bind ?_ (fun _ => ?_)
set_option maxHeartbeats 8000000 in
set_option maxRecDepth 100000 in
theorem guichetref12_Run.calls (k : Nat) (A0 : Option Addr) (c0 : Nat) (l0 : List (S34)) (a1 : Int) (P2_ : Nat → Prop) (A2 : Option Addr) (c2 : Nat) (l2 : List ByteArray) (r1 : Int) (r2 : Int) (r3 : Bool) (r4 : ByteArray) (r5 : Int) (w : World) (hr0 : Kd.C k34 w A0 l0.length l0) (hc0 : l0.length ≤ c0) (hs2 : Kd.V Kd.string 9 w w.heap.size (fun k_ => P2_ k_) (.slice A2 l2.length c2) l2) (h : guichetref12_Run.f k l0 a1 l2 = some (r1, r2, r3, r4, r5)) :
  Calls Tryd.prog 11 #[.slice A0 l0.length c0, .int .i64 a1, .slice A2 l2.length c2] w fun e w' => e = .returned (.agg #[.int .i64 r1, .int .i64 r2, .bool r3, .string r4, .int .i64 r5]) ∧ Below w.heap.size w w' := by
 have hu30 := Tryd.underlying30
 have hu34 := Tryd.underlying34
 have HR0 := Aside0.mk hr0
 have HC0 := Aside0.mk hc0
 clear hr0 hc0
 have HO2 := Aside0.mk (show Kd.V Kd.string 9 w w.heap.size (fun k_ => (P2_ k_ ∨ w.heap.size ≤ k_)) (.slice A2 l2.length c2) l2 from Kd.V_mono hs2 (fun k_ hk => .inl hk))
 have HB := Aside0.mk (Below.refl w.heap.size w)
 have H : (if 0 ≤ (mn (l2.length : Int) 100) then (if (mn (l2.length : Int) 100) ≤ (l2.length : Int) then (guichetref12_Run.l0 k l0 (l2.take ((mn (l2.length : Int) 100) : Int).toNat) (⟨#[]⟩ : ByteArray) 0 a1 0 false (⟨#[]⟩ : ByteArray) 0) else (none)) else (none)) = some (r1, r2, r3, r4, r5) := h
 clear h
 obtain ⟨ji4, hji4⟩ : ∃ j_ : Int, (mn (l2.length : Int) 100) = j_ := ⟨_, rfl⟩
 replace H : (if 0 ≤ (ji4) then (if (ji4) ≤ (l2.length : Int) then (guichetref12_Run.l0 k l0 (l2.take ((ji4) : Int).toNat) (⟨#[]⟩ : ByteArray) 0 a1 0 false (⟨#[]⟩ : ByteArray) 0) else (none)) else (none)) = some (r1, r2, r3, r4, r5) := by first | (rw [hji4] at H; exact H) | (simp only [hji4] at H ⊢; exact H)
 (try (have hji4h : ji4 ≤ 100 := by (rw [← hji4]; unfold mn; (repeat' split) <;> omega)))
 (try (have hji4g : ji4 ≤ 64 := by omega))
 (try (have hji4l : 0 ≤ ji4 := by (rw [← hji4]; unfold mn; (repeat' split) <;> omega)))
 (try (have hji4m : 0 ≤ ji4 := by omega))
 have hji4_ : (if 100 < (l2.length : Int) then 100 else (l2.length : Int)) = ji4 := hji4
 by_cases c5 : 0 ≤ (ji4)
 ·rw [if_pos c5] at H
  have c5b0 := eq_true c5
  have c5b1 : decide (0 ≤ (ji4)) = true := decide_eq_true c5
  clear c5
  by_cases c6 : (ji4) ≤ (l2.length : Int)
  ·rw [if_pos c6] at H
   have c6b0 := eq_true c6
   have c6b1 : decide ((ji4) ≤ (l2.length : Int)) = true := decide_eq_true c6
   clear c6
   obtain ⟨y187, hy187⟩ : ∃ y_ : List ByteArray, y_ = (l2.take ((ji4) : Int).toNat) := ⟨_, rfl⟩
   replace H : (guichetref12_Run.l0 k l0 y187 (⟨#[]⟩ : ByteArray) 0 a1 0 false (⟨#[]⟩ : ByteArray) 0) = some (r1, r2, r3, r4, r5) := by first | (rw [hy187]; with_reducible exact H) | (have H2_ := (Option.bind_some _ _).symm.trans H; rw [hy187]; with_reducible exact H2_) | (have H2_ := (Option.bind_some _ _).symm.trans H; with_reducible exact H2_) | with_reducible exact H | (rw [hy187]; exact H) | exact H
   have Ny187 := Aside0.mk hy187
   clear hy187
   have H' := Aside0.mk H
   clear H
   go_enter Tryd.func11, Tryd.ntmps11
   go_wp2_with (first | ((with_reducible refine gate_dst (N := 6) rfl ?_); (try (refine gate_guard (by rfl) ?_; dsimp only)); refine box_event ?hg (N := 6) ?hd (cs := #[.int .i64 0, .int .i64 0, .bool false, .string (⟨#[]⟩ : ByteArray), .int .i64 0]) (t := 30) ?hr ?_; (case hd => rfl); (case hg => rfl); (case hr => first | (go_simp; done) | (go_simp; rfl)); intro gb186 hg w7 hbox hb; have n0_ := Aside0.mk (Kd.V_below (Kd.V_elderB (by (with_reducible repeat (first | apply Kd.V_alloc | apply Kd.V_drewN | apply Kd.V_drew)); exact HO2.out) gb186 (Nat.le_of_eq hg.symm)) hb); have n1_ := Aside0.mk (below_step (by repeat (first | (with_reducible first | exact HB.out | apply below_alloc | apply pw_below_drewN | apply below_drew1) | exact HB.out)) hb); have n2_ := Aside0.mk (hbox); have n3_ := Aside0.mk ((by rw [hg]; exact (below_size (by repeat (first | (with_reducible first | exact HB.out | apply below_alloc | apply pw_below_drewN | apply below_drew1) | exact HB.out))) : w.heap.size ≤ gb186)); have n4_ := Aside0.mk ((by rw [hg]; exact (below_size (by repeat (first | (with_reducible first | exact HB.out | apply below_alloc | apply pw_below_drewN | apply below_drew1) | exact HB.out))) : w.heap.size ≤ gb186)); clear HO2; clear HB; have HO2 := n0_; have HB := n1_; have BK186 := n2_; have GW186 := n3_; have GE186 := n4_; clear n0_ n1_ n2_ n3_ n4_; clear hb hbox hg; have q8 : ((ji4) : Int) ≤ ((l2.length : Int) : Int) := of_decide_eq_true (by first | (with_reducible assumption) | assumption); obtain ⟨i08, hi08, _, hsz8, _⟩ := info_parts info9; have hroom8 : l2.length ≤ c2 := (Kd.V_reads' HO2.out).2.1; have hC8 : Kd.F Kd.string _ _ A2 l2.length l2 := (Kd.V_at (base := w.heap.size) HO2.out).2.2; have hcut8 := cut_to (P := Tryd.prog) 26 9 .i64 Tryd.underlying26 hi08 A2 l2.length c2 (ji4) (of_decide_eq_true (by first | (with_reducible assumption) | assumption)) q8 hroom8; have hr8 := Kd.F_take (m := ((ji4) : Int).toNat) hC8 (by omega); have hy8 : y187.length = ((ji4) : Int).toNat := (by rw [Ny187.out, List.length_take]; omega); rw [← Ny187.out] at hr8; rw [← hy8] at hcut8; have HO191 := Aside0.mk (show Kd.V Kd.string 9 _ w.heap.size _ (.slice A2 y187.length c2) y187 from Kd.V_mk (by omega) hr8); have HC191 := Aside0.mk (show y187.length ≤ c2 from by omega); clear hr8 hC8 hroom8 hi08 hsz8; have KY8 := Aside0.mk hy8; clear hy8; replace q8 := eq_true q8) | ((with_reducible refine gate_dst (N := 7) rfl ?_); (try (refine gate_guard (by rfl) ?_; dsimp only)); refine box_event ?hg (N := 7) ?hd (cs := #[.int .i64 0, .int .i64 0, .bool false, .string (⟨#[]⟩ : ByteArray), .int .i64 0]) (t := 30) ?hr ?_; (case hd => rfl); (case hg => rfl); (case hr => first | (go_simp; done) | (go_simp; rfl)); intro gb192 hg w9 hbox hb; have n0_ := Aside0.mk (Kd.V_below (Kd.V_elderB (by (with_reducible repeat (first | apply Kd.V_alloc | apply Kd.V_drewN | apply Kd.V_drew)); exact HO2.out) gb192 (Nat.le_of_eq hg.symm)) hb); have n1_ := Aside0.mk (Kd.V_below (Kd.V_elderB (by (with_reducible repeat (first | apply Kd.V_alloc | apply Kd.V_drewN | apply Kd.V_drew)); exact HO191.out) gb192 (Nat.le_of_eq hg.symm)) hb); have n2_ := Aside0.mk (blk_below (g := gb186) (o := .cells #[.int .i64 0, .int .i64 0, .bool false, .string (⟨#[]⟩ : ByteArray), .int .i64 0] 30 (0, 0)) (by (with_reducible repeat (first | refine blk_drewN ?_ _ | refine blk_drew ?_ | refine blk_alloc ?_ _)); exact BK186.out) hb); have n3_ := Aside0.mk (below_step (by repeat (first | (with_reducible first | exact HB.out | apply below_alloc | apply pw_below_drewN | apply below_drew1 | refine below_set ?_ GE186.out) | exact HB.out)) hb); have n4_ := Aside0.mk (hbox); have n5_ := Aside0.mk ((by rw [hg]; exact (below_size (by repeat (first | (with_reducible first | exact HB.out | apply below_alloc | apply pw_below_drewN | apply below_drew1 | refine below_set ?_ GE186.out) | exact HB.out))) : w.heap.size ≤ gb192)); have n6_ := Aside0.mk ((by rw [hg]; exact (below_size (by repeat (first | (with_reducible first | exact HB.out | apply below_alloc | apply pw_below_drewN | apply below_drew1 | refine below_set ?_ GE186.out) | exact HB.out))) : w.heap.size ≤ gb192)); have n7_ := Aside0.mk ((by rw [hg]; exact Nat.ne_of_lt (blk_lt (g := gb186) (o := .cells #[.int .i64 0, .int .i64 0, .bool false, .string (⟨#[]⟩ : ByteArray), .int .i64 0] 30 (0, 0)) (by (with_reducible repeat (first | refine blk_drewN ?_ _ | refine blk_drew ?_ | refine blk_alloc ?_ _)); exact BK186.out)) : gb186 ≠ gb192)); have n8_ := Aside0.mk ((by rw [hg]; exact Nat.ne_of_gt (blk_lt (g := gb186) (o := .cells #[.int .i64 0, .int .i64 0, .bool false, .string (⟨#[]⟩ : ByteArray), .int .i64 0] 30 (0, 0)) (by (with_reducible repeat (first | refine blk_drewN ?_ _ | refine blk_drew ?_ | refine blk_alloc ?_ _)); exact BK186.out)) : gb192 ≠ gb186)); clear HO2; clear HO191; clear BK186; clear HB; have HO2 := n0_; have HO191 := n1_; have BK186 := n2_; have HB := n3_; have BK192 := n4_; have GW192 := n5_; have GE192 := n6_; have NB186_192 := n7_; have NB192_186 := n8_; clear n0_ n1_ n2_ n3_ n4_ n5_ n6_ n7_ n8_; clear hb hbox hg; have hnb10 := NB192_186.out; have hnc10 := NB186_192.out; have hcz11_0 : w9.cell? ⟨gb192, 0, none⟩ = some (.int .i64 0) := (blk_cell BK192.out 0).trans rfl; have hcz11_1 : w9.cell? ⟨gb192, 1, none⟩ = some (.int .i64 0) := (blk_cell BK192.out 1).trans rfl; have hcz11_2 : w9.cell? ⟨gb192, 2, none⟩ = some (.bool false) := (blk_cell BK192.out 2).trans rfl; have hcz11_3 : w9.cell? ⟨gb192, 3, none⟩ = some (.string (⟨#[]⟩ : ByteArray)) := (blk_cell BK192.out 3).trans rfl; have hcz11_4 : w9.cell? ⟨gb192, 4, none⟩ = some (.int .i64 0) := (blk_cell BK192.out 4).trans rfl; have hfz11_0 := blk_frozen BK192.out 0; have hfz11_1 := blk_frozen BK192.out 1; have hfz11_2 := blk_frozen BK192.out 2; have hfz11_3 := blk_frozen BK192.out 3; have hfz11_4 := blk_frozen BK192.out 4))
   go_loopg [2, 8, 9] k (fun kq v2 v8 v9 w' => ∃ (x2_1 : List ByteArray) (x8_1 : ByteArray) (x9_1 : Int) (x193000_1 : Int) (x193001_1 : Int) (x193002_1 : Bool) (x193003_1 : ByteArray) (x193004_1 : Int), v8 = .string x8_1 ∧ v9 = .int .i64 x9_1 ∧ Aside0 (guichetref12_Run.l0 kq l0 x2_1 x8_1 x9_1 x193000_1 x193001_1 x193002_1 x193003_1 x193004_1 = some (r1, r2, r3, r4, r5)) ∧ Aside0 (kq ≤ k) ∧ Aside0 (Kd.V Kd.string 9 w' w.heap.size (fun k_ => (P2_ k_ ∨ w.heap.size ≤ k_) ∧ k_ ≠ gb186 ∧ k_ ≠ gb192) v2 x2_1) ∧ Aside0 (w'.heap[gb186]? = some (.cells #[.int .i64 0, .int .i64 0, .bool false, .string (⟨#[]⟩ : ByteArray), .int .i64 0] 30 (0, 0))) ∧ Aside0 (w'.heap[gb192]? = some (.cells #[.int .i64 x193000_1, .int .i64 x193001_1, .bool x193002_1, .string x193003_1, .int .i64 x193004_1] 30 (0, 0))) ∧ Aside0 (Below w.heap.size w w'))
   case atStart => exact ⟨(y187), ((⟨#[]⟩ : ByteArray)), (0), (a1), (0), (false), ((⟨#[]⟩ : ByteArray)), (0), (by first | rfl | (simp; done) | (simp [*]; done)), (by first | rfl | (simp; done) | (simp [*]; done)), H', ⟨Nat.le_refl _⟩, ⟨by (with_reducible repeat (first | apply Kd.V_alloc | apply Kd.V_drewN | apply Kd.V_drew)); exact Kd.V_mono (Kd.V_far (p := ⟨gb192, 4, none⟩) (Kd.V_far (p := ⟨gb192, 3, none⟩) (Kd.V_far (p := ⟨gb192, 2, none⟩) (Kd.V_far (p := ⟨gb192, 1, none⟩) (Kd.V_far (p := ⟨gb192, 0, none⟩) (Kd.V_mono HO191.out (fun k_ hk => (⟨hk, hk.2⟩ : _ ∧ k_ ≠ gb192))) (fun _ hk => hk.2) (.int .i64 a1)) (fun _ hk => hk.2) (.int .i64 0)) (fun _ hk => hk.2) (.bool false)) (fun _ hk => hk.2) (.string (⟨#[]⟩ : ByteArray))) (fun _ hk => hk.2) (.int .i64 0)) (fun _ hk => ⟨hk.1.1.1, ⟨hk.1.1.2, hk.1.2⟩⟩)⟩, ⟨by (with_reducible repeat (first | refine blk_drewN ?_ _ | refine blk_drew ?_ | refine blk_alloc ?_ _)); refine blk_far ?_ NB186_192.out _; (with_reducible repeat (first | refine blk_drewN ?_ _ | refine blk_drew ?_ | refine blk_alloc ?_ _)); refine blk_far ?_ NB186_192.out _; (with_reducible repeat (first | refine blk_drewN ?_ _ | refine blk_drew ?_ | refine blk_alloc ?_ _)); refine blk_far ?_ NB186_192.out _; (with_reducible repeat (first | refine blk_drewN ?_ _ | refine blk_drew ?_ | refine blk_alloc ?_ _)); refine blk_far ?_ NB186_192.out _; (with_reducible repeat (first | refine blk_drewN ?_ _ | refine blk_drew ?_ | refine blk_alloc ?_ _)); refine blk_far ?_ NB186_192.out _; (with_reducible repeat (first | refine blk_drewN ?_ _ | refine blk_drew ?_ | refine blk_alloc ?_ _)); exact BK186.out⟩, ⟨by (with_reducible repeat (first | refine blk_drewN ?_ _ | refine blk_drew ?_ | refine blk_alloc ?_ _)); refine blk_put (cs := #[.int .i64 a1, .int .i64 0, .bool false, .string (⟨#[]⟩ : ByteArray), .int .i64 0]) ?_ 4 _ rfl; (with_reducible repeat (first | refine blk_drewN ?_ _ | refine blk_drew ?_ | refine blk_alloc ?_ _)); refine blk_put (cs := #[.int .i64 a1, .int .i64 0, .bool false, .string (⟨#[]⟩ : ByteArray), .int .i64 0]) ?_ 3 _ rfl; (with_reducible repeat (first | refine blk_drewN ?_ _ | refine blk_drew ?_ | refine blk_alloc ?_ _)); refine blk_put (cs := #[.int .i64 a1, .int .i64 0, .bool false, .string (⟨#[]⟩ : ByteArray), .int .i64 0]) ?_ 2 _ rfl; (with_reducible repeat (first | refine blk_drewN ?_ _ | refine blk_drew ?_ | refine blk_alloc ?_ _)); refine blk_put (cs := #[.int .i64 a1, .int .i64 0, .bool false, .string (⟨#[]⟩ : ByteArray), .int .i64 0]) ?_ 1 _ rfl; (with_reducible repeat (first | refine blk_drewN ?_ _ | refine blk_drew ?_ | refine blk_alloc ?_ _)); refine blk_put (cs := #[.int .i64 0, .int .i64 0, .bool false, .string (⟨#[]⟩ : ByteArray), .int .i64 0]) ?_ 0 _ rfl; (with_reducible repeat (first | refine blk_drewN ?_ _ | refine blk_drew ?_ | refine blk_alloc ?_ _)); exact BK192.out⟩, ⟨by repeat (first | (with_reducible first | exact HB.out | apply below_alloc | apply pw_below_drewN | apply below_drew1 | refine below_set ?_ GE186.out | refine below_set ?_ GE192.out) | exact HB.out)⟩⟩
   case round =>
    clear H'
    try clear c1
    try clear c2
    try clear p2
    try clear c5
    try clear c5b0
    try clear c5b1
    try clear c6
    try clear c6b0
    try clear c6b1
    try clear q8
    try clear c10
    try clear c11
    try clear hcz11_0
    try clear hcz11_1
    try clear hcz11_2
    try clear hcz11_3
    try clear hcz11_4
    try clear hfz11_0
    try clear hfz11_1
    try clear hfz11_2
    try clear hfz11_3
    try clear hfz11_4
    try clear q8
    obtain ⟨x2_1, x8_1, x9_1, x193000_1, x193001_1, x193002_1, x193003_1, x193004_1, rfl, rfl, HA, HK1, HO_2, BK186, BK192, HB⟩ := hrel
    cases gk with
    | zero => exact absurd HA.out (by simp [guichetref12_Run.l0])
    | succ k1 =>
     have H := HA.out
     clear HA
     simp only [guichetref12_Run.l0] at H
     by_cases c12 : x193001_1 < 200
     ·rw [if_pos c12] at H
      have c12b0 : decide (x193001_1 < 200) = true := decide_eq_true c12
      clear c12
      replace H := Option.bind_eq_some_iff.mp H
      obtain ⟨⟨t193, t194, t195, t196, t197⟩, A130, H⟩ := H
      replace H : (if t197 = true then ((guichetref12_kind.f k1 t194).bind fun t199 => (if t199 = true then (guichetref12_Run.j1 k1 l0 x2_1 x8_1 x9_1 (t194 == 90) x193000_1 x193001_1 x193002_1 x193003_1 x193004_1 t193 t194 t195 t196) else (guichetref12_Run.j1 k1 l0 x2_1 x8_1 x9_1 true x193000_1 x193001_1 x193002_1 x193003_1 x193004_1 t193 t194 t195 t196))) else (guichetref12_Run.j1 k1 l0 x2_1 x8_1 x9_1 true x193000_1 x193001_1 x193002_1 x193003_1 x193004_1 t193 t194 t195 t196)) = some (r1, r2, r3, r4, r5) := H
      have A13 := Aside0.mk A130
      clear A130
      have HC14 := Aside0.mk H
      clear H
      have hnb15 := NB192_186.out
      have hnc15 := NB186_192.out
      have hcz16_0 : wr.cell? ⟨gb192, 0, none⟩ = some (.int .i64 x193000_1) := (blk_cell BK192.out 0).trans rfl
      have hcz16_1 : wr.cell? ⟨gb192, 1, none⟩ = some (.int .i64 x193001_1) := (blk_cell BK192.out 1).trans rfl
      have hcz16_2 : wr.cell? ⟨gb192, 2, none⟩ = some (.bool x193002_1) := (blk_cell BK192.out 2).trans rfl
      have hcz16_3 : wr.cell? ⟨gb192, 3, none⟩ = some (.string x193003_1) := (blk_cell BK192.out 3).trans rfl
      have hcz16_4 : wr.cell? ⟨gb192, 4, none⟩ = some (.int .i64 x193004_1) := (blk_cell BK192.out 4).trans rfl
      have hfz16_0 := blk_frozen BK192.out 0
      have hfz16_1 := blk_frozen BK192.out 1
      have hfz16_2 := blk_frozen BK192.out 2
      have hfz16_3 := blk_frozen BK192.out 3
      have hfz16_4 := blk_frozen BK192.out 4
      go_upto_region 6 with (first | ((with_reducible refine gate_callee (f := 16) rfl ?_); refine goesL_ (some 30) rfl rfl Tryd.func16 (by kernel_rfl) rfl #[.slice A0 l0.length c0, .int .i64 x193000_1] rfl (by (try simp only [List.map_toArray, List.map_cons, List.map_nil]); first | done | rfl | (simp only [List.length_drop, List.length_take]; rfl) | (rw [hsame_])) ?_; (with_reducible refine (guichetref12_Find.calls k1 _ _ l0 x193000_1 t193 t194 t195 t196 t197 _ ?side1 ?side2 A13.out).mono ?_); (case side1 => repeat (first | exact (Kd.C_below HR0.out HB.out) | (with_reducible refine Kd.C_alloc ?_ _) | (with_reducible refine Kd.C_drewN ?_ _) | (with_reducible refine Kd.C_drew ?_))); (case side2 => exact HC0.out); rintro e w17 ⟨rfl, hb⟩; refine ⟨_, rfl, ?_⟩; have n0_ := Aside0.mk (Kd.V_below (by (with_reducible repeat (first | apply Kd.V_alloc | apply Kd.V_drewN | apply Kd.V_drew)); exact HO_2.out) hb); have n1_ := Aside0.mk (blk_below (g := gb186) (o := .cells #[.int .i64 0, .int .i64 0, .bool false, .string (⟨#[]⟩ : ByteArray), .int .i64 0] 30 (0, 0)) (by (with_reducible repeat (first | refine blk_drewN ?_ _ | refine blk_drew ?_ | refine blk_alloc ?_ _)); exact BK186.out) hb); have n2_ := Aside0.mk (blk_below (g := gb192) (o := .cells #[.int .i64 x193000_1, .int .i64 x193001_1, .bool x193002_1, .string x193003_1, .int .i64 x193004_1] 30 (0, 0)) (by (with_reducible repeat (first | refine blk_drewN ?_ _ | refine blk_drew ?_ | refine blk_alloc ?_ _)); exact BK192.out) hb); have n3_ := Aside0.mk (below_step (by repeat (first | (with_reducible first | exact HB.out | apply below_alloc | apply pw_below_drewN | apply below_drew1 | refine below_set ?_ GE186.out | refine below_set ?_ GE192.out) | exact HB.out)) hb); clear HO_2; clear BK186; clear BK192; clear HB; have HO_2 := n0_; have BK186 := n1_; have BK192 := n2_; have HB := n3_; clear n0_ n1_ n2_ n3_; (try clear hb); (try clear hb2); (try clear hk); (try clear hi)) | ((with_reducible refine gate_dst (N := 10) rfl ?_); (try (refine gate_guard (by rfl) ?_; dsimp only)); refine box_event ?hg (N := 10) ?hd (cs := #[.int .i64 0, .int .u8 0, .int .i64 0, .int .i64 0]) (t := 34) ?hr ?_; (case hd => rfl); (case hg => rfl); (case hr => first | (go_simp; done) | (go_simp; rfl)); intro gb198 hg w18 hbox hb; have n0_ := Aside0.mk (Kd.V_below (Kd.V_elderB (by (with_reducible repeat (first | apply Kd.V_alloc | apply Kd.V_drewN | apply Kd.V_drew)); exact HO_2.out) gb198 (Nat.le_of_eq hg.symm)) hb); have n1_ := Aside0.mk (blk_below (g := gb186) (o := .cells #[.int .i64 0, .int .i64 0, .bool false, .string (⟨#[]⟩ : ByteArray), .int .i64 0] 30 (0, 0)) (by (with_reducible repeat (first | refine blk_drewN ?_ _ | refine blk_drew ?_ | refine blk_alloc ?_ _)); exact BK186.out) hb); have n2_ := Aside0.mk (blk_below (g := gb192) (o := .cells #[.int .i64 x193000_1, .int .i64 x193001_1, .bool x193002_1, .string x193003_1, .int .i64 x193004_1] 30 (0, 0)) (by (with_reducible repeat (first | refine blk_drewN ?_ _ | refine blk_drew ?_ | refine blk_alloc ?_ _)); exact BK192.out) hb); have n3_ := Aside0.mk (below_step (by repeat (first | (with_reducible first | exact HB.out | apply below_alloc | apply pw_below_drewN | apply below_drew1 | refine below_set ?_ GE186.out | refine below_set ?_ GE192.out) | exact HB.out)) hb); have n4_ := Aside0.mk (hbox); have n5_ := Aside0.mk ((by rw [hg]; exact (below_size (by repeat (first | (with_reducible first | exact HB.out | apply below_alloc | apply pw_below_drewN | apply below_drew1 | refine below_set ?_ GE186.out | refine below_set ?_ GE192.out) | exact HB.out))) : w.heap.size ≤ gb198)); have n6_ := Aside0.mk ((by rw [hg]; exact (below_size (by repeat (first | (with_reducible first | exact HB.out | apply below_alloc | apply pw_below_drewN | apply below_drew1 | refine below_set ?_ GE186.out | refine below_set ?_ GE192.out) | exact HB.out))) : w.heap.size ≤ gb198)); have n7_ := Aside0.mk ((by rw [hg]; exact Nat.ne_of_lt (blk_lt (g := gb186) (o := .cells #[.int .i64 0, .int .i64 0, .bool false, .string (⟨#[]⟩ : ByteArray), .int .i64 0] 30 (0, 0)) (by (with_reducible repeat (first | refine blk_drewN ?_ _ | refine blk_drew ?_ | refine blk_alloc ?_ _)); exact BK186.out)) : gb186 ≠ gb198)); have n8_ := Aside0.mk ((by rw [hg]; exact Nat.ne_of_gt (blk_lt (g := gb186) (o := .cells #[.int .i64 0, .int .i64 0, .bool false, .string (⟨#[]⟩ : ByteArray), .int .i64 0] 30 (0, 0)) (by (with_reducible repeat (first | refine blk_drewN ?_ _ | refine blk_drew ?_ | refine blk_alloc ?_ _)); exact BK186.out)) : gb198 ≠ gb186)); have n9_ := Aside0.mk ((by rw [hg]; exact Nat.ne_of_lt (blk_lt (g := gb192) (o := .cells #[.int .i64 x193000_1, .int .i64 x193001_1, .bool x193002_1, .string x193003_1, .int .i64 x193004_1] 30 (0, 0)) (by (with_reducible repeat (first | refine blk_drewN ?_ _ | refine blk_drew ?_ | refine blk_alloc ?_ _)); exact BK192.out)) : gb192 ≠ gb198)); have n10_ := Aside0.mk ((by rw [hg]; exact Nat.ne_of_gt (blk_lt (g := gb192) (o := .cells #[.int .i64 x193000_1, .int .i64 x193001_1, .bool x193002_1, .string x193003_1, .int .i64 x193004_1] 30 (0, 0)) (by (with_reducible repeat (first | refine blk_drewN ?_ _ | refine blk_drew ?_ | refine blk_alloc ?_ _)); exact BK192.out)) : gb198 ≠ gb192)); clear HO_2; clear BK186; clear BK192; clear HB; have HO_2 := n0_; have BK186 := n1_; have BK192 := n2_; have HB := n3_; have BK198 := n4_; have GW198 := n5_; have GE198 := n6_; have NB186_198 := n7_; have NB198_186 := n8_; have NB192_198 := n9_; have NB198_192 := n10_; clear n0_ n1_ n2_ n3_ n4_ n5_ n6_ n7_ n8_ n9_ n10_; clear hb hbox hg; have hnb19 := NB198_186.out; have hnc19 := NB186_198.out; have hnb20 := NB198_192.out; have hnc20 := NB192_198.out; have hcz21_0 : w18.cell? ⟨gb198, 0, none⟩ = some (.int .i64 0) := (blk_cell BK198.out 0).trans rfl; have hcz21_1 : w18.cell? ⟨gb198, 1, none⟩ = some (.int .u8 0) := (blk_cell BK198.out 1).trans rfl; have hcz21_2 : w18.cell? ⟨gb198, 2, none⟩ = some (.int .i64 0) := (blk_cell BK198.out 2).trans rfl; have hcz21_3 : w18.cell? ⟨gb198, 3, none⟩ = some (.int .i64 0) := (blk_cell BK198.out 3).trans rfl; have hfz21_0 := blk_frozen BK198.out 0; have hfz21_1 := blk_frozen BK198.out 1; have hfz21_2 := blk_frozen BK198.out 2; have hfz21_3 := blk_frozen BK198.out 3))
      (try simp only [Act.put, List.setIfInBounds_toArray, List.set_cons_zero, List.set_cons_succ])
      go_cut [45] (fun v45 wc => ∃ (kq : Nat) (x45_13 : Bool), v45 = .bool x45_13 ∧ Aside0 (guichetref12_Run.j1 kq l0 x2_1 x8_1 x9_1 x45_13 x193000_1 x193001_1 x193002_1 x193003_1 x193004_1 t193 t194 t195 t196 = some (r1, r2, r3, r4, r5)) ∧ Aside0 (kq ≤ k1) ∧ Aside0 (Kd.V Kd.string 9 wc w.heap.size (fun k_ => (P2_ k_ ∨ w.heap.size ≤ k_) ∧ k_ ≠ gb186 ∧ k_ ≠ gb192 ∧ k_ ≠ gb198) u2 x2_1) ∧ Aside0 (wc.heap[gb186]? = some (.cells #[.int .i64 0, .int .i64 0, .bool false, .string (⟨#[]⟩ : ByteArray), .int .i64 0] 30 (0, 0))) ∧ Aside0 (wc.heap[gb192]? = some (.cells #[.int .i64 x193000_1, .int .i64 x193001_1, .bool x193002_1, .string x193003_1, .int .i64 x193004_1] 30 (0, 0))) ∧ Aside0 (wc.heap[gb198]? = some (.cells #[.int .i64 t193, .int .u8 t194, .int .i64 t195, .int .i64 t196] 34 (0, 0))) ∧ Aside0 (Below w.heap.size w wc))
      case first =>
       have H := HC14.out
       clear HC14
       by_cases c22 : t197 = true
       ·subst c22
        have H1 : ((guichetref12_kind.f k1 t194).bind fun t199 => (if t199 = true then (guichetref12_Run.j1 k1 l0 x2_1 x8_1 x9_1 (t194 == 90) x193000_1 x193001_1 x193002_1 x193003_1 x193004_1 t193 t194 t195 t196) else (guichetref12_Run.j1 k1 l0 x2_1 x8_1 x9_1 true x193000_1 x193001_1 x193002_1 x193003_1 x193004_1 t193 t194 t195 t196))) = some (r1, r2, r3, r4, r5) := by rw [if_pos rfl] at H; exact H
        clear H
        have H := H1
        clear H1
        replace H := Option.bind_eq_some_iff.mp H
        obtain ⟨t199, A230, H⟩ := H
        replace H : (if t199 = true then (guichetref12_Run.j1 k1 l0 x2_1 x8_1 x9_1 (t194 == 90) x193000_1 x193001_1 x193002_1 x193003_1 x193004_1 t193 t194 t195 t196) else (guichetref12_Run.j1 k1 l0 x2_1 x8_1 x9_1 true x193000_1 x193001_1 x193002_1 x193003_1 x193004_1 t193 t194 t195 t196)) = some (r1, r2, r3, r4, r5) := H
        have A23 := Aside0.mk A230
        clear A230
        by_cases c24 : t199 = true
        ·subst c24
         have H1 : (guichetref12_Run.j1 k1 l0 x2_1 x8_1 x9_1 (t194 == 90) x193000_1 x193001_1 x193002_1 x193003_1 x193004_1 t193 t194 t195 t196) = some (r1, r2, r3, r4, r5) := by rw [if_pos rfl] at H; exact H
         clear H
         have H := H1
         clear H1
         have H' := Aside0.mk H
         clear H
         have hnb25 := NB198_186.out
         have hnc25 := NB186_198.out
         have hnb26 := NB198_192.out
         have hnc26 := NB192_198.out
         have hcz27_0 : w18.cell? ⟨gb198, 0, none⟩ = some (.int .i64 0) := (blk_cell BK198.out 0).trans rfl
         have hcz27_1 : w18.cell? ⟨gb198, 1, none⟩ = some (.int .u8 0) := (blk_cell BK198.out 1).trans rfl
         have hcz27_2 : w18.cell? ⟨gb198, 2, none⟩ = some (.int .i64 0) := (blk_cell BK198.out 2).trans rfl
         have hcz27_3 : w18.cell? ⟨gb198, 3, none⟩ = some (.int .i64 0) := (blk_cell BK198.out 3).trans rfl
         have hfz27_0 := blk_frozen BK198.out 0
         have hfz27_1 := blk_frozen BK198.out 1
         have hfz27_2 := blk_frozen BK198.out 2
         have hfz27_3 := blk_frozen BK198.out 3
         go_wp2_with (first | (go_at_call 17; (with_reducible refine (guichetref12_kind.calls k1 t194 true _ A23.out).mono ?_); rintro e w' ⟨rfl, ⟨nd, rfl⟩⟩))
         go_meet
         case rel => exact ⟨_, ((t194 == 90)), (by first | rfl | (simp; done) | (simp [*]; done)), H', ⟨by have := HK1.out; first | omega | exact Nat.le_refl _⟩, ⟨by (with_reducible repeat (first | apply Kd.V_alloc | apply Kd.V_drewN | apply Kd.V_drew)); exact Kd.V_mono (Kd.V_far (p := ⟨gb198, 3, none⟩) (Kd.V_far (p := ⟨gb198, 2, none⟩) (Kd.V_far (p := ⟨gb198, 1, none⟩) (Kd.V_far (p := ⟨gb198, 0, none⟩) (Kd.V_mono HO_2.out (fun k_ hk => (⟨hk, hk.2⟩ : _ ∧ k_ ≠ gb198))) (fun _ hk => hk.2) (.int .i64 t193)) (fun _ hk => hk.2) (.int .u8 t194)) (fun _ hk => hk.2) (.int .i64 t195)) (fun _ hk => hk.2) (.int .i64 t196)) (fun _ hk => ⟨hk.1.1.1, ⟨hk.1.1.2.1, ⟨hk.1.1.2.2, hk.1.2⟩⟩⟩)⟩, ⟨by (with_reducible repeat (first | refine blk_drewN ?_ _ | refine blk_drew ?_ | refine blk_alloc ?_ _)); refine blk_far ?_ NB186_198.out _; (with_reducible repeat (first | refine blk_drewN ?_ _ | refine blk_drew ?_ | refine blk_alloc ?_ _)); refine blk_far ?_ NB186_198.out _; (with_reducible repeat (first | refine blk_drewN ?_ _ | refine blk_drew ?_ | refine blk_alloc ?_ _)); refine blk_far ?_ NB186_198.out _; (with_reducible repeat (first | refine blk_drewN ?_ _ | refine blk_drew ?_ | refine blk_alloc ?_ _)); refine blk_far ?_ NB186_198.out _; (with_reducible repeat (first | refine blk_drewN ?_ _ | refine blk_drew ?_ | refine blk_alloc ?_ _)); exact BK186.out⟩, ⟨by (with_reducible repeat (first | refine blk_drewN ?_ _ | refine blk_drew ?_ | refine blk_alloc ?_ _)); refine blk_far ?_ NB192_198.out _; (with_reducible repeat (first | refine blk_drewN ?_ _ | refine blk_drew ?_ | refine blk_alloc ?_ _)); refine blk_far ?_ NB192_198.out _; (with_reducible repeat (first | refine blk_drewN ?_ _ | refine blk_drew ?_ | refine blk_alloc ?_ _)); refine blk_far ?_ NB192_198.out _; (with_reducible repeat (first | refine blk_drewN ?_ _ | refine blk_drew ?_ | refine blk_alloc ?_ _)); refine blk_far ?_ NB192_198.out _; (with_reducible repeat (first | refine blk_drewN ?_ _ | refine blk_drew ?_ | refine blk_alloc ?_ _)); exact BK192.out⟩, ⟨by (with_reducible repeat (first | refine blk_drewN ?_ _ | refine blk_drew ?_ | refine blk_alloc ?_ _)); refine blk_put (cs := #[.int .i64 t193, .int .u8 t194, .int .i64 t195, .int .i64 0]) ?_ 3 _ rfl; (with_reducible repeat (first | refine blk_drewN ?_ _ | refine blk_drew ?_ | refine blk_alloc ?_ _)); refine blk_put (cs := #[.int .i64 t193, .int .u8 t194, .int .i64 0, .int .i64 0]) ?_ 2 _ rfl; (with_reducible repeat (first | refine blk_drewN ?_ _ | refine blk_drew ?_ | refine blk_alloc ?_ _)); refine blk_put (cs := #[.int .i64 t193, .int .u8 0, .int .i64 0, .int .i64 0]) ?_ 1 _ rfl; (with_reducible repeat (first | refine blk_drewN ?_ _ | refine blk_drew ?_ | refine blk_alloc ?_ _)); refine blk_put (cs := #[.int .i64 0, .int .u8 0, .int .i64 0, .int .i64 0]) ?_ 0 _ rfl; (with_reducible repeat (first | refine blk_drewN ?_ _ | refine blk_drew ?_ | refine blk_alloc ?_ _)); exact BK198.out⟩, ⟨by repeat (first | (with_reducible first | exact HB.out | apply below_alloc | apply pw_below_drewN | apply below_drew1 | refine below_set ?_ GE186.out | refine below_set ?_ GE192.out | refine below_set ?_ GE198.out) | exact HB.out)⟩⟩
        ·replace c24 := Bool.eq_false_iff.mpr c24
         subst c24
         have H1 : (guichetref12_Run.j1 k1 l0 x2_1 x8_1 x9_1 true x193000_1 x193001_1 x193002_1 x193003_1 x193004_1 t193 t194 t195 t196) = some (r1, r2, r3, r4, r5) := by rw [if_neg (show ¬ (false = true) by decide)] at H; exact H
         clear H
         have H := H1
         clear H1
         have H' := Aside0.mk H
         clear H
         have hnb28 := NB198_186.out
         have hnc28 := NB186_198.out
         have hnb29 := NB198_192.out
         have hnc29 := NB192_198.out
         have hcz30_0 : w18.cell? ⟨gb198, 0, none⟩ = some (.int .i64 0) := (blk_cell BK198.out 0).trans rfl
         have hcz30_1 : w18.cell? ⟨gb198, 1, none⟩ = some (.int .u8 0) := (blk_cell BK198.out 1).trans rfl
         have hcz30_2 : w18.cell? ⟨gb198, 2, none⟩ = some (.int .i64 0) := (blk_cell BK198.out 2).trans rfl
         have hcz30_3 : w18.cell? ⟨gb198, 3, none⟩ = some (.int .i64 0) := (blk_cell BK198.out 3).trans rfl
         have hfz30_0 := blk_frozen BK198.out 0
         have hfz30_1 := blk_frozen BK198.out 1
         have hfz30_2 := blk_frozen BK198.out 2
         have hfz30_3 := blk_frozen BK198.out 3
         go_wp2_with (first | (go_at_call 17; (with_reducible refine (guichetref12_kind.calls k1 t194 false _ A23.out).mono ?_); rintro e w' ⟨rfl, ⟨nd, rfl⟩⟩))
         go_meet
         case rel => exact ⟨_, (true), (by first | rfl | (simp; done) | (simp [*]; done)), H', ⟨by have := HK1.out; first | omega | exact Nat.le_refl _⟩, ⟨by (with_reducible repeat (first | apply Kd.V_alloc | apply Kd.V_drewN | apply Kd.V_drew)); exact Kd.V_mono (Kd.V_far (p := ⟨gb198, 3, none⟩) (Kd.V_far (p := ⟨gb198, 2, none⟩) (Kd.V_far (p := ⟨gb198, 1, none⟩) (Kd.V_far (p := ⟨gb198, 0, none⟩) (Kd.V_mono HO_2.out (fun k_ hk => (⟨hk, hk.2⟩ : _ ∧ k_ ≠ gb198))) (fun _ hk => hk.2) (.int .i64 t193)) (fun _ hk => hk.2) (.int .u8 t194)) (fun _ hk => hk.2) (.int .i64 t195)) (fun _ hk => hk.2) (.int .i64 t196)) (fun _ hk => ⟨hk.1.1.1, ⟨hk.1.1.2.1, ⟨hk.1.1.2.2, hk.1.2⟩⟩⟩)⟩, ⟨by (with_reducible repeat (first | refine blk_drewN ?_ _ | refine blk_drew ?_ | refine blk_alloc ?_ _)); refine blk_far ?_ NB186_198.out _; (with_reducible repeat (first | refine blk_drewN ?_ _ | refine blk_drew ?_ | refine blk_alloc ?_ _)); refine blk_far ?_ NB186_198.out _; (with_reducible repeat (first | refine blk_drewN ?_ _ | refine blk_drew ?_ | refine blk_alloc ?_ _)); refine blk_far ?_ NB186_198.out _; (with_reducible repeat (first | refine blk_drewN ?_ _ | refine blk_drew ?_ | refine blk_alloc ?_ _)); refine blk_far ?_ NB186_198.out _; (with_reducible repeat (first | refine blk_drewN ?_ _ | refine blk_drew ?_ | refine blk_alloc ?_ _)); exact BK186.out⟩, ⟨by (with_reducible repeat (first | refine blk_drewN ?_ _ | refine blk_drew ?_ | refine blk_alloc ?_ _)); refine blk_far ?_ NB192_198.out _; (with_reducible repeat (first | refine blk_drewN ?_ _ | refine blk_drew ?_ | refine blk_alloc ?_ _)); refine blk_far ?_ NB192_198.out _; (with_reducible repeat (first | refine blk_drewN ?_ _ | refine blk_drew ?_ | refine blk_alloc ?_ _)); refine blk_far ?_ NB192_198.out _; (with_reducible repeat (first | refine blk_drewN ?_ _ | refine blk_drew ?_ | refine blk_alloc ?_ _)); refine blk_far ?_ NB192_198.out _; (with_reducible repeat (first | refine blk_drewN ?_ _ | refine blk_drew ?_ | refine blk_alloc ?_ _)); exact BK192.out⟩, ⟨by (with_reducible repeat (first | refine blk_drewN ?_ _ | refine blk_drew ?_ | refine blk_alloc ?_ _)); refine blk_put (cs := #[.int .i64 t193, .int .u8 t194, .int .i64 t195, .int .i64 0]) ?_ 3 _ rfl; (with_reducible repeat (first | refine blk_drewN ?_ _ | refine blk_drew ?_ | refine blk_alloc ?_ _)); refine blk_put (cs := #[.int .i64 t193, .int .u8 t194, .int .i64 0, .int .i64 0]) ?_ 2 _ rfl; (with_reducible repeat (first | refine blk_drewN ?_ _ | refine blk_drew ?_ | refine blk_alloc ?_ _)); refine blk_put (cs := #[.int .i64 t193, .int .u8 0, .int .i64 0, .int .i64 0]) ?_ 1 _ rfl; (with_reducible repeat (first | refine blk_drewN ?_ _ | refine blk_drew ?_ | refine blk_alloc ?_ _)); refine blk_put (cs := #[.int .i64 0, .int .u8 0, .int .i64 0, .int .i64 0]) ?_ 0 _ rfl; (with_reducible repeat (first | refine blk_drewN ?_ _ | refine blk_drew ?_ | refine blk_alloc ?_ _)); exact BK198.out⟩, ⟨by repeat (first | (with_reducible first | exact HB.out | apply below_alloc | apply pw_below_drewN | apply below_drew1 | refine below_set ?_ GE186.out | refine below_set ?_ GE192.out | refine below_set ?_ GE198.out) | exact HB.out)⟩⟩
       ·replace c22 := Bool.eq_false_iff.mpr c22
        subst c22
        have H1 : (guichetref12_Run.j1 k1 l0 x2_1 x8_1 x9_1 true x193000_1 x193001_1 x193002_1 x193003_1 x193004_1 t193 t194 t195 t196) = some (r1, r2, r3, r4, r5) := by rw [if_neg (show ¬ (false = true) by decide)] at H; exact H
        clear H
        have H := H1
        clear H1
        have H' := Aside0.mk H
        clear H
        go_wp2
        go_meet
        case rel => exact ⟨_, (true), (by first | rfl | (simp; done) | (simp [*]; done)), H', ⟨by have := HK1.out; first | omega | exact Nat.le_refl _⟩, ⟨by (with_reducible repeat (first | apply Kd.V_alloc | apply Kd.V_drewN | apply Kd.V_drew)); exact Kd.V_mono (Kd.V_far (p := ⟨gb198, 3, none⟩) (Kd.V_far (p := ⟨gb198, 2, none⟩) (Kd.V_far (p := ⟨gb198, 1, none⟩) (Kd.V_far (p := ⟨gb198, 0, none⟩) (Kd.V_mono HO_2.out (fun k_ hk => (⟨hk, hk.2⟩ : _ ∧ k_ ≠ gb198))) (fun _ hk => hk.2) (.int .i64 t193)) (fun _ hk => hk.2) (.int .u8 t194)) (fun _ hk => hk.2) (.int .i64 t195)) (fun _ hk => hk.2) (.int .i64 t196)) (fun _ hk => ⟨hk.1.1.1, ⟨hk.1.1.2.1, ⟨hk.1.1.2.2, hk.1.2⟩⟩⟩)⟩, ⟨by (with_reducible repeat (first | refine blk_drewN ?_ _ | refine blk_drew ?_ | refine blk_alloc ?_ _)); refine blk_far ?_ NB186_198.out _; (with_reducible repeat (first | refine blk_drewN ?_ _ | refine blk_drew ?_ | refine blk_alloc ?_ _)); refine blk_far ?_ NB186_198.out _; (with_reducible repeat (first | refine blk_drewN ?_ _ | refine blk_drew ?_ | refine blk_alloc ?_ _)); refine blk_far ?_ NB186_198.out _; (with_reducible repeat (first | refine blk_drewN ?_ _ | refine blk_drew ?_ | refine blk_alloc ?_ _)); refine blk_far ?_ NB186_198.out _; (with_reducible repeat (first | refine blk_drewN ?_ _ | refine blk_drew ?_ | refine blk_alloc ?_ _)); exact BK186.out⟩, ⟨by (with_reducible repeat (first | refine blk_drewN ?_ _ | refine blk_drew ?_ | refine blk_alloc ?_ _)); refine blk_far ?_ NB192_198.out _; (with_reducible repeat (first | refine blk_drewN ?_ _ | refine blk_drew ?_ | refine blk_alloc ?_ _)); refine blk_far ?_ NB192_198.out _; (with_reducible repeat (first | refine blk_drewN ?_ _ | refine blk_drew ?_ | refine blk_alloc ?_ _)); refine blk_far ?_ NB192_198.out _; (with_reducible repeat (first | refine blk_drewN ?_ _ | refine blk_drew ?_ | refine blk_alloc ?_ _)); refine blk_far ?_ NB192_198.out _; (with_reducible repeat (first | refine blk_drewN ?_ _ | refine blk_drew ?_ | refine blk_alloc ?_ _)); exact BK192.out⟩, ⟨by (with_reducible repeat (first | refine blk_drewN ?_ _ | refine blk_drew ?_ | refine blk_alloc ?_ _)); refine blk_put (cs := #[.int .i64 t193, .int .u8 t194, .int .i64 t195, .int .i64 0]) ?_ 3 _ rfl; (with_reducible repeat (first | refine blk_drewN ?_ _ | refine blk_drew ?_ | refine blk_alloc ?_ _)); refine blk_put (cs := #[.int .i64 t193, .int .u8 t194, .int .i64 0, .int .i64 0]) ?_ 2 _ rfl; (with_reducible repeat (first | refine blk_drewN ?_ _ | refine blk_drew ?_ | refine blk_alloc ?_ _)); refine blk_put (cs := #[.int .i64 t193, .int .u8 0, .int .i64 0, .int .i64 0]) ?_ 1 _ rfl; (with_reducible repeat (first | refine blk_drewN ?_ _ | refine blk_drew ?_ | refine blk_alloc ?_ _)); refine blk_put (cs := #[.int .i64 0, .int .u8 0, .int .i64 0, .int .i64 0]) ?_ 0 _ rfl; (with_reducible repeat (first | refine blk_drewN ?_ _ | refine blk_drew ?_ | refine blk_alloc ?_ _)); exact BK198.out⟩, ⟨by repeat (first | (with_reducible first | exact HB.out | apply below_alloc | apply pw_below_drewN | apply below_drew1 | refine below_set ?_ GE186.out | refine below_set ?_ GE192.out | refine below_set ?_ GE198.out) | exact HB.out)⟩⟩
      case rest =>
       clear HC14
       try clear c1
       try clear c2
       try clear p2
       try clear c5
       try clear c5b0
       try clear c5b1
       try clear c6
       try clear c6b0
       try clear c6b1
       try clear q8
       try clear c10
       try clear c11
       try clear c12
       try clear c12b0
       try clear c15
       try clear c16
       try clear c19
       try clear c20
       try clear c22
       try clear c24
       try clear c25
       try clear c26
       try clear c28
       try clear c29
       try clear hcz11_0
       try clear hcz11_1
       try clear hcz11_2
       try clear hcz11_3
       try clear hcz11_4
       try clear hcz16_0
       try clear hcz16_1
       try clear hcz16_2
       try clear hcz16_3
       try clear hcz16_4
       try clear hcz21_0
       try clear hcz21_1
       try clear hcz21_2
       try clear hcz21_3
       try clear hcz27_0
       try clear hcz27_1
       try clear hcz27_2
       try clear hcz27_3
       try clear hcz30_0
       try clear hcz30_1
       try clear hcz30_2
       try clear hcz30_3
       try clear hfz11_0
       try clear hfz11_1
       try clear hfz11_2
       try clear hfz11_3
       try clear hfz11_4
       try clear hfz16_0
       try clear hfz16_1
       try clear hfz16_2
       try clear hfz16_3
       try clear hfz16_4
       try clear hfz21_0
       try clear hfz21_1
       try clear hfz21_2
       try clear hfz21_3
       try clear hfz27_0
       try clear hfz27_1
       try clear hfz27_2
       try clear hfz27_3
       try clear hfz30_0
       try clear hfz30_1
       try clear hfz30_2
       try clear hfz30_3
       try clear p2
       try clear q8
       obtain ⟨kq, x45_13, rfl, HA, HJ13, HO_2, BK186, BK192, BK198, HB⟩ := hcut
       cases kq with
       | zero => exact absurd HA.out (by simp [guichetref12_Run.j1])
       | succ kj13 =>
        have H := HA.out
        clear HA
        simp only [guichetref12_Run.j1] at H
        by_cases c31 : x45_13 = true
        ·subst c31
         have H1 : (some (x193000_1, x193001_1, x193002_1, x193003_1, x193004_1)) = some (r1, r2, r3, r4, r5) := by rw [if_pos rfl] at H; exact H
         clear H
         have H := H1
         clear H1
         simp only [Option.some.injEq, Prod.mk.injEq] at H
         obtain ⟨rfl, rfl, rfl, rfl, rfl⟩ := H
         have hnb32 := NB192_186.out
         have hnc32 := NB186_192.out
         have hnb33 := NB192_198.out
         have hnc33 := NB198_192.out
         have hcz34_0 : wc.cell? ⟨gb192, 0, none⟩ = some (.int .i64 x193000_1) := (blk_cell BK192.out 0).trans rfl
         have hcz34_1 : wc.cell? ⟨gb192, 1, none⟩ = some (.int .i64 x193001_1) := (blk_cell BK192.out 1).trans rfl
         have hcz34_2 : wc.cell? ⟨gb192, 2, none⟩ = some (.bool x193002_1) := (blk_cell BK192.out 2).trans rfl
         have hcz34_3 : wc.cell? ⟨gb192, 3, none⟩ = some (.string x193003_1) := (blk_cell BK192.out 3).trans rfl
         have hcz34_4 : wc.cell? ⟨gb192, 4, none⟩ = some (.int .i64 x193004_1) := (blk_cell BK192.out 4).trans rfl
         have hfz34_0 := blk_frozen BK192.out 0
         have hfz34_1 := blk_frozen BK192.out 1
         have hfz34_2 := blk_frozen BK192.out 2
         have hfz34_3 := blk_frozen BK192.out 3
         have hfz34_4 := blk_frozen BK192.out 4
         have hnb35 := NB186_198.out
         have hnc35 := NB198_186.out
         have hcz36_0 : wc.cell? ⟨gb186, 0, none⟩ = some (.int .i64 0) := (blk_cell BK186.out 0).trans rfl
         have hcz36_1 : wc.cell? ⟨gb186, 1, none⟩ = some (.int .i64 0) := (blk_cell BK186.out 1).trans rfl
         have hcz36_2 : wc.cell? ⟨gb186, 2, none⟩ = some (.bool false) := (blk_cell BK186.out 2).trans rfl
         have hcz36_3 : wc.cell? ⟨gb186, 3, none⟩ = some (.string (⟨#[]⟩ : ByteArray)) := (blk_cell BK186.out 3).trans rfl
         have hcz36_4 : wc.cell? ⟨gb186, 4, none⟩ = some (.int .i64 0) := (blk_cell BK186.out 4).trans rfl
         have hfz36_0 := blk_frozen BK186.out 0
         have hfz36_1 := blk_frozen BK186.out 1
         have hfz36_2 := blk_frozen BK186.out 2
         have hfz36_3 := blk_frozen BK186.out 3
         have hfz36_4 := blk_frozen BK186.out 4
         go_wp2
         refine bodyPost_ret (results_cell_row rfl _ _ gb186 30 #[.int .i64 x193000_1, .int .i64 x193001_1, .bool x193002_1, .string x193003_1, .int .i64 x193004_1] (0, 0) _ rfl (by (with_reducible repeat (first | refine blk_drewN ?_ _ | refine blk_drew ?_ | refine blk_alloc ?_ _)); refine blk_put (cs := #[.int .i64 x193000_1, .int .i64 x193001_1, .bool x193002_1, .string x193003_1, .int .i64 0]) ?_ 4 _ rfl; (with_reducible repeat (first | refine blk_drewN ?_ _ | refine blk_drew ?_ | refine blk_alloc ?_ _)); refine blk_put (cs := #[.int .i64 x193000_1, .int .i64 x193001_1, .bool x193002_1, .string (⟨#[]⟩ : ByteArray), .int .i64 0]) ?_ 3 _ rfl; (with_reducible repeat (first | refine blk_drewN ?_ _ | refine blk_drew ?_ | refine blk_alloc ?_ _)); refine blk_put (cs := #[.int .i64 x193000_1, .int .i64 x193001_1, .bool false, .string (⟨#[]⟩ : ByteArray), .int .i64 0]) ?_ 2 _ rfl; (with_reducible repeat (first | refine blk_drewN ?_ _ | refine blk_drew ?_ | refine blk_alloc ?_ _)); refine blk_put (cs := #[.int .i64 x193000_1, .int .i64 0, .bool false, .string (⟨#[]⟩ : ByteArray), .int .i64 0]) ?_ 1 _ rfl; (with_reducible repeat (first | refine blk_drewN ?_ _ | refine blk_drew ?_ | refine blk_alloc ?_ _)); refine blk_put (cs := #[.int .i64 0, .int .i64 0, .bool false, .string (⟨#[]⟩ : ByteArray), .int .i64 0]) ?_ 0 _ rfl; (with_reducible repeat (first | refine blk_drewN ?_ _ | refine blk_drew ?_ | refine blk_alloc ?_ _)); exact BK186.out) Tryd.underlying30 rfl (by kernel_rfl)) rfl ?_
         exact ⟨by first | rfl | (simp [errW_none, errW_some] <;> rfl) | (simp only [← hji4]; first | rfl | (simp [errW_none, errW_some] <;> rfl)) | (simp [*, errW_none, errW_some] <;> rfl), by repeat (first | (with_reducible first | exact HB.out | apply below_alloc | apply pw_below_drewN | apply below_drew1 | refine below_set ?_ GE186.out | refine below_set ?_ GE192.out | refine below_set ?_ GE198.out) | exact HB.out)⟩
        ·replace c31 := Bool.eq_false_iff.mpr c31
         subst c31
         have H1 : (if t194 = 73 then (if x8_1.toList = ([] : List UInt8) then (guichetref12_Run.l0 kj13 l0 x2_1 x8_1 x9_1 t195 (wrap64 (x193001_1 + 1)) x193002_1 x193003_1 x193004_1) else (if x9_1 = 0 then (guichetref12_Run.l0 kj13 l0 x2_1 x8_1 x9_1 t195 (wrap64 (x193001_1 + 1)) x193002_1 x193003_1 x193004_1) else (if x193002_1 = true then (guichetref12_Run.l0 kj13 l0 x2_1 x8_1 x9_1 t195 (wrap64 (x193001_1 + 1)) x193002_1 x193003_1 x193004_1) else (guichetref12_Run.l0 kj13 l0 x2_1 x8_1 x9_1 t195 (wrap64 (x193001_1 + 1)) true x8_1 x9_1)))) else (if (x2_1.length : Int) = 0 then (some (x193000_1, x193001_1, x193002_1, x193003_1, x193004_1)) else (if 0 < (x2_1.length : Int) then (if 1 ≤ (x2_1.length : Int) then ((some (x2_1.drop 1 : List ByteArray)).bind fun y201 => ((guichetref1_Num.f kj13 (rdOf ByteArray.empty x2_1 0)).bind fun bt206 => (if t194 = 65 then ((guichetref1_Pan.f kj13 (rdOf ByteArray.empty x2_1 0)).bind fun t208 => (if t208 = true then (guichetref12_Run.l0 kj13 l0 y201 (rdOf ByteArray.empty x2_1 0) x9_1 t195 (wrap64 (x193001_1 + 1)) x193002_1 x193003_1 x193004_1) else (guichetref12_Run.l0 kj13 l0 y201 x8_1 x9_1 t193 (wrap64 (x193001_1 + 1)) x193002_1 x193003_1 x193004_1))) else (if t194 = 66 then (if ((rdOf ByteArray.empty x2_1 0).size : Int) = 4 then (if bt206.2 = true then (guichetref12_Run.l0 kj13 l0 y201 x8_1 x9_1 t195 (wrap64 (x193001_1 + 1)) x193002_1 x193003_1 x193004_1) else (guichetref12_Run.l0 kj13 l0 y201 x8_1 x9_1 t196 (wrap64 (x193001_1 + 1)) x193002_1 x193003_1 x193004_1)) else (guichetref12_Run.l0 kj13 l0 y201 x8_1 x9_1 t196 (wrap64 (x193001_1 + 1)) x193002_1 x193003_1 x193004_1)) else (if t194 = 68 then (if bt206.2 = true then (if ((rdOf ByteArray.empty x2_1 0).size : Int) ≤ 7 then (guichetref12_Run.l0 kj13 l0 y201 x8_1 bt206.1 t195 (wrap64 (x193001_1 + 1)) x193002_1 x193003_1 x193004_1) else (guichetref12_Run.l0 kj13 l0 y201 x8_1 x9_1 t196 (wrap64 (x193001_1 + 1)) x193002_1 x193003_1 x193004_1)) else (guichetref12_Run.l0 kj13 l0 y201 x8_1 x9_1 t196 (wrap64 (x193001_1 + 1)) x193002_1 x193003_1 x193004_1)) else (if (rdOf ByteArray.empty x2_1 0).toList = ([50] : List UInt8) then (guichetref12_Run.l0 kj13 l0 y201 x8_1 x9_1 t196 (wrap64 (x193001_1 + 1)) x193002_1 x193003_1 x193004_1) else (if (rdOf ByteArray.empty x2_1 0).toList = ([49] : List UInt8) then (guichetref12_Run.l0 kj13 l0 y201 x8_1 x9_1 t195 (wrap64 (x193001_1 + 1)) x193002_1 x193003_1 x193004_1) else (guichetref12_Run.l0 kj13 l0 y201 x8_1 x9_1 t193 (wrap64 (x193001_1 + 1)) x193002_1 x193003_1 x193004_1)))))))) else (none)) else (none)))) = some (r1, r2, r3, r4, r5) := by rw [if_neg (show ¬ (false = true) by decide)] at H; exact H
         clear H
         have H := H1
         clear H1
         by_cases c37 : t194 = 73
         ·rw [if_pos c37] at H
          have c37b0 : (t194 == 73) = true := beq_iff_eq.mpr c37
          have c37b1 : (t194 != 73) = false := bne_eq_false_iff_eq.mpr c37
          clear c37
          by_cases c38 : x8_1.toList = ([] : List UInt8)
          ·rw [if_pos c38] at H
           have c38b0 : (x8_1.toList == ([] : List UInt8)) = true := beq_iff_eq.mpr c38
           have c38b1 : (x8_1.toList != ([] : List UInt8)) = false := bne_eq_false_iff_eq.mpr c38
           clear c38
           have H' := Aside0.mk H
           clear H
           have hnb39 := NB198_186.out
           have hnc39 := NB186_198.out
           have hnb40 := NB198_192.out
           have hnc40 := NB192_198.out
           have hcz41_0 : wc.cell? ⟨gb198, 0, none⟩ = some (.int .i64 t193) := (blk_cell BK198.out 0).trans rfl
           have hcz41_1 : wc.cell? ⟨gb198, 1, none⟩ = some (.int .u8 t194) := (blk_cell BK198.out 1).trans rfl
           have hcz41_2 : wc.cell? ⟨gb198, 2, none⟩ = some (.int .i64 t195) := (blk_cell BK198.out 2).trans rfl
           have hcz41_3 : wc.cell? ⟨gb198, 3, none⟩ = some (.int .i64 t196) := (blk_cell BK198.out 3).trans rfl
           have hfz41_0 := blk_frozen BK198.out 0
           have hfz41_1 := blk_frozen BK198.out 1
           have hfz41_2 := blk_frozen BK198.out 2
           have hfz41_3 := blk_frozen BK198.out 3
           have hnb42 := NB192_186.out
           have hnc42 := NB186_192.out
           have hcz43_0 : wc.cell? ⟨gb192, 0, none⟩ = some (.int .i64 x193000_1) := (blk_cell BK192.out 0).trans rfl
           have hcz43_1 : wc.cell? ⟨gb192, 1, none⟩ = some (.int .i64 x193001_1) := (blk_cell BK192.out 1).trans rfl
           have hcz43_2 : wc.cell? ⟨gb192, 2, none⟩ = some (.bool x193002_1) := (blk_cell BK192.out 2).trans rfl
           have hcz43_3 : wc.cell? ⟨gb192, 3, none⟩ = some (.string x193003_1) := (blk_cell BK192.out 3).trans rfl
           have hcz43_4 : wc.cell? ⟨gb192, 4, none⟩ = some (.int .i64 x193004_1) := (blk_cell BK192.out 4).trans rfl
           have hfz43_0 := blk_frozen BK192.out 0
           have hfz43_1 := blk_frozen BK192.out 1
           have hfz43_2 := blk_frozen BK192.out 2
           have hfz43_3 := blk_frozen BK192.out 3
           have hfz43_4 := blk_frozen BK192.out 4
           go_wp2
           go_roundg kj13
           case measure => have := HK1.out; have := HJ13.out; omega
           case rel => exact ⟨(x2_1), (x8_1), (x9_1), (t195), (wrap64 (x193001_1 + 1)), (x193002_1), (x193003_1), (x193004_1), (by first | rfl | (simp; done) | (simp [*]; done)), (by first | rfl | (simp; done) | (simp [*]; done)), H', ⟨by have := HK1.out; have := HJ13.out; omega⟩, ⟨by (with_reducible repeat (first | apply Kd.V_alloc | apply Kd.V_drewN | apply Kd.V_drew)); exact Kd.V_mono (Kd.V_far (p := ⟨gb192, 1, none⟩) (Kd.V_far (p := ⟨gb192, 0, none⟩) (Kd.V_mono HO_2.out (fun k_ hk => (⟨hk, hk.2.2.1⟩ : _ ∧ k_ ≠ gb192))) (fun _ hk => hk.2) (.int .i64 t195)) (fun _ hk => hk.2) (.int .i64 (wrap64 (x193001_1 + 1)))) (fun _ hk => ⟨hk.1.1, ⟨hk.1.2.1, hk.1.2.2.1⟩⟩)⟩, ⟨by (with_reducible repeat (first | refine blk_drewN ?_ _ | refine blk_drew ?_ | refine blk_alloc ?_ _)); refine blk_far ?_ NB186_192.out _; (with_reducible repeat (first | refine blk_drewN ?_ _ | refine blk_drew ?_ | refine blk_alloc ?_ _)); refine blk_far ?_ NB186_192.out _; (with_reducible repeat (first | refine blk_drewN ?_ _ | refine blk_drew ?_ | refine blk_alloc ?_ _)); exact BK186.out⟩, ⟨by (with_reducible repeat (first | refine blk_drewN ?_ _ | refine blk_drew ?_ | refine blk_alloc ?_ _)); refine blk_put (cs := #[.int .i64 t195, .int .i64 x193001_1, .bool x193002_1, .string x193003_1, .int .i64 x193004_1]) ?_ 1 _ rfl; (with_reducible repeat (first | refine blk_drewN ?_ _ | refine blk_drew ?_ | refine blk_alloc ?_ _)); refine blk_put (cs := #[.int .i64 x193000_1, .int .i64 x193001_1, .bool x193002_1, .string x193003_1, .int .i64 x193004_1]) ?_ 0 _ rfl; (with_reducible repeat (first | refine blk_drewN ?_ _ | refine blk_drew ?_ | refine blk_alloc ?_ _)); exact BK192.out⟩, ⟨by repeat (first | (with_reducible first | exact HB.out | apply below_alloc | apply pw_below_drewN | apply below_drew1 | refine below_set ?_ GE186.out | refine below_set ?_ GE192.out | refine below_set ?_ GE198.out) | exact HB.out)⟩⟩
          ·rw [if_neg c38] at H
           have c38b0 : (x8_1.toList == ([] : List UInt8)) = false := beq_eq_false_iff_ne.mpr c38
           have c38b1 : (x8_1.toList != ([] : List UInt8)) = true := bne_iff_ne.mpr c38
           by_cases c44 : x9_1 = 0
           ·rw [if_pos c44] at H
            have c44b0 : (x9_1 == 0) = true := beq_iff_eq.mpr c44
            have c44b1 : (x9_1 != 0) = false := bne_eq_false_iff_eq.mpr c44
            clear c44
            have H' := Aside0.mk H
            clear H
            have hnb45 := NB198_186.out
            have hnc45 := NB186_198.out
            have hnb46 := NB198_192.out
            have hnc46 := NB192_198.out
            have hcz47_0 : wc.cell? ⟨gb198, 0, none⟩ = some (.int .i64 t193) := (blk_cell BK198.out 0).trans rfl
            have hcz47_1 : wc.cell? ⟨gb198, 1, none⟩ = some (.int .u8 t194) := (blk_cell BK198.out 1).trans rfl
            have hcz47_2 : wc.cell? ⟨gb198, 2, none⟩ = some (.int .i64 t195) := (blk_cell BK198.out 2).trans rfl
            have hcz47_3 : wc.cell? ⟨gb198, 3, none⟩ = some (.int .i64 t196) := (blk_cell BK198.out 3).trans rfl
            have hfz47_0 := blk_frozen BK198.out 0
            have hfz47_1 := blk_frozen BK198.out 1
            have hfz47_2 := blk_frozen BK198.out 2
            have hfz47_3 := blk_frozen BK198.out 3
            have hnb48 := NB192_186.out
            have hnc48 := NB186_192.out
            have hcz49_0 : wc.cell? ⟨gb192, 0, none⟩ = some (.int .i64 x193000_1) := (blk_cell BK192.out 0).trans rfl
            have hcz49_1 : wc.cell? ⟨gb192, 1, none⟩ = some (.int .i64 x193001_1) := (blk_cell BK192.out 1).trans rfl
            have hcz49_2 : wc.cell? ⟨gb192, 2, none⟩ = some (.bool x193002_1) := (blk_cell BK192.out 2).trans rfl
            have hcz49_3 : wc.cell? ⟨gb192, 3, none⟩ = some (.string x193003_1) := (blk_cell BK192.out 3).trans rfl
            have hcz49_4 : wc.cell? ⟨gb192, 4, none⟩ = some (.int .i64 x193004_1) := (blk_cell BK192.out 4).trans rfl
            have hfz49_0 := blk_frozen BK192.out 0
            have hfz49_1 := blk_frozen BK192.out 1
            have hfz49_2 := blk_frozen BK192.out 2
            have hfz49_3 := blk_frozen BK192.out 3
            have hfz49_4 := blk_frozen BK192.out 4
            go_wp2
            go_roundg kj13
            case measure => have := HK1.out; have := HJ13.out; omega
            case rel => exact ⟨(x2_1), (x8_1), (x9_1), (t195), (wrap64 (x193001_1 + 1)), (x193002_1), (x193003_1), (x193004_1), (by first | rfl | (simp; done) | (simp [*]; done)), (by first | rfl | (simp; done) | (simp [*]; done)), H', ⟨by have := HK1.out; have := HJ13.out; omega⟩, ⟨by (with_reducible repeat (first | apply Kd.V_alloc | apply Kd.V_drewN | apply Kd.V_drew)); exact Kd.V_mono (Kd.V_far (p := ⟨gb192, 1, none⟩) (Kd.V_far (p := ⟨gb192, 0, none⟩) (Kd.V_mono HO_2.out (fun k_ hk => (⟨hk, hk.2.2.1⟩ : _ ∧ k_ ≠ gb192))) (fun _ hk => hk.2) (.int .i64 t195)) (fun _ hk => hk.2) (.int .i64 (wrap64 (x193001_1 + 1)))) (fun _ hk => ⟨hk.1.1, ⟨hk.1.2.1, hk.1.2.2.1⟩⟩)⟩, ⟨by (with_reducible repeat (first | refine blk_drewN ?_ _ | refine blk_drew ?_ | refine blk_alloc ?_ _)); refine blk_far ?_ NB186_192.out _; (with_reducible repeat (first | refine blk_drewN ?_ _ | refine blk_drew ?_ | refine blk_alloc ?_ _)); refine blk_far ?_ NB186_192.out _; (with_reducible repeat (first | refine blk_drewN ?_ _ | refine blk_drew ?_ | refine blk_alloc ?_ _)); exact BK186.out⟩, ⟨by (with_reducible repeat (first | refine blk_drewN ?_ _ | refine blk_drew ?_ | refine blk_alloc ?_ _)); refine blk_put (cs := #[.int .i64 t195, .int .i64 x193001_1, .bool x193002_1, .string x193003_1, .int .i64 x193004_1]) ?_ 1 _ rfl; (with_reducible repeat (first | refine blk_drewN ?_ _ | refine blk_drew ?_ | refine blk_alloc ?_ _)); refine blk_put (cs := #[.int .i64 x193000_1, .int .i64 x193001_1, .bool x193002_1, .string x193003_1, .int .i64 x193004_1]) ?_ 0 _ rfl; (with_reducible repeat (first | refine blk_drewN ?_ _ | refine blk_drew ?_ | refine blk_alloc ?_ _)); exact BK192.out⟩, ⟨by repeat (first | (with_reducible first | exact HB.out | apply below_alloc | apply pw_below_drewN | apply below_drew1 | refine below_set ?_ GE186.out | refine below_set ?_ GE192.out | refine below_set ?_ GE198.out) | exact HB.out)⟩⟩
           ·rw [if_neg c44] at H
            have c44b0 : (x9_1 == 0) = false := beq_eq_false_iff_ne.mpr c44
            have c44b1 : (x9_1 != 0) = true := bne_iff_ne.mpr c44
            by_cases c50 : x193002_1 = true
            ·subst c50
             have H1 : (guichetref12_Run.l0 kj13 l0 x2_1 x8_1 x9_1 t195 (wrap64 (x193001_1 + 1)) true x193003_1 x193004_1) = some (r1, r2, r3, r4, r5) := by rw [if_pos rfl] at H; exact H
             clear H
             have H := H1
             clear H1
             have H' := Aside0.mk H
             clear H
             have hnb51 := NB198_186.out
             have hnc51 := NB186_198.out
             have hnb52 := NB198_192.out
             have hnc52 := NB192_198.out
             have hcz53_0 : wc.cell? ⟨gb198, 0, none⟩ = some (.int .i64 t193) := (blk_cell BK198.out 0).trans rfl
             have hcz53_1 : wc.cell? ⟨gb198, 1, none⟩ = some (.int .u8 t194) := (blk_cell BK198.out 1).trans rfl
             have hcz53_2 : wc.cell? ⟨gb198, 2, none⟩ = some (.int .i64 t195) := (blk_cell BK198.out 2).trans rfl
             have hcz53_3 : wc.cell? ⟨gb198, 3, none⟩ = some (.int .i64 t196) := (blk_cell BK198.out 3).trans rfl
             have hfz53_0 := blk_frozen BK198.out 0
             have hfz53_1 := blk_frozen BK198.out 1
             have hfz53_2 := blk_frozen BK198.out 2
             have hfz53_3 := blk_frozen BK198.out 3
             have hnb54 := NB192_186.out
             have hnc54 := NB186_192.out
             have hcz55_0 : wc.cell? ⟨gb192, 0, none⟩ = some (.int .i64 x193000_1) := (blk_cell BK192.out 0).trans rfl
             have hcz55_1 : wc.cell? ⟨gb192, 1, none⟩ = some (.int .i64 x193001_1) := (blk_cell BK192.out 1).trans rfl
             have hcz55_2 : wc.cell? ⟨gb192, 2, none⟩ = some (.bool true) := (blk_cell BK192.out 2).trans rfl
             have hcz55_3 : wc.cell? ⟨gb192, 3, none⟩ = some (.string x193003_1) := (blk_cell BK192.out 3).trans rfl
             have hcz55_4 : wc.cell? ⟨gb192, 4, none⟩ = some (.int .i64 x193004_1) := (blk_cell BK192.out 4).trans rfl
             have hfz55_0 := blk_frozen BK192.out 0
             have hfz55_1 := blk_frozen BK192.out 1
             have hfz55_2 := blk_frozen BK192.out 2
             have hfz55_3 := blk_frozen BK192.out 3
             have hfz55_4 := blk_frozen BK192.out 4
             go_wp2
             go_roundg kj13
             case measure => have := HK1.out; have := HJ13.out; omega
             case rel => exact ⟨(x2_1), (x8_1), (x9_1), (t195), (wrap64 (x193001_1 + 1)), (true), (x193003_1), (x193004_1), (by first | rfl | (simp; done) | (simp [*]; done)), (by first | rfl | (simp; done) | (simp [*]; done)), H', ⟨by have := HK1.out; have := HJ13.out; omega⟩, ⟨by (with_reducible repeat (first | apply Kd.V_alloc | apply Kd.V_drewN | apply Kd.V_drew)); exact Kd.V_mono (Kd.V_far (p := ⟨gb192, 1, none⟩) (Kd.V_far (p := ⟨gb192, 0, none⟩) (Kd.V_mono HO_2.out (fun k_ hk => (⟨hk, hk.2.2.1⟩ : _ ∧ k_ ≠ gb192))) (fun _ hk => hk.2) (.int .i64 t195)) (fun _ hk => hk.2) (.int .i64 (wrap64 (x193001_1 + 1)))) (fun _ hk => ⟨hk.1.1, ⟨hk.1.2.1, hk.1.2.2.1⟩⟩)⟩, ⟨by (with_reducible repeat (first | refine blk_drewN ?_ _ | refine blk_drew ?_ | refine blk_alloc ?_ _)); refine blk_far ?_ NB186_192.out _; (with_reducible repeat (first | refine blk_drewN ?_ _ | refine blk_drew ?_ | refine blk_alloc ?_ _)); refine blk_far ?_ NB186_192.out _; (with_reducible repeat (first | refine blk_drewN ?_ _ | refine blk_drew ?_ | refine blk_alloc ?_ _)); exact BK186.out⟩, ⟨by (with_reducible repeat (first | refine blk_drewN ?_ _ | refine blk_drew ?_ | refine blk_alloc ?_ _)); refine blk_put (cs := #[.int .i64 t195, .int .i64 x193001_1, .bool true, .string x193003_1, .int .i64 x193004_1]) ?_ 1 _ rfl; (with_reducible repeat (first | refine blk_drewN ?_ _ | refine blk_drew ?_ | refine blk_alloc ?_ _)); refine blk_put (cs := #[.int .i64 x193000_1, .int .i64 x193001_1, .bool true, .string x193003_1, .int .i64 x193004_1]) ?_ 0 _ rfl; (with_reducible repeat (first | refine blk_drewN ?_ _ | refine blk_drew ?_ | refine blk_alloc ?_ _)); exact BK192.out⟩, ⟨by repeat (first | (with_reducible first | exact HB.out | apply below_alloc | apply pw_below_drewN | apply below_drew1 | refine below_set ?_ GE186.out | refine below_set ?_ GE192.out | refine below_set ?_ GE198.out) | exact HB.out)⟩⟩
            ·replace c50 := Bool.eq_false_iff.mpr c50
             subst c50
             have H1 : (guichetref12_Run.l0 kj13 l0 x2_1 x8_1 x9_1 t195 (wrap64 (x193001_1 + 1)) true x8_1 x9_1) = some (r1, r2, r3, r4, r5) := by rw [if_neg (show ¬ (false = true) by decide)] at H; exact H
             clear H
             have H := H1
             clear H1
             have H' := Aside0.mk H
             clear H
             have hnb56 := NB198_186.out
             have hnc56 := NB186_198.out
             have hnb57 := NB198_192.out
             have hnc57 := NB192_198.out
             have hcz58_0 : wc.cell? ⟨gb198, 0, none⟩ = some (.int .i64 t193) := (blk_cell BK198.out 0).trans rfl
             have hcz58_1 : wc.cell? ⟨gb198, 1, none⟩ = some (.int .u8 t194) := (blk_cell BK198.out 1).trans rfl
             have hcz58_2 : wc.cell? ⟨gb198, 2, none⟩ = some (.int .i64 t195) := (blk_cell BK198.out 2).trans rfl
             have hcz58_3 : wc.cell? ⟨gb198, 3, none⟩ = some (.int .i64 t196) := (blk_cell BK198.out 3).trans rfl
             have hfz58_0 := blk_frozen BK198.out 0
             have hfz58_1 := blk_frozen BK198.out 1
             have hfz58_2 := blk_frozen BK198.out 2
             have hfz58_3 := blk_frozen BK198.out 3
             have hnb59 := NB192_186.out
             have hnc59 := NB186_192.out
             have hcz60_0 : wc.cell? ⟨gb192, 0, none⟩ = some (.int .i64 x193000_1) := (blk_cell BK192.out 0).trans rfl
             have hcz60_1 : wc.cell? ⟨gb192, 1, none⟩ = some (.int .i64 x193001_1) := (blk_cell BK192.out 1).trans rfl
             have hcz60_2 : wc.cell? ⟨gb192, 2, none⟩ = some (.bool false) := (blk_cell BK192.out 2).trans rfl
             have hcz60_3 : wc.cell? ⟨gb192, 3, none⟩ = some (.string x193003_1) := (blk_cell BK192.out 3).trans rfl
             have hcz60_4 : wc.cell? ⟨gb192, 4, none⟩ = some (.int .i64 x193004_1) := (blk_cell BK192.out 4).trans rfl
             have hfz60_0 := blk_frozen BK192.out 0
             have hfz60_1 := blk_frozen BK192.out 1
             have hfz60_2 := blk_frozen BK192.out 2
             have hfz60_3 := blk_frozen BK192.out 3
             have hfz60_4 := blk_frozen BK192.out 4
             go_wp2
             go_roundg kj13
             case measure => have := HK1.out; have := HJ13.out; omega
             case rel => exact ⟨(x2_1), (x8_1), (x9_1), (t195), (wrap64 (x193001_1 + 1)), (true), (x8_1), (x9_1), (by first | rfl | (simp; done) | (simp [*]; done)), (by first | rfl | (simp; done) | (simp [*]; done)), H', ⟨by have := HK1.out; have := HJ13.out; omega⟩, ⟨by (with_reducible repeat (first | apply Kd.V_alloc | apply Kd.V_drewN | apply Kd.V_drew)); exact Kd.V_mono (Kd.V_far (p := ⟨gb192, 1, none⟩) (Kd.V_far (p := ⟨gb192, 0, none⟩) (Kd.V_far (p := ⟨gb192, 4, none⟩) (Kd.V_far (p := ⟨gb192, 3, none⟩) (Kd.V_far (p := ⟨gb192, 2, none⟩) (Kd.V_mono HO_2.out (fun k_ hk => (⟨hk, hk.2.2.1⟩ : _ ∧ k_ ≠ gb192))) (fun _ hk => hk.2) (.bool true)) (fun _ hk => hk.2) (.string x8_1)) (fun _ hk => hk.2) (.int .i64 x9_1)) (fun _ hk => hk.2) (.int .i64 t195)) (fun _ hk => hk.2) (.int .i64 (wrap64 (x193001_1 + 1)))) (fun _ hk => ⟨hk.1.1, ⟨hk.1.2.1, hk.1.2.2.1⟩⟩)⟩, ⟨by (with_reducible repeat (first | refine blk_drewN ?_ _ | refine blk_drew ?_ | refine blk_alloc ?_ _)); refine blk_far ?_ NB186_192.out _; (with_reducible repeat (first | refine blk_drewN ?_ _ | refine blk_drew ?_ | refine blk_alloc ?_ _)); refine blk_far ?_ NB186_192.out _; (with_reducible repeat (first | refine blk_drewN ?_ _ | refine blk_drew ?_ | refine blk_alloc ?_ _)); refine blk_far ?_ NB186_192.out _; (with_reducible repeat (first | refine blk_drewN ?_ _ | refine blk_drew ?_ | refine blk_alloc ?_ _)); refine blk_far ?_ NB186_192.out _; (with_reducible repeat (first | refine blk_drewN ?_ _ | refine blk_drew ?_ | refine blk_alloc ?_ _)); refine blk_far ?_ NB186_192.out _; (with_reducible repeat (first | refine blk_drewN ?_ _ | refine blk_drew ?_ | refine blk_alloc ?_ _)); exact BK186.out⟩, ⟨by (with_reducible repeat (first | refine blk_drewN ?_ _ | refine blk_drew ?_ | refine blk_alloc ?_ _)); refine blk_put (cs := #[.int .i64 t195, .int .i64 x193001_1, .bool true, .string x8_1, .int .i64 x9_1]) ?_ 1 _ rfl; (with_reducible repeat (first | refine blk_drewN ?_ _ | refine blk_drew ?_ | refine blk_alloc ?_ _)); refine blk_put (cs := #[.int .i64 x193000_1, .int .i64 x193001_1, .bool true, .string x8_1, .int .i64 x9_1]) ?_ 0 _ rfl; (with_reducible repeat (first | refine blk_drewN ?_ _ | refine blk_drew ?_ | refine blk_alloc ?_ _)); refine blk_put (cs := #[.int .i64 x193000_1, .int .i64 x193001_1, .bool true, .string x8_1, .int .i64 x193004_1]) ?_ 4 _ rfl; (with_reducible repeat (first | refine blk_drewN ?_ _ | refine blk_drew ?_ | refine blk_alloc ?_ _)); refine blk_put (cs := #[.int .i64 x193000_1, .int .i64 x193001_1, .bool true, .string x193003_1, .int .i64 x193004_1]) ?_ 3 _ rfl; (with_reducible repeat (first | refine blk_drewN ?_ _ | refine blk_drew ?_ | refine blk_alloc ?_ _)); refine blk_put (cs := #[.int .i64 x193000_1, .int .i64 x193001_1, .bool false, .string x193003_1, .int .i64 x193004_1]) ?_ 2 _ rfl; (with_reducible repeat (first | refine blk_drewN ?_ _ | refine blk_drew ?_ | refine blk_alloc ?_ _)); exact BK192.out⟩, ⟨by repeat (first | (with_reducible first | exact HB.out | apply below_alloc | apply pw_below_drewN | apply below_drew1 | refine below_set ?_ GE186.out | refine below_set ?_ GE192.out | refine below_set ?_ GE198.out) | exact HB.out)⟩⟩
         ·rw [if_neg c37] at H
          have c37b0 : (t194 == 73) = false := beq_eq_false_iff_ne.mpr c37
          have c37b1 : (t194 != 73) = true := bne_iff_ne.mpr c37
          by_cases c61 : (x2_1.length : Int) = 0
          ·rw [if_pos c61] at H
           have c61b0 : ((x2_1.length : Int) == 0) = true := beq_iff_eq.mpr c61
           have c61b1 : ((x2_1.length : Int) != 0) = false := bne_eq_false_iff_eq.mpr c61
           clear c61
           simp only [Option.some.injEq, Prod.mk.injEq] at H
           obtain ⟨rfl, rfl, rfl, rfl, rfl⟩ := H
           have hnb62 := NB198_186.out
           have hnc62 := NB186_198.out
           have hnb63 := NB198_192.out
           have hnc63 := NB192_198.out
           have hcz64_0 : wc.cell? ⟨gb198, 0, none⟩ = some (.int .i64 t193) := (blk_cell BK198.out 0).trans rfl
           have hcz64_1 : wc.cell? ⟨gb198, 1, none⟩ = some (.int .u8 t194) := (blk_cell BK198.out 1).trans rfl
           have hcz64_2 : wc.cell? ⟨gb198, 2, none⟩ = some (.int .i64 t195) := (blk_cell BK198.out 2).trans rfl
           have hcz64_3 : wc.cell? ⟨gb198, 3, none⟩ = some (.int .i64 t196) := (blk_cell BK198.out 3).trans rfl
           have hfz64_0 := blk_frozen BK198.out 0
           have hfz64_1 := blk_frozen BK198.out 1
           have hfz64_2 := blk_frozen BK198.out 2
           have hfz64_3 := blk_frozen BK198.out 3
           obtain ⟨Ao65, co65, eo65⟩ := Kd.V_slice HO_2.out
           subst eo65
           have hnb66 := NB192_186.out
           have hnc66 := NB186_192.out
           have hcz67_0 : wc.cell? ⟨gb192, 0, none⟩ = some (.int .i64 x193000_1) := (blk_cell BK192.out 0).trans rfl
           have hcz67_1 : wc.cell? ⟨gb192, 1, none⟩ = some (.int .i64 x193001_1) := (blk_cell BK192.out 1).trans rfl
           have hcz67_2 : wc.cell? ⟨gb192, 2, none⟩ = some (.bool x193002_1) := (blk_cell BK192.out 2).trans rfl
           have hcz67_3 : wc.cell? ⟨gb192, 3, none⟩ = some (.string x193003_1) := (blk_cell BK192.out 3).trans rfl
           have hcz67_4 : wc.cell? ⟨gb192, 4, none⟩ = some (.int .i64 x193004_1) := (blk_cell BK192.out 4).trans rfl
           have hfz67_0 := blk_frozen BK192.out 0
           have hfz67_1 := blk_frozen BK192.out 1
           have hfz67_2 := blk_frozen BK192.out 2
           have hfz67_3 := blk_frozen BK192.out 3
           have hfz67_4 := blk_frozen BK192.out 4
           have hcz68_0 : wc.cell? ⟨gb186, 0, none⟩ = some (.int .i64 0) := (blk_cell BK186.out 0).trans rfl
           have hcz68_1 : wc.cell? ⟨gb186, 1, none⟩ = some (.int .i64 0) := (blk_cell BK186.out 1).trans rfl
           have hcz68_2 : wc.cell? ⟨gb186, 2, none⟩ = some (.bool false) := (blk_cell BK186.out 2).trans rfl
           have hcz68_3 : wc.cell? ⟨gb186, 3, none⟩ = some (.string (⟨#[]⟩ : ByteArray)) := (blk_cell BK186.out 3).trans rfl
           have hcz68_4 : wc.cell? ⟨gb186, 4, none⟩ = some (.int .i64 0) := (blk_cell BK186.out 4).trans rfl
           have hfz68_0 := blk_frozen BK186.out 0
           have hfz68_1 := blk_frozen BK186.out 1
           have hfz68_2 := blk_frozen BK186.out 2
           have hfz68_3 := blk_frozen BK186.out 3
           have hfz68_4 := blk_frozen BK186.out 4
           go_wp2
           refine bodyPost_ret (results_cell_row rfl _ _ gb186 30 #[.int .i64 x193000_1, .int .i64 x193001_1, .bool x193002_1, .string x193003_1, .int .i64 x193004_1] (0, 0) _ rfl (by (with_reducible repeat (first | refine blk_drewN ?_ _ | refine blk_drew ?_ | refine blk_alloc ?_ _)); refine blk_put (cs := #[.int .i64 x193000_1, .int .i64 x193001_1, .bool x193002_1, .string x193003_1, .int .i64 0]) ?_ 4 _ rfl; (with_reducible repeat (first | refine blk_drewN ?_ _ | refine blk_drew ?_ | refine blk_alloc ?_ _)); refine blk_put (cs := #[.int .i64 x193000_1, .int .i64 x193001_1, .bool x193002_1, .string (⟨#[]⟩ : ByteArray), .int .i64 0]) ?_ 3 _ rfl; (with_reducible repeat (first | refine blk_drewN ?_ _ | refine blk_drew ?_ | refine blk_alloc ?_ _)); refine blk_put (cs := #[.int .i64 x193000_1, .int .i64 x193001_1, .bool false, .string (⟨#[]⟩ : ByteArray), .int .i64 0]) ?_ 2 _ rfl; (with_reducible repeat (first | refine blk_drewN ?_ _ | refine blk_drew ?_ | refine blk_alloc ?_ _)); refine blk_put (cs := #[.int .i64 x193000_1, .int .i64 0, .bool false, .string (⟨#[]⟩ : ByteArray), .int .i64 0]) ?_ 1 _ rfl; (with_reducible repeat (first | refine blk_drewN ?_ _ | refine blk_drew ?_ | refine blk_alloc ?_ _)); refine blk_put (cs := #[.int .i64 0, .int .i64 0, .bool false, .string (⟨#[]⟩ : ByteArray), .int .i64 0]) ?_ 0 _ rfl; (with_reducible repeat (first | refine blk_drewN ?_ _ | refine blk_drew ?_ | refine blk_alloc ?_ _)); exact BK186.out) Tryd.underlying30 rfl (by kernel_rfl)) rfl ?_
           exact ⟨by first | rfl | (simp [errW_none, errW_some] <;> rfl) | (simp only [← hji4]; first | rfl | (simp [errW_none, errW_some] <;> rfl)) | (simp [*, errW_none, errW_some] <;> rfl), by repeat (first | (with_reducible first | exact HB.out | apply below_alloc | apply pw_below_drewN | apply below_drew1 | refine below_set ?_ GE186.out | refine below_set ?_ GE192.out | refine below_set ?_ GE198.out) | exact HB.out)⟩
          ·rw [if_neg c61] at H
           have c61b0 : ((x2_1.length : Int) == 0) = false := beq_eq_false_iff_ne.mpr c61
           have c61b1 : ((x2_1.length : Int) != 0) = true := bne_iff_ne.mpr c61
           have c61b2 : ¬ (x2_1 = []) := fun h_ => c61 (by rw [h_]; rfl)
           by_cases c69 : 0 < (x2_1.length : Int)
           ·rw [if_pos c69] at H
            have c69b0 : decide (0 < (x2_1.length : Int)) = true := decide_eq_true c69
            have c69b1 : decide (0 < x2_1.length) = true := decide_eq_true (by omega)
            clear c69
            by_cases c70 : 1 ≤ (x2_1.length : Int)
            ·rw [if_pos c70] at H
             have c70b0 := eq_true c70
             have c70b1 : decide (1 ≤ (x2_1.length : Int)) = true := decide_eq_true c70
             clear c70
             obtain ⟨y201, hy201⟩ : ∃ y_ : List ByteArray, y_ = (x2_1.drop 1) := ⟨_, rfl⟩
             replace H : ((guichetref1_Num.f kj13 (rdOf ByteArray.empty x2_1 0)).bind fun bt206 => (if t194 = 65 then ((guichetref1_Pan.f kj13 (rdOf ByteArray.empty x2_1 0)).bind fun t208 => (if t208 = true then (guichetref12_Run.l0 kj13 l0 y201 (rdOf ByteArray.empty x2_1 0) x9_1 t195 (wrap64 (x193001_1 + 1)) x193002_1 x193003_1 x193004_1) else (guichetref12_Run.l0 kj13 l0 y201 x8_1 x9_1 t193 (wrap64 (x193001_1 + 1)) x193002_1 x193003_1 x193004_1))) else (if t194 = 66 then (if ((rdOf ByteArray.empty x2_1 0).size : Int) = 4 then (if bt206.2 = true then (guichetref12_Run.l0 kj13 l0 y201 x8_1 x9_1 t195 (wrap64 (x193001_1 + 1)) x193002_1 x193003_1 x193004_1) else (guichetref12_Run.l0 kj13 l0 y201 x8_1 x9_1 t196 (wrap64 (x193001_1 + 1)) x193002_1 x193003_1 x193004_1)) else (guichetref12_Run.l0 kj13 l0 y201 x8_1 x9_1 t196 (wrap64 (x193001_1 + 1)) x193002_1 x193003_1 x193004_1)) else (if t194 = 68 then (if bt206.2 = true then (if ((rdOf ByteArray.empty x2_1 0).size : Int) ≤ 7 then (guichetref12_Run.l0 kj13 l0 y201 x8_1 bt206.1 t195 (wrap64 (x193001_1 + 1)) x193002_1 x193003_1 x193004_1) else (guichetref12_Run.l0 kj13 l0 y201 x8_1 x9_1 t196 (wrap64 (x193001_1 + 1)) x193002_1 x193003_1 x193004_1)) else (guichetref12_Run.l0 kj13 l0 y201 x8_1 x9_1 t196 (wrap64 (x193001_1 + 1)) x193002_1 x193003_1 x193004_1)) else (if (rdOf ByteArray.empty x2_1 0).toList = ([50] : List UInt8) then (guichetref12_Run.l0 kj13 l0 y201 x8_1 x9_1 t196 (wrap64 (x193001_1 + 1)) x193002_1 x193003_1 x193004_1) else (if (rdOf ByteArray.empty x2_1 0).toList = ([49] : List UInt8) then (guichetref12_Run.l0 kj13 l0 y201 x8_1 x9_1 t195 (wrap64 (x193001_1 + 1)) x193002_1 x193003_1 x193004_1) else (guichetref12_Run.l0 kj13 l0 y201 x8_1 x9_1 t193 (wrap64 (x193001_1 + 1)) x193002_1 x193003_1 x193004_1))))))) = some (r1, r2, r3, r4, r5) := by first | (rw [hy201]; with_reducible exact H) | (have H2_ := (Option.bind_some _ _).symm.trans H; rw [hy201]; with_reducible exact H2_) | (have H2_ := (Option.bind_some _ _).symm.trans H; with_reducible exact H2_) | with_reducible exact H | (rw [hy201]; exact H) | exact H
             have Ny201 := Aside0.mk hy201
             clear hy201
             replace H := Option.bind_eq_some_iff.mp H
             obtain ⟨⟨t206, t207⟩, A710, H⟩ := H
             replace H : (if t194 = 65 then ((guichetref1_Pan.f kj13 (rdOf ByteArray.empty x2_1 0)).bind fun t208 => (if t208 = true then (guichetref12_Run.l0 kj13 l0 y201 (rdOf ByteArray.empty x2_1 0) x9_1 t195 (wrap64 (x193001_1 + 1)) x193002_1 x193003_1 x193004_1) else (guichetref12_Run.l0 kj13 l0 y201 x8_1 x9_1 t193 (wrap64 (x193001_1 + 1)) x193002_1 x193003_1 x193004_1))) else (if t194 = 66 then (if ((rdOf ByteArray.empty x2_1 0).size : Int) = 4 then (if t207 = true then (guichetref12_Run.l0 kj13 l0 y201 x8_1 x9_1 t195 (wrap64 (x193001_1 + 1)) x193002_1 x193003_1 x193004_1) else (guichetref12_Run.l0 kj13 l0 y201 x8_1 x9_1 t196 (wrap64 (x193001_1 + 1)) x193002_1 x193003_1 x193004_1)) else (guichetref12_Run.l0 kj13 l0 y201 x8_1 x9_1 t196 (wrap64 (x193001_1 + 1)) x193002_1 x193003_1 x193004_1)) else (if t194 = 68 then (if t207 = true then (if ((rdOf ByteArray.empty x2_1 0).size : Int) ≤ 7 then (guichetref12_Run.l0 kj13 l0 y201 x8_1 t206 t195 (wrap64 (x193001_1 + 1)) x193002_1 x193003_1 x193004_1) else (guichetref12_Run.l0 kj13 l0 y201 x8_1 x9_1 t196 (wrap64 (x193001_1 + 1)) x193002_1 x193003_1 x193004_1)) else (guichetref12_Run.l0 kj13 l0 y201 x8_1 x9_1 t196 (wrap64 (x193001_1 + 1)) x193002_1 x193003_1 x193004_1)) else (if (rdOf ByteArray.empty x2_1 0).toList = ([50] : List UInt8) then (guichetref12_Run.l0 kj13 l0 y201 x8_1 x9_1 t196 (wrap64 (x193001_1 + 1)) x193002_1 x193003_1 x193004_1) else (if (rdOf ByteArray.empty x2_1 0).toList = ([49] : List UInt8) then (guichetref12_Run.l0 kj13 l0 y201 x8_1 x9_1 t195 (wrap64 (x193001_1 + 1)) x193002_1 x193003_1 x193004_1) else (guichetref12_Run.l0 kj13 l0 y201 x8_1 x9_1 t193 (wrap64 (x193001_1 + 1)) x193002_1 x193003_1 x193004_1)))))) = some (r1, r2, r3, r4, r5) := H
             have A71 := Aside0.mk A710
             clear A710
             by_cases c72 : t194 = 65
             ·rw [if_pos c72] at H
              have c72b0 : (t194 == 65) = true := beq_iff_eq.mpr c72
              have c72b1 : (t194 != 65) = false := bne_eq_false_iff_eq.mpr c72
              clear c72
              replace H := Option.bind_eq_some_iff.mp H
              obtain ⟨t208, A730, H⟩ := H
              replace H : (if t208 = true then (guichetref12_Run.l0 kj13 l0 y201 (rdOf ByteArray.empty x2_1 0) x9_1 t195 (wrap64 (x193001_1 + 1)) x193002_1 x193003_1 x193004_1) else (guichetref12_Run.l0 kj13 l0 y201 x8_1 x9_1 t193 (wrap64 (x193001_1 + 1)) x193002_1 x193003_1 x193004_1)) = some (r1, r2, r3, r4, r5) := H
              have A73 := Aside0.mk A730
              clear A730
              by_cases c74 : t208 = true
              ·subst c74
               have H1 : (guichetref12_Run.l0 kj13 l0 y201 (rdOf ByteArray.empty x2_1 0) x9_1 t195 (wrap64 (x193001_1 + 1)) x193002_1 x193003_1 x193004_1) = some (r1, r2, r3, r4, r5) := by rw [if_pos rfl] at H; exact H
               clear H
               have H := H1
               clear H1
               have H' := Aside0.mk H
               clear H
               have hnb75 := NB198_186.out
               have hnc75 := NB186_198.out
               have hnb76 := NB198_192.out
               have hnc76 := NB192_198.out
               have hcz77_0 : wc.cell? ⟨gb198, 0, none⟩ = some (.int .i64 t193) := (blk_cell BK198.out 0).trans rfl
               have hcz77_1 : wc.cell? ⟨gb198, 1, none⟩ = some (.int .u8 t194) := (blk_cell BK198.out 1).trans rfl
               have hcz77_2 : wc.cell? ⟨gb198, 2, none⟩ = some (.int .i64 t195) := (blk_cell BK198.out 2).trans rfl
               have hcz77_3 : wc.cell? ⟨gb198, 3, none⟩ = some (.int .i64 t196) := (blk_cell BK198.out 3).trans rfl
               have hfz77_0 := blk_frozen BK198.out 0
               have hfz77_1 := blk_frozen BK198.out 1
               have hfz77_2 := blk_frozen BK198.out 2
               have hfz77_3 := blk_frozen BK198.out 3
               obtain ⟨Ao78, co78, eo78⟩ := Kd.V_slice HO_2.out
               subst eo78
               have p200 : 0 ≤ (0 : Int) := (by omega)
               have q200 : 0 < (x2_1.length : Int) := of_decide_eq_true (by first | (with_reducible assumption) | assumption)
               obtain ⟨ad200, e200, hx200_0⟩ := Kd.at_string (Kd.V_reads' HO_2.out).2.2 0 p200 q200
               cases e200
               have qi200 : (0 < x2_1.length) = True := eq_true (by omega)
               (try rw [show ((0 : Int)).toNat = 0 from rfl] at hx200_0)
               (try rw [Addr.add_zero'] at hx200_0)
               replace p200 := eq_true p200
               replace q200 := eq_true q200
               have q79 : (1 : Int) ≤ ((x2_1.length : Int) : Int) := of_decide_eq_true (by first | (with_reducible assumption) | assumption)
               obtain ⟨i079, hi079, _, hsz79, _⟩ := info_parts info9
               have hroom79 : x2_1.length ≤ co78 := (Kd.V_reads' HO_2.out).2.1
               have hC79 : Kd.F Kd.string _ _ (some ad200) x2_1.length x2_1 := (Kd.V_at (base := w.heap.size) HO_2.out).2.2
               have hcut79 := cut_from (P := Tryd.prog) 26 9 .i64 Tryd.underlying26 hi079 1 hsz79 (some ad200) x2_1.length co78 1 (by omega) q79
               have hr79 := Kd.F_cut (m := (1 : Int).toNat) (c := co78) hC79 (by omega) hroom79
               obtain ⟨A79, hA79⟩ : ∃ A1, A1 = (if co78 = (1 : Int).toNat then (some ad200) else ((some ad200) : Option Addr).map (·.add ((1 : Int).toNat * 1))) := ⟨_, rfl⟩
               obtain ⟨c79, hc79⟩ : ∃ c1, c1 = co78 - (1 : Int).toNat := ⟨_, rfl⟩
               have hy79 : y201.length = x2_1.length - (1 : Int).toNat := (by rw [Ny201.out, List.length_drop] <;> omega)
               rw [show (x2_1).drop (1 : Int).toNat = y201 from Ny201.out.symm] at hr79
               replace hr79 : Kd.F Kd.string _ _ A79 y201.length y201 := (by rw [hA79]; exact hr79)
               rw [← hy79, ← hA79, ← hc79] at hcut79
               have HO205 := Aside0.mk (show Kd.V Kd.string 9 _ w.heap.size _ (.slice A79 y201.length c79) y201 from Kd.V_mk (by rw [hy79, hc79]; exact Nat.sub_le_sub_right hroom79 _) hr79)
               have HC205 := Aside0.mk (show y201.length ≤ c79 from by rw [hy79, hc79]; exact Nat.sub_le_sub_right hroom79 _)
               clear hr79 hC79 hroom79 hi079 hsz79 hc79
               have KY79 := Aside0.mk hy79
               have KA79 := Aside0.mk hA79
               clear hy79 hA79
               replace q79 := eq_true q79
               go_wp2_with (first | ((with_reducible refine gate_callee (f := 18) rfl ?_); refine goesL_ (some 77) rfl rfl Tryd.func18 (by kernel_rfl) rfl #[.string (rdOf ByteArray.empty x2_1 0)] rfl (by (try simp only [List.map_toArray, List.map_cons, List.map_nil]); first | done | rfl | (simp only [List.length_drop, List.length_take]; rfl) | (rw [hsame_])) ?_; (with_reducible refine (guichetref1_Num.calls kj13 (rdOf ByteArray.empty x2_1 0) t206 t207 _ A71.out).mono ?_); rintro e w' ⟨rfl, ⟨nd, rfl⟩⟩; refine ⟨_, rfl, ?_⟩; (try (rw [drewN_self wc]; generalize hq_ : World.drewN wc _ = wc; have n0_ : Aside0 (Kd.V Kd.string 9 wc w.heap.size (fun k_ => (P2_ k_ ∨ w.heap.size ≤ k_) ∧ k_ ≠ gb186 ∧ k_ ≠ gb192 ∧ k_ ≠ gb198) (.slice A79 y201.length c79) y201) := ⟨by rw [← hq_]; exact (by (with_reducible repeat (first | apply Kd.V_alloc | apply Kd.V_drewN | apply Kd.V_drew)); exact HO205.out)⟩; have n1_ : Aside0 (Kd.V Kd.string 9 wc w.heap.size (fun k_ => (P2_ k_ ∨ w.heap.size ≤ k_) ∧ k_ ≠ gb186 ∧ k_ ≠ gb192 ∧ k_ ≠ gb198) (.slice (some ad200) x2_1.length co78) x2_1) := ⟨by rw [← hq_]; exact (by (with_reducible repeat (first | apply Kd.V_alloc | apply Kd.V_drewN | apply Kd.V_drew)); exact HO_2.out)⟩; have n2_ : Aside0 (wc.heap[gb186]? = some (.cells #[.int .i64 0, .int .i64 0, .bool false, .string (⟨#[]⟩ : ByteArray), .int .i64 0] 30 (0, 0))) := ⟨by rw [← hq_]; exact (by (with_reducible repeat (first | refine blk_drewN ?_ _ | refine blk_drew ?_ | refine blk_alloc ?_ _)); exact BK186.out)⟩; have n3_ : Aside0 (wc.heap[gb192]? = some (.cells #[.int .i64 x193000_1, .int .i64 x193001_1, .bool x193002_1, .string x193003_1, .int .i64 x193004_1] 30 (0, 0))) := ⟨by rw [← hq_]; exact (by (with_reducible repeat (first | refine blk_drewN ?_ _ | refine blk_drew ?_ | refine blk_alloc ?_ _)); exact BK192.out)⟩; have n4_ : Aside0 (wc.heap[gb198]? = some (.cells #[.int .i64 t193, .int .u8 t194, .int .i64 t195, .int .i64 t196] 34 (0, 0))) := ⟨by rw [← hq_]; exact (by (with_reducible repeat (first | refine blk_drewN ?_ _ | refine blk_drew ?_ | refine blk_alloc ?_ _)); exact BK198.out)⟩; have n5_ : Aside0 (Below w.heap.size w wc) := ⟨by rw [← hq_]; exact (by repeat (first | (with_reducible first | exact HB.out | apply below_alloc | apply pw_below_drewN | apply below_drew1 | refine below_set ?_ GE186.out | refine below_set ?_ GE192.out | refine below_set ?_ GE198.out) | exact HB.out))⟩; clear HO205 HO_2 BK186 BK192 BK198 HB hq_; have HO205 := n0_; have HO_2 := n1_; have BK186 := n2_; have BK192 := n3_; have BK198 := n4_; have HB := n5_; clear n0_ n1_ n2_ n3_ n4_ n5_)); have hcz80_0 : wc.cell? ⟨gb198, 0, none⟩ = some (.int .i64 t193) := (blk_cell BK198.out 0).trans rfl; have hcz80_1 : wc.cell? ⟨gb198, 1, none⟩ = some (.int .u8 t194) := (blk_cell BK198.out 1).trans rfl; have hcz80_2 : wc.cell? ⟨gb198, 2, none⟩ = some (.int .i64 t195) := (blk_cell BK198.out 2).trans rfl; have hcz80_3 : wc.cell? ⟨gb198, 3, none⟩ = some (.int .i64 t196) := (blk_cell BK198.out 3).trans rfl; have hfz80_0 := blk_frozen BK198.out 0; have hfz80_1 := blk_frozen BK198.out 1; have hfz80_2 := blk_frozen BK198.out 2; have hfz80_3 := blk_frozen BK198.out 3) | ((with_reducible refine gate_callee (f := 19) rfl ?_); refine goesL_ (some 93) rfl rfl Tryd.func19 (by kernel_rfl) rfl #[.string (rdOf ByteArray.empty x2_1 0)] rfl (by (try simp only [List.map_toArray, List.map_cons, List.map_nil]); first | done | rfl | (simp only [List.length_drop, List.length_take]; rfl) | (rw [hsame_])) ?_; (with_reducible refine (guichetref1_Pan.calls kj13 (rdOf ByteArray.empty x2_1 0) true _ A73.out).mono ?_); rintro e w' ⟨rfl, ⟨nd, rfl⟩⟩; refine ⟨_, rfl, ?_⟩; (try (rw [drewN_self wc]; generalize hq_ : World.drewN wc _ = wc; have n0_ : Aside0 (Kd.V Kd.string 9 wc w.heap.size (fun k_ => (P2_ k_ ∨ w.heap.size ≤ k_) ∧ k_ ≠ gb186 ∧ k_ ≠ gb192 ∧ k_ ≠ gb198) (.slice A79 y201.length c79) y201) := ⟨by rw [← hq_]; exact (by (with_reducible repeat (first | apply Kd.V_alloc | apply Kd.V_drewN | apply Kd.V_drew)); exact HO205.out)⟩; have n1_ : Aside0 (Kd.V Kd.string 9 wc w.heap.size (fun k_ => (P2_ k_ ∨ w.heap.size ≤ k_) ∧ k_ ≠ gb186 ∧ k_ ≠ gb192 ∧ k_ ≠ gb198) (.slice (some ad200) x2_1.length co78) x2_1) := ⟨by rw [← hq_]; exact (by (with_reducible repeat (first | apply Kd.V_alloc | apply Kd.V_drewN | apply Kd.V_drew)); exact HO_2.out)⟩; have n2_ : Aside0 (wc.heap[gb186]? = some (.cells #[.int .i64 0, .int .i64 0, .bool false, .string (⟨#[]⟩ : ByteArray), .int .i64 0] 30 (0, 0))) := ⟨by rw [← hq_]; exact (by (with_reducible repeat (first | refine blk_drewN ?_ _ | refine blk_drew ?_ | refine blk_alloc ?_ _)); exact BK186.out)⟩; have n3_ : Aside0 (wc.heap[gb192]? = some (.cells #[.int .i64 x193000_1, .int .i64 x193001_1, .bool x193002_1, .string x193003_1, .int .i64 x193004_1] 30 (0, 0))) := ⟨by rw [← hq_]; exact (by (with_reducible repeat (first | refine blk_drewN ?_ _ | refine blk_drew ?_ | refine blk_alloc ?_ _)); exact BK192.out)⟩; have n4_ : Aside0 (wc.heap[gb198]? = some (.cells #[.int .i64 t193, .int .u8 t194, .int .i64 t195, .int .i64 t196] 34 (0, 0))) := ⟨by rw [← hq_]; exact (by (with_reducible repeat (first | refine blk_drewN ?_ _ | refine blk_drew ?_ | refine blk_alloc ?_ _)); exact BK198.out)⟩; have n5_ : Aside0 (Below w.heap.size w wc) := ⟨by rw [← hq_]; exact (by repeat (first | (with_reducible first | exact HB.out | apply below_alloc | apply pw_below_drewN | apply below_drew1 | refine below_set ?_ GE186.out | refine below_set ?_ GE192.out | refine below_set ?_ GE198.out) | exact HB.out))⟩; clear HO205 HO_2 BK186 BK192 BK198 HB hq_; have HO205 := n0_; have HO_2 := n1_; have BK186 := n2_; have BK192 := n3_; have BK198 := n4_; have HB := n5_; clear n0_ n1_ n2_ n3_ n4_ n5_)); have hnb81 := NB192_186.out; have hnc81 := NB186_192.out; have hcz82_0 : wc.cell? ⟨gb192, 0, none⟩ = some (.int .i64 x193000_1) := (blk_cell BK192.out 0).trans rfl; have hcz82_1 : wc.cell? ⟨gb192, 1, none⟩ = some (.int .i64 x193001_1) := (blk_cell BK192.out 1).trans rfl; have hcz82_2 : wc.cell? ⟨gb192, 2, none⟩ = some (.bool x193002_1) := (blk_cell BK192.out 2).trans rfl; have hcz82_3 : wc.cell? ⟨gb192, 3, none⟩ = some (.string x193003_1) := (blk_cell BK192.out 3).trans rfl; have hcz82_4 : wc.cell? ⟨gb192, 4, none⟩ = some (.int .i64 x193004_1) := (blk_cell BK192.out 4).trans rfl; have hfz82_0 := blk_frozen BK192.out 0; have hfz82_1 := blk_frozen BK192.out 1; have hfz82_2 := blk_frozen BK192.out 2; have hfz82_3 := blk_frozen BK192.out 3; have hfz82_4 := blk_frozen BK192.out 4))
               go_roundg kj13
               case measure => have := HK1.out; have := HJ13.out; omega
               case rel => exact ⟨(y201), (rdOf ByteArray.empty x2_1 0), (x9_1), (t195), (wrap64 (x193001_1 + 1)), (x193002_1), (x193003_1), (x193004_1), (by first | rfl | (simp; done) | (simp [*]; done)), (by first | rfl | (simp; done) | (simp [*]; done)), H', ⟨by have := HK1.out; have := HJ13.out; omega⟩, ⟨by (with_reducible repeat (first | apply Kd.V_alloc | apply Kd.V_drewN | apply Kd.V_drew)); exact Kd.V_mono (Kd.V_far (p := ⟨gb192, 1, none⟩) (Kd.V_far (p := ⟨gb192, 0, none⟩) (Kd.V_mono HO205.out (fun k_ hk => (⟨hk, hk.2.2.1⟩ : _ ∧ k_ ≠ gb192))) (fun _ hk => hk.2) (.int .i64 t195)) (fun _ hk => hk.2) (.int .i64 (wrap64 (x193001_1 + 1)))) (fun _ hk => ⟨hk.1.1, ⟨hk.1.2.1, hk.1.2.2.1⟩⟩)⟩, ⟨by (with_reducible repeat (first | refine blk_drewN ?_ _ | refine blk_drew ?_ | refine blk_alloc ?_ _)); refine blk_far ?_ NB186_192.out _; (with_reducible repeat (first | refine blk_drewN ?_ _ | refine blk_drew ?_ | refine blk_alloc ?_ _)); refine blk_far ?_ NB186_192.out _; (with_reducible repeat (first | refine blk_drewN ?_ _ | refine blk_drew ?_ | refine blk_alloc ?_ _)); exact BK186.out⟩, ⟨by (with_reducible repeat (first | refine blk_drewN ?_ _ | refine blk_drew ?_ | refine blk_alloc ?_ _)); refine blk_put (cs := #[.int .i64 t195, .int .i64 x193001_1, .bool x193002_1, .string x193003_1, .int .i64 x193004_1]) ?_ 1 _ rfl; (with_reducible repeat (first | refine blk_drewN ?_ _ | refine blk_drew ?_ | refine blk_alloc ?_ _)); refine blk_put (cs := #[.int .i64 x193000_1, .int .i64 x193001_1, .bool x193002_1, .string x193003_1, .int .i64 x193004_1]) ?_ 0 _ rfl; (with_reducible repeat (first | refine blk_drewN ?_ _ | refine blk_drew ?_ | refine blk_alloc ?_ _)); exact BK192.out⟩, ⟨by repeat (first | (with_reducible first | exact HB.out | apply below_alloc | apply pw_below_drewN | apply below_drew1 | refine below_set ?_ GE186.out | refine below_set ?_ GE192.out | refine below_set ?_ GE198.out) | exact HB.out)⟩⟩
              ·replace c74 := Bool.eq_false_iff.mpr c74
               subst c74
               have H1 : (guichetref12_Run.l0 kj13 l0 y201 x8_1 x9_1 t193 (wrap64 (x193001_1 + 1)) x193002_1 x193003_1 x193004_1) = some (r1, r2, r3, r4, r5) := by rw [if_neg (show ¬ (false = true) by decide)] at H; exact H
               clear H
               have H := H1
               clear H1
               have H' := Aside0.mk H
               clear H
               have hnb83 := NB198_186.out
               have hnc83 := NB186_198.out
               have hnb84 := NB198_192.out
               have hnc84 := NB192_198.out
               have hcz85_0 : wc.cell? ⟨gb198, 0, none⟩ = some (.int .i64 t193) := (blk_cell BK198.out 0).trans rfl
               have hcz85_1 : wc.cell? ⟨gb198, 1, none⟩ = some (.int .u8 t194) := (blk_cell BK198.out 1).trans rfl
               have hcz85_2 : wc.cell? ⟨gb198, 2, none⟩ = some (.int .i64 t195) := (blk_cell BK198.out 2).trans rfl
               have hcz85_3 : wc.cell? ⟨gb198, 3, none⟩ = some (.int .i64 t196) := (blk_cell BK198.out 3).trans rfl
               have hfz85_0 := blk_frozen BK198.out 0
               have hfz85_1 := blk_frozen BK198.out 1
               have hfz85_2 := blk_frozen BK198.out 2
               have hfz85_3 := blk_frozen BK198.out 3
               obtain ⟨Ao86, co86, eo86⟩ := Kd.V_slice HO_2.out
               subst eo86
               have p200 : 0 ≤ (0 : Int) := (by omega)
               have q200 : 0 < (x2_1.length : Int) := of_decide_eq_true (by first | (with_reducible assumption) | assumption)
               obtain ⟨ad200, e200, hx200_0⟩ := Kd.at_string (Kd.V_reads' HO_2.out).2.2 0 p200 q200
               cases e200
               have qi200 : (0 < x2_1.length) = True := eq_true (by omega)
               (try rw [show ((0 : Int)).toNat = 0 from rfl] at hx200_0)
               (try rw [Addr.add_zero'] at hx200_0)
               replace p200 := eq_true p200
               replace q200 := eq_true q200
               have q87 : (1 : Int) ≤ ((x2_1.length : Int) : Int) := of_decide_eq_true (by first | (with_reducible assumption) | assumption)
               obtain ⟨i087, hi087, _, hsz87, _⟩ := info_parts info9
               have hroom87 : x2_1.length ≤ co86 := (Kd.V_reads' HO_2.out).2.1
               have hC87 : Kd.F Kd.string _ _ (some ad200) x2_1.length x2_1 := (Kd.V_at (base := w.heap.size) HO_2.out).2.2
               have hcut87 := cut_from (P := Tryd.prog) 26 9 .i64 Tryd.underlying26 hi087 1 hsz87 (some ad200) x2_1.length co86 1 (by omega) q87
               have hr87 := Kd.F_cut (m := (1 : Int).toNat) (c := co86) hC87 (by omega) hroom87
               obtain ⟨A87, hA87⟩ : ∃ A1, A1 = (if co86 = (1 : Int).toNat then (some ad200) else ((some ad200) : Option Addr).map (·.add ((1 : Int).toNat * 1))) := ⟨_, rfl⟩
               obtain ⟨c87, hc87⟩ : ∃ c1, c1 = co86 - (1 : Int).toNat := ⟨_, rfl⟩
               have hy87 : y201.length = x2_1.length - (1 : Int).toNat := (by rw [Ny201.out, List.length_drop] <;> omega)
               rw [show (x2_1).drop (1 : Int).toNat = y201 from Ny201.out.symm] at hr87
               replace hr87 : Kd.F Kd.string _ _ A87 y201.length y201 := (by rw [hA87]; exact hr87)
               rw [← hy87, ← hA87, ← hc87] at hcut87
               have HO205 := Aside0.mk (show Kd.V Kd.string 9 _ w.heap.size _ (.slice A87 y201.length c87) y201 from Kd.V_mk (by rw [hy87, hc87]; exact Nat.sub_le_sub_right hroom87 _) hr87)
               have HC205 := Aside0.mk (show y201.length ≤ c87 from by rw [hy87, hc87]; exact Nat.sub_le_sub_right hroom87 _)
               clear hr87 hC87 hroom87 hi087 hsz87 hc87
               have KY87 := Aside0.mk hy87
               have KA87 := Aside0.mk hA87
               clear hy87 hA87
               replace q87 := eq_true q87
               go_wp2_with (first | ((with_reducible refine gate_callee (f := 18) rfl ?_); refine goesL_ (some 77) rfl rfl Tryd.func18 (by kernel_rfl) rfl #[.string (rdOf ByteArray.empty x2_1 0)] rfl (by (try simp only [List.map_toArray, List.map_cons, List.map_nil]); first | done | rfl | (simp only [List.length_drop, List.length_take]; rfl) | (rw [hsame_])) ?_; (with_reducible refine (guichetref1_Num.calls kj13 (rdOf ByteArray.empty x2_1 0) t206 t207 _ A71.out).mono ?_); rintro e w' ⟨rfl, ⟨nd, rfl⟩⟩; refine ⟨_, rfl, ?_⟩; (try (rw [drewN_self wc]; generalize hq_ : World.drewN wc _ = wc; have n0_ : Aside0 (Kd.V Kd.string 9 wc w.heap.size (fun k_ => (P2_ k_ ∨ w.heap.size ≤ k_) ∧ k_ ≠ gb186 ∧ k_ ≠ gb192 ∧ k_ ≠ gb198) (.slice A87 y201.length c87) y201) := ⟨by rw [← hq_]; exact (by (with_reducible repeat (first | apply Kd.V_alloc | apply Kd.V_drewN | apply Kd.V_drew)); exact HO205.out)⟩; have n1_ : Aside0 (Kd.V Kd.string 9 wc w.heap.size (fun k_ => (P2_ k_ ∨ w.heap.size ≤ k_) ∧ k_ ≠ gb186 ∧ k_ ≠ gb192 ∧ k_ ≠ gb198) (.slice (some ad200) x2_1.length co86) x2_1) := ⟨by rw [← hq_]; exact (by (with_reducible repeat (first | apply Kd.V_alloc | apply Kd.V_drewN | apply Kd.V_drew)); exact HO_2.out)⟩; have n2_ : Aside0 (wc.heap[gb186]? = some (.cells #[.int .i64 0, .int .i64 0, .bool false, .string (⟨#[]⟩ : ByteArray), .int .i64 0] 30 (0, 0))) := ⟨by rw [← hq_]; exact (by (with_reducible repeat (first | refine blk_drewN ?_ _ | refine blk_drew ?_ | refine blk_alloc ?_ _)); exact BK186.out)⟩; have n3_ : Aside0 (wc.heap[gb192]? = some (.cells #[.int .i64 x193000_1, .int .i64 x193001_1, .bool x193002_1, .string x193003_1, .int .i64 x193004_1] 30 (0, 0))) := ⟨by rw [← hq_]; exact (by (with_reducible repeat (first | refine blk_drewN ?_ _ | refine blk_drew ?_ | refine blk_alloc ?_ _)); exact BK192.out)⟩; have n4_ : Aside0 (wc.heap[gb198]? = some (.cells #[.int .i64 t193, .int .u8 t194, .int .i64 t195, .int .i64 t196] 34 (0, 0))) := ⟨by rw [← hq_]; exact (by (with_reducible repeat (first | refine blk_drewN ?_ _ | refine blk_drew ?_ | refine blk_alloc ?_ _)); exact BK198.out)⟩; have n5_ : Aside0 (Below w.heap.size w wc) := ⟨by rw [← hq_]; exact (by repeat (first | (with_reducible first | exact HB.out | apply below_alloc | apply pw_below_drewN | apply below_drew1 | refine below_set ?_ GE186.out | refine below_set ?_ GE192.out | refine below_set ?_ GE198.out) | exact HB.out))⟩; clear HO205 HO_2 BK186 BK192 BK198 HB hq_; have HO205 := n0_; have HO_2 := n1_; have BK186 := n2_; have BK192 := n3_; have BK198 := n4_; have HB := n5_; clear n0_ n1_ n2_ n3_ n4_ n5_)); have hcz88_0 : wc.cell? ⟨gb198, 0, none⟩ = some (.int .i64 t193) := (blk_cell BK198.out 0).trans rfl; have hcz88_1 : wc.cell? ⟨gb198, 1, none⟩ = some (.int .u8 t194) := (blk_cell BK198.out 1).trans rfl; have hcz88_2 : wc.cell? ⟨gb198, 2, none⟩ = some (.int .i64 t195) := (blk_cell BK198.out 2).trans rfl; have hcz88_3 : wc.cell? ⟨gb198, 3, none⟩ = some (.int .i64 t196) := (blk_cell BK198.out 3).trans rfl; have hfz88_0 := blk_frozen BK198.out 0; have hfz88_1 := blk_frozen BK198.out 1; have hfz88_2 := blk_frozen BK198.out 2; have hfz88_3 := blk_frozen BK198.out 3) | ((with_reducible refine gate_callee (f := 19) rfl ?_); refine goesL_ (some 93) rfl rfl Tryd.func19 (by kernel_rfl) rfl #[.string (rdOf ByteArray.empty x2_1 0)] rfl (by (try simp only [List.map_toArray, List.map_cons, List.map_nil]); first | done | rfl | (simp only [List.length_drop, List.length_take]; rfl) | (rw [hsame_])) ?_; (with_reducible refine (guichetref1_Pan.calls kj13 (rdOf ByteArray.empty x2_1 0) false _ A73.out).mono ?_); rintro e w' ⟨rfl, ⟨nd, rfl⟩⟩; refine ⟨_, rfl, ?_⟩; (try (rw [drewN_self wc]; generalize hq_ : World.drewN wc _ = wc; have n0_ : Aside0 (Kd.V Kd.string 9 wc w.heap.size (fun k_ => (P2_ k_ ∨ w.heap.size ≤ k_) ∧ k_ ≠ gb186 ∧ k_ ≠ gb192 ∧ k_ ≠ gb198) (.slice A87 y201.length c87) y201) := ⟨by rw [← hq_]; exact (by (with_reducible repeat (first | apply Kd.V_alloc | apply Kd.V_drewN | apply Kd.V_drew)); exact HO205.out)⟩; have n1_ : Aside0 (Kd.V Kd.string 9 wc w.heap.size (fun k_ => (P2_ k_ ∨ w.heap.size ≤ k_) ∧ k_ ≠ gb186 ∧ k_ ≠ gb192 ∧ k_ ≠ gb198) (.slice (some ad200) x2_1.length co86) x2_1) := ⟨by rw [← hq_]; exact (by (with_reducible repeat (first | apply Kd.V_alloc | apply Kd.V_drewN | apply Kd.V_drew)); exact HO_2.out)⟩; have n2_ : Aside0 (wc.heap[gb186]? = some (.cells #[.int .i64 0, .int .i64 0, .bool false, .string (⟨#[]⟩ : ByteArray), .int .i64 0] 30 (0, 0))) := ⟨by rw [← hq_]; exact (by (with_reducible repeat (first | refine blk_drewN ?_ _ | refine blk_drew ?_ | refine blk_alloc ?_ _)); exact BK186.out)⟩; have n3_ : Aside0 (wc.heap[gb192]? = some (.cells #[.int .i64 x193000_1, .int .i64 x193001_1, .bool x193002_1, .string x193003_1, .int .i64 x193004_1] 30 (0, 0))) := ⟨by rw [← hq_]; exact (by (with_reducible repeat (first | refine blk_drewN ?_ _ | refine blk_drew ?_ | refine blk_alloc ?_ _)); exact BK192.out)⟩; have n4_ : Aside0 (wc.heap[gb198]? = some (.cells #[.int .i64 t193, .int .u8 t194, .int .i64 t195, .int .i64 t196] 34 (0, 0))) := ⟨by rw [← hq_]; exact (by (with_reducible repeat (first | refine blk_drewN ?_ _ | refine blk_drew ?_ | refine blk_alloc ?_ _)); exact BK198.out)⟩; have n5_ : Aside0 (Below w.heap.size w wc) := ⟨by rw [← hq_]; exact (by repeat (first | (with_reducible first | exact HB.out | apply below_alloc | apply pw_below_drewN | apply below_drew1 | refine below_set ?_ GE186.out | refine below_set ?_ GE192.out | refine below_set ?_ GE198.out) | exact HB.out))⟩; clear HO205 HO_2 BK186 BK192 BK198 HB hq_; have HO205 := n0_; have HO_2 := n1_; have BK186 := n2_; have BK192 := n3_; have BK198 := n4_; have HB := n5_; clear n0_ n1_ n2_ n3_ n4_ n5_)); have hcz89_0 : wc.cell? ⟨gb198, 0, none⟩ = some (.int .i64 t193) := (blk_cell BK198.out 0).trans rfl; have hcz89_1 : wc.cell? ⟨gb198, 1, none⟩ = some (.int .u8 t194) := (blk_cell BK198.out 1).trans rfl; have hcz89_2 : wc.cell? ⟨gb198, 2, none⟩ = some (.int .i64 t195) := (blk_cell BK198.out 2).trans rfl; have hcz89_3 : wc.cell? ⟨gb198, 3, none⟩ = some (.int .i64 t196) := (blk_cell BK198.out 3).trans rfl; have hfz89_0 := blk_frozen BK198.out 0; have hfz89_1 := blk_frozen BK198.out 1; have hfz89_2 := blk_frozen BK198.out 2; have hfz89_3 := blk_frozen BK198.out 3; have hnb90 := NB192_186.out; have hnc90 := NB186_192.out; have hcz91_0 : wc.cell? ⟨gb192, 0, none⟩ = some (.int .i64 x193000_1) := (blk_cell BK192.out 0).trans rfl; have hcz91_1 : wc.cell? ⟨gb192, 1, none⟩ = some (.int .i64 x193001_1) := (blk_cell BK192.out 1).trans rfl; have hcz91_2 : wc.cell? ⟨gb192, 2, none⟩ = some (.bool x193002_1) := (blk_cell BK192.out 2).trans rfl; have hcz91_3 : wc.cell? ⟨gb192, 3, none⟩ = some (.string x193003_1) := (blk_cell BK192.out 3).trans rfl; have hcz91_4 : wc.cell? ⟨gb192, 4, none⟩ = some (.int .i64 x193004_1) := (blk_cell BK192.out 4).trans rfl; have hfz91_0 := blk_frozen BK192.out 0; have hfz91_1 := blk_frozen BK192.out 1; have hfz91_2 := blk_frozen BK192.out 2; have hfz91_3 := blk_frozen BK192.out 3; have hfz91_4 := blk_frozen BK192.out 4))
               go_roundg kj13
               case measure => have := HK1.out; have := HJ13.out; omega
               case rel => exact ⟨(y201), (x8_1), (x9_1), (t193), (wrap64 (x193001_1 + 1)), (x193002_1), (x193003_1), (x193004_1), (by first | rfl | (simp; done) | (simp [*]; done)), (by first | rfl | (simp; done) | (simp [*]; done)), H', ⟨by have := HK1.out; have := HJ13.out; omega⟩, ⟨by (with_reducible repeat (first | apply Kd.V_alloc | apply Kd.V_drewN | apply Kd.V_drew)); exact Kd.V_mono (Kd.V_far (p := ⟨gb192, 1, none⟩) (Kd.V_far (p := ⟨gb192, 0, none⟩) (Kd.V_mono HO205.out (fun k_ hk => (⟨hk, hk.2.2.1⟩ : _ ∧ k_ ≠ gb192))) (fun _ hk => hk.2) (.int .i64 t193)) (fun _ hk => hk.2) (.int .i64 (wrap64 (x193001_1 + 1)))) (fun _ hk => ⟨hk.1.1, ⟨hk.1.2.1, hk.1.2.2.1⟩⟩)⟩, ⟨by (with_reducible repeat (first | refine blk_drewN ?_ _ | refine blk_drew ?_ | refine blk_alloc ?_ _)); refine blk_far ?_ NB186_192.out _; (with_reducible repeat (first | refine blk_drewN ?_ _ | refine blk_drew ?_ | refine blk_alloc ?_ _)); refine blk_far ?_ NB186_192.out _; (with_reducible repeat (first | refine blk_drewN ?_ _ | refine blk_drew ?_ | refine blk_alloc ?_ _)); exact BK186.out⟩, ⟨by (with_reducible repeat (first | refine blk_drewN ?_ _ | refine blk_drew ?_ | refine blk_alloc ?_ _)); refine blk_put (cs := #[.int .i64 t193, .int .i64 x193001_1, .bool x193002_1, .string x193003_1, .int .i64 x193004_1]) ?_ 1 _ rfl; (with_reducible repeat (first | refine blk_drewN ?_ _ | refine blk_drew ?_ | refine blk_alloc ?_ _)); refine blk_put (cs := #[.int .i64 x193000_1, .int .i64 x193001_1, .bool x193002_1, .string x193003_1, .int .i64 x193004_1]) ?_ 0 _ rfl; (with_reducible repeat (first | refine blk_drewN ?_ _ | refine blk_drew ?_ | refine blk_alloc ?_ _)); exact BK192.out⟩, ⟨by repeat (first | (with_reducible first | exact HB.out | apply below_alloc | apply pw_below_drewN | apply below_drew1 | refine below_set ?_ GE186.out | refine below_set ?_ GE192.out | refine below_set ?_ GE198.out) | exact HB.out)⟩⟩
             ·rw [if_neg c72] at H
              have c72b0 : (t194 == 65) = false := beq_eq_false_iff_ne.mpr c72
              have c72b1 : (t194 != 65) = true := bne_iff_ne.mpr c72
              by_cases c92 : t194 = 66
              ·rw [if_pos c92] at H
               have c92b0 : (t194 == 66) = true := beq_iff_eq.mpr c92
               have c92b1 : (t194 != 66) = false := bne_eq_false_iff_eq.mpr c92
               clear c92
               by_cases c93 : ((rdOf ByteArray.empty x2_1 0).size : Int) = 4
               ·rw [if_pos c93] at H
                have c93b0 : (((rdOf ByteArray.empty x2_1 0).size : Int) == 4) = true := beq_iff_eq.mpr c93
                have c93b1 : (((rdOf ByteArray.empty x2_1 0).size : Int) != 4) = false := bne_eq_false_iff_eq.mpr c93
                clear c93
                by_cases c94 : t207 = true
                ·subst c94
                 have H1 : (guichetref12_Run.l0 kj13 l0 y201 x8_1 x9_1 t195 (wrap64 (x193001_1 + 1)) x193002_1 x193003_1 x193004_1) = some (r1, r2, r3, r4, r5) := by rw [if_pos rfl] at H; exact H
                 clear H
                 have H := H1
                 clear H1
                 have H' := Aside0.mk H
                 clear H
                 have hnb95 := NB198_186.out
                 have hnc95 := NB186_198.out
                 have hnb96 := NB198_192.out
                 have hnc96 := NB192_198.out
                 have hcz97_0 : wc.cell? ⟨gb198, 0, none⟩ = some (.int .i64 t193) := (blk_cell BK198.out 0).trans rfl
                 have hcz97_1 : wc.cell? ⟨gb198, 1, none⟩ = some (.int .u8 t194) := (blk_cell BK198.out 1).trans rfl
                 have hcz97_2 : wc.cell? ⟨gb198, 2, none⟩ = some (.int .i64 t195) := (blk_cell BK198.out 2).trans rfl
                 have hcz97_3 : wc.cell? ⟨gb198, 3, none⟩ = some (.int .i64 t196) := (blk_cell BK198.out 3).trans rfl
                 have hfz97_0 := blk_frozen BK198.out 0
                 have hfz97_1 := blk_frozen BK198.out 1
                 have hfz97_2 := blk_frozen BK198.out 2
                 have hfz97_3 := blk_frozen BK198.out 3
                 obtain ⟨Ao98, co98, eo98⟩ := Kd.V_slice HO_2.out
                 subst eo98
                 have p200 : 0 ≤ (0 : Int) := (by omega)
                 have q200 : 0 < (x2_1.length : Int) := of_decide_eq_true (by first | (with_reducible assumption) | assumption)
                 obtain ⟨ad200, e200, hx200_0⟩ := Kd.at_string (Kd.V_reads' HO_2.out).2.2 0 p200 q200
                 cases e200
                 have qi200 : (0 < x2_1.length) = True := eq_true (by omega)
                 (try rw [show ((0 : Int)).toNat = 0 from rfl] at hx200_0)
                 (try rw [Addr.add_zero'] at hx200_0)
                 replace p200 := eq_true p200
                 replace q200 := eq_true q200
                 have q99 : (1 : Int) ≤ ((x2_1.length : Int) : Int) := of_decide_eq_true (by first | (with_reducible assumption) | assumption)
                 obtain ⟨i099, hi099, _, hsz99, _⟩ := info_parts info9
                 have hroom99 : x2_1.length ≤ co98 := (Kd.V_reads' HO_2.out).2.1
                 have hC99 : Kd.F Kd.string _ _ (some ad200) x2_1.length x2_1 := (Kd.V_at (base := w.heap.size) HO_2.out).2.2
                 have hcut99 := cut_from (P := Tryd.prog) 26 9 .i64 Tryd.underlying26 hi099 1 hsz99 (some ad200) x2_1.length co98 1 (by omega) q99
                 have hr99 := Kd.F_cut (m := (1 : Int).toNat) (c := co98) hC99 (by omega) hroom99
                 obtain ⟨A99, hA99⟩ : ∃ A1, A1 = (if co98 = (1 : Int).toNat then (some ad200) else ((some ad200) : Option Addr).map (·.add ((1 : Int).toNat * 1))) := ⟨_, rfl⟩
                 obtain ⟨c99, hc99⟩ : ∃ c1, c1 = co98 - (1 : Int).toNat := ⟨_, rfl⟩
                 have hy99 : y201.length = x2_1.length - (1 : Int).toNat := (by rw [Ny201.out, List.length_drop] <;> omega)
                 rw [show (x2_1).drop (1 : Int).toNat = y201 from Ny201.out.symm] at hr99
                 replace hr99 : Kd.F Kd.string _ _ A99 y201.length y201 := (by rw [hA99]; exact hr99)
                 rw [← hy99, ← hA99, ← hc99] at hcut99
                 have HO205 := Aside0.mk (show Kd.V Kd.string 9 _ w.heap.size _ (.slice A99 y201.length c99) y201 from Kd.V_mk (by rw [hy99, hc99]; exact Nat.sub_le_sub_right hroom99 _) hr99)
                 have HC205 := Aside0.mk (show y201.length ≤ c99 from by rw [hy99, hc99]; exact Nat.sub_le_sub_right hroom99 _)
                 clear hr99 hC99 hroom99 hi099 hsz99 hc99
                 have KY99 := Aside0.mk hy99
                 have KA99 := Aside0.mk hA99
                 clear hy99 hA99
                 replace q99 := eq_true q99
                 go_wp2_with (first | ((with_reducible refine gate_callee (f := 18) rfl ?_); refine goesL_ (some 77) rfl rfl Tryd.func18 (by kernel_rfl) rfl #[.string (rdOf ByteArray.empty x2_1 0)] rfl (by (try simp only [List.map_toArray, List.map_cons, List.map_nil]); first | done | rfl | (simp only [List.length_drop, List.length_take]; rfl) | (rw [hsame_])) ?_; (with_reducible refine (guichetref1_Num.calls kj13 (rdOf ByteArray.empty x2_1 0) t206 true _ A71.out).mono ?_); rintro e w' ⟨rfl, ⟨nd, rfl⟩⟩; refine ⟨_, rfl, ?_⟩; (try (rw [drewN_self wc]; generalize hq_ : World.drewN wc _ = wc; have n0_ : Aside0 (Kd.V Kd.string 9 wc w.heap.size (fun k_ => (P2_ k_ ∨ w.heap.size ≤ k_) ∧ k_ ≠ gb186 ∧ k_ ≠ gb192 ∧ k_ ≠ gb198) (.slice A99 y201.length c99) y201) := ⟨by rw [← hq_]; exact (by (with_reducible repeat (first | apply Kd.V_alloc | apply Kd.V_drewN | apply Kd.V_drew)); exact HO205.out)⟩; have n1_ : Aside0 (Kd.V Kd.string 9 wc w.heap.size (fun k_ => (P2_ k_ ∨ w.heap.size ≤ k_) ∧ k_ ≠ gb186 ∧ k_ ≠ gb192 ∧ k_ ≠ gb198) (.slice (some ad200) x2_1.length co98) x2_1) := ⟨by rw [← hq_]; exact (by (with_reducible repeat (first | apply Kd.V_alloc | apply Kd.V_drewN | apply Kd.V_drew)); exact HO_2.out)⟩; have n2_ : Aside0 (wc.heap[gb186]? = some (.cells #[.int .i64 0, .int .i64 0, .bool false, .string (⟨#[]⟩ : ByteArray), .int .i64 0] 30 (0, 0))) := ⟨by rw [← hq_]; exact (by (with_reducible repeat (first | refine blk_drewN ?_ _ | refine blk_drew ?_ | refine blk_alloc ?_ _)); exact BK186.out)⟩; have n3_ : Aside0 (wc.heap[gb192]? = some (.cells #[.int .i64 x193000_1, .int .i64 x193001_1, .bool x193002_1, .string x193003_1, .int .i64 x193004_1] 30 (0, 0))) := ⟨by rw [← hq_]; exact (by (with_reducible repeat (first | refine blk_drewN ?_ _ | refine blk_drew ?_ | refine blk_alloc ?_ _)); exact BK192.out)⟩; have n4_ : Aside0 (wc.heap[gb198]? = some (.cells #[.int .i64 t193, .int .u8 t194, .int .i64 t195, .int .i64 t196] 34 (0, 0))) := ⟨by rw [← hq_]; exact (by (with_reducible repeat (first | refine blk_drewN ?_ _ | refine blk_drew ?_ | refine blk_alloc ?_ _)); exact BK198.out)⟩; have n5_ : Aside0 (Below w.heap.size w wc) := ⟨by rw [← hq_]; exact (by repeat (first | (with_reducible first | exact HB.out | apply below_alloc | apply pw_below_drewN | apply below_drew1 | refine below_set ?_ GE186.out | refine below_set ?_ GE192.out | refine below_set ?_ GE198.out) | exact HB.out))⟩; clear HO205 HO_2 BK186 BK192 BK198 HB hq_; have HO205 := n0_; have HO_2 := n1_; have BK186 := n2_; have BK192 := n3_; have BK198 := n4_; have HB := n5_; clear n0_ n1_ n2_ n3_ n4_ n5_)); have hcz100_0 : wc.cell? ⟨gb198, 0, none⟩ = some (.int .i64 t193) := (blk_cell BK198.out 0).trans rfl; have hcz100_1 : wc.cell? ⟨gb198, 1, none⟩ = some (.int .u8 t194) := (blk_cell BK198.out 1).trans rfl; have hcz100_2 : wc.cell? ⟨gb198, 2, none⟩ = some (.int .i64 t195) := (blk_cell BK198.out 2).trans rfl; have hcz100_3 : wc.cell? ⟨gb198, 3, none⟩ = some (.int .i64 t196) := (blk_cell BK198.out 3).trans rfl; have hfz100_0 := blk_frozen BK198.out 0; have hfz100_1 := blk_frozen BK198.out 1; have hfz100_2 := blk_frozen BK198.out 2; have hfz100_3 := blk_frozen BK198.out 3; have hnb101 := NB192_186.out; have hnc101 := NB186_192.out; have hcz102_0 : wc.cell? ⟨gb192, 0, none⟩ = some (.int .i64 x193000_1) := (blk_cell BK192.out 0).trans rfl; have hcz102_1 : wc.cell? ⟨gb192, 1, none⟩ = some (.int .i64 x193001_1) := (blk_cell BK192.out 1).trans rfl; have hcz102_2 : wc.cell? ⟨gb192, 2, none⟩ = some (.bool x193002_1) := (blk_cell BK192.out 2).trans rfl; have hcz102_3 : wc.cell? ⟨gb192, 3, none⟩ = some (.string x193003_1) := (blk_cell BK192.out 3).trans rfl; have hcz102_4 : wc.cell? ⟨gb192, 4, none⟩ = some (.int .i64 x193004_1) := (blk_cell BK192.out 4).trans rfl; have hfz102_0 := blk_frozen BK192.out 0; have hfz102_1 := blk_frozen BK192.out 1; have hfz102_2 := blk_frozen BK192.out 2; have hfz102_3 := blk_frozen BK192.out 3; have hfz102_4 := blk_frozen BK192.out 4))
                 go_roundg kj13
                 case measure => have := HK1.out; have := HJ13.out; omega
                 case rel => exact ⟨(y201), (x8_1), (x9_1), (t195), (wrap64 (x193001_1 + 1)), (x193002_1), (x193003_1), (x193004_1), (by first | rfl | (simp; done) | (simp [*]; done)), (by first | rfl | (simp; done) | (simp [*]; done)), H', ⟨by have := HK1.out; have := HJ13.out; omega⟩, ⟨by (with_reducible repeat (first | apply Kd.V_alloc | apply Kd.V_drewN | apply Kd.V_drew)); exact Kd.V_mono (Kd.V_far (p := ⟨gb192, 1, none⟩) (Kd.V_far (p := ⟨gb192, 0, none⟩) (Kd.V_mono HO205.out (fun k_ hk => (⟨hk, hk.2.2.1⟩ : _ ∧ k_ ≠ gb192))) (fun _ hk => hk.2) (.int .i64 t195)) (fun _ hk => hk.2) (.int .i64 (wrap64 (x193001_1 + 1)))) (fun _ hk => ⟨hk.1.1, ⟨hk.1.2.1, hk.1.2.2.1⟩⟩)⟩, ⟨by (with_reducible repeat (first | refine blk_drewN ?_ _ | refine blk_drew ?_ | refine blk_alloc ?_ _)); refine blk_far ?_ NB186_192.out _; (with_reducible repeat (first | refine blk_drewN ?_ _ | refine blk_drew ?_ | refine blk_alloc ?_ _)); refine blk_far ?_ NB186_192.out _; (with_reducible repeat (first | refine blk_drewN ?_ _ | refine blk_drew ?_ | refine blk_alloc ?_ _)); exact BK186.out⟩, ⟨by (with_reducible repeat (first | refine blk_drewN ?_ _ | refine blk_drew ?_ | refine blk_alloc ?_ _)); refine blk_put (cs := #[.int .i64 t195, .int .i64 x193001_1, .bool x193002_1, .string x193003_1, .int .i64 x193004_1]) ?_ 1 _ rfl; (with_reducible repeat (first | refine blk_drewN ?_ _ | refine blk_drew ?_ | refine blk_alloc ?_ _)); refine blk_put (cs := #[.int .i64 x193000_1, .int .i64 x193001_1, .bool x193002_1, .string x193003_1, .int .i64 x193004_1]) ?_ 0 _ rfl; (with_reducible repeat (first | refine blk_drewN ?_ _ | refine blk_drew ?_ | refine blk_alloc ?_ _)); exact BK192.out⟩, ⟨by repeat (first | (with_reducible first | exact HB.out | apply below_alloc | apply pw_below_drewN | apply below_drew1 | refine below_set ?_ GE186.out | refine below_set ?_ GE192.out | refine below_set ?_ GE198.out) | exact HB.out)⟩⟩
                ·replace c94 := Bool.eq_false_iff.mpr c94
                 subst c94
                 have H1 : (guichetref12_Run.l0 kj13 l0 y201 x8_1 x9_1 t196 (wrap64 (x193001_1 + 1)) x193002_1 x193003_1 x193004_1) = some (r1, r2, r3, r4, r5) := by rw [if_neg (show ¬ (false = true) by decide)] at H; exact H
                 clear H
                 have H := H1
                 clear H1
                 have H' := Aside0.mk H
                 clear H
                 have hnb103 := NB198_186.out
                 have hnc103 := NB186_198.out
                 have hnb104 := NB198_192.out
                 have hnc104 := NB192_198.out
                 have hcz105_0 : wc.cell? ⟨gb198, 0, none⟩ = some (.int .i64 t193) := (blk_cell BK198.out 0).trans rfl
                 have hcz105_1 : wc.cell? ⟨gb198, 1, none⟩ = some (.int .u8 t194) := (blk_cell BK198.out 1).trans rfl
                 have hcz105_2 : wc.cell? ⟨gb198, 2, none⟩ = some (.int .i64 t195) := (blk_cell BK198.out 2).trans rfl
                 have hcz105_3 : wc.cell? ⟨gb198, 3, none⟩ = some (.int .i64 t196) := (blk_cell BK198.out 3).trans rfl
                 have hfz105_0 := blk_frozen BK198.out 0
                 have hfz105_1 := blk_frozen BK198.out 1
                 have hfz105_2 := blk_frozen BK198.out 2
                 have hfz105_3 := blk_frozen BK198.out 3
                 obtain ⟨Ao106, co106, eo106⟩ := Kd.V_slice HO_2.out
                 subst eo106
                 have p200 : 0 ≤ (0 : Int) := (by omega)
                 have q200 : 0 < (x2_1.length : Int) := of_decide_eq_true (by first | (with_reducible assumption) | assumption)
                 obtain ⟨ad200, e200, hx200_0⟩ := Kd.at_string (Kd.V_reads' HO_2.out).2.2 0 p200 q200
                 cases e200
                 have qi200 : (0 < x2_1.length) = True := eq_true (by omega)
                 (try rw [show ((0 : Int)).toNat = 0 from rfl] at hx200_0)
                 (try rw [Addr.add_zero'] at hx200_0)
                 replace p200 := eq_true p200
                 replace q200 := eq_true q200
                 have q107 : (1 : Int) ≤ ((x2_1.length : Int) : Int) := of_decide_eq_true (by first | (with_reducible assumption) | assumption)
                 obtain ⟨i0107, hi0107, _, hsz107, _⟩ := info_parts info9
                 have hroom107 : x2_1.length ≤ co106 := (Kd.V_reads' HO_2.out).2.1
                 have hC107 : Kd.F Kd.string _ _ (some ad200) x2_1.length x2_1 := (Kd.V_at (base := w.heap.size) HO_2.out).2.2
                 have hcut107 := cut_from (P := Tryd.prog) 26 9 .i64 Tryd.underlying26 hi0107 1 hsz107 (some ad200) x2_1.length co106 1 (by omega) q107
                 have hr107 := Kd.F_cut (m := (1 : Int).toNat) (c := co106) hC107 (by omega) hroom107
                 obtain ⟨A107, hA107⟩ : ∃ A1, A1 = (if co106 = (1 : Int).toNat then (some ad200) else ((some ad200) : Option Addr).map (·.add ((1 : Int).toNat * 1))) := ⟨_, rfl⟩
                 obtain ⟨c107, hc107⟩ : ∃ c1, c1 = co106 - (1 : Int).toNat := ⟨_, rfl⟩
                 have hy107 : y201.length = x2_1.length - (1 : Int).toNat := (by rw [Ny201.out, List.length_drop] <;> omega)
                 rw [show (x2_1).drop (1 : Int).toNat = y201 from Ny201.out.symm] at hr107
                 replace hr107 : Kd.F Kd.string _ _ A107 y201.length y201 := (by rw [hA107]; exact hr107)
                 rw [← hy107, ← hA107, ← hc107] at hcut107
                 have HO205 := Aside0.mk (show Kd.V Kd.string 9 _ w.heap.size _ (.slice A107 y201.length c107) y201 from Kd.V_mk (by rw [hy107, hc107]; exact Nat.sub_le_sub_right hroom107 _) hr107)
                 have HC205 := Aside0.mk (show y201.length ≤ c107 from by rw [hy107, hc107]; exact Nat.sub_le_sub_right hroom107 _)
                 clear hr107 hC107 hroom107 hi0107 hsz107 hc107
                 have KY107 := Aside0.mk hy107
                 have KA107 := Aside0.mk hA107
                 clear hy107 hA107
                 replace q107 := eq_true q107
                 go_wp2_with (first | ((with_reducible refine gate_callee (f := 18) rfl ?_); refine goesL_ (some 77) rfl rfl Tryd.func18 (by kernel_rfl) rfl #[.string (rdOf ByteArray.empty x2_1 0)] rfl (by (try simp only [List.map_toArray, List.map_cons, List.map_nil]); first | done | rfl | (simp only [List.length_drop, List.length_take]; rfl) | (rw [hsame_])) ?_; (with_reducible refine (guichetref1_Num.calls kj13 (rdOf ByteArray.empty x2_1 0) t206 false _ A71.out).mono ?_); rintro e w' ⟨rfl, ⟨nd, rfl⟩⟩; refine ⟨_, rfl, ?_⟩; (try (rw [drewN_self wc]; generalize hq_ : World.drewN wc _ = wc; have n0_ : Aside0 (Kd.V Kd.string 9 wc w.heap.size (fun k_ => (P2_ k_ ∨ w.heap.size ≤ k_) ∧ k_ ≠ gb186 ∧ k_ ≠ gb192 ∧ k_ ≠ gb198) (.slice A107 y201.length c107) y201) := ⟨by rw [← hq_]; exact (by (with_reducible repeat (first | apply Kd.V_alloc | apply Kd.V_drewN | apply Kd.V_drew)); exact HO205.out)⟩; have n1_ : Aside0 (Kd.V Kd.string 9 wc w.heap.size (fun k_ => (P2_ k_ ∨ w.heap.size ≤ k_) ∧ k_ ≠ gb186 ∧ k_ ≠ gb192 ∧ k_ ≠ gb198) (.slice (some ad200) x2_1.length co106) x2_1) := ⟨by rw [← hq_]; exact (by (with_reducible repeat (first | apply Kd.V_alloc | apply Kd.V_drewN | apply Kd.V_drew)); exact HO_2.out)⟩; have n2_ : Aside0 (wc.heap[gb186]? = some (.cells #[.int .i64 0, .int .i64 0, .bool false, .string (⟨#[]⟩ : ByteArray), .int .i64 0] 30 (0, 0))) := ⟨by rw [← hq_]; exact (by (with_reducible repeat (first | refine blk_drewN ?_ _ | refine blk_drew ?_ | refine blk_alloc ?_ _)); exact BK186.out)⟩; have n3_ : Aside0 (wc.heap[gb192]? = some (.cells #[.int .i64 x193000_1, .int .i64 x193001_1, .bool x193002_1, .string x193003_1, .int .i64 x193004_1] 30 (0, 0))) := ⟨by rw [← hq_]; exact (by (with_reducible repeat (first | refine blk_drewN ?_ _ | refine blk_drew ?_ | refine blk_alloc ?_ _)); exact BK192.out)⟩; have n4_ : Aside0 (wc.heap[gb198]? = some (.cells #[.int .i64 t193, .int .u8 t194, .int .i64 t195, .int .i64 t196] 34 (0, 0))) := ⟨by rw [← hq_]; exact (by (with_reducible repeat (first | refine blk_drewN ?_ _ | refine blk_drew ?_ | refine blk_alloc ?_ _)); exact BK198.out)⟩; have n5_ : Aside0 (Below w.heap.size w wc) := ⟨by rw [← hq_]; exact (by repeat (first | (with_reducible first | exact HB.out | apply below_alloc | apply pw_below_drewN | apply below_drew1 | refine below_set ?_ GE186.out | refine below_set ?_ GE192.out | refine below_set ?_ GE198.out) | exact HB.out))⟩; clear HO205 HO_2 BK186 BK192 BK198 HB hq_; have HO205 := n0_; have HO_2 := n1_; have BK186 := n2_; have BK192 := n3_; have BK198 := n4_; have HB := n5_; clear n0_ n1_ n2_ n3_ n4_ n5_)); have hcz108_0 : wc.cell? ⟨gb198, 0, none⟩ = some (.int .i64 t193) := (blk_cell BK198.out 0).trans rfl; have hcz108_1 : wc.cell? ⟨gb198, 1, none⟩ = some (.int .u8 t194) := (blk_cell BK198.out 1).trans rfl; have hcz108_2 : wc.cell? ⟨gb198, 2, none⟩ = some (.int .i64 t195) := (blk_cell BK198.out 2).trans rfl; have hcz108_3 : wc.cell? ⟨gb198, 3, none⟩ = some (.int .i64 t196) := (blk_cell BK198.out 3).trans rfl; have hfz108_0 := blk_frozen BK198.out 0; have hfz108_1 := blk_frozen BK198.out 1; have hfz108_2 := blk_frozen BK198.out 2; have hfz108_3 := blk_frozen BK198.out 3; have hnb109 := NB192_186.out; have hnc109 := NB186_192.out; have hcz110_0 : wc.cell? ⟨gb192, 0, none⟩ = some (.int .i64 x193000_1) := (blk_cell BK192.out 0).trans rfl; have hcz110_1 : wc.cell? ⟨gb192, 1, none⟩ = some (.int .i64 x193001_1) := (blk_cell BK192.out 1).trans rfl; have hcz110_2 : wc.cell? ⟨gb192, 2, none⟩ = some (.bool x193002_1) := (blk_cell BK192.out 2).trans rfl; have hcz110_3 : wc.cell? ⟨gb192, 3, none⟩ = some (.string x193003_1) := (blk_cell BK192.out 3).trans rfl; have hcz110_4 : wc.cell? ⟨gb192, 4, none⟩ = some (.int .i64 x193004_1) := (blk_cell BK192.out 4).trans rfl; have hfz110_0 := blk_frozen BK192.out 0; have hfz110_1 := blk_frozen BK192.out 1; have hfz110_2 := blk_frozen BK192.out 2; have hfz110_3 := blk_frozen BK192.out 3; have hfz110_4 := blk_frozen BK192.out 4))
                 go_roundg kj13
                 case measure => have := HK1.out; have := HJ13.out; omega
                 case rel => exact ⟨(y201), (x8_1), (x9_1), (t196), (wrap64 (x193001_1 + 1)), (x193002_1), (x193003_1), (x193004_1), (by first | rfl | (simp; done) | (simp [*]; done)), (by first | rfl | (simp; done) | (simp [*]; done)), H', ⟨by have := HK1.out; have := HJ13.out; omega⟩, ⟨by (with_reducible repeat (first | apply Kd.V_alloc | apply Kd.V_drewN | apply Kd.V_drew)); exact Kd.V_mono (Kd.V_far (p := ⟨gb192, 1, none⟩) (Kd.V_far (p := ⟨gb192, 0, none⟩) (Kd.V_mono HO205.out (fun k_ hk => (⟨hk, hk.2.2.1⟩ : _ ∧ k_ ≠ gb192))) (fun _ hk => hk.2) (.int .i64 t196)) (fun _ hk => hk.2) (.int .i64 (wrap64 (x193001_1 + 1)))) (fun _ hk => ⟨hk.1.1, ⟨hk.1.2.1, hk.1.2.2.1⟩⟩)⟩, ⟨by (with_reducible repeat (first | refine blk_drewN ?_ _ | refine blk_drew ?_ | refine blk_alloc ?_ _)); refine blk_far ?_ NB186_192.out _; (with_reducible repeat (first | refine blk_drewN ?_ _ | refine blk_drew ?_ | refine blk_alloc ?_ _)); refine blk_far ?_ NB186_192.out _; (with_reducible repeat (first | refine blk_drewN ?_ _ | refine blk_drew ?_ | refine blk_alloc ?_ _)); exact BK186.out⟩, ⟨by (with_reducible repeat (first | refine blk_drewN ?_ _ | refine blk_drew ?_ | refine blk_alloc ?_ _)); refine blk_put (cs := #[.int .i64 t196, .int .i64 x193001_1, .bool x193002_1, .string x193003_1, .int .i64 x193004_1]) ?_ 1 _ rfl; (with_reducible repeat (first | refine blk_drewN ?_ _ | refine blk_drew ?_ | refine blk_alloc ?_ _)); refine blk_put (cs := #[.int .i64 x193000_1, .int .i64 x193001_1, .bool x193002_1, .string x193003_1, .int .i64 x193004_1]) ?_ 0 _ rfl; (with_reducible repeat (first | refine blk_drewN ?_ _ | refine blk_drew ?_ | refine blk_alloc ?_ _)); exact BK192.out⟩, ⟨by repeat (first | (with_reducible first | exact HB.out | apply below_alloc | apply pw_below_drewN | apply below_drew1 | refine below_set ?_ GE186.out | refine below_set ?_ GE192.out | refine below_set ?_ GE198.out) | exact HB.out)⟩⟩
               ·rw [if_neg c93] at H
                have c93b0 : (((rdOf ByteArray.empty x2_1 0).size : Int) == 4) = false := beq_eq_false_iff_ne.mpr c93
                have c93b1 : (((rdOf ByteArray.empty x2_1 0).size : Int) != 4) = true := bne_iff_ne.mpr c93
                have H' := Aside0.mk H
                clear H
                have hnb111 := NB198_186.out
                have hnc111 := NB186_198.out
                have hnb112 := NB198_192.out
                have hnc112 := NB192_198.out
                have hcz113_0 : wc.cell? ⟨gb198, 0, none⟩ = some (.int .i64 t193) := (blk_cell BK198.out 0).trans rfl
                have hcz113_1 : wc.cell? ⟨gb198, 1, none⟩ = some (.int .u8 t194) := (blk_cell BK198.out 1).trans rfl
                have hcz113_2 : wc.cell? ⟨gb198, 2, none⟩ = some (.int .i64 t195) := (blk_cell BK198.out 2).trans rfl
                have hcz113_3 : wc.cell? ⟨gb198, 3, none⟩ = some (.int .i64 t196) := (blk_cell BK198.out 3).trans rfl
                have hfz113_0 := blk_frozen BK198.out 0
                have hfz113_1 := blk_frozen BK198.out 1
                have hfz113_2 := blk_frozen BK198.out 2
                have hfz113_3 := blk_frozen BK198.out 3
                obtain ⟨Ao114, co114, eo114⟩ := Kd.V_slice HO_2.out
                subst eo114
                have p200 : 0 ≤ (0 : Int) := (by omega)
                have q200 : 0 < (x2_1.length : Int) := of_decide_eq_true (by first | (with_reducible assumption) | assumption)
                obtain ⟨ad200, e200, hx200_0⟩ := Kd.at_string (Kd.V_reads' HO_2.out).2.2 0 p200 q200
                cases e200
                have qi200 : (0 < x2_1.length) = True := eq_true (by omega)
                (try rw [show ((0 : Int)).toNat = 0 from rfl] at hx200_0)
                (try rw [Addr.add_zero'] at hx200_0)
                replace p200 := eq_true p200
                replace q200 := eq_true q200
                have q115 : (1 : Int) ≤ ((x2_1.length : Int) : Int) := of_decide_eq_true (by first | (with_reducible assumption) | assumption)
                obtain ⟨i0115, hi0115, _, hsz115, _⟩ := info_parts info9
                have hroom115 : x2_1.length ≤ co114 := (Kd.V_reads' HO_2.out).2.1
                have hC115 : Kd.F Kd.string _ _ (some ad200) x2_1.length x2_1 := (Kd.V_at (base := w.heap.size) HO_2.out).2.2
                have hcut115 := cut_from (P := Tryd.prog) 26 9 .i64 Tryd.underlying26 hi0115 1 hsz115 (some ad200) x2_1.length co114 1 (by omega) q115
                have hr115 := Kd.F_cut (m := (1 : Int).toNat) (c := co114) hC115 (by omega) hroom115
                obtain ⟨A115, hA115⟩ : ∃ A1, A1 = (if co114 = (1 : Int).toNat then (some ad200) else ((some ad200) : Option Addr).map (·.add ((1 : Int).toNat * 1))) := ⟨_, rfl⟩
                obtain ⟨c115, hc115⟩ : ∃ c1, c1 = co114 - (1 : Int).toNat := ⟨_, rfl⟩
                have hy115 : y201.length = x2_1.length - (1 : Int).toNat := (by rw [Ny201.out, List.length_drop] <;> omega)
                rw [show (x2_1).drop (1 : Int).toNat = y201 from Ny201.out.symm] at hr115
                replace hr115 : Kd.F Kd.string _ _ A115 y201.length y201 := (by rw [hA115]; exact hr115)
                rw [← hy115, ← hA115, ← hc115] at hcut115
                have HO205 := Aside0.mk (show Kd.V Kd.string 9 _ w.heap.size _ (.slice A115 y201.length c115) y201 from Kd.V_mk (by rw [hy115, hc115]; exact Nat.sub_le_sub_right hroom115 _) hr115)
                have HC205 := Aside0.mk (show y201.length ≤ c115 from by rw [hy115, hc115]; exact Nat.sub_le_sub_right hroom115 _)
                clear hr115 hC115 hroom115 hi0115 hsz115 hc115
                have KY115 := Aside0.mk hy115
                have KA115 := Aside0.mk hA115
                clear hy115 hA115
                replace q115 := eq_true q115
                go_wp2_with (first | ((with_reducible refine gate_callee (f := 18) rfl ?_); refine goesL_ (some 77) rfl rfl Tryd.func18 (by kernel_rfl) rfl #[.string (rdOf ByteArray.empty x2_1 0)] rfl (by (try simp only [List.map_toArray, List.map_cons, List.map_nil]); first | done | rfl | (simp only [List.length_drop, List.length_take]; rfl) | (rw [hsame_])) ?_; (with_reducible refine (guichetref1_Num.calls kj13 (rdOf ByteArray.empty x2_1 0) t206 t207 _ A71.out).mono ?_); rintro e w' ⟨rfl, ⟨nd, rfl⟩⟩; refine ⟨_, rfl, ?_⟩; (try (rw [drewN_self wc]; generalize hq_ : World.drewN wc _ = wc; have n0_ : Aside0 (Kd.V Kd.string 9 wc w.heap.size (fun k_ => (P2_ k_ ∨ w.heap.size ≤ k_) ∧ k_ ≠ gb186 ∧ k_ ≠ gb192 ∧ k_ ≠ gb198) (.slice A115 y201.length c115) y201) := ⟨by rw [← hq_]; exact (by (with_reducible repeat (first | apply Kd.V_alloc | apply Kd.V_drewN | apply Kd.V_drew)); exact HO205.out)⟩; have n1_ : Aside0 (Kd.V Kd.string 9 wc w.heap.size (fun k_ => (P2_ k_ ∨ w.heap.size ≤ k_) ∧ k_ ≠ gb186 ∧ k_ ≠ gb192 ∧ k_ ≠ gb198) (.slice (some ad200) x2_1.length co114) x2_1) := ⟨by rw [← hq_]; exact (by (with_reducible repeat (first | apply Kd.V_alloc | apply Kd.V_drewN | apply Kd.V_drew)); exact HO_2.out)⟩; have n2_ : Aside0 (wc.heap[gb186]? = some (.cells #[.int .i64 0, .int .i64 0, .bool false, .string (⟨#[]⟩ : ByteArray), .int .i64 0] 30 (0, 0))) := ⟨by rw [← hq_]; exact (by (with_reducible repeat (first | refine blk_drewN ?_ _ | refine blk_drew ?_ | refine blk_alloc ?_ _)); exact BK186.out)⟩; have n3_ : Aside0 (wc.heap[gb192]? = some (.cells #[.int .i64 x193000_1, .int .i64 x193001_1, .bool x193002_1, .string x193003_1, .int .i64 x193004_1] 30 (0, 0))) := ⟨by rw [← hq_]; exact (by (with_reducible repeat (first | refine blk_drewN ?_ _ | refine blk_drew ?_ | refine blk_alloc ?_ _)); exact BK192.out)⟩; have n4_ : Aside0 (wc.heap[gb198]? = some (.cells #[.int .i64 t193, .int .u8 t194, .int .i64 t195, .int .i64 t196] 34 (0, 0))) := ⟨by rw [← hq_]; exact (by (with_reducible repeat (first | refine blk_drewN ?_ _ | refine blk_drew ?_ | refine blk_alloc ?_ _)); exact BK198.out)⟩; have n5_ : Aside0 (Below w.heap.size w wc) := ⟨by rw [← hq_]; exact (by repeat (first | (with_reducible first | exact HB.out | apply below_alloc | apply pw_below_drewN | apply below_drew1 | refine below_set ?_ GE186.out | refine below_set ?_ GE192.out | refine below_set ?_ GE198.out) | exact HB.out))⟩; clear HO205 HO_2 BK186 BK192 BK198 HB hq_; have HO205 := n0_; have HO_2 := n1_; have BK186 := n2_; have BK192 := n3_; have BK198 := n4_; have HB := n5_; clear n0_ n1_ n2_ n3_ n4_ n5_)); have hcz116_0 : wc.cell? ⟨gb198, 0, none⟩ = some (.int .i64 t193) := (blk_cell BK198.out 0).trans rfl; have hcz116_1 : wc.cell? ⟨gb198, 1, none⟩ = some (.int .u8 t194) := (blk_cell BK198.out 1).trans rfl; have hcz116_2 : wc.cell? ⟨gb198, 2, none⟩ = some (.int .i64 t195) := (blk_cell BK198.out 2).trans rfl; have hcz116_3 : wc.cell? ⟨gb198, 3, none⟩ = some (.int .i64 t196) := (blk_cell BK198.out 3).trans rfl; have hfz116_0 := blk_frozen BK198.out 0; have hfz116_1 := blk_frozen BK198.out 1; have hfz116_2 := blk_frozen BK198.out 2; have hfz116_3 := blk_frozen BK198.out 3; have hnb117 := NB192_186.out; have hnc117 := NB186_192.out; have hcz118_0 : wc.cell? ⟨gb192, 0, none⟩ = some (.int .i64 x193000_1) := (blk_cell BK192.out 0).trans rfl; have hcz118_1 : wc.cell? ⟨gb192, 1, none⟩ = some (.int .i64 x193001_1) := (blk_cell BK192.out 1).trans rfl; have hcz118_2 : wc.cell? ⟨gb192, 2, none⟩ = some (.bool x193002_1) := (blk_cell BK192.out 2).trans rfl; have hcz118_3 : wc.cell? ⟨gb192, 3, none⟩ = some (.string x193003_1) := (blk_cell BK192.out 3).trans rfl; have hcz118_4 : wc.cell? ⟨gb192, 4, none⟩ = some (.int .i64 x193004_1) := (blk_cell BK192.out 4).trans rfl; have hfz118_0 := blk_frozen BK192.out 0; have hfz118_1 := blk_frozen BK192.out 1; have hfz118_2 := blk_frozen BK192.out 2; have hfz118_3 := blk_frozen BK192.out 3; have hfz118_4 := blk_frozen BK192.out 4))
                go_roundg kj13
                case measure => have := HK1.out; have := HJ13.out; omega
                case rel => exact ⟨(y201), (x8_1), (x9_1), (t196), (wrap64 (x193001_1 + 1)), (x193002_1), (x193003_1), (x193004_1), (by first | rfl | (simp; done) | (simp [*]; done)), (by first | rfl | (simp; done) | (simp [*]; done)), H', ⟨by have := HK1.out; have := HJ13.out; omega⟩, ⟨by (with_reducible repeat (first | apply Kd.V_alloc | apply Kd.V_drewN | apply Kd.V_drew)); exact Kd.V_mono (Kd.V_far (p := ⟨gb192, 1, none⟩) (Kd.V_far (p := ⟨gb192, 0, none⟩) (Kd.V_mono HO205.out (fun k_ hk => (⟨hk, hk.2.2.1⟩ : _ ∧ k_ ≠ gb192))) (fun _ hk => hk.2) (.int .i64 t196)) (fun _ hk => hk.2) (.int .i64 (wrap64 (x193001_1 + 1)))) (fun _ hk => ⟨hk.1.1, ⟨hk.1.2.1, hk.1.2.2.1⟩⟩)⟩, ⟨by (with_reducible repeat (first | refine blk_drewN ?_ _ | refine blk_drew ?_ | refine blk_alloc ?_ _)); refine blk_far ?_ NB186_192.out _; (with_reducible repeat (first | refine blk_drewN ?_ _ | refine blk_drew ?_ | refine blk_alloc ?_ _)); refine blk_far ?_ NB186_192.out _; (with_reducible repeat (first | refine blk_drewN ?_ _ | refine blk_drew ?_ | refine blk_alloc ?_ _)); exact BK186.out⟩, ⟨by (with_reducible repeat (first | refine blk_drewN ?_ _ | refine blk_drew ?_ | refine blk_alloc ?_ _)); refine blk_put (cs := #[.int .i64 t196, .int .i64 x193001_1, .bool x193002_1, .string x193003_1, .int .i64 x193004_1]) ?_ 1 _ rfl; (with_reducible repeat (first | refine blk_drewN ?_ _ | refine blk_drew ?_ | refine blk_alloc ?_ _)); refine blk_put (cs := #[.int .i64 x193000_1, .int .i64 x193001_1, .bool x193002_1, .string x193003_1, .int .i64 x193004_1]) ?_ 0 _ rfl; (with_reducible repeat (first | refine blk_drewN ?_ _ | refine blk_drew ?_ | refine blk_alloc ?_ _)); exact BK192.out⟩, ⟨by repeat (first | (with_reducible first | exact HB.out | apply below_alloc | apply pw_below_drewN | apply below_drew1 | refine below_set ?_ GE186.out | refine below_set ?_ GE192.out | refine below_set ?_ GE198.out) | exact HB.out)⟩⟩
              ·rw [if_neg c92] at H
               have c92b0 : (t194 == 66) = false := beq_eq_false_iff_ne.mpr c92
               have c92b1 : (t194 != 66) = true := bne_iff_ne.mpr c92
               by_cases c119 : t194 = 68
               ·rw [if_pos c119] at H
                have c119b0 : (t194 == 68) = true := beq_iff_eq.mpr c119
                have c119b1 : (t194 != 68) = false := bne_eq_false_iff_eq.mpr c119
                clear c119
                by_cases c120 : t207 = true
                ·subst c120
                 have H1 : (if ((rdOf ByteArray.empty x2_1 0).size : Int) ≤ 7 then (guichetref12_Run.l0 kj13 l0 y201 x8_1 t206 t195 (wrap64 (x193001_1 + 1)) x193002_1 x193003_1 x193004_1) else (guichetref12_Run.l0 kj13 l0 y201 x8_1 x9_1 t196 (wrap64 (x193001_1 + 1)) x193002_1 x193003_1 x193004_1)) = some (r1, r2, r3, r4, r5) := by rw [if_pos rfl] at H; exact H
                 clear H
                 have H := H1
                 clear H1
                 by_cases c121 : ((rdOf ByteArray.empty x2_1 0).size : Int) ≤ 7
                 ·rw [if_pos c121] at H
                  have c121b0 : decide (((rdOf ByteArray.empty x2_1 0).size : Int) ≤ 7) = true := decide_eq_true c121
                  have c121b1 : decide ((rdOf ByteArray.empty x2_1 0).size ≤ 7) = true := decide_eq_true (by omega)
                  clear c121
                  have H' := Aside0.mk H
                  clear H
                  have hnb122 := NB198_186.out
                  have hnc122 := NB186_198.out
                  have hnb123 := NB198_192.out
                  have hnc123 := NB192_198.out
                  have hcz124_0 : wc.cell? ⟨gb198, 0, none⟩ = some (.int .i64 t193) := (blk_cell BK198.out 0).trans rfl
                  have hcz124_1 : wc.cell? ⟨gb198, 1, none⟩ = some (.int .u8 t194) := (blk_cell BK198.out 1).trans rfl
                  have hcz124_2 : wc.cell? ⟨gb198, 2, none⟩ = some (.int .i64 t195) := (blk_cell BK198.out 2).trans rfl
                  have hcz124_3 : wc.cell? ⟨gb198, 3, none⟩ = some (.int .i64 t196) := (blk_cell BK198.out 3).trans rfl
                  have hfz124_0 := blk_frozen BK198.out 0
                  have hfz124_1 := blk_frozen BK198.out 1
                  have hfz124_2 := blk_frozen BK198.out 2
                  have hfz124_3 := blk_frozen BK198.out 3
                  obtain ⟨Ao125, co125, eo125⟩ := Kd.V_slice HO_2.out
                  subst eo125
                  have p200 : 0 ≤ (0 : Int) := (by omega)
                  have q200 : 0 < (x2_1.length : Int) := of_decide_eq_true (by first | (with_reducible assumption) | assumption)
                  obtain ⟨ad200, e200, hx200_0⟩ := Kd.at_string (Kd.V_reads' HO_2.out).2.2 0 p200 q200
                  cases e200
                  have qi200 : (0 < x2_1.length) = True := eq_true (by omega)
                  (try rw [show ((0 : Int)).toNat = 0 from rfl] at hx200_0)
                  (try rw [Addr.add_zero'] at hx200_0)
                  replace p200 := eq_true p200
                  replace q200 := eq_true q200
                  have q126 : (1 : Int) ≤ ((x2_1.length : Int) : Int) := of_decide_eq_true (by first | (with_reducible assumption) | assumption)
                  obtain ⟨i0126, hi0126, _, hsz126, _⟩ := info_parts info9
                  have hroom126 : x2_1.length ≤ co125 := (Kd.V_reads' HO_2.out).2.1
                  have hC126 : Kd.F Kd.string _ _ (some ad200) x2_1.length x2_1 := (Kd.V_at (base := w.heap.size) HO_2.out).2.2
                  have hcut126 := cut_from (P := Tryd.prog) 26 9 .i64 Tryd.underlying26 hi0126 1 hsz126 (some ad200) x2_1.length co125 1 (by omega) q126
                  have hr126 := Kd.F_cut (m := (1 : Int).toNat) (c := co125) hC126 (by omega) hroom126
                  obtain ⟨A126, hA126⟩ : ∃ A1, A1 = (if co125 = (1 : Int).toNat then (some ad200) else ((some ad200) : Option Addr).map (·.add ((1 : Int).toNat * 1))) := ⟨_, rfl⟩
                  obtain ⟨c126, hc126⟩ : ∃ c1, c1 = co125 - (1 : Int).toNat := ⟨_, rfl⟩
                  have hy126 : y201.length = x2_1.length - (1 : Int).toNat := (by rw [Ny201.out, List.length_drop] <;> omega)
                  rw [show (x2_1).drop (1 : Int).toNat = y201 from Ny201.out.symm] at hr126
                  replace hr126 : Kd.F Kd.string _ _ A126 y201.length y201 := (by rw [hA126]; exact hr126)
                  rw [← hy126, ← hA126, ← hc126] at hcut126
                  have HO205 := Aside0.mk (show Kd.V Kd.string 9 _ w.heap.size _ (.slice A126 y201.length c126) y201 from Kd.V_mk (by rw [hy126, hc126]; exact Nat.sub_le_sub_right hroom126 _) hr126)
                  have HC205 := Aside0.mk (show y201.length ≤ c126 from by rw [hy126, hc126]; exact Nat.sub_le_sub_right hroom126 _)
                  clear hr126 hC126 hroom126 hi0126 hsz126 hc126
                  have KY126 := Aside0.mk hy126
                  have KA126 := Aside0.mk hA126
                  clear hy126 hA126
                  replace q126 := eq_true q126
                  go_wp2_with (first | ((with_reducible refine gate_callee (f := 18) rfl ?_); refine goesL_ (some 77) rfl rfl Tryd.func18 (by kernel_rfl) rfl #[.string (rdOf ByteArray.empty x2_1 0)] rfl (by (try simp only [List.map_toArray, List.map_cons, List.map_nil]); first | done | rfl | (simp only [List.length_drop, List.length_take]; rfl) | (rw [hsame_])) ?_; (with_reducible refine (guichetref1_Num.calls kj13 (rdOf ByteArray.empty x2_1 0) t206 true _ A71.out).mono ?_); rintro e w' ⟨rfl, ⟨nd, rfl⟩⟩; refine ⟨_, rfl, ?_⟩; (try (rw [drewN_self wc]; generalize hq_ : World.drewN wc _ = wc; have n0_ : Aside0 (Kd.V Kd.string 9 wc w.heap.size (fun k_ => (P2_ k_ ∨ w.heap.size ≤ k_) ∧ k_ ≠ gb186 ∧ k_ ≠ gb192 ∧ k_ ≠ gb198) (.slice A126 y201.length c126) y201) := ⟨by rw [← hq_]; exact (by (with_reducible repeat (first | apply Kd.V_alloc | apply Kd.V_drewN | apply Kd.V_drew)); exact HO205.out)⟩; have n1_ : Aside0 (Kd.V Kd.string 9 wc w.heap.size (fun k_ => (P2_ k_ ∨ w.heap.size ≤ k_) ∧ k_ ≠ gb186 ∧ k_ ≠ gb192 ∧ k_ ≠ gb198) (.slice (some ad200) x2_1.length co125) x2_1) := ⟨by rw [← hq_]; exact (by (with_reducible repeat (first | apply Kd.V_alloc | apply Kd.V_drewN | apply Kd.V_drew)); exact HO_2.out)⟩; have n2_ : Aside0 (wc.heap[gb186]? = some (.cells #[.int .i64 0, .int .i64 0, .bool false, .string (⟨#[]⟩ : ByteArray), .int .i64 0] 30 (0, 0))) := ⟨by rw [← hq_]; exact (by (with_reducible repeat (first | refine blk_drewN ?_ _ | refine blk_drew ?_ | refine blk_alloc ?_ _)); exact BK186.out)⟩; have n3_ : Aside0 (wc.heap[gb192]? = some (.cells #[.int .i64 x193000_1, .int .i64 x193001_1, .bool x193002_1, .string x193003_1, .int .i64 x193004_1] 30 (0, 0))) := ⟨by rw [← hq_]; exact (by (with_reducible repeat (first | refine blk_drewN ?_ _ | refine blk_drew ?_ | refine blk_alloc ?_ _)); exact BK192.out)⟩; have n4_ : Aside0 (wc.heap[gb198]? = some (.cells #[.int .i64 t193, .int .u8 t194, .int .i64 t195, .int .i64 t196] 34 (0, 0))) := ⟨by rw [← hq_]; exact (by (with_reducible repeat (first | refine blk_drewN ?_ _ | refine blk_drew ?_ | refine blk_alloc ?_ _)); exact BK198.out)⟩; have n5_ : Aside0 (Below w.heap.size w wc) := ⟨by rw [← hq_]; exact (by repeat (first | (with_reducible first | exact HB.out | apply below_alloc | apply pw_below_drewN | apply below_drew1 | refine below_set ?_ GE186.out | refine below_set ?_ GE192.out | refine below_set ?_ GE198.out) | exact HB.out))⟩; clear HO205 HO_2 BK186 BK192 BK198 HB hq_; have HO205 := n0_; have HO_2 := n1_; have BK186 := n2_; have BK192 := n3_; have BK198 := n4_; have HB := n5_; clear n0_ n1_ n2_ n3_ n4_ n5_)); have hcz127_0 : wc.cell? ⟨gb198, 0, none⟩ = some (.int .i64 t193) := (blk_cell BK198.out 0).trans rfl; have hcz127_1 : wc.cell? ⟨gb198, 1, none⟩ = some (.int .u8 t194) := (blk_cell BK198.out 1).trans rfl; have hcz127_2 : wc.cell? ⟨gb198, 2, none⟩ = some (.int .i64 t195) := (blk_cell BK198.out 2).trans rfl; have hcz127_3 : wc.cell? ⟨gb198, 3, none⟩ = some (.int .i64 t196) := (blk_cell BK198.out 3).trans rfl; have hfz127_0 := blk_frozen BK198.out 0; have hfz127_1 := blk_frozen BK198.out 1; have hfz127_2 := blk_frozen BK198.out 2; have hfz127_3 := blk_frozen BK198.out 3; have hnb128 := NB192_186.out; have hnc128 := NB186_192.out; have hcz129_0 : wc.cell? ⟨gb192, 0, none⟩ = some (.int .i64 x193000_1) := (blk_cell BK192.out 0).trans rfl; have hcz129_1 : wc.cell? ⟨gb192, 1, none⟩ = some (.int .i64 x193001_1) := (blk_cell BK192.out 1).trans rfl; have hcz129_2 : wc.cell? ⟨gb192, 2, none⟩ = some (.bool x193002_1) := (blk_cell BK192.out 2).trans rfl; have hcz129_3 : wc.cell? ⟨gb192, 3, none⟩ = some (.string x193003_1) := (blk_cell BK192.out 3).trans rfl; have hcz129_4 : wc.cell? ⟨gb192, 4, none⟩ = some (.int .i64 x193004_1) := (blk_cell BK192.out 4).trans rfl; have hfz129_0 := blk_frozen BK192.out 0; have hfz129_1 := blk_frozen BK192.out 1; have hfz129_2 := blk_frozen BK192.out 2; have hfz129_3 := blk_frozen BK192.out 3; have hfz129_4 := blk_frozen BK192.out 4))
                  go_roundg kj13
                  case measure => have := HK1.out; have := HJ13.out; omega
                  case rel => exact ⟨(y201), (x8_1), (t206), (t195), (wrap64 (x193001_1 + 1)), (x193002_1), (x193003_1), (x193004_1), (by first | rfl | (simp; done) | (simp [*]; done)), (by first | rfl | (simp; done) | (simp [*]; done)), H', ⟨by have := HK1.out; have := HJ13.out; omega⟩, ⟨by (with_reducible repeat (first | apply Kd.V_alloc | apply Kd.V_drewN | apply Kd.V_drew)); exact Kd.V_mono (Kd.V_far (p := ⟨gb192, 1, none⟩) (Kd.V_far (p := ⟨gb192, 0, none⟩) (Kd.V_mono HO205.out (fun k_ hk => (⟨hk, hk.2.2.1⟩ : _ ∧ k_ ≠ gb192))) (fun _ hk => hk.2) (.int .i64 t195)) (fun _ hk => hk.2) (.int .i64 (wrap64 (x193001_1 + 1)))) (fun _ hk => ⟨hk.1.1, ⟨hk.1.2.1, hk.1.2.2.1⟩⟩)⟩, ⟨by (with_reducible repeat (first | refine blk_drewN ?_ _ | refine blk_drew ?_ | refine blk_alloc ?_ _)); refine blk_far ?_ NB186_192.out _; (with_reducible repeat (first | refine blk_drewN ?_ _ | refine blk_drew ?_ | refine blk_alloc ?_ _)); refine blk_far ?_ NB186_192.out _; (with_reducible repeat (first | refine blk_drewN ?_ _ | refine blk_drew ?_ | refine blk_alloc ?_ _)); exact BK186.out⟩, ⟨by (with_reducible repeat (first | refine blk_drewN ?_ _ | refine blk_drew ?_ | refine blk_alloc ?_ _)); refine blk_put (cs := #[.int .i64 t195, .int .i64 x193001_1, .bool x193002_1, .string x193003_1, .int .i64 x193004_1]) ?_ 1 _ rfl; (with_reducible repeat (first | refine blk_drewN ?_ _ | refine blk_drew ?_ | refine blk_alloc ?_ _)); refine blk_put (cs := #[.int .i64 x193000_1, .int .i64 x193001_1, .bool x193002_1, .string x193003_1, .int .i64 x193004_1]) ?_ 0 _ rfl; (with_reducible repeat (first | refine blk_drewN ?_ _ | refine blk_drew ?_ | refine blk_alloc ?_ _)); exact BK192.out⟩, ⟨by repeat (first | (with_reducible first | exact HB.out | apply below_alloc | apply pw_below_drewN | apply below_drew1 | refine below_set ?_ GE186.out | refine below_set ?_ GE192.out | refine below_set ?_ GE198.out) | exact HB.out)⟩⟩
                 ·rw [if_neg c121] at H
                  have c121b0 : decide (((rdOf ByteArray.empty x2_1 0).size : Int) ≤ 7) = false := decide_eq_false c121
                  have c121b1 : decide ((rdOf ByteArray.empty x2_1 0).size ≤ 7) = false := decide_eq_false (by omega)
                  clear c121
                  have H' := Aside0.mk H
                  clear H
                  have hnb130 := NB198_186.out
                  have hnc130 := NB186_198.out
                  have hnb131 := NB198_192.out
                  have hnc131 := NB192_198.out
                  have hcz132_0 : wc.cell? ⟨gb198, 0, none⟩ = some (.int .i64 t193) := (blk_cell BK198.out 0).trans rfl
                  have hcz132_1 : wc.cell? ⟨gb198, 1, none⟩ = some (.int .u8 t194) := (blk_cell BK198.out 1).trans rfl
                  have hcz132_2 : wc.cell? ⟨gb198, 2, none⟩ = some (.int .i64 t195) := (blk_cell BK198.out 2).trans rfl
                  have hcz132_3 : wc.cell? ⟨gb198, 3, none⟩ = some (.int .i64 t196) := (blk_cell BK198.out 3).trans rfl
                  have hfz132_0 := blk_frozen BK198.out 0
                  have hfz132_1 := blk_frozen BK198.out 1
                  have hfz132_2 := blk_frozen BK198.out 2
                  have hfz132_3 := blk_frozen BK198.out 3
                  obtain ⟨Ao133, co133, eo133⟩ := Kd.V_slice HO_2.out
                  subst eo133
                  have p200 : 0 ≤ (0 : Int) := (by omega)
                  have q200 : 0 < (x2_1.length : Int) := of_decide_eq_true (by first | (with_reducible assumption) | assumption)
                  obtain ⟨ad200, e200, hx200_0⟩ := Kd.at_string (Kd.V_reads' HO_2.out).2.2 0 p200 q200
                  cases e200
                  have qi200 : (0 < x2_1.length) = True := eq_true (by omega)
                  (try rw [show ((0 : Int)).toNat = 0 from rfl] at hx200_0)
                  (try rw [Addr.add_zero'] at hx200_0)
                  replace p200 := eq_true p200
                  replace q200 := eq_true q200
                  have q134 : (1 : Int) ≤ ((x2_1.length : Int) : Int) := of_decide_eq_true (by first | (with_reducible assumption) | assumption)
                  obtain ⟨i0134, hi0134, _, hsz134, _⟩ := info_parts info9
                  have hroom134 : x2_1.length ≤ co133 := (Kd.V_reads' HO_2.out).2.1
                  have hC134 : Kd.F Kd.string _ _ (some ad200) x2_1.length x2_1 := (Kd.V_at (base := w.heap.size) HO_2.out).2.2
                  have hcut134 := cut_from (P := Tryd.prog) 26 9 .i64 Tryd.underlying26 hi0134 1 hsz134 (some ad200) x2_1.length co133 1 (by omega) q134
                  have hr134 := Kd.F_cut (m := (1 : Int).toNat) (c := co133) hC134 (by omega) hroom134
                  obtain ⟨A134, hA134⟩ : ∃ A1, A1 = (if co133 = (1 : Int).toNat then (some ad200) else ((some ad200) : Option Addr).map (·.add ((1 : Int).toNat * 1))) := ⟨_, rfl⟩
                  obtain ⟨c134, hc134⟩ : ∃ c1, c1 = co133 - (1 : Int).toNat := ⟨_, rfl⟩
                  have hy134 : y201.length = x2_1.length - (1 : Int).toNat := (by rw [Ny201.out, List.length_drop] <;> omega)
                  rw [show (x2_1).drop (1 : Int).toNat = y201 from Ny201.out.symm] at hr134
                  replace hr134 : Kd.F Kd.string _ _ A134 y201.length y201 := (by rw [hA134]; exact hr134)
                  rw [← hy134, ← hA134, ← hc134] at hcut134
                  have HO205 := Aside0.mk (show Kd.V Kd.string 9 _ w.heap.size _ (.slice A134 y201.length c134) y201 from Kd.V_mk (by rw [hy134, hc134]; exact Nat.sub_le_sub_right hroom134 _) hr134)
                  have HC205 := Aside0.mk (show y201.length ≤ c134 from by rw [hy134, hc134]; exact Nat.sub_le_sub_right hroom134 _)
                  clear hr134 hC134 hroom134 hi0134 hsz134 hc134
                  have KY134 := Aside0.mk hy134
                  have KA134 := Aside0.mk hA134
                  clear hy134 hA134
                  replace q134 := eq_true q134
                  go_wp2_with (first | ((with_reducible refine gate_callee (f := 18) rfl ?_); refine goesL_ (some 77) rfl rfl Tryd.func18 (by kernel_rfl) rfl #[.string (rdOf ByteArray.empty x2_1 0)] rfl (by (try simp only [List.map_toArray, List.map_cons, List.map_nil]); first | done | rfl | (simp only [List.length_drop, List.length_take]; rfl) | (rw [hsame_])) ?_; (with_reducible refine (guichetref1_Num.calls kj13 (rdOf ByteArray.empty x2_1 0) t206 true _ A71.out).mono ?_); rintro e w' ⟨rfl, ⟨nd, rfl⟩⟩; refine ⟨_, rfl, ?_⟩; (try (rw [drewN_self wc]; generalize hq_ : World.drewN wc _ = wc; have n0_ : Aside0 (Kd.V Kd.string 9 wc w.heap.size (fun k_ => (P2_ k_ ∨ w.heap.size ≤ k_) ∧ k_ ≠ gb186 ∧ k_ ≠ gb192 ∧ k_ ≠ gb198) (.slice A134 y201.length c134) y201) := ⟨by rw [← hq_]; exact (by (with_reducible repeat (first | apply Kd.V_alloc | apply Kd.V_drewN | apply Kd.V_drew)); exact HO205.out)⟩; have n1_ : Aside0 (Kd.V Kd.string 9 wc w.heap.size (fun k_ => (P2_ k_ ∨ w.heap.size ≤ k_) ∧ k_ ≠ gb186 ∧ k_ ≠ gb192 ∧ k_ ≠ gb198) (.slice (some ad200) x2_1.length co133) x2_1) := ⟨by rw [← hq_]; exact (by (with_reducible repeat (first | apply Kd.V_alloc | apply Kd.V_drewN | apply Kd.V_drew)); exact HO_2.out)⟩; have n2_ : Aside0 (wc.heap[gb186]? = some (.cells #[.int .i64 0, .int .i64 0, .bool false, .string (⟨#[]⟩ : ByteArray), .int .i64 0] 30 (0, 0))) := ⟨by rw [← hq_]; exact (by (with_reducible repeat (first | refine blk_drewN ?_ _ | refine blk_drew ?_ | refine blk_alloc ?_ _)); exact BK186.out)⟩; have n3_ : Aside0 (wc.heap[gb192]? = some (.cells #[.int .i64 x193000_1, .int .i64 x193001_1, .bool x193002_1, .string x193003_1, .int .i64 x193004_1] 30 (0, 0))) := ⟨by rw [← hq_]; exact (by (with_reducible repeat (first | refine blk_drewN ?_ _ | refine blk_drew ?_ | refine blk_alloc ?_ _)); exact BK192.out)⟩; have n4_ : Aside0 (wc.heap[gb198]? = some (.cells #[.int .i64 t193, .int .u8 t194, .int .i64 t195, .int .i64 t196] 34 (0, 0))) := ⟨by rw [← hq_]; exact (by (with_reducible repeat (first | refine blk_drewN ?_ _ | refine blk_drew ?_ | refine blk_alloc ?_ _)); exact BK198.out)⟩; have n5_ : Aside0 (Below w.heap.size w wc) := ⟨by rw [← hq_]; exact (by repeat (first | (with_reducible first | exact HB.out | apply below_alloc | apply pw_below_drewN | apply below_drew1 | refine below_set ?_ GE186.out | refine below_set ?_ GE192.out | refine below_set ?_ GE198.out) | exact HB.out))⟩; clear HO205 HO_2 BK186 BK192 BK198 HB hq_; have HO205 := n0_; have HO_2 := n1_; have BK186 := n2_; have BK192 := n3_; have BK198 := n4_; have HB := n5_; clear n0_ n1_ n2_ n3_ n4_ n5_)); have hcz135_0 : wc.cell? ⟨gb198, 0, none⟩ = some (.int .i64 t193) := (blk_cell BK198.out 0).trans rfl; have hcz135_1 : wc.cell? ⟨gb198, 1, none⟩ = some (.int .u8 t194) := (blk_cell BK198.out 1).trans rfl; have hcz135_2 : wc.cell? ⟨gb198, 2, none⟩ = some (.int .i64 t195) := (blk_cell BK198.out 2).trans rfl; have hcz135_3 : wc.cell? ⟨gb198, 3, none⟩ = some (.int .i64 t196) := (blk_cell BK198.out 3).trans rfl; have hfz135_0 := blk_frozen BK198.out 0; have hfz135_1 := blk_frozen BK198.out 1; have hfz135_2 := blk_frozen BK198.out 2; have hfz135_3 := blk_frozen BK198.out 3; have hnb136 := NB192_186.out; have hnc136 := NB186_192.out; have hcz137_0 : wc.cell? ⟨gb192, 0, none⟩ = some (.int .i64 x193000_1) := (blk_cell BK192.out 0).trans rfl; have hcz137_1 : wc.cell? ⟨gb192, 1, none⟩ = some (.int .i64 x193001_1) := (blk_cell BK192.out 1).trans rfl; have hcz137_2 : wc.cell? ⟨gb192, 2, none⟩ = some (.bool x193002_1) := (blk_cell BK192.out 2).trans rfl; have hcz137_3 : wc.cell? ⟨gb192, 3, none⟩ = some (.string x193003_1) := (blk_cell BK192.out 3).trans rfl; have hcz137_4 : wc.cell? ⟨gb192, 4, none⟩ = some (.int .i64 x193004_1) := (blk_cell BK192.out 4).trans rfl; have hfz137_0 := blk_frozen BK192.out 0; have hfz137_1 := blk_frozen BK192.out 1; have hfz137_2 := blk_frozen BK192.out 2; have hfz137_3 := blk_frozen BK192.out 3; have hfz137_4 := blk_frozen BK192.out 4))
                  go_roundg kj13
                  case measure => have := HK1.out; have := HJ13.out; omega
                  case rel => exact ⟨(y201), (x8_1), (x9_1), (t196), (wrap64 (x193001_1 + 1)), (x193002_1), (x193003_1), (x193004_1), (by first | rfl | (simp; done) | (simp [*]; done)), (by first | rfl | (simp; done) | (simp [*]; done)), H', ⟨by have := HK1.out; have := HJ13.out; omega⟩, ⟨by (with_reducible repeat (first | apply Kd.V_alloc | apply Kd.V_drewN | apply Kd.V_drew)); exact Kd.V_mono (Kd.V_far (p := ⟨gb192, 1, none⟩) (Kd.V_far (p := ⟨gb192, 0, none⟩) (Kd.V_mono HO205.out (fun k_ hk => (⟨hk, hk.2.2.1⟩ : _ ∧ k_ ≠ gb192))) (fun _ hk => hk.2) (.int .i64 t196)) (fun _ hk => hk.2) (.int .i64 (wrap64 (x193001_1 + 1)))) (fun _ hk => ⟨hk.1.1, ⟨hk.1.2.1, hk.1.2.2.1⟩⟩)⟩, ⟨by (with_reducible repeat (first | refine blk_drewN ?_ _ | refine blk_drew ?_ | refine blk_alloc ?_ _)); refine blk_far ?_ NB186_192.out _; (with_reducible repeat (first | refine blk_drewN ?_ _ | refine blk_drew ?_ | refine blk_alloc ?_ _)); refine blk_far ?_ NB186_192.out _; (with_reducible repeat (first | refine blk_drewN ?_ _ | refine blk_drew ?_ | refine blk_alloc ?_ _)); exact BK186.out⟩, ⟨by (with_reducible repeat (first | refine blk_drewN ?_ _ | refine blk_drew ?_ | refine blk_alloc ?_ _)); refine blk_put (cs := #[.int .i64 t196, .int .i64 x193001_1, .bool x193002_1, .string x193003_1, .int .i64 x193004_1]) ?_ 1 _ rfl; (with_reducible repeat (first | refine blk_drewN ?_ _ | refine blk_drew ?_ | refine blk_alloc ?_ _)); refine blk_put (cs := #[.int .i64 x193000_1, .int .i64 x193001_1, .bool x193002_1, .string x193003_1, .int .i64 x193004_1]) ?_ 0 _ rfl; (with_reducible repeat (first | refine blk_drewN ?_ _ | refine blk_drew ?_ | refine blk_alloc ?_ _)); exact BK192.out⟩, ⟨by repeat (first | (with_reducible first | exact HB.out | apply below_alloc | apply pw_below_drewN | apply below_drew1 | refine below_set ?_ GE186.out | refine below_set ?_ GE192.out | refine below_set ?_ GE198.out) | exact HB.out)⟩⟩
                ·replace c120 := Bool.eq_false_iff.mpr c120
                 subst c120
                 have H1 : (guichetref12_Run.l0 kj13 l0 y201 x8_1 x9_1 t196 (wrap64 (x193001_1 + 1)) x193002_1 x193003_1 x193004_1) = some (r1, r2, r3, r4, r5) := by rw [if_neg (show ¬ (false = true) by decide)] at H; exact H
                 clear H
                 have H := H1
                 clear H1
                 have H' := Aside0.mk H
                 clear H
                 have hnb138 := NB198_186.out
                 have hnc138 := NB186_198.out
                 have hnb139 := NB198_192.out
                 have hnc139 := NB192_198.out
                 have hcz140_0 : wc.cell? ⟨gb198, 0, none⟩ = some (.int .i64 t193) := (blk_cell BK198.out 0).trans rfl
                 have hcz140_1 : wc.cell? ⟨gb198, 1, none⟩ = some (.int .u8 t194) := (blk_cell BK198.out 1).trans rfl
                 have hcz140_2 : wc.cell? ⟨gb198, 2, none⟩ = some (.int .i64 t195) := (blk_cell BK198.out 2).trans rfl
                 have hcz140_3 : wc.cell? ⟨gb198, 3, none⟩ = some (.int .i64 t196) := (blk_cell BK198.out 3).trans rfl
                 have hfz140_0 := blk_frozen BK198.out 0
                 have hfz140_1 := blk_frozen BK198.out 1
                 have hfz140_2 := blk_frozen BK198.out 2
                 have hfz140_3 := blk_frozen BK198.out 3
                 obtain ⟨Ao141, co141, eo141⟩ := Kd.V_slice HO_2.out
                 subst eo141
                 have p200 : 0 ≤ (0 : Int) := (by omega)
                 have q200 : 0 < (x2_1.length : Int) := of_decide_eq_true (by first | (with_reducible assumption) | assumption)
                 obtain ⟨ad200, e200, hx200_0⟩ := Kd.at_string (Kd.V_reads' HO_2.out).2.2 0 p200 q200
                 cases e200
                 have qi200 : (0 < x2_1.length) = True := eq_true (by omega)
                 (try rw [show ((0 : Int)).toNat = 0 from rfl] at hx200_0)
                 (try rw [Addr.add_zero'] at hx200_0)
                 replace p200 := eq_true p200
                 replace q200 := eq_true q200
                 have q142 : (1 : Int) ≤ ((x2_1.length : Int) : Int) := of_decide_eq_true (by first | (with_reducible assumption) | assumption)
                 obtain ⟨i0142, hi0142, _, hsz142, _⟩ := info_parts info9
                 have hroom142 : x2_1.length ≤ co141 := (Kd.V_reads' HO_2.out).2.1
                 have hC142 : Kd.F Kd.string _ _ (some ad200) x2_1.length x2_1 := (Kd.V_at (base := w.heap.size) HO_2.out).2.2
                 have hcut142 := cut_from (P := Tryd.prog) 26 9 .i64 Tryd.underlying26 hi0142 1 hsz142 (some ad200) x2_1.length co141 1 (by omega) q142
                 have hr142 := Kd.F_cut (m := (1 : Int).toNat) (c := co141) hC142 (by omega) hroom142
                 obtain ⟨A142, hA142⟩ : ∃ A1, A1 = (if co141 = (1 : Int).toNat then (some ad200) else ((some ad200) : Option Addr).map (·.add ((1 : Int).toNat * 1))) := ⟨_, rfl⟩
                 obtain ⟨c142, hc142⟩ : ∃ c1, c1 = co141 - (1 : Int).toNat := ⟨_, rfl⟩
                 have hy142 : y201.length = x2_1.length - (1 : Int).toNat := (by rw [Ny201.out, List.length_drop] <;> omega)
                 rw [show (x2_1).drop (1 : Int).toNat = y201 from Ny201.out.symm] at hr142
                 replace hr142 : Kd.F Kd.string _ _ A142 y201.length y201 := (by rw [hA142]; exact hr142)
                 rw [← hy142, ← hA142, ← hc142] at hcut142
                 have HO205 := Aside0.mk (show Kd.V Kd.string 9 _ w.heap.size _ (.slice A142 y201.length c142) y201 from Kd.V_mk (by rw [hy142, hc142]; exact Nat.sub_le_sub_right hroom142 _) hr142)
                 have HC205 := Aside0.mk (show y201.length ≤ c142 from by rw [hy142, hc142]; exact Nat.sub_le_sub_right hroom142 _)
                 clear hr142 hC142 hroom142 hi0142 hsz142 hc142
                 have KY142 := Aside0.mk hy142
                 have KA142 := Aside0.mk hA142
                 clear hy142 hA142
                 replace q142 := eq_true q142
                 go_wp2_with (first | ((with_reducible refine gate_callee (f := 18) rfl ?_); refine goesL_ (some 77) rfl rfl Tryd.func18 (by kernel_rfl) rfl #[.string (rdOf ByteArray.empty x2_1 0)] rfl (by (try simp only [List.map_toArray, List.map_cons, List.map_nil]); first | done | rfl | (simp only [List.length_drop, List.length_take]; rfl) | (rw [hsame_])) ?_; (with_reducible refine (guichetref1_Num.calls kj13 (rdOf ByteArray.empty x2_1 0) t206 false _ A71.out).mono ?_); rintro e w' ⟨rfl, ⟨nd, rfl⟩⟩; refine ⟨_, rfl, ?_⟩; (try (rw [drewN_self wc]; generalize hq_ : World.drewN wc _ = wc; have n0_ : Aside0 (Kd.V Kd.string 9 wc w.heap.size (fun k_ => (P2_ k_ ∨ w.heap.size ≤ k_) ∧ k_ ≠ gb186 ∧ k_ ≠ gb192 ∧ k_ ≠ gb198) (.slice A142 y201.length c142) y201) := ⟨by rw [← hq_]; exact (by (with_reducible repeat (first | apply Kd.V_alloc | apply Kd.V_drewN | apply Kd.V_drew)); exact HO205.out)⟩; have n1_ : Aside0 (Kd.V Kd.string 9 wc w.heap.size (fun k_ => (P2_ k_ ∨ w.heap.size ≤ k_) ∧ k_ ≠ gb186 ∧ k_ ≠ gb192 ∧ k_ ≠ gb198) (.slice (some ad200) x2_1.length co141) x2_1) := ⟨by rw [← hq_]; exact (by (with_reducible repeat (first | apply Kd.V_alloc | apply Kd.V_drewN | apply Kd.V_drew)); exact HO_2.out)⟩; have n2_ : Aside0 (wc.heap[gb186]? = some (.cells #[.int .i64 0, .int .i64 0, .bool false, .string (⟨#[]⟩ : ByteArray), .int .i64 0] 30 (0, 0))) := ⟨by rw [← hq_]; exact (by (with_reducible repeat (first | refine blk_drewN ?_ _ | refine blk_drew ?_ | refine blk_alloc ?_ _)); exact BK186.out)⟩; have n3_ : Aside0 (wc.heap[gb192]? = some (.cells #[.int .i64 x193000_1, .int .i64 x193001_1, .bool x193002_1, .string x193003_1, .int .i64 x193004_1] 30 (0, 0))) := ⟨by rw [← hq_]; exact (by (with_reducible repeat (first | refine blk_drewN ?_ _ | refine blk_drew ?_ | refine blk_alloc ?_ _)); exact BK192.out)⟩; have n4_ : Aside0 (wc.heap[gb198]? = some (.cells #[.int .i64 t193, .int .u8 t194, .int .i64 t195, .int .i64 t196] 34 (0, 0))) := ⟨by rw [← hq_]; exact (by (with_reducible repeat (first | refine blk_drewN ?_ _ | refine blk_drew ?_ | refine blk_alloc ?_ _)); exact BK198.out)⟩; have n5_ : Aside0 (Below w.heap.size w wc) := ⟨by rw [← hq_]; exact (by repeat (first | (with_reducible first | exact HB.out | apply below_alloc | apply pw_below_drewN | apply below_drew1 | refine below_set ?_ GE186.out | refine below_set ?_ GE192.out | refine below_set ?_ GE198.out) | exact HB.out))⟩; clear HO205 HO_2 BK186 BK192 BK198 HB hq_; have HO205 := n0_; have HO_2 := n1_; have BK186 := n2_; have BK192 := n3_; have BK198 := n4_; have HB := n5_; clear n0_ n1_ n2_ n3_ n4_ n5_)); have hcz143_0 : wc.cell? ⟨gb198, 0, none⟩ = some (.int .i64 t193) := (blk_cell BK198.out 0).trans rfl; have hcz143_1 : wc.cell? ⟨gb198, 1, none⟩ = some (.int .u8 t194) := (blk_cell BK198.out 1).trans rfl; have hcz143_2 : wc.cell? ⟨gb198, 2, none⟩ = some (.int .i64 t195) := (blk_cell BK198.out 2).trans rfl; have hcz143_3 : wc.cell? ⟨gb198, 3, none⟩ = some (.int .i64 t196) := (blk_cell BK198.out 3).trans rfl; have hfz143_0 := blk_frozen BK198.out 0; have hfz143_1 := blk_frozen BK198.out 1; have hfz143_2 := blk_frozen BK198.out 2; have hfz143_3 := blk_frozen BK198.out 3; have hnb144 := NB192_186.out; have hnc144 := NB186_192.out; have hcz145_0 : wc.cell? ⟨gb192, 0, none⟩ = some (.int .i64 x193000_1) := (blk_cell BK192.out 0).trans rfl; have hcz145_1 : wc.cell? ⟨gb192, 1, none⟩ = some (.int .i64 x193001_1) := (blk_cell BK192.out 1).trans rfl; have hcz145_2 : wc.cell? ⟨gb192, 2, none⟩ = some (.bool x193002_1) := (blk_cell BK192.out 2).trans rfl; have hcz145_3 : wc.cell? ⟨gb192, 3, none⟩ = some (.string x193003_1) := (blk_cell BK192.out 3).trans rfl; have hcz145_4 : wc.cell? ⟨gb192, 4, none⟩ = some (.int .i64 x193004_1) := (blk_cell BK192.out 4).trans rfl; have hfz145_0 := blk_frozen BK192.out 0; have hfz145_1 := blk_frozen BK192.out 1; have hfz145_2 := blk_frozen BK192.out 2; have hfz145_3 := blk_frozen BK192.out 3; have hfz145_4 := blk_frozen BK192.out 4))
                 go_roundg kj13
                 case measure => have := HK1.out; have := HJ13.out; omega
                 case rel => exact ⟨(y201), (x8_1), (x9_1), (t196), (wrap64 (x193001_1 + 1)), (x193002_1), (x193003_1), (x193004_1), (by first | rfl | (simp; done) | (simp [*]; done)), (by first | rfl | (simp; done) | (simp [*]; done)), H', ⟨by have := HK1.out; have := HJ13.out; omega⟩, ⟨by (with_reducible repeat (first | apply Kd.V_alloc | apply Kd.V_drewN | apply Kd.V_drew)); exact Kd.V_mono (Kd.V_far (p := ⟨gb192, 1, none⟩) (Kd.V_far (p := ⟨gb192, 0, none⟩) (Kd.V_mono HO205.out (fun k_ hk => (⟨hk, hk.2.2.1⟩ : _ ∧ k_ ≠ gb192))) (fun _ hk => hk.2) (.int .i64 t196)) (fun _ hk => hk.2) (.int .i64 (wrap64 (x193001_1 + 1)))) (fun _ hk => ⟨hk.1.1, ⟨hk.1.2.1, hk.1.2.2.1⟩⟩)⟩, ⟨by (with_reducible repeat (first | refine blk_drewN ?_ _ | refine blk_drew ?_ | refine blk_alloc ?_ _)); refine blk_far ?_ NB186_192.out _; (with_reducible repeat (first | refine blk_drewN ?_ _ | refine blk_drew ?_ | refine blk_alloc ?_ _)); refine blk_far ?_ NB186_192.out _; (with_reducible repeat (first | refine blk_drewN ?_ _ | refine blk_drew ?_ | refine blk_alloc ?_ _)); exact BK186.out⟩, ⟨by (with_reducible repeat (first | refine blk_drewN ?_ _ | refine blk_drew ?_ | refine blk_alloc ?_ _)); refine blk_put (cs := #[.int .i64 t196, .int .i64 x193001_1, .bool x193002_1, .string x193003_1, .int .i64 x193004_1]) ?_ 1 _ rfl; (with_reducible repeat (first | refine blk_drewN ?_ _ | refine blk_drew ?_ | refine blk_alloc ?_ _)); refine blk_put (cs := #[.int .i64 x193000_1, .int .i64 x193001_1, .bool x193002_1, .string x193003_1, .int .i64 x193004_1]) ?_ 0 _ rfl; (with_reducible repeat (first | refine blk_drewN ?_ _ | refine blk_drew ?_ | refine blk_alloc ?_ _)); exact BK192.out⟩, ⟨by repeat (first | (with_reducible first | exact HB.out | apply below_alloc | apply pw_below_drewN | apply below_drew1 | refine below_set ?_ GE186.out | refine below_set ?_ GE192.out | refine below_set ?_ GE198.out) | exact HB.out)⟩⟩
               ·rw [if_neg c119] at H
                have c119b0 : (t194 == 68) = false := beq_eq_false_iff_ne.mpr c119
                have c119b1 : (t194 != 68) = true := bne_iff_ne.mpr c119
                by_cases c146 : (rdOf ByteArray.empty x2_1 0).toList = ([50] : List UInt8)
                ·rw [if_pos c146] at H
                 have c146b0 : ((rdOf ByteArray.empty x2_1 0).toList == ([50] : List UInt8)) = true := beq_iff_eq.mpr c146
                 have c146b1 : ((rdOf ByteArray.empty x2_1 0).toList != ([50] : List UInt8)) = false := bne_eq_false_iff_eq.mpr c146
                 clear c146
                 have H' := Aside0.mk H
                 clear H
                 have hnb147 := NB198_186.out
                 have hnc147 := NB186_198.out
                 have hnb148 := NB198_192.out
                 have hnc148 := NB192_198.out
                 have hcz149_0 : wc.cell? ⟨gb198, 0, none⟩ = some (.int .i64 t193) := (blk_cell BK198.out 0).trans rfl
                 have hcz149_1 : wc.cell? ⟨gb198, 1, none⟩ = some (.int .u8 t194) := (blk_cell BK198.out 1).trans rfl
                 have hcz149_2 : wc.cell? ⟨gb198, 2, none⟩ = some (.int .i64 t195) := (blk_cell BK198.out 2).trans rfl
                 have hcz149_3 : wc.cell? ⟨gb198, 3, none⟩ = some (.int .i64 t196) := (blk_cell BK198.out 3).trans rfl
                 have hfz149_0 := blk_frozen BK198.out 0
                 have hfz149_1 := blk_frozen BK198.out 1
                 have hfz149_2 := blk_frozen BK198.out 2
                 have hfz149_3 := blk_frozen BK198.out 3
                 obtain ⟨Ao150, co150, eo150⟩ := Kd.V_slice HO_2.out
                 subst eo150
                 have p200 : 0 ≤ (0 : Int) := (by omega)
                 have q200 : 0 < (x2_1.length : Int) := of_decide_eq_true (by first | (with_reducible assumption) | assumption)
                 obtain ⟨ad200, e200, hx200_0⟩ := Kd.at_string (Kd.V_reads' HO_2.out).2.2 0 p200 q200
                 cases e200
                 have qi200 : (0 < x2_1.length) = True := eq_true (by omega)
                 (try rw [show ((0 : Int)).toNat = 0 from rfl] at hx200_0)
                 (try rw [Addr.add_zero'] at hx200_0)
                 replace p200 := eq_true p200
                 replace q200 := eq_true q200
                 have q151 : (1 : Int) ≤ ((x2_1.length : Int) : Int) := of_decide_eq_true (by first | (with_reducible assumption) | assumption)
                 obtain ⟨i0151, hi0151, _, hsz151, _⟩ := info_parts info9
                 have hroom151 : x2_1.length ≤ co150 := (Kd.V_reads' HO_2.out).2.1
                 have hC151 : Kd.F Kd.string _ _ (some ad200) x2_1.length x2_1 := (Kd.V_at (base := w.heap.size) HO_2.out).2.2
                 have hcut151 := cut_from (P := Tryd.prog) 26 9 .i64 Tryd.underlying26 hi0151 1 hsz151 (some ad200) x2_1.length co150 1 (by omega) q151
                 have hr151 := Kd.F_cut (m := (1 : Int).toNat) (c := co150) hC151 (by omega) hroom151
                 obtain ⟨A151, hA151⟩ : ∃ A1, A1 = (if co150 = (1 : Int).toNat then (some ad200) else ((some ad200) : Option Addr).map (·.add ((1 : Int).toNat * 1))) := ⟨_, rfl⟩
                 obtain ⟨c151, hc151⟩ : ∃ c1, c1 = co150 - (1 : Int).toNat := ⟨_, rfl⟩
                 have hy151 : y201.length = x2_1.length - (1 : Int).toNat := (by rw [Ny201.out, List.length_drop] <;> omega)
                 rw [show (x2_1).drop (1 : Int).toNat = y201 from Ny201.out.symm] at hr151
                 replace hr151 : Kd.F Kd.string _ _ A151 y201.length y201 := (by rw [hA151]; exact hr151)
                 rw [← hy151, ← hA151, ← hc151] at hcut151
                 have HO205 := Aside0.mk (show Kd.V Kd.string 9 _ w.heap.size _ (.slice A151 y201.length c151) y201 from Kd.V_mk (by rw [hy151, hc151]; exact Nat.sub_le_sub_right hroom151 _) hr151)
                 have HC205 := Aside0.mk (show y201.length ≤ c151 from by rw [hy151, hc151]; exact Nat.sub_le_sub_right hroom151 _)
                 clear hr151 hC151 hroom151 hi0151 hsz151 hc151
                 have KY151 := Aside0.mk hy151
                 have KA151 := Aside0.mk hA151
                 clear hy151 hA151
                 replace q151 := eq_true q151
                 go_wp2_with (first | ((with_reducible refine gate_callee (f := 18) rfl ?_); refine goesL_ (some 77) rfl rfl Tryd.func18 (by kernel_rfl) rfl #[.string (rdOf ByteArray.empty x2_1 0)] rfl (by (try simp only [List.map_toArray, List.map_cons, List.map_nil]); first | done | rfl | (simp only [List.length_drop, List.length_take]; rfl) | (rw [hsame_])) ?_; (with_reducible refine (guichetref1_Num.calls kj13 (rdOf ByteArray.empty x2_1 0) t206 t207 _ A71.out).mono ?_); rintro e w' ⟨rfl, ⟨nd, rfl⟩⟩; refine ⟨_, rfl, ?_⟩; (try (rw [drewN_self wc]; generalize hq_ : World.drewN wc _ = wc; have n0_ : Aside0 (Kd.V Kd.string 9 wc w.heap.size (fun k_ => (P2_ k_ ∨ w.heap.size ≤ k_) ∧ k_ ≠ gb186 ∧ k_ ≠ gb192 ∧ k_ ≠ gb198) (.slice A151 y201.length c151) y201) := ⟨by rw [← hq_]; exact (by (with_reducible repeat (first | apply Kd.V_alloc | apply Kd.V_drewN | apply Kd.V_drew)); exact HO205.out)⟩; have n1_ : Aside0 (Kd.V Kd.string 9 wc w.heap.size (fun k_ => (P2_ k_ ∨ w.heap.size ≤ k_) ∧ k_ ≠ gb186 ∧ k_ ≠ gb192 ∧ k_ ≠ gb198) (.slice (some ad200) x2_1.length co150) x2_1) := ⟨by rw [← hq_]; exact (by (with_reducible repeat (first | apply Kd.V_alloc | apply Kd.V_drewN | apply Kd.V_drew)); exact HO_2.out)⟩; have n2_ : Aside0 (wc.heap[gb186]? = some (.cells #[.int .i64 0, .int .i64 0, .bool false, .string (⟨#[]⟩ : ByteArray), .int .i64 0] 30 (0, 0))) := ⟨by rw [← hq_]; exact (by (with_reducible repeat (first | refine blk_drewN ?_ _ | refine blk_drew ?_ | refine blk_alloc ?_ _)); exact BK186.out)⟩; have n3_ : Aside0 (wc.heap[gb192]? = some (.cells #[.int .i64 x193000_1, .int .i64 x193001_1, .bool x193002_1, .string x193003_1, .int .i64 x193004_1] 30 (0, 0))) := ⟨by rw [← hq_]; exact (by (with_reducible repeat (first | refine blk_drewN ?_ _ | refine blk_drew ?_ | refine blk_alloc ?_ _)); exact BK192.out)⟩; have n4_ : Aside0 (wc.heap[gb198]? = some (.cells #[.int .i64 t193, .int .u8 t194, .int .i64 t195, .int .i64 t196] 34 (0, 0))) := ⟨by rw [← hq_]; exact (by (with_reducible repeat (first | refine blk_drewN ?_ _ | refine blk_drew ?_ | refine blk_alloc ?_ _)); exact BK198.out)⟩; have n5_ : Aside0 (Below w.heap.size w wc) := ⟨by rw [← hq_]; exact (by repeat (first | (with_reducible first | exact HB.out | apply below_alloc | apply pw_below_drewN | apply below_drew1 | refine below_set ?_ GE186.out | refine below_set ?_ GE192.out | refine below_set ?_ GE198.out) | exact HB.out))⟩; clear HO205 HO_2 BK186 BK192 BK198 HB hq_; have HO205 := n0_; have HO_2 := n1_; have BK186 := n2_; have BK192 := n3_; have BK198 := n4_; have HB := n5_; clear n0_ n1_ n2_ n3_ n4_ n5_)); have hcz152_0 : wc.cell? ⟨gb198, 0, none⟩ = some (.int .i64 t193) := (blk_cell BK198.out 0).trans rfl; have hcz152_1 : wc.cell? ⟨gb198, 1, none⟩ = some (.int .u8 t194) := (blk_cell BK198.out 1).trans rfl; have hcz152_2 : wc.cell? ⟨gb198, 2, none⟩ = some (.int .i64 t195) := (blk_cell BK198.out 2).trans rfl; have hcz152_3 : wc.cell? ⟨gb198, 3, none⟩ = some (.int .i64 t196) := (blk_cell BK198.out 3).trans rfl; have hfz152_0 := blk_frozen BK198.out 0; have hfz152_1 := blk_frozen BK198.out 1; have hfz152_2 := blk_frozen BK198.out 2; have hfz152_3 := blk_frozen BK198.out 3; have hnb153 := NB192_186.out; have hnc153 := NB186_192.out; have hcz154_0 : wc.cell? ⟨gb192, 0, none⟩ = some (.int .i64 x193000_1) := (blk_cell BK192.out 0).trans rfl; have hcz154_1 : wc.cell? ⟨gb192, 1, none⟩ = some (.int .i64 x193001_1) := (blk_cell BK192.out 1).trans rfl; have hcz154_2 : wc.cell? ⟨gb192, 2, none⟩ = some (.bool x193002_1) := (blk_cell BK192.out 2).trans rfl; have hcz154_3 : wc.cell? ⟨gb192, 3, none⟩ = some (.string x193003_1) := (blk_cell BK192.out 3).trans rfl; have hcz154_4 : wc.cell? ⟨gb192, 4, none⟩ = some (.int .i64 x193004_1) := (blk_cell BK192.out 4).trans rfl; have hfz154_0 := blk_frozen BK192.out 0; have hfz154_1 := blk_frozen BK192.out 1; have hfz154_2 := blk_frozen BK192.out 2; have hfz154_3 := blk_frozen BK192.out 3; have hfz154_4 := blk_frozen BK192.out 4))
                 go_roundg kj13
                 case measure => have := HK1.out; have := HJ13.out; omega
                 case rel => exact ⟨(y201), (x8_1), (x9_1), (t196), (wrap64 (x193001_1 + 1)), (x193002_1), (x193003_1), (x193004_1), (by first | rfl | (simp; done) | (simp [*]; done)), (by first | rfl | (simp; done) | (simp [*]; done)), H', ⟨by have := HK1.out; have := HJ13.out; omega⟩, ⟨by (with_reducible repeat (first | apply Kd.V_alloc | apply Kd.V_drewN | apply Kd.V_drew)); exact Kd.V_mono (Kd.V_far (p := ⟨gb192, 1, none⟩) (Kd.V_far (p := ⟨gb192, 0, none⟩) (Kd.V_mono HO205.out (fun k_ hk => (⟨hk, hk.2.2.1⟩ : _ ∧ k_ ≠ gb192))) (fun _ hk => hk.2) (.int .i64 t196)) (fun _ hk => hk.2) (.int .i64 (wrap64 (x193001_1 + 1)))) (fun _ hk => ⟨hk.1.1, ⟨hk.1.2.1, hk.1.2.2.1⟩⟩)⟩, ⟨by (with_reducible repeat (first | refine blk_drewN ?_ _ | refine blk_drew ?_ | refine blk_alloc ?_ _)); refine blk_far ?_ NB186_192.out _; (with_reducible repeat (first | refine blk_drewN ?_ _ | refine blk_drew ?_ | refine blk_alloc ?_ _)); refine blk_far ?_ NB186_192.out _; (with_reducible repeat (first | refine blk_drewN ?_ _ | refine blk_drew ?_ | refine blk_alloc ?_ _)); exact BK186.out⟩, ⟨by (with_reducible repeat (first | refine blk_drewN ?_ _ | refine blk_drew ?_ | refine blk_alloc ?_ _)); refine blk_put (cs := #[.int .i64 t196, .int .i64 x193001_1, .bool x193002_1, .string x193003_1, .int .i64 x193004_1]) ?_ 1 _ rfl; (with_reducible repeat (first | refine blk_drewN ?_ _ | refine blk_drew ?_ | refine blk_alloc ?_ _)); refine blk_put (cs := #[.int .i64 x193000_1, .int .i64 x193001_1, .bool x193002_1, .string x193003_1, .int .i64 x193004_1]) ?_ 0 _ rfl; (with_reducible repeat (first | refine blk_drewN ?_ _ | refine blk_drew ?_ | refine blk_alloc ?_ _)); exact BK192.out⟩, ⟨by repeat (first | (with_reducible first | exact HB.out | apply below_alloc | apply pw_below_drewN | apply below_drew1 | refine below_set ?_ GE186.out | refine below_set ?_ GE192.out | refine below_set ?_ GE198.out) | exact HB.out)⟩⟩
                ·rw [if_neg c146] at H
                 have c146b0 : ((rdOf ByteArray.empty x2_1 0).toList == ([50] : List UInt8)) = false := beq_eq_false_iff_ne.mpr c146
                 have c146b1 : ((rdOf ByteArray.empty x2_1 0).toList != ([50] : List UInt8)) = true := bne_iff_ne.mpr c146
                 by_cases c155 : (rdOf ByteArray.empty x2_1 0).toList = ([49] : List UInt8)
                 ·rw [if_pos c155] at H
                  have c155b0 : ((rdOf ByteArray.empty x2_1 0).toList == ([49] : List UInt8)) = true := beq_iff_eq.mpr c155
                  have c155b1 : ((rdOf ByteArray.empty x2_1 0).toList != ([49] : List UInt8)) = false := bne_eq_false_iff_eq.mpr c155
                  clear c155
                  have H' := Aside0.mk H
                  clear H
                  have hnb156 := NB198_186.out
                  have hnc156 := NB186_198.out
                  have hnb157 := NB198_192.out
                  have hnc157 := NB192_198.out
                  have hcz158_0 : wc.cell? ⟨gb198, 0, none⟩ = some (.int .i64 t193) := (blk_cell BK198.out 0).trans rfl
                  have hcz158_1 : wc.cell? ⟨gb198, 1, none⟩ = some (.int .u8 t194) := (blk_cell BK198.out 1).trans rfl
                  have hcz158_2 : wc.cell? ⟨gb198, 2, none⟩ = some (.int .i64 t195) := (blk_cell BK198.out 2).trans rfl
                  have hcz158_3 : wc.cell? ⟨gb198, 3, none⟩ = some (.int .i64 t196) := (blk_cell BK198.out 3).trans rfl
                  have hfz158_0 := blk_frozen BK198.out 0
                  have hfz158_1 := blk_frozen BK198.out 1
                  have hfz158_2 := blk_frozen BK198.out 2
                  have hfz158_3 := blk_frozen BK198.out 3
                  obtain ⟨Ao159, co159, eo159⟩ := Kd.V_slice HO_2.out
                  subst eo159
                  have p200 : 0 ≤ (0 : Int) := (by omega)
                  have q200 : 0 < (x2_1.length : Int) := of_decide_eq_true (by first | (with_reducible assumption) | assumption)
                  obtain ⟨ad200, e200, hx200_0⟩ := Kd.at_string (Kd.V_reads' HO_2.out).2.2 0 p200 q200
                  cases e200
                  have qi200 : (0 < x2_1.length) = True := eq_true (by omega)
                  (try rw [show ((0 : Int)).toNat = 0 from rfl] at hx200_0)
                  (try rw [Addr.add_zero'] at hx200_0)
                  replace p200 := eq_true p200
                  replace q200 := eq_true q200
                  have q160 : (1 : Int) ≤ ((x2_1.length : Int) : Int) := of_decide_eq_true (by first | (with_reducible assumption) | assumption)
                  obtain ⟨i0160, hi0160, _, hsz160, _⟩ := info_parts info9
                  have hroom160 : x2_1.length ≤ co159 := (Kd.V_reads' HO_2.out).2.1
                  have hC160 : Kd.F Kd.string _ _ (some ad200) x2_1.length x2_1 := (Kd.V_at (base := w.heap.size) HO_2.out).2.2
                  have hcut160 := cut_from (P := Tryd.prog) 26 9 .i64 Tryd.underlying26 hi0160 1 hsz160 (some ad200) x2_1.length co159 1 (by omega) q160
                  have hr160 := Kd.F_cut (m := (1 : Int).toNat) (c := co159) hC160 (by omega) hroom160
                  obtain ⟨A160, hA160⟩ : ∃ A1, A1 = (if co159 = (1 : Int).toNat then (some ad200) else ((some ad200) : Option Addr).map (·.add ((1 : Int).toNat * 1))) := ⟨_, rfl⟩
                  obtain ⟨c160, hc160⟩ : ∃ c1, c1 = co159 - (1 : Int).toNat := ⟨_, rfl⟩
                  have hy160 : y201.length = x2_1.length - (1 : Int).toNat := (by rw [Ny201.out, List.length_drop] <;> omega)
                  rw [show (x2_1).drop (1 : Int).toNat = y201 from Ny201.out.symm] at hr160
                  replace hr160 : Kd.F Kd.string _ _ A160 y201.length y201 := (by rw [hA160]; exact hr160)
                  rw [← hy160, ← hA160, ← hc160] at hcut160
                  have HO205 := Aside0.mk (show Kd.V Kd.string 9 _ w.heap.size _ (.slice A160 y201.length c160) y201 from Kd.V_mk (by rw [hy160, hc160]; exact Nat.sub_le_sub_right hroom160 _) hr160)
                  have HC205 := Aside0.mk (show y201.length ≤ c160 from by rw [hy160, hc160]; exact Nat.sub_le_sub_right hroom160 _)
                  clear hr160 hC160 hroom160 hi0160 hsz160 hc160
                  have KY160 := Aside0.mk hy160
                  have KA160 := Aside0.mk hA160
                  clear hy160 hA160
                  replace q160 := eq_true q160
                  go_wp2_with (first | ((with_reducible refine gate_callee (f := 18) rfl ?_); refine goesL_ (some 77) rfl rfl Tryd.func18 (by kernel_rfl) rfl #[.string (rdOf ByteArray.empty x2_1 0)] rfl (by (try simp only [List.map_toArray, List.map_cons, List.map_nil]); first | done | rfl | (simp only [List.length_drop, List.length_take]; rfl) | (rw [hsame_])) ?_; (with_reducible refine (guichetref1_Num.calls kj13 (rdOf ByteArray.empty x2_1 0) t206 t207 _ A71.out).mono ?_); rintro e w' ⟨rfl, ⟨nd, rfl⟩⟩; refine ⟨_, rfl, ?_⟩; (try (rw [drewN_self wc]; generalize hq_ : World.drewN wc _ = wc; have n0_ : Aside0 (Kd.V Kd.string 9 wc w.heap.size (fun k_ => (P2_ k_ ∨ w.heap.size ≤ k_) ∧ k_ ≠ gb186 ∧ k_ ≠ gb192 ∧ k_ ≠ gb198) (.slice A160 y201.length c160) y201) := ⟨by rw [← hq_]; exact (by (with_reducible repeat (first | apply Kd.V_alloc | apply Kd.V_drewN | apply Kd.V_drew)); exact HO205.out)⟩; have n1_ : Aside0 (Kd.V Kd.string 9 wc w.heap.size (fun k_ => (P2_ k_ ∨ w.heap.size ≤ k_) ∧ k_ ≠ gb186 ∧ k_ ≠ gb192 ∧ k_ ≠ gb198) (.slice (some ad200) x2_1.length co159) x2_1) := ⟨by rw [← hq_]; exact (by (with_reducible repeat (first | apply Kd.V_alloc | apply Kd.V_drewN | apply Kd.V_drew)); exact HO_2.out)⟩; have n2_ : Aside0 (wc.heap[gb186]? = some (.cells #[.int .i64 0, .int .i64 0, .bool false, .string (⟨#[]⟩ : ByteArray), .int .i64 0] 30 (0, 0))) := ⟨by rw [← hq_]; exact (by (with_reducible repeat (first | refine blk_drewN ?_ _ | refine blk_drew ?_ | refine blk_alloc ?_ _)); exact BK186.out)⟩; have n3_ : Aside0 (wc.heap[gb192]? = some (.cells #[.int .i64 x193000_1, .int .i64 x193001_1, .bool x193002_1, .string x193003_1, .int .i64 x193004_1] 30 (0, 0))) := ⟨by rw [← hq_]; exact (by (with_reducible repeat (first | refine blk_drewN ?_ _ | refine blk_drew ?_ | refine blk_alloc ?_ _)); exact BK192.out)⟩; have n4_ : Aside0 (wc.heap[gb198]? = some (.cells #[.int .i64 t193, .int .u8 t194, .int .i64 t195, .int .i64 t196] 34 (0, 0))) := ⟨by rw [← hq_]; exact (by (with_reducible repeat (first | refine blk_drewN ?_ _ | refine blk_drew ?_ | refine blk_alloc ?_ _)); exact BK198.out)⟩; have n5_ : Aside0 (Below w.heap.size w wc) := ⟨by rw [← hq_]; exact (by repeat (first | (with_reducible first | exact HB.out | apply below_alloc | apply pw_below_drewN | apply below_drew1 | refine below_set ?_ GE186.out | refine below_set ?_ GE192.out | refine below_set ?_ GE198.out) | exact HB.out))⟩; clear HO205 HO_2 BK186 BK192 BK198 HB hq_; have HO205 := n0_; have HO_2 := n1_; have BK186 := n2_; have BK192 := n3_; have BK198 := n4_; have HB := n5_; clear n0_ n1_ n2_ n3_ n4_ n5_)); have hcz161_0 : wc.cell? ⟨gb198, 0, none⟩ = some (.int .i64 t193) := (blk_cell BK198.out 0).trans rfl; have hcz161_1 : wc.cell? ⟨gb198, 1, none⟩ = some (.int .u8 t194) := (blk_cell BK198.out 1).trans rfl; have hcz161_2 : wc.cell? ⟨gb198, 2, none⟩ = some (.int .i64 t195) := (blk_cell BK198.out 2).trans rfl; have hcz161_3 : wc.cell? ⟨gb198, 3, none⟩ = some (.int .i64 t196) := (blk_cell BK198.out 3).trans rfl; have hfz161_0 := blk_frozen BK198.out 0; have hfz161_1 := blk_frozen BK198.out 1; have hfz161_2 := blk_frozen BK198.out 2; have hfz161_3 := blk_frozen BK198.out 3; have hnb162 := NB192_186.out; have hnc162 := NB186_192.out; have hcz163_0 : wc.cell? ⟨gb192, 0, none⟩ = some (.int .i64 x193000_1) := (blk_cell BK192.out 0).trans rfl; have hcz163_1 : wc.cell? ⟨gb192, 1, none⟩ = some (.int .i64 x193001_1) := (blk_cell BK192.out 1).trans rfl; have hcz163_2 : wc.cell? ⟨gb192, 2, none⟩ = some (.bool x193002_1) := (blk_cell BK192.out 2).trans rfl; have hcz163_3 : wc.cell? ⟨gb192, 3, none⟩ = some (.string x193003_1) := (blk_cell BK192.out 3).trans rfl; have hcz163_4 : wc.cell? ⟨gb192, 4, none⟩ = some (.int .i64 x193004_1) := (blk_cell BK192.out 4).trans rfl; have hfz163_0 := blk_frozen BK192.out 0; have hfz163_1 := blk_frozen BK192.out 1; have hfz163_2 := blk_frozen BK192.out 2; have hfz163_3 := blk_frozen BK192.out 3; have hfz163_4 := blk_frozen BK192.out 4))
                  go_roundg kj13
                  case measure => have := HK1.out; have := HJ13.out; omega
                  case rel => exact ⟨(y201), (x8_1), (x9_1), (t195), (wrap64 (x193001_1 + 1)), (x193002_1), (x193003_1), (x193004_1), (by first | rfl | (simp; done) | (simp [*]; done)), (by first | rfl | (simp; done) | (simp [*]; done)), H', ⟨by have := HK1.out; have := HJ13.out; omega⟩, ⟨by (with_reducible repeat (first | apply Kd.V_alloc | apply Kd.V_drewN | apply Kd.V_drew)); exact Kd.V_mono (Kd.V_far (p := ⟨gb192, 1, none⟩) (Kd.V_far (p := ⟨gb192, 0, none⟩) (Kd.V_mono HO205.out (fun k_ hk => (⟨hk, hk.2.2.1⟩ : _ ∧ k_ ≠ gb192))) (fun _ hk => hk.2) (.int .i64 t195)) (fun _ hk => hk.2) (.int .i64 (wrap64 (x193001_1 + 1)))) (fun _ hk => ⟨hk.1.1, ⟨hk.1.2.1, hk.1.2.2.1⟩⟩)⟩, ⟨by (with_reducible repeat (first | refine blk_drewN ?_ _ | refine blk_drew ?_ | refine blk_alloc ?_ _)); refine blk_far ?_ NB186_192.out _; (with_reducible repeat (first | refine blk_drewN ?_ _ | refine blk_drew ?_ | refine blk_alloc ?_ _)); refine blk_far ?_ NB186_192.out _; (with_reducible repeat (first | refine blk_drewN ?_ _ | refine blk_drew ?_ | refine blk_alloc ?_ _)); exact BK186.out⟩, ⟨by (with_reducible repeat (first | refine blk_drewN ?_ _ | refine blk_drew ?_ | refine blk_alloc ?_ _)); refine blk_put (cs := #[.int .i64 t195, .int .i64 x193001_1, .bool x193002_1, .string x193003_1, .int .i64 x193004_1]) ?_ 1 _ rfl; (with_reducible repeat (first | refine blk_drewN ?_ _ | refine blk_drew ?_ | refine blk_alloc ?_ _)); refine blk_put (cs := #[.int .i64 x193000_1, .int .i64 x193001_1, .bool x193002_1, .string x193003_1, .int .i64 x193004_1]) ?_ 0 _ rfl; (with_reducible repeat (first | refine blk_drewN ?_ _ | refine blk_drew ?_ | refine blk_alloc ?_ _)); exact BK192.out⟩, ⟨by repeat (first | (with_reducible first | exact HB.out | apply below_alloc | apply pw_below_drewN | apply below_drew1 | refine below_set ?_ GE186.out | refine below_set ?_ GE192.out | refine below_set ?_ GE198.out) | exact HB.out)⟩⟩
                 ·rw [if_neg c155] at H
                  have c155b0 : ((rdOf ByteArray.empty x2_1 0).toList == ([49] : List UInt8)) = false := beq_eq_false_iff_ne.mpr c155
                  have c155b1 : ((rdOf ByteArray.empty x2_1 0).toList != ([49] : List UInt8)) = true := bne_iff_ne.mpr c155
                  have H' := Aside0.mk H
                  clear H
                  have hnb164 := NB198_186.out
                  have hnc164 := NB186_198.out
                  have hnb165 := NB198_192.out
                  have hnc165 := NB192_198.out
                  have hcz166_0 : wc.cell? ⟨gb198, 0, none⟩ = some (.int .i64 t193) := (blk_cell BK198.out 0).trans rfl
                  have hcz166_1 : wc.cell? ⟨gb198, 1, none⟩ = some (.int .u8 t194) := (blk_cell BK198.out 1).trans rfl
                  have hcz166_2 : wc.cell? ⟨gb198, 2, none⟩ = some (.int .i64 t195) := (blk_cell BK198.out 2).trans rfl
                  have hcz166_3 : wc.cell? ⟨gb198, 3, none⟩ = some (.int .i64 t196) := (blk_cell BK198.out 3).trans rfl
                  have hfz166_0 := blk_frozen BK198.out 0
                  have hfz166_1 := blk_frozen BK198.out 1
                  have hfz166_2 := blk_frozen BK198.out 2
                  have hfz166_3 := blk_frozen BK198.out 3
                  obtain ⟨Ao167, co167, eo167⟩ := Kd.V_slice HO_2.out
                  subst eo167
                  have p200 : 0 ≤ (0 : Int) := (by omega)
                  have q200 : 0 < (x2_1.length : Int) := of_decide_eq_true (by first | (with_reducible assumption) | assumption)
                  obtain ⟨ad200, e200, hx200_0⟩ := Kd.at_string (Kd.V_reads' HO_2.out).2.2 0 p200 q200
                  cases e200
                  have qi200 : (0 < x2_1.length) = True := eq_true (by omega)
                  (try rw [show ((0 : Int)).toNat = 0 from rfl] at hx200_0)
                  (try rw [Addr.add_zero'] at hx200_0)
                  replace p200 := eq_true p200
                  replace q200 := eq_true q200
                  have q168 : (1 : Int) ≤ ((x2_1.length : Int) : Int) := of_decide_eq_true (by first | (with_reducible assumption) | assumption)
                  obtain ⟨i0168, hi0168, _, hsz168, _⟩ := info_parts info9
                  have hroom168 : x2_1.length ≤ co167 := (Kd.V_reads' HO_2.out).2.1
                  have hC168 : Kd.F Kd.string _ _ (some ad200) x2_1.length x2_1 := (Kd.V_at (base := w.heap.size) HO_2.out).2.2
                  have hcut168 := cut_from (P := Tryd.prog) 26 9 .i64 Tryd.underlying26 hi0168 1 hsz168 (some ad200) x2_1.length co167 1 (by omega) q168
                  have hr168 := Kd.F_cut (m := (1 : Int).toNat) (c := co167) hC168 (by omega) hroom168
                  obtain ⟨A168, hA168⟩ : ∃ A1, A1 = (if co167 = (1 : Int).toNat then (some ad200) else ((some ad200) : Option Addr).map (·.add ((1 : Int).toNat * 1))) := ⟨_, rfl⟩
                  obtain ⟨c168, hc168⟩ : ∃ c1, c1 = co167 - (1 : Int).toNat := ⟨_, rfl⟩
                  have hy168 : y201.length = x2_1.length - (1 : Int).toNat := (by rw [Ny201.out, List.length_drop] <;> omega)
                  rw [show (x2_1).drop (1 : Int).toNat = y201 from Ny201.out.symm] at hr168
                  replace hr168 : Kd.F Kd.string _ _ A168 y201.length y201 := (by rw [hA168]; exact hr168)
                  rw [← hy168, ← hA168, ← hc168] at hcut168
                  have HO205 := Aside0.mk (show Kd.V Kd.string 9 _ w.heap.size _ (.slice A168 y201.length c168) y201 from Kd.V_mk (by rw [hy168, hc168]; exact Nat.sub_le_sub_right hroom168 _) hr168)
                  have HC205 := Aside0.mk (show y201.length ≤ c168 from by rw [hy168, hc168]; exact Nat.sub_le_sub_right hroom168 _)
                  clear hr168 hC168 hroom168 hi0168 hsz168 hc168
                  have KY168 := Aside0.mk hy168
                  have KA168 := Aside0.mk hA168
                  clear hy168 hA168
                  replace q168 := eq_true q168
                  go_wp2_with (first | ((with_reducible refine gate_callee (f := 18) rfl ?_); refine goesL_ (some 77) rfl rfl Tryd.func18 (by kernel_rfl) rfl #[.string (rdOf ByteArray.empty x2_1 0)] rfl (by (try simp only [List.map_toArray, List.map_cons, List.map_nil]); first | done | rfl | (simp only [List.length_drop, List.length_take]; rfl) | (rw [hsame_])) ?_; (with_reducible refine (guichetref1_Num.calls kj13 (rdOf ByteArray.empty x2_1 0) t206 t207 _ A71.out).mono ?_); rintro e w' ⟨rfl, ⟨nd, rfl⟩⟩; refine ⟨_, rfl, ?_⟩; (try (rw [drewN_self wc]; generalize hq_ : World.drewN wc _ = wc; have n0_ : Aside0 (Kd.V Kd.string 9 wc w.heap.size (fun k_ => (P2_ k_ ∨ w.heap.size ≤ k_) ∧ k_ ≠ gb186 ∧ k_ ≠ gb192 ∧ k_ ≠ gb198) (.slice A168 y201.length c168) y201) := ⟨by rw [← hq_]; exact (by (with_reducible repeat (first | apply Kd.V_alloc | apply Kd.V_drewN | apply Kd.V_drew)); exact HO205.out)⟩; have n1_ : Aside0 (Kd.V Kd.string 9 wc w.heap.size (fun k_ => (P2_ k_ ∨ w.heap.size ≤ k_) ∧ k_ ≠ gb186 ∧ k_ ≠ gb192 ∧ k_ ≠ gb198) (.slice (some ad200) x2_1.length co167) x2_1) := ⟨by rw [← hq_]; exact (by (with_reducible repeat (first | apply Kd.V_alloc | apply Kd.V_drewN | apply Kd.V_drew)); exact HO_2.out)⟩; have n2_ : Aside0 (wc.heap[gb186]? = some (.cells #[.int .i64 0, .int .i64 0, .bool false, .string (⟨#[]⟩ : ByteArray), .int .i64 0] 30 (0, 0))) := ⟨by rw [← hq_]; exact (by (with_reducible repeat (first | refine blk_drewN ?_ _ | refine blk_drew ?_ | refine blk_alloc ?_ _)); exact BK186.out)⟩; have n3_ : Aside0 (wc.heap[gb192]? = some (.cells #[.int .i64 x193000_1, .int .i64 x193001_1, .bool x193002_1, .string x193003_1, .int .i64 x193004_1] 30 (0, 0))) := ⟨by rw [← hq_]; exact (by (with_reducible repeat (first | refine blk_drewN ?_ _ | refine blk_drew ?_ | refine blk_alloc ?_ _)); exact BK192.out)⟩; have n4_ : Aside0 (wc.heap[gb198]? = some (.cells #[.int .i64 t193, .int .u8 t194, .int .i64 t195, .int .i64 t196] 34 (0, 0))) := ⟨by rw [← hq_]; exact (by (with_reducible repeat (first | refine blk_drewN ?_ _ | refine blk_drew ?_ | refine blk_alloc ?_ _)); exact BK198.out)⟩; have n5_ : Aside0 (Below w.heap.size w wc) := ⟨by rw [← hq_]; exact (by repeat (first | (with_reducible first | exact HB.out | apply below_alloc | apply pw_below_drewN | apply below_drew1 | refine below_set ?_ GE186.out | refine below_set ?_ GE192.out | refine below_set ?_ GE198.out) | exact HB.out))⟩; clear HO205 HO_2 BK186 BK192 BK198 HB hq_; have HO205 := n0_; have HO_2 := n1_; have BK186 := n2_; have BK192 := n3_; have BK198 := n4_; have HB := n5_; clear n0_ n1_ n2_ n3_ n4_ n5_)); have hcz169_0 : wc.cell? ⟨gb198, 0, none⟩ = some (.int .i64 t193) := (blk_cell BK198.out 0).trans rfl; have hcz169_1 : wc.cell? ⟨gb198, 1, none⟩ = some (.int .u8 t194) := (blk_cell BK198.out 1).trans rfl; have hcz169_2 : wc.cell? ⟨gb198, 2, none⟩ = some (.int .i64 t195) := (blk_cell BK198.out 2).trans rfl; have hcz169_3 : wc.cell? ⟨gb198, 3, none⟩ = some (.int .i64 t196) := (blk_cell BK198.out 3).trans rfl; have hfz169_0 := blk_frozen BK198.out 0; have hfz169_1 := blk_frozen BK198.out 1; have hfz169_2 := blk_frozen BK198.out 2; have hfz169_3 := blk_frozen BK198.out 3; have hnb170 := NB192_186.out; have hnc170 := NB186_192.out; have hcz171_0 : wc.cell? ⟨gb192, 0, none⟩ = some (.int .i64 x193000_1) := (blk_cell BK192.out 0).trans rfl; have hcz171_1 : wc.cell? ⟨gb192, 1, none⟩ = some (.int .i64 x193001_1) := (blk_cell BK192.out 1).trans rfl; have hcz171_2 : wc.cell? ⟨gb192, 2, none⟩ = some (.bool x193002_1) := (blk_cell BK192.out 2).trans rfl; have hcz171_3 : wc.cell? ⟨gb192, 3, none⟩ = some (.string x193003_1) := (blk_cell BK192.out 3).trans rfl; have hcz171_4 : wc.cell? ⟨gb192, 4, none⟩ = some (.int .i64 x193004_1) := (blk_cell BK192.out 4).trans rfl; have hfz171_0 := blk_frozen BK192.out 0; have hfz171_1 := blk_frozen BK192.out 1; have hfz171_2 := blk_frozen BK192.out 2; have hfz171_3 := blk_frozen BK192.out 3; have hfz171_4 := blk_frozen BK192.out 4))
                  go_roundg kj13
                  case measure => have := HK1.out; have := HJ13.out; omega
                  case rel => exact ⟨(y201), (x8_1), (x9_1), (t193), (wrap64 (x193001_1 + 1)), (x193002_1), (x193003_1), (x193004_1), (by first | rfl | (simp; done) | (simp [*]; done)), (by first | rfl | (simp; done) | (simp [*]; done)), H', ⟨by have := HK1.out; have := HJ13.out; omega⟩, ⟨by (with_reducible repeat (first | apply Kd.V_alloc | apply Kd.V_drewN | apply Kd.V_drew)); exact Kd.V_mono (Kd.V_far (p := ⟨gb192, 1, none⟩) (Kd.V_far (p := ⟨gb192, 0, none⟩) (Kd.V_mono HO205.out (fun k_ hk => (⟨hk, hk.2.2.1⟩ : _ ∧ k_ ≠ gb192))) (fun _ hk => hk.2) (.int .i64 t193)) (fun _ hk => hk.2) (.int .i64 (wrap64 (x193001_1 + 1)))) (fun _ hk => ⟨hk.1.1, ⟨hk.1.2.1, hk.1.2.2.1⟩⟩)⟩, ⟨by (with_reducible repeat (first | refine blk_drewN ?_ _ | refine blk_drew ?_ | refine blk_alloc ?_ _)); refine blk_far ?_ NB186_192.out _; (with_reducible repeat (first | refine blk_drewN ?_ _ | refine blk_drew ?_ | refine blk_alloc ?_ _)); refine blk_far ?_ NB186_192.out _; (with_reducible repeat (first | refine blk_drewN ?_ _ | refine blk_drew ?_ | refine blk_alloc ?_ _)); exact BK186.out⟩, ⟨by (with_reducible repeat (first | refine blk_drewN ?_ _ | refine blk_drew ?_ | refine blk_alloc ?_ _)); refine blk_put (cs := #[.int .i64 t193, .int .i64 x193001_1, .bool x193002_1, .string x193003_1, .int .i64 x193004_1]) ?_ 1 _ rfl; (with_reducible repeat (first | refine blk_drewN ?_ _ | refine blk_drew ?_ | refine blk_alloc ?_ _)); refine blk_put (cs := #[.int .i64 x193000_1, .int .i64 x193001_1, .bool x193002_1, .string x193003_1, .int .i64 x193004_1]) ?_ 0 _ rfl; (with_reducible repeat (first | refine blk_drewN ?_ _ | refine blk_drew ?_ | refine blk_alloc ?_ _)); exact BK192.out⟩, ⟨by repeat (first | (with_reducible first | exact HB.out | apply below_alloc | apply pw_below_drewN | apply below_drew1 | refine below_set ?_ GE186.out | refine below_set ?_ GE192.out | refine below_set ?_ GE198.out) | exact HB.out)⟩⟩
            ·rw [if_neg c70] at H
             exact absurd H (by simp)
           ·rw [if_neg c69] at H
            exact absurd H (by simp)
     ·rw [if_neg c12] at H
      have c12b0 : decide (x193001_1 < 200) = false := decide_eq_false c12
      clear c12
      simp only [Option.some.injEq, Prod.mk.injEq] at H
      obtain ⟨rfl, rfl, rfl, rfl, rfl⟩ := H
      have hnb172 := NB192_186.out
      have hnc172 := NB186_192.out
      have hcz173_0 : wr.cell? ⟨gb192, 0, none⟩ = some (.int .i64 x193000_1) := (blk_cell BK192.out 0).trans rfl
      have hcz173_1 : wr.cell? ⟨gb192, 1, none⟩ = some (.int .i64 x193001_1) := (blk_cell BK192.out 1).trans rfl
      have hcz173_2 : wr.cell? ⟨gb192, 2, none⟩ = some (.bool x193002_1) := (blk_cell BK192.out 2).trans rfl
      have hcz173_3 : wr.cell? ⟨gb192, 3, none⟩ = some (.string x193003_1) := (blk_cell BK192.out 3).trans rfl
      have hcz173_4 : wr.cell? ⟨gb192, 4, none⟩ = some (.int .i64 x193004_1) := (blk_cell BK192.out 4).trans rfl
      have hfz173_0 := blk_frozen BK192.out 0
      have hfz173_1 := blk_frozen BK192.out 1
      have hfz173_2 := blk_frozen BK192.out 2
      have hfz173_3 := blk_frozen BK192.out 3
      have hfz173_4 := blk_frozen BK192.out 4
      have hcz174_0 : wr.cell? ⟨gb186, 0, none⟩ = some (.int .i64 0) := (blk_cell BK186.out 0).trans rfl
      have hcz174_1 : wr.cell? ⟨gb186, 1, none⟩ = some (.int .i64 0) := (blk_cell BK186.out 1).trans rfl
      have hcz174_2 : wr.cell? ⟨gb186, 2, none⟩ = some (.bool false) := (blk_cell BK186.out 2).trans rfl
      have hcz174_3 : wr.cell? ⟨gb186, 3, none⟩ = some (.string (⟨#[]⟩ : ByteArray)) := (blk_cell BK186.out 3).trans rfl
      have hcz174_4 : wr.cell? ⟨gb186, 4, none⟩ = some (.int .i64 0) := (blk_cell BK186.out 4).trans rfl
      have hfz174_0 := blk_frozen BK186.out 0
      have hfz174_1 := blk_frozen BK186.out 1
      have hfz174_2 := blk_frozen BK186.out 2
      have hfz174_3 := blk_frozen BK186.out 3
      have hfz174_4 := blk_frozen BK186.out 4
      go_wp2
      refine bodyPost_ret (results_cell_row rfl _ _ gb186 30 #[.int .i64 x193000_1, .int .i64 x193001_1, .bool x193002_1, .string x193003_1, .int .i64 x193004_1] (0, 0) _ rfl (by (with_reducible repeat (first | refine blk_drewN ?_ _ | refine blk_drew ?_ | refine blk_alloc ?_ _)); refine blk_put (cs := #[.int .i64 x193000_1, .int .i64 x193001_1, .bool x193002_1, .string x193003_1, .int .i64 0]) ?_ 4 _ rfl; (with_reducible repeat (first | refine blk_drewN ?_ _ | refine blk_drew ?_ | refine blk_alloc ?_ _)); refine blk_put (cs := #[.int .i64 x193000_1, .int .i64 x193001_1, .bool x193002_1, .string (⟨#[]⟩ : ByteArray), .int .i64 0]) ?_ 3 _ rfl; (with_reducible repeat (first | refine blk_drewN ?_ _ | refine blk_drew ?_ | refine blk_alloc ?_ _)); refine blk_put (cs := #[.int .i64 x193000_1, .int .i64 x193001_1, .bool false, .string (⟨#[]⟩ : ByteArray), .int .i64 0]) ?_ 2 _ rfl; (with_reducible repeat (first | refine blk_drewN ?_ _ | refine blk_drew ?_ | refine blk_alloc ?_ _)); refine blk_put (cs := #[.int .i64 x193000_1, .int .i64 0, .bool false, .string (⟨#[]⟩ : ByteArray), .int .i64 0]) ?_ 1 _ rfl; (with_reducible repeat (first | refine blk_drewN ?_ _ | refine blk_drew ?_ | refine blk_alloc ?_ _)); refine blk_put (cs := #[.int .i64 0, .int .i64 0, .bool false, .string (⟨#[]⟩ : ByteArray), .int .i64 0]) ?_ 0 _ rfl; (with_reducible repeat (first | refine blk_drewN ?_ _ | refine blk_drew ?_ | refine blk_alloc ?_ _)); exact BK186.out) Tryd.underlying30 rfl (by kernel_rfl)) rfl ?_
      exact ⟨by first | rfl | (simp [errW_none, errW_some] <;> rfl) | (simp only [← hji4]; first | rfl | (simp [errW_none, errW_some] <;> rfl)) | (simp [*, errW_none, errW_some] <;> rfl), by repeat (first | (with_reducible first | exact HB.out | apply below_alloc | apply pw_below_drewN | apply below_drew1 | refine below_set ?_ GE186.out | refine below_set ?_ GE192.out) | exact HB.out)⟩
  ·rw [if_neg c6] at H
   exact absurd H (by simp)
 ·rw [if_neg c5] at H
  exact absurd H (by simp)

end Go.Proofs.YtnnoanfiehjleaaDoor.PAll
