-- written by xprint.py out of the translation. Not trusted: Lean checks it.
import Derived.Test.YtjbhgooakdpabaaDoorPAllx0
import Derived.Test.YtjbhgooakdpabaaDoorPAllx1
import Derived.Test.YtjbhgooakdpabaaDoorPAllx2
import Derived.Test.YtjbhgooakdpabaaDoorPAllx3
import Derived.Test.YtjbhgooakdpabaaDoorPAllx4
namespace Go.Proofs.YtjbhgooakdpabaaDoor.PAll
open Go.RowKit Go.Proofs.YtjbhgooakdpabaaDoorW.PrintWords Go.Proofs.YtjbhgooakdpabaaDoorW.PrintLast Go.Proofs.YtjbhgooakdpabaaDoorW.PrintMore
attribute [local go_sem] max2_int min2_int max_two min_two max_three min_three max_four min_four   -- for this text's walks alone
set_option linter.unusedVariables false
set_option linter.unusedSimpArgs false

/-! ### guichetlaw16_MoneyTexts: function 3 -/
mutual
def guichetlaw16_MoneyTexts.l0 : Nat → ByteArray → Int → Int → List Int → Int → Int → Option (Bool)
 | 0, _, _, _, _, _, _ => none
 | k + 1, x1, x3, x4, x42, x43, x44 => if x44 < x43 then (if 0 ≤ x44 then (if x44 < (x42.length : Int) then ((money_Text.f (rd x42 x44)).bind fun t121 => ((money_Parse.f t121).bind fun bt122 => ((money_Field.f (rd x42 x44)).bind fun bt124 => ((guichetref1_Digits.f k (rd x42 x44) 12).bind fun bt126 => ((guichetref12_MoneyText.f k (rd x42 x44)).bind fun t128 => (if t121.toList = t128.toList then (if bt122.1 = (rd x42 x44) then (if bt122.2 = true then (if bt124.1.toList = bt126.1.toList then (guichetlaw16_MoneyTexts.j1 k x1 x3 x4 t121 x42 x43 x44 (bt124.2 != bt126.2)) else (guichetlaw16_MoneyTexts.j1 k x1 x3 x4 t121 x42 x43 x44 true)) else (guichetlaw16_MoneyTexts.j1 k x1 x3 x4 t121 x42 x43 x44 true)) else (guichetlaw16_MoneyTexts.j1 k x1 x3 x4 t121 x42 x43 x44 true)) else (guichetlaw16_MoneyTexts.j1 k x1 x3 x4 t121 x42 x43 x44 true))))))) else (none)) else (none)) else (some true)
def guichetlaw16_MoneyTexts.j1 : Nat → ByteArray → Int → Int → ByteArray → List Int → Int → Int → Bool → Option (Bool)
 | 0, _, _, _, _, _, _, _, _ => none
 | k + 1, x1, x3, x4, x13, x42, x43, x44, x87 => if x87 = true then (none) else ((convBytes.f x13).bind fun t129 => (if (t129.length : Int) = 0 then (none) else (if 0 ≤ (Int.tmod (wrap64 (x3)) (t129.length : Int)) then (if (Int.tmod (wrap64 (x3)) (t129.length : Int)) < (t129.length : Int) then (if 1 + x13.size ≤ 9223372036854775807 then (if x13.size + 1 ≤ 9223372036854775807 then ((some (([x1, strOfNums (t129.set ((Int.tmod (wrap64 (x3)) (t129.length : Int)) : Int).toNat x4), (⟨#[48]⟩ : ByteArray) ++ x13, x13 ++ (⟨#[48]⟩ : ByteArray)] : List ByteArray) : List ByteArray)).bind fun y133 => (guichetlaw16_MoneyTexts.l1 k x1 x3 x4 x42 x43 x44 y133 (y133.length : Int) 0)) else (none)) else (none)) else (none)) else (none))))
def guichetlaw16_MoneyTexts.l1 : Nat → ByteArray → Int → Int → List Int → Int → Int → List ByteArray → Int → Int → Option (Bool)
 | 0, _, _, _, _, _, _, _, _, _ => none
 | k + 1, x1, x3, x4, x42, x43, x44, x105, x106, x107 => if x107 < x106 then (if 0 ≤ x107 then (if x107 < (x105.length : Int) then ((money_Parse.f (rdOf ByteArray.empty x105 x107)).bind fun bt137 => ((guichetref12_MoneyParse.f k (rdOf ByteArray.empty x105 x107)).bind fun bt139 => (if bt137.1 = bt139.1 then (if (bt137.2 != bt139.2) = true then (none) else (guichetlaw16_MoneyTexts.l1 k x1 x3 x4 x42 x43 x44 x105 x106 (wrap64 (x107 + 1)))) else (none)))) else (none)) else (none)) else (guichetlaw16_MoneyTexts.l0 k x1 x3 x4 x42 x43 (wrap64 (x44 + 1)))
end
def guichetlaw16_MoneyTexts.f (k : Nat) (a0 : Int) (a1 : ByteArray) (a2 : Int) (a3 : Int) (a4 : Int) : Option (Bool) := (guichetlaw16_known.f).bind fun t116 => (if t116 = true then (if (a1.size : Int) > 60 then (some true) else (if 0 ≤ (Go.bits .and .u8 a2 63) then ((some (([a0, shr .i64 a0 (Go.bits .and .u8 a2 63), wrap64 (-(shr .i64 a0 (Go.bits .and .u8 a2 63))), (-9223372036854775808), 9223372036854775807] : List Int) : List Int)).bind fun y117 => (guichetlaw16_MoneyTexts.l0 k a1 a3 a4 y117 (y117.length : Int) 0)) else (none))) else (none))
theorem guichetlaw16_MoneyTexts.mono_l : ∀ k, (∀ y0 y1 y2 y3 y4 y5, LeO (guichetlaw16_MoneyTexts.l0 k y0 y1 y2 y3 y4 y5) (guichetlaw16_MoneyTexts.l0 (k + 1) y0 y1 y2 y3 y4 y5)) ∧ (∀ y0 y1 y2 y3 y4 y5 y6 y7, LeO (guichetlaw16_MoneyTexts.j1 k y0 y1 y2 y3 y4 y5 y6 y7) (guichetlaw16_MoneyTexts.j1 (k + 1) y0 y1 y2 y3 y4 y5 y6 y7)) ∧ (∀ y0 y1 y2 y3 y4 y5 y6 y7 y8, LeO (guichetlaw16_MoneyTexts.l1 k y0 y1 y2 y3 y4 y5 y6 y7 y8) (guichetlaw16_MoneyTexts.l1 (k + 1) y0 y1 y2 y3 y4 y5 y6 y7 y8))
 | 0 => ⟨fun _ _ _ _ _ _ r h => by simp [guichetlaw16_MoneyTexts.l0] at h, fun _ _ _ _ _ _ _ _ r h => by simp [guichetlaw16_MoneyTexts.j1] at h, fun _ _ _ _ _ _ _ _ _ r h => by simp [guichetlaw16_MoneyTexts.l1] at h⟩
 | k + 1 => by
  obtain ⟨ih0, ih1, ih2⟩ := guichetlaw16_MoneyTexts.mono_l k
  refine ⟨?_, ?_, ?_⟩
  ·intro y0 y1 y2 y3 y4 y5
   unfold guichetlaw16_MoneyTexts.l0
   repeat' first
   | (with_reducible exact ih0 _ _ _ _ _ _)
   | (with_reducible exact ih1 _ _ _ _ _ _ _ _)
   | (with_reducible exact ih2 _ _ _ _ _ _ _ _ _)
   | (with_reducible exact guichetref12_MoneyParse.mono _ _)
   | (with_reducible exact guichetref12_MoneyText.mono _ _)
   | (with_reducible exact guichetref1_Digits.mono _ _ _)
   | (with_reducible exact LeO.refl _)
   | (with_reducible exact LeO.none _)
   | (with_reducible refine LeO.ite ?_ ?_)
   | (with_reducible refine LeO.bind ?_ (fun _ => ?_))
   | exact ih0 _ _ _ _ _ _
   | exact ih1 _ _ _ _ _ _ _ _
   | exact ih2 _ _ _ _ _ _ _ _ _
   | exact guichetref12_MoneyParse.mono _ _
   | exact guichetref12_MoneyText.mono _ _
   | exact guichetref1_Digits.mono _ _ _
   | exact LeO.none _
   | refine LeO.ite ?_ ?_
   | refine LeO.bind ?_ (fun _ => ?_)
  ·intro y0 y1 y2 y3 y4 y5 y6 y7
   unfold guichetlaw16_MoneyTexts.j1
   repeat' first
   | (with_reducible exact ih0 _ _ _ _ _ _)
   | (with_reducible exact ih1 _ _ _ _ _ _ _ _)
   | (with_reducible exact ih2 _ _ _ _ _ _ _ _ _)
   | (with_reducible exact guichetref12_MoneyParse.mono _ _)
   | (with_reducible exact guichetref12_MoneyText.mono _ _)
   | (with_reducible exact guichetref1_Digits.mono _ _ _)
   | (with_reducible exact LeO.refl _)
   | (with_reducible exact LeO.none _)
   | (with_reducible refine LeO.ite ?_ ?_)
   | (with_reducible refine LeO.bind ?_ (fun _ => ?_))
   | exact ih0 _ _ _ _ _ _
   | exact ih1 _ _ _ _ _ _ _ _
   | exact ih2 _ _ _ _ _ _ _ _ _
   | exact guichetref12_MoneyParse.mono _ _
   | exact guichetref12_MoneyText.mono _ _
   | exact guichetref1_Digits.mono _ _ _
   | exact LeO.none _
   | refine LeO.ite ?_ ?_
   | refine LeO.bind ?_ (fun _ => ?_)
  ·intro y0 y1 y2 y3 y4 y5 y6 y7 y8
   unfold guichetlaw16_MoneyTexts.l1
   repeat' first
   | (with_reducible exact ih0 _ _ _ _ _ _)
   | (with_reducible exact ih1 _ _ _ _ _ _ _ _)
   | (with_reducible exact ih2 _ _ _ _ _ _ _ _ _)
   | (with_reducible exact guichetref12_MoneyParse.mono _ _)
   | (with_reducible exact guichetref12_MoneyText.mono _ _)
   | (with_reducible exact guichetref1_Digits.mono _ _ _)
   | (with_reducible exact LeO.refl _)
   | (with_reducible exact LeO.none _)
   | (with_reducible refine LeO.ite ?_ ?_)
   | (with_reducible refine LeO.bind ?_ (fun _ => ?_))
   | exact ih0 _ _ _ _ _ _
   | exact ih1 _ _ _ _ _ _ _ _
   | exact ih2 _ _ _ _ _ _ _ _ _
   | exact guichetref12_MoneyParse.mono _ _
   | exact guichetref12_MoneyText.mono _ _
   | exact guichetref1_Digits.mono _ _ _
   | exact LeO.none _
   | refine LeO.ite ?_ ?_
   | refine LeO.bind ?_ (fun _ => ?_)
theorem guichetlaw16_MoneyTexts.mono : ∀ a0 a1 a2 a3 a4 k, LeO (guichetlaw16_MoneyTexts.f k a0 a1 a2 a3 a4) (guichetlaw16_MoneyTexts.f (k + 1) a0 a1 a2 a3 a4) := by
 intro a0 a1 a2 a3 a4 k
 obtain ⟨ih0, ih1, ih2⟩ := guichetlaw16_MoneyTexts.mono_l k
 unfold guichetlaw16_MoneyTexts.f
 repeat' first
   | (with_reducible exact ih0 _ _ _ _ _ _)
   | (with_reducible exact ih1 _ _ _ _ _ _ _ _)
   | (with_reducible exact ih2 _ _ _ _ _ _ _ _ _)
   | (with_reducible exact guichetref12_MoneyParse.mono _ _)
   | (with_reducible exact guichetref12_MoneyText.mono _ _)
   | (with_reducible exact guichetref1_Digits.mono _ _ _)
   | (with_reducible exact LeO.refl _)
   | (with_reducible exact LeO.none _)
   | (with_reducible refine LeO.ite ?_ ?_)
   | (with_reducible refine LeO.bind ?_ (fun _ => ?_))
   | exact ih0 _ _ _ _ _ _
   | exact ih1 _ _ _ _ _ _ _ _
   | exact ih2 _ _ _ _ _ _ _ _ _
   | exact guichetref12_MoneyParse.mono _ _
   | exact guichetref12_MoneyText.mono _ _
   | exact guichetref1_Digits.mono _ _ _
   | exact LeO.none _
   | refine LeO.ite ?_ ?_
   | refine LeO.bind ?_ (fun _ => ?_)
set_option maxHeartbeats 8000000 in
set_option maxRecDepth 100000 in
theorem guichetlaw16_MoneyTexts.calls (k : Nat) (a0 : Int) (a1 : ByteArray) (a2 : Int) (a3 : Int) (a4 : Int) (r : Bool) (w : World) (hT : TAB w) (h : guichetlaw16_MoneyTexts.f k a0 a1 a2 a3 a4 = some r) :
  Calls Tryd.prog 3 #[.int .i64 a0, .string a1, .int .u8 a2, .int .u8 a3, .int .u8 a4] w fun e w' => e = .returned (.bool r) ∧ Below w.heap.size w w' := by
 have HT := Aside0.mk hT
 clear hT
 have HB := Aside0.mk (Below.refl w.heap.size w)
 have H : ((guichetlaw16_known.f).bind fun t116 => (if t116 = true then (if (a1.size : Int) > 60 then (some true) else (if 0 ≤ (Go.bits .and .u8 a2 63) then ((some (([a0, shr .i64 a0 (Go.bits .and .u8 a2 63), wrap64 (-(shr .i64 a0 (Go.bits .and .u8 a2 63))), (-9223372036854775808), 9223372036854775807] : List Int) : List Int)).bind fun y117 => (guichetlaw16_MoneyTexts.l0 k a1 a3 a4 y117 (y117.length : Int) 0)) else (none))) else (none))) = some r := h
 clear h
 replace H := Option.bind_eq_some_iff.mp H
 obtain ⟨t116, A60, H⟩ := H
 replace H : (if t116 = true then (if (a1.size : Int) > 60 then (some true) else (if 0 ≤ (Go.bits .and .u8 a2 63) then ((some (([a0, shr .i64 a0 (Go.bits .and .u8 a2 63), wrap64 (-(shr .i64 a0 (Go.bits .and .u8 a2 63))), (-9223372036854775808), 9223372036854775807] : List Int) : List Int)).bind fun y117 => (guichetlaw16_MoneyTexts.l0 k a1 a3 a4 y117 (y117.length : Int) 0)) else (none))) else (none)) = some r := H
 have A6 := Aside0.mk A60
 clear A60
 by_cases c7 : t116 = true
 ·subst c7
  have H1 : (if (a1.size : Int) > 60 then (some true) else (if 0 ≤ (Go.bits .and .u8 a2 63) then ((some (([a0, shr .i64 a0 (Go.bits .and .u8 a2 63), wrap64 (-(shr .i64 a0 (Go.bits .and .u8 a2 63))), (-9223372036854775808), 9223372036854775807] : List Int) : List Int)).bind fun y117 => (guichetlaw16_MoneyTexts.l0 k a1 a3 a4 y117 (y117.length : Int) 0)) else (none))) = some r := by rw [if_pos rfl] at H; exact H
  clear H
  have H := H1
  clear H1
  by_cases c8 : (a1.size : Int) > 60
  ·rw [if_pos c8] at H
   have c8b0 : decide (60 < (a1.size : Int)) = true := decide_eq_true c8
   have c8b1 : decide (60 < a1.size) = true := decide_eq_true (by omega)
   clear c8
   obtain rfl := Option.some.inj H
   go_enter Tryd.func3, Tryd.ntmps3
   go_wp2_with (first | ((with_reducible refine gate_callee (f := 6) rfl ?_); refine goesL_ (some 27) rfl rfl Tryd.func6 (by kernel_rfl) rfl #[] rfl (by (try simp only [List.map_toArray, List.map_cons, List.map_nil]); first | done | rfl | (simp only [List.length_drop, List.length_take]; rfl) | (rw [hsame_])) ?_; (with_reducible refine (guichetlaw16_known.calls  true _ ?side1 A6.out).mono ?_); (case side1 => exact tab_at HT.out (by repeat (first | (with_reducible first | exact HB.out | apply below_alloc | apply pw_below_drewN | apply below_drew1) | exact HB.out))); rintro e w9 ⟨rfl, hb⟩; refine ⟨_, rfl, ?_⟩; have n0_ := Aside0.mk (below_step (by repeat (first | (with_reducible first | exact HB.out | apply below_alloc | apply pw_below_drewN | apply below_drew1) | exact HB.out)) hb); clear HB; have HB := n0_; clear n0_; (try clear hb); (try clear hb2); (try clear hk); (try clear hi)))
   go_ret
   exact ⟨by first | rfl | (simp [errW_none, errW_some] <;> rfl) | (simp [*, errW_none, errW_some] <;> rfl), by repeat (first | (with_reducible first | exact HB.out | apply below_alloc | apply pw_below_drewN | apply below_drew1) | exact HB.out)⟩
  ·rw [if_neg c8] at H
   have c8b0 : decide (60 < (a1.size : Int)) = false := decide_eq_false c8
   have c8b1 : decide (60 < a1.size) = false := decide_eq_false (by omega)
   clear c8
   by_cases c10 : 0 ≤ (Go.bits .and .u8 a2 63)
   ·rw [if_pos c10] at H
    have c10b0 := eq_true c10
    have c10b1 : decide (0 ≤ (Go.bits .and .u8 a2 63)) = true := decide_eq_true c10
    clear c10
    obtain ⟨ji11, hji11⟩ : ∃ j_ : Int, (shr .i64 a0 (Go.bits .and .u8 a2 63)) = j_ := ⟨_, rfl⟩
    replace H : ((some (([a0, ji11, wrap64 (-(ji11)), (-9223372036854775808), 9223372036854775807] : List Int) : List Int)).bind fun y117 => (guichetlaw16_MoneyTexts.l0 k a1 a3 a4 y117 (y117.length : Int) 0)) = some r := by first | (rw [hji11] at H; exact H) | (simp only [hji11] at H ⊢; exact H)
    (try rw [hji11] at A6)
    have hji11_ : (a0 / 2 ^ min (Go.bits .and .u8 a2 63).toNat 64) = ji11 := hji11
    have hji11z : (Go.bits .and .u8 a2 63) ≤ 64 → (a0 / 2 ^ (Go.bits .and .u8 a2 63).toNat) = ji11 := shr_small hji11
    have c12b0 := eq_true (of_decide_eq_true (by first | (with_reducible assumption) | assumption) : 0 ≤ (Go.bits .and .u8 a2 63))
    obtain ⟨y117, hy117⟩ : ∃ y_ : List Int, y_ = (([a0, ji11, wrap64 (-(ji11)), (-9223372036854775808), 9223372036854775807] : List Int)) := ⟨_, rfl⟩
    replace H : (guichetlaw16_MoneyTexts.l0 k a1 a3 a4 y117 (y117.length : Int) 0) = some r := by first | (rw [hy117]; with_reducible exact H) | (have H2_ := (Option.bind_some _ _).symm.trans H; rw [hy117]; with_reducible exact H2_) | (have H2_ := (Option.bind_some _ _).symm.trans H; with_reducible exact H2_) | with_reducible exact H | (rw [hy117]; exact H) | exact H
    have Ny117 := Aside0.mk hy117
    clear hy117
    have H' := Aside0.mk H
    clear H
    go_enter Tryd.func3, Tryd.ntmps3
    go_wp2_with (first | ((with_reducible refine gate_callee (f := 6) rfl ?_); refine goesL_ (some 27) rfl rfl Tryd.func6 (by kernel_rfl) rfl #[] rfl (by (try simp only [List.map_toArray, List.map_cons, List.map_nil]); first | done | rfl | (simp only [List.length_drop, List.length_take]; rfl) | (rw [hsame_])) ?_; (with_reducible refine (guichetlaw16_known.calls  true _ ?side1 A6.out).mono ?_); (case side1 => exact tab_at HT.out (by repeat (first | (with_reducible first | exact HB.out | apply below_alloc | apply pw_below_drewN | apply below_drew1) | exact HB.out))); rintro e w14 ⟨rfl, hb⟩; refine ⟨_, rfl, ?_⟩; have n0_ := Aside0.mk (below_step (by repeat (first | (with_reducible first | exact HB.out | apply below_alloc | apply pw_below_drewN | apply below_drew1) | exact HB.out)) hb); clear HB; have HB := n0_; clear n0_; (try clear hb); (try clear hb2); (try clear hk); (try clear hi)) | ((with_reducible refine gate_dst (N := 42) rfl ?_); refine Kd.R_lit (Kd.int .i64) _ 2 ?hg (N := 42) ?hd (xs := ([a0, ji11, wrap64 (-(ji11)), (-9223372036854775808), 9223372036854775807] : List Int)) (inner := [.int .i64 a0, .int .i64 ji11, .int .i64 (wrap64 (-(ji11))), .int .i64 (-9223372036854775808), .int .i64 9223372036854775807]) (ok := fun _ => True) (okp := fun _ => True) ?hr ?hp (fun _ hk => hk) trivial (Below.refl _ _) (Nat.le_refl _) (by simp) ?_; (case hd => rfl); (case hg => rfl); (case hr => first | (go_simp; done) | (go_simp; rfl)); (case hp => exact (Reps.one (show Kd.M (Kd.int .i64) _ _ _ a0 [.int .i64 a0] from rfl) (Reps.one (show Kd.M (Kd.int .i64) _ _ _ ji11 [.int .i64 ji11] from rfl) (Reps.one (show Kd.M (Kd.int .i64) _ _ _ (wrap64 (-(ji11))) [.int .i64 (wrap64 (-(ji11)))] from rfl) (Reps.one (show Kd.M (Kd.int .i64) _ _ _ (-9223372036854775808) [.int .i64 (-9223372036854775808)] from rfl) (Reps.one (show Kd.M (Kd.int .i64) _ _ _ 9223372036854775807 [.int .i64 9223372036854775807] from rfl) (Reps.none _ _))))))); intro v118 w15 ho16 hb hg_ hnew_; clear hg_ hnew_; (first | rw [← Ny117.out] at ho16 | (simp only [Int.reduceToNat] at ho16; rw [← Ny117.out] at ho16)); have n0_ := Aside0.mk (Kd.R_lower ho16 (below_size (by repeat (first | (with_reducible first | exact HB.out | apply below_alloc | apply pw_below_drewN | apply below_drew1) | exact HB.out)))); have n1_ := Aside0.mk (below_step (by repeat (first | (with_reducible first | exact HB.out | apply below_alloc | apply pw_below_drewN | apply below_drew1) | exact HB.out)) hb); clear HB; have HO119 := n0_; have HB := n1_; clear n0_ n1_; clear hb ho16; obtain ⟨Ao17, co17, eo17⟩ := Kd.R_slice HO119.out; subst eo17))
    go_loopg [44] k (fun kq v44 w' => ∃ (x44_1 : Int), v44 = .int .i64 x44_1 ∧ Aside0 (guichetlaw16_MoneyTexts.l0 kq a1 a3 a4 y117 (y117.length : Int) x44_1 = some r) ∧ Aside0 (kq ≤ k) ∧ Aside0 (Kd.R (Kd.int .i64) 2 w' w.heap.size (fun _ => True) (.slice Ao17 y117.length co17) y117) ∧ Aside0 (Below w.heap.size w w'))
    case atStart => exact ⟨(0), (by first | rfl | (simp; done) | (simp [*]; done)), H', ⟨Nat.le_refl _⟩, ⟨by (with_reducible repeat (first | apply Kd.R_alloc | apply Kd.R_drewN | apply Kd.R_drew)); first | exact HO119.out | exact Kd.R_mono HO119.out (fun _ hk_ => by omega)⟩, ⟨by repeat (first | (with_reducible first | exact HB.out | apply below_alloc | apply pw_below_drewN | apply below_drew1) | exact HB.out)⟩⟩
    case round =>
     clear H'
     try clear c1
     try clear p2
     try clear c3
     try clear c6
     try clear p6
     try clear c7
     try clear c8
     try clear c8b0
     try clear c8b1
     try clear c10
     try clear c10b0
     try clear c10b1
     try clear c12
     try clear c12b0
     try clear c13
     try clear c13b0
     obtain ⟨x44_1, rfl, HA, HK1, HO_42, HB⟩ := hrel
     cases gk with
     | zero => exact absurd HA.out (by simp [guichetlaw16_MoneyTexts.l0])
     | succ k1 =>
      have H := HA.out
      clear HA
      simp only [guichetlaw16_MoneyTexts.l0] at H
      by_cases c18 : x44_1 < (y117.length : Int)
      ·rw [if_pos c18] at H
       have c18b0 : decide (x44_1 < (y117.length : Int)) = true := decide_eq_true c18
       clear c18
       by_cases c19 : 0 ≤ x44_1
       ·rw [if_pos c19] at H
        have c19b0 : decide (0 ≤ x44_1) = true := decide_eq_true c19
        clear c19
        by_cases c20 : x44_1 < (y117.length : Int)
        ·rw [if_pos c20] at H
         have c20b0 : decide (x44_1 < (y117.length : Int)) = true := decide_eq_true c20
         clear c20
         replace H := Option.bind_eq_some_iff.mp H
         obtain ⟨t121, A210, H⟩ := H
         replace H : ((money_Parse.f t121).bind fun bt122 => ((money_Field.f (rd y117 x44_1)).bind fun bt124 => ((guichetref1_Digits.f k1 (rd y117 x44_1) 12).bind fun bt126 => ((guichetref12_MoneyText.f k1 (rd y117 x44_1)).bind fun t128 => (if t121.toList = t128.toList then (if bt122.1 = (rd y117 x44_1) then (if bt122.2 = true then (if bt124.1.toList = bt126.1.toList then (guichetlaw16_MoneyTexts.j1 k1 a1 a3 a4 t121 y117 (y117.length : Int) x44_1 (bt124.2 != bt126.2)) else (guichetlaw16_MoneyTexts.j1 k1 a1 a3 a4 t121 y117 (y117.length : Int) x44_1 true)) else (guichetlaw16_MoneyTexts.j1 k1 a1 a3 a4 t121 y117 (y117.length : Int) x44_1 true)) else (guichetlaw16_MoneyTexts.j1 k1 a1 a3 a4 t121 y117 (y117.length : Int) x44_1 true)) else (guichetlaw16_MoneyTexts.j1 k1 a1 a3 a4 t121 y117 (y117.length : Int) x44_1 true)))))) = some r := H
         have A21 := Aside0.mk A210
         clear A210
         replace H := Option.bind_eq_some_iff.mp H
         obtain ⟨⟨t122, t123⟩, A220, H⟩ := H
         replace H : ((money_Field.f (rd y117 x44_1)).bind fun bt124 => ((guichetref1_Digits.f k1 (rd y117 x44_1) 12).bind fun bt126 => ((guichetref12_MoneyText.f k1 (rd y117 x44_1)).bind fun t128 => (if t121.toList = t128.toList then (if t122 = (rd y117 x44_1) then (if t123 = true then (if bt124.1.toList = bt126.1.toList then (guichetlaw16_MoneyTexts.j1 k1 a1 a3 a4 t121 y117 (y117.length : Int) x44_1 (bt124.2 != bt126.2)) else (guichetlaw16_MoneyTexts.j1 k1 a1 a3 a4 t121 y117 (y117.length : Int) x44_1 true)) else (guichetlaw16_MoneyTexts.j1 k1 a1 a3 a4 t121 y117 (y117.length : Int) x44_1 true)) else (guichetlaw16_MoneyTexts.j1 k1 a1 a3 a4 t121 y117 (y117.length : Int) x44_1 true)) else (guichetlaw16_MoneyTexts.j1 k1 a1 a3 a4 t121 y117 (y117.length : Int) x44_1 true))))) = some r := H
         have A22 := Aside0.mk A220
         clear A220
         replace H := Option.bind_eq_some_iff.mp H
         obtain ⟨⟨t124, t125⟩, A230, H⟩ := H
         replace H : ((guichetref1_Digits.f k1 (rd y117 x44_1) 12).bind fun bt126 => ((guichetref12_MoneyText.f k1 (rd y117 x44_1)).bind fun t128 => (if t121.toList = t128.toList then (if t122 = (rd y117 x44_1) then (if t123 = true then (if t124.toList = bt126.1.toList then (guichetlaw16_MoneyTexts.j1 k1 a1 a3 a4 t121 y117 (y117.length : Int) x44_1 (t125 != bt126.2)) else (guichetlaw16_MoneyTexts.j1 k1 a1 a3 a4 t121 y117 (y117.length : Int) x44_1 true)) else (guichetlaw16_MoneyTexts.j1 k1 a1 a3 a4 t121 y117 (y117.length : Int) x44_1 true)) else (guichetlaw16_MoneyTexts.j1 k1 a1 a3 a4 t121 y117 (y117.length : Int) x44_1 true)) else (guichetlaw16_MoneyTexts.j1 k1 a1 a3 a4 t121 y117 (y117.length : Int) x44_1 true)))) = some r := H
         have A23 := Aside0.mk A230
         clear A230
         replace H := Option.bind_eq_some_iff.mp H
         obtain ⟨⟨t126, t127⟩, A240, H⟩ := H
         replace H : ((guichetref12_MoneyText.f k1 (rd y117 x44_1)).bind fun t128 => (if t121.toList = t128.toList then (if t122 = (rd y117 x44_1) then (if t123 = true then (if t124.toList = t126.toList then (guichetlaw16_MoneyTexts.j1 k1 a1 a3 a4 t121 y117 (y117.length : Int) x44_1 (t125 != t127)) else (guichetlaw16_MoneyTexts.j1 k1 a1 a3 a4 t121 y117 (y117.length : Int) x44_1 true)) else (guichetlaw16_MoneyTexts.j1 k1 a1 a3 a4 t121 y117 (y117.length : Int) x44_1 true)) else (guichetlaw16_MoneyTexts.j1 k1 a1 a3 a4 t121 y117 (y117.length : Int) x44_1 true)) else (guichetlaw16_MoneyTexts.j1 k1 a1 a3 a4 t121 y117 (y117.length : Int) x44_1 true))) = some r := H
         have A24 := Aside0.mk A240
         clear A240
         have HC25 := Aside0.mk H
         clear H
         have p120 : 0 ≤ (x44_1 : Int) := of_decide_eq_true (by first | (with_reducible assumption) | assumption)
         have q120 : x44_1 < (y117.length : Int) := of_decide_eq_true (by first | (with_reducible assumption) | assumption)
         obtain ⟨ad120, e120, hx120_0⟩ := Kd.at_int (Kd.R_reads' HO_42.out).2.2 x44_1 p120 q120
         cases e120
         replace p120 := eq_true p120
         replace q120 := eq_true q120
         go_upto_region 12 with (first | ((with_reducible refine gate_callee (f := 7) rfl ?_); refine goesL_ (some 49) rfl rfl Tryd.func7 (by kernel_rfl) rfl #[.int .i64 (rd y117 x44_1)] rfl (by (try simp only [List.map_toArray, List.map_cons, List.map_nil]); first | done | rfl | (simp only [List.length_drop, List.length_take]; rfl) | (rw [hsame_])) ?_; (with_reducible refine (money_Text.calls (rd y117 x44_1) t121 _ ?side1 A21.out).mono ?_); (case side1 => exact tab_at HT.out (by repeat (first | (with_reducible first | exact HB.out | apply below_alloc | apply pw_below_drewN | apply below_drew1) | exact HB.out))); rintro e w26 ⟨rfl, hb⟩; refine ⟨_, rfl, ?_⟩; have n0_ := Aside0.mk (Kd.R_below (by (with_reducible repeat (first | apply Kd.R_alloc | apply Kd.R_drewN | apply Kd.R_drew)); exact HO_42.out) hb); have n1_ := Aside0.mk (below_step (by repeat (first | (with_reducible first | exact HB.out | apply below_alloc | apply pw_below_drewN | apply below_drew1) | exact HB.out)) hb); clear HO_42; clear HB; have HO_42 := n0_; have HB := n1_; clear n0_ n1_; (try clear hb); (try clear hb2); (try clear hk); (try clear hi)) | ((with_reducible refine gate_callee (f := 8) rfl ?_); refine goesL_ (some 52) rfl rfl Tryd.func8 (by kernel_rfl) rfl #[.string t121] rfl (by (try simp only [List.map_toArray, List.map_cons, List.map_nil]); first | done | rfl | (simp only [List.length_drop, List.length_take]; rfl) | (rw [hsame_])) ?_; (with_reducible refine (money_Parse.calls t121 t122 t123 _ ?side1 A22.out).mono ?_); (case side1 => exact tab_at HT.out (by repeat (first | (with_reducible first | exact HB.out | apply below_alloc | apply pw_below_drewN | apply below_drew1) | exact HB.out))); rintro e w27 ⟨rfl, hb⟩; refine ⟨_, rfl, ?_⟩; have n0_ := Aside0.mk (Kd.R_below (by (with_reducible repeat (first | apply Kd.R_alloc | apply Kd.R_drewN | apply Kd.R_drew)); exact HO_42.out) hb); have n1_ := Aside0.mk (below_step (by repeat (first | (with_reducible first | exact HB.out | apply below_alloc | apply pw_below_drewN | apply below_drew1) | exact HB.out)) hb); clear HO_42; clear HB; have HO_42 := n0_; have HB := n1_; clear n0_ n1_; (try clear hb); (try clear hb2); (try clear hk); (try clear hi)) | ((with_reducible refine gate_callee (f := 9) rfl ?_); refine goesL_ (some 57) rfl rfl Tryd.func9 (by kernel_rfl) rfl #[.int .i64 (rd y117 x44_1)] rfl (by (try simp only [List.map_toArray, List.map_cons, List.map_nil]); first | done | rfl | (simp only [List.length_drop, List.length_take]; rfl) | (rw [hsame_])) ?_; (with_reducible refine (money_Field.calls (rd y117 x44_1) t124 t125 _ ?side1 A23.out).mono ?_); (case side1 => exact tab_at HT.out (by repeat (first | (with_reducible first | exact HB.out | apply below_alloc | apply pw_below_drewN | apply below_drew1) | exact HB.out))); rintro e w28 ⟨rfl, hb⟩; refine ⟨_, rfl, ?_⟩; have n0_ := Aside0.mk (Kd.R_below (by (with_reducible repeat (first | apply Kd.R_alloc | apply Kd.R_drewN | apply Kd.R_drew)); exact HO_42.out) hb); have n1_ := Aside0.mk (below_step (by repeat (first | (with_reducible first | exact HB.out | apply below_alloc | apply pw_below_drewN | apply below_drew1) | exact HB.out)) hb); clear HO_42; clear HB; have HO_42 := n0_; have HB := n1_; clear n0_ n1_; (try clear hb); (try clear hb2); (try clear hk); (try clear hi)) | ((with_reducible refine gate_callee (f := 10) rfl ?_); refine goesL_ (some 62) rfl rfl Tryd.func10 (by kernel_rfl) rfl #[.int .i64 (rd y117 x44_1), .int .i64 12] rfl (by (try simp only [List.map_toArray, List.map_cons, List.map_nil]); first | done | rfl | (simp only [List.length_drop, List.length_take]; rfl) | (rw [hsame_])) ?_; (with_reducible refine (guichetref1_Digits.calls k1 (rd y117 x44_1) 12 t126 t127 _ A24.out).mono ?_); rintro e w' ⟨rfl, ⟨nd, rfl⟩⟩; refine ⟨_, rfl, ?_⟩))
         (try simp only [Act.put, List.setIfInBounds_toArray, List.set_cons_zero, List.set_cons_succ])
         go_cut [87] (fun v87 wc => ∃ (kq : Nat) (x87_24 : Bool), v87 = .bool x87_24 ∧ Aside0 (guichetlaw16_MoneyTexts.j1 kq a1 a3 a4 t121 y117 (y117.length : Int) x44_1 x87_24 = some r) ∧ Aside0 (kq ≤ k1) ∧ Aside0 (Kd.R (Kd.int .i64) 2 wc w.heap.size (fun _ => True) (.slice (some ad120) y117.length co17) y117) ∧ Aside0 (Below w.heap.size w wc))
         case first =>
          have H := HC25.out
          clear HC25
          replace H := Option.bind_eq_some_iff.mp H
          obtain ⟨t128, A290, H⟩ := H
          replace H : (if t121.toList = t128.toList then (if t122 = (rd y117 x44_1) then (if t123 = true then (if t124.toList = t126.toList then (guichetlaw16_MoneyTexts.j1 k1 a1 a3 a4 t121 y117 (y117.length : Int) x44_1 (t125 != t127)) else (guichetlaw16_MoneyTexts.j1 k1 a1 a3 a4 t121 y117 (y117.length : Int) x44_1 true)) else (guichetlaw16_MoneyTexts.j1 k1 a1 a3 a4 t121 y117 (y117.length : Int) x44_1 true)) else (guichetlaw16_MoneyTexts.j1 k1 a1 a3 a4 t121 y117 (y117.length : Int) x44_1 true)) else (guichetlaw16_MoneyTexts.j1 k1 a1 a3 a4 t121 y117 (y117.length : Int) x44_1 true)) = some r := H
          have A29 := Aside0.mk A290
          clear A290
          by_cases c30 : t121.toList = t128.toList
          ·rw [if_pos c30] at H
           have c30b0 : (t121.toList == t128.toList) = true := beq_iff_eq.mpr c30
           have c30b1 : (t121.toList != t128.toList) = false := bne_eq_false_iff_eq.mpr c30
           clear c30
           (first | rw [c30b0] | rw [c30b1] | (simp only [i64_w, i32_w]; rw [c30b0]) | skip)
           by_cases c31 : t122 = (rd y117 x44_1)
           ·rw [if_pos c31] at H
            have c31b0 : (t122 == (rd y117 x44_1)) = true := beq_iff_eq.mpr c31
            have c31b1 : (t122 != (rd y117 x44_1)) = false := bne_eq_false_iff_eq.mpr c31
            clear c31
            by_cases c32 : t123 = true
            ·subst c32
             have H1 : (if t124.toList = t126.toList then (guichetlaw16_MoneyTexts.j1 k1 a1 a3 a4 t121 y117 (y117.length : Int) x44_1 (t125 != t127)) else (guichetlaw16_MoneyTexts.j1 k1 a1 a3 a4 t121 y117 (y117.length : Int) x44_1 true)) = some r := by rw [if_pos rfl] at H; exact H
             clear H
             have H := H1
             clear H1
             by_cases c33 : t124.toList = t126.toList
             ·rw [if_pos c33] at H
              have c33b0 : (t124.toList == t126.toList) = true := beq_iff_eq.mpr c33
              have c33b1 : (t124.toList != t126.toList) = false := bne_eq_false_iff_eq.mpr c33
              clear c33
              have H' := Aside0.mk H
              clear H
              go_wp2_with (first | ((with_reducible refine gate_callee (f := 11) rfl ?_); refine goesL_ (some 67) rfl rfl Tryd.func11 (by kernel_rfl) rfl #[.int .i64 (rd y117 x44_1)] rfl (by (try simp only [List.map_toArray, List.map_cons, List.map_nil]); first | done | rfl | (simp only [List.length_drop, List.length_take]; rfl) | (rw [hsame_])) ?_; (with_reducible refine (guichetref12_MoneyText.calls k1 (rd y117 x44_1) t128 _ A29.out).mono ?_); rintro e w34 ⟨rfl, hb⟩; refine ⟨_, rfl, ?_⟩; have n0_ := Aside0.mk (Kd.R_below (by (with_reducible repeat (first | apply Kd.R_alloc | apply Kd.R_drewN | apply Kd.R_drew)); exact HO_42.out) hb); have n1_ := Aside0.mk (below_step (by repeat (first | (with_reducible first | exact HB.out | apply below_alloc | apply pw_below_drewN | apply below_drew1) | exact HB.out)) hb); clear HO_42; clear HB; have HO_42 := n0_; have HB := n1_; clear n0_ n1_; (try clear hb); (try clear hb2); (try clear hk); (try clear hi)))
              go_meet
              case rel => exact ⟨_, ((t125 != t127)), (by first | rfl | (simp; done) | (simp [*]; done)), H', ⟨by have := HK1.out; first | omega | exact Nat.le_refl _⟩, ⟨by (with_reducible repeat (first | apply Kd.R_alloc | apply Kd.R_drewN | apply Kd.R_drew)); first | exact HO_42.out | exact Kd.R_mono HO_42.out (fun _ hk_ => by omega)⟩, ⟨by repeat (first | (with_reducible first | exact HB.out | apply below_alloc | apply pw_below_drewN | apply below_drew1) | exact HB.out)⟩⟩
             ·rw [if_neg c33] at H
              have c33b0 : (t124.toList == t126.toList) = false := beq_eq_false_iff_ne.mpr c33
              have c33b1 : (t124.toList != t126.toList) = true := bne_iff_ne.mpr c33
              have H' := Aside0.mk H
              clear H
              go_wp2_with (first | ((with_reducible refine gate_callee (f := 11) rfl ?_); refine goesL_ (some 67) rfl rfl Tryd.func11 (by kernel_rfl) rfl #[.int .i64 (rd y117 x44_1)] rfl (by (try simp only [List.map_toArray, List.map_cons, List.map_nil]); first | done | rfl | (simp only [List.length_drop, List.length_take]; rfl) | (rw [hsame_])) ?_; (with_reducible refine (guichetref12_MoneyText.calls k1 (rd y117 x44_1) t128 _ A29.out).mono ?_); rintro e w35 ⟨rfl, hb⟩; refine ⟨_, rfl, ?_⟩; have n0_ := Aside0.mk (Kd.R_below (by (with_reducible repeat (first | apply Kd.R_alloc | apply Kd.R_drewN | apply Kd.R_drew)); exact HO_42.out) hb); have n1_ := Aside0.mk (below_step (by repeat (first | (with_reducible first | exact HB.out | apply below_alloc | apply pw_below_drewN | apply below_drew1) | exact HB.out)) hb); clear HO_42; clear HB; have HO_42 := n0_; have HB := n1_; clear n0_ n1_; (try clear hb); (try clear hb2); (try clear hk); (try clear hi)))
              go_meet
              case rel => exact ⟨_, (true), (by first | rfl | (simp; done) | (simp [*]; done)), H', ⟨by have := HK1.out; first | omega | exact Nat.le_refl _⟩, ⟨by (with_reducible repeat (first | apply Kd.R_alloc | apply Kd.R_drewN | apply Kd.R_drew)); first | exact HO_42.out | exact Kd.R_mono HO_42.out (fun _ hk_ => by omega)⟩, ⟨by repeat (first | (with_reducible first | exact HB.out | apply below_alloc | apply pw_below_drewN | apply below_drew1) | exact HB.out)⟩⟩
            ·replace c32 := Bool.eq_false_iff.mpr c32
             subst c32
             have H1 : (guichetlaw16_MoneyTexts.j1 k1 a1 a3 a4 t121 y117 (y117.length : Int) x44_1 true) = some r := by rw [if_neg (show ¬ (false = true) by decide)] at H; exact H
             clear H
             have H := H1
             clear H1
             have H' := Aside0.mk H
             clear H
             go_wp2_with (first | ((with_reducible refine gate_callee (f := 11) rfl ?_); refine goesL_ (some 67) rfl rfl Tryd.func11 (by kernel_rfl) rfl #[.int .i64 (rd y117 x44_1)] rfl (by (try simp only [List.map_toArray, List.map_cons, List.map_nil]); first | done | rfl | (simp only [List.length_drop, List.length_take]; rfl) | (rw [hsame_])) ?_; (with_reducible refine (guichetref12_MoneyText.calls k1 (rd y117 x44_1) t128 _ A29.out).mono ?_); rintro e w36 ⟨rfl, hb⟩; refine ⟨_, rfl, ?_⟩; have n0_ := Aside0.mk (Kd.R_below (by (with_reducible repeat (first | apply Kd.R_alloc | apply Kd.R_drewN | apply Kd.R_drew)); exact HO_42.out) hb); have n1_ := Aside0.mk (below_step (by repeat (first | (with_reducible first | exact HB.out | apply below_alloc | apply pw_below_drewN | apply below_drew1) | exact HB.out)) hb); clear HO_42; clear HB; have HO_42 := n0_; have HB := n1_; clear n0_ n1_; (try clear hb); (try clear hb2); (try clear hk); (try clear hi)))
             go_meet
             case rel => exact ⟨_, (true), (by first | rfl | (simp; done) | (simp [*]; done)), H', ⟨by have := HK1.out; first | omega | exact Nat.le_refl _⟩, ⟨by (with_reducible repeat (first | apply Kd.R_alloc | apply Kd.R_drewN | apply Kd.R_drew)); first | exact HO_42.out | exact Kd.R_mono HO_42.out (fun _ hk_ => by omega)⟩, ⟨by repeat (first | (with_reducible first | exact HB.out | apply below_alloc | apply pw_below_drewN | apply below_drew1) | exact HB.out)⟩⟩
           ·rw [if_neg c31] at H
            have c31b0 : (t122 == (rd y117 x44_1)) = false := beq_eq_false_iff_ne.mpr c31
            have c31b1 : (t122 != (rd y117 x44_1)) = true := bne_iff_ne.mpr c31
            have H' := Aside0.mk H
            clear H
            go_wp2_with (first | ((with_reducible refine gate_callee (f := 11) rfl ?_); refine goesL_ (some 67) rfl rfl Tryd.func11 (by kernel_rfl) rfl #[.int .i64 (rd y117 x44_1)] rfl (by (try simp only [List.map_toArray, List.map_cons, List.map_nil]); first | done | rfl | (simp only [List.length_drop, List.length_take]; rfl) | (rw [hsame_])) ?_; (with_reducible refine (guichetref12_MoneyText.calls k1 (rd y117 x44_1) t128 _ A29.out).mono ?_); rintro e w37 ⟨rfl, hb⟩; refine ⟨_, rfl, ?_⟩; have n0_ := Aside0.mk (Kd.R_below (by (with_reducible repeat (first | apply Kd.R_alloc | apply Kd.R_drewN | apply Kd.R_drew)); exact HO_42.out) hb); have n1_ := Aside0.mk (below_step (by repeat (first | (with_reducible first | exact HB.out | apply below_alloc | apply pw_below_drewN | apply below_drew1) | exact HB.out)) hb); clear HO_42; clear HB; have HO_42 := n0_; have HB := n1_; clear n0_ n1_; (try clear hb); (try clear hb2); (try clear hk); (try clear hi)))
            go_meet
            case rel => exact ⟨_, (true), (by first | rfl | (simp; done) | (simp [*]; done)), H', ⟨by have := HK1.out; first | omega | exact Nat.le_refl _⟩, ⟨by (with_reducible repeat (first | apply Kd.R_alloc | apply Kd.R_drewN | apply Kd.R_drew)); first | exact HO_42.out | exact Kd.R_mono HO_42.out (fun _ hk_ => by omega)⟩, ⟨by repeat (first | (with_reducible first | exact HB.out | apply below_alloc | apply pw_below_drewN | apply below_drew1) | exact HB.out)⟩⟩
          ·rw [if_neg c30] at H
           have c30b0 : (t121.toList == t128.toList) = false := beq_eq_false_iff_ne.mpr c30
           have c30b1 : (t121.toList != t128.toList) = true := bne_iff_ne.mpr c30
           (first | rw [c30b0] | rw [c30b1] | (simp only [i64_w, i32_w]; rw [c30b0]) | skip)
           have H' := Aside0.mk H
           clear H
           go_wp2_with (first | ((with_reducible refine gate_callee (f := 11) rfl ?_); refine goesL_ (some 67) rfl rfl Tryd.func11 (by kernel_rfl) rfl #[.int .i64 (rd y117 x44_1)] rfl (by (try simp only [List.map_toArray, List.map_cons, List.map_nil]); first | done | rfl | (simp only [List.length_drop, List.length_take]; rfl) | (rw [hsame_])) ?_; (with_reducible refine (guichetref12_MoneyText.calls k1 (rd y117 x44_1) t128 _ A29.out).mono ?_); rintro e w38 ⟨rfl, hb⟩; refine ⟨_, rfl, ?_⟩; have n0_ := Aside0.mk (Kd.R_below (by (with_reducible repeat (first | apply Kd.R_alloc | apply Kd.R_drewN | apply Kd.R_drew)); exact HO_42.out) hb); have n1_ := Aside0.mk (below_step (by repeat (first | (with_reducible first | exact HB.out | apply below_alloc | apply pw_below_drewN | apply below_drew1) | exact HB.out)) hb); clear HO_42; clear HB; have HO_42 := n0_; have HB := n1_; clear n0_ n1_; (try clear hb); (try clear hb2); (try clear hk); (try clear hi)))
           go_meet
           case rel => exact ⟨_, (true), (by first | rfl | (simp; done) | (simp [*]; done)), H', ⟨by have := HK1.out; first | omega | exact Nat.le_refl _⟩, ⟨by (with_reducible repeat (first | apply Kd.R_alloc | apply Kd.R_drewN | apply Kd.R_drew)); first | exact HO_42.out | exact Kd.R_mono HO_42.out (fun _ hk_ => by omega)⟩, ⟨by repeat (first | (with_reducible first | exact HB.out | apply below_alloc | apply pw_below_drewN | apply below_drew1) | exact HB.out)⟩⟩
         case rest =>
          clear HC25
          try clear c1
          try clear p1
          try clear q1
          try clear hx1
          try clear c2
          try clear p2
          try clear c3
          try clear c6
          try clear p6
          try clear c7
          try clear c8
          try clear c8b0
          try clear c8b1
          try clear c9
          try clear c10
          try clear c10b0
          try clear c10b1
          try clear c11
          try clear c12
          try clear c12b0
          try clear p12
          try clear q12
          try clear hx12
          try clear c13
          try clear c13b0
          try clear c18
          try clear c18b0
          try clear c19
          try clear c19b0
          try clear c20
          try clear c20b0
          try clear c30
          try clear c30b0
          try clear c30b1
          try clear c31
          try clear c31b0
          try clear c31b1
          try clear c32
          try clear c33
          try clear c33b0
          try clear c33b1
          try clear hx120_0
          try clear p120
          try clear p2
          try clear p6
          try clear q120
          obtain ⟨kq, x87_24, rfl, HA, HJ24, HO_42, HB⟩ := hcut
          cases kq with
          | zero => exact absurd HA.out (by simp [guichetlaw16_MoneyTexts.j1])
          | succ kj24 =>
           have H := HA.out
           clear HA
           simp only [guichetlaw16_MoneyTexts.j1] at H
           by_cases c39 : x87_24 = true
           ·subst c39
            have H1 : (none) = some r := by rw [if_pos rfl] at H; exact H
            clear H
            have H := H1
            clear H1
            exact absurd H (by simp)
           ·replace c39 := Bool.eq_false_iff.mpr c39
            subst c39
            have H1 : ((convBytes.f t121).bind fun t129 => (if (t129.length : Int) = 0 then (none) else (if 0 ≤ (Int.tmod (wrap64 (a3)) (t129.length : Int)) then (if (Int.tmod (wrap64 (a3)) (t129.length : Int)) < (t129.length : Int) then (if 1 + t121.size ≤ 9223372036854775807 then (if t121.size + 1 ≤ 9223372036854775807 then ((some (([a1, strOfNums (t129.set ((Int.tmod (wrap64 (a3)) (t129.length : Int)) : Int).toNat a4), (⟨#[48]⟩ : ByteArray) ++ t121, t121 ++ (⟨#[48]⟩ : ByteArray)] : List ByteArray) : List ByteArray)).bind fun y133 => (guichetlaw16_MoneyTexts.l1 kj24 a1 a3 a4 y117 (y117.length : Int) x44_1 y133 (y133.length : Int) 0)) else (none)) else (none)) else (none)) else (none)))) = some r := by rw [if_neg (show ¬ (false = true) by decide)] at H; exact H
            clear H
            have H := H1
            clear H1
            replace H := Option.bind_eq_some_iff.mp H
            obtain ⟨t129, A400, H⟩ := H
            replace H : (if (t129.length : Int) = 0 then (none) else (if 0 ≤ (Int.tmod (wrap64 (a3)) (t129.length : Int)) then (if (Int.tmod (wrap64 (a3)) (t129.length : Int)) < (t129.length : Int) then (if 1 + t121.size ≤ 9223372036854775807 then (if t121.size + 1 ≤ 9223372036854775807 then ((some (([a1, strOfNums (t129.set ((Int.tmod (wrap64 (a3)) (t129.length : Int)) : Int).toNat a4), (⟨#[48]⟩ : ByteArray) ++ t121, t121 ++ (⟨#[48]⟩ : ByteArray)] : List ByteArray) : List ByteArray)).bind fun y133 => (guichetlaw16_MoneyTexts.l1 kj24 a1 a3 a4 y117 (y117.length : Int) x44_1 y133 (y133.length : Int) 0)) else (none)) else (none)) else (none)) else (none))) = some r := H
            have A40 := Aside0.mk A400
            clear A400
            by_cases c41 : (t129.length : Int) = 0
            ·rw [if_pos c41] at H
             exact absurd H (by simp)
            ·rw [if_neg c41] at H
             have c41b0 : ((t129.length : Int) == 0) = false := beq_eq_false_iff_ne.mpr c41
             have c41b1 : ((t129.length : Int) != 0) = true := bne_iff_ne.mpr c41
             have c41b2 : ¬ (t129 = []) := fun h_ => c41 (by rw [h_]; rfl)
             obtain ⟨ji42, hji42⟩ : ∃ j_ : Int, (Int.tmod (wrap64 (a3)) (t129.length : Int)) = j_ := ⟨_, rfl⟩
             replace H : (if 0 ≤ (ji42) then (if (ji42) < (t129.length : Int) then (if 1 + t121.size ≤ 9223372036854775807 then (if t121.size + 1 ≤ 9223372036854775807 then ((some (([a1, strOfNums (t129.set ((ji42) : Int).toNat a4), (⟨#[48]⟩ : ByteArray) ++ t121, t121 ++ (⟨#[48]⟩ : ByteArray)] : List ByteArray) : List ByteArray)).bind fun y133 => (guichetlaw16_MoneyTexts.l1 kj24 a1 a3 a4 y117 (y117.length : Int) x44_1 y133 (y133.length : Int) 0)) else (none)) else (none)) else (none)) else (none)) = some r := by first | (rw [hji42] at H; exact H) | (simp only [hji42] at H ⊢; exact H)
             (try rw [hji42] at A40)
             by_cases c43 : 0 ≤ (ji42)
             ·rw [if_pos c43] at H
              have c43b0 : decide (0 ≤ (ji42)) = true := decide_eq_true c43
              clear c43
              by_cases c44 : (ji42) < (t129.length : Int)
              ·rw [if_pos c44] at H
               have c44b0 : decide ((ji42) < (t129.length : Int)) = true := decide_eq_true c44
               clear c44
               obtain ⟨y132, hy132⟩ : ∃ y_ : List Int, y_ = (t129.set ((ji42) : Int).toNat a4) := ⟨_, rfl⟩
               replace H : (if 1 + t121.size ≤ 9223372036854775807 then (if t121.size + 1 ≤ 9223372036854775807 then ((some (([a1, strOfNums y132, (⟨#[48]⟩ : ByteArray) ++ t121, t121 ++ (⟨#[48]⟩ : ByteArray)] : List ByteArray) : List ByteArray)).bind fun y133 => (guichetlaw16_MoneyTexts.l1 kj24 a1 a3 a4 y117 (y117.length : Int) x44_1 y133 (y133.length : Int) 0)) else (none)) else (none)) = some r := by first | (rw [hy132]; with_reducible exact H) | (have H2_ := (Option.bind_some _ _).symm.trans H; rw [hy132]; with_reducible exact H2_) | (have H2_ := (Option.bind_some _ _).symm.trans H; with_reducible exact H2_) | with_reducible exact H | (rw [hy132]; exact H) | exact H
               have Ny132 := Aside0.mk hy132
               clear hy132
               by_cases c46 : 1 + t121.size ≤ 9223372036854775807
               ·rw [if_pos c46] at H
                have c46b0 := eq_true c46
                have c46b1 : decide (1 + t121.size ≤ 9223372036854775807) = true := decide_eq_true c46
                try have c46b2 : (9223372036854775807 < 1 + t121.size) = False := eq_false (Nat.not_lt.2 c46)
                by_cases c47 : t121.size + 1 ≤ 9223372036854775807
                ·rw [if_pos c47] at H
                 have c47b0 := eq_true c47
                 have c47b1 : decide (t121.size + 1 ≤ 9223372036854775807) = true := decide_eq_true c47
                 try have c47b2 : (9223372036854775807 < t121.size + 1) = False := eq_false (Nat.not_lt.2 c47)
                 obtain ⟨y133, hy133⟩ : ∃ y_ : List ByteArray, y_ = (([a1, strOfNums y132, (⟨#[48]⟩ : ByteArray) ++ t121, t121 ++ (⟨#[48]⟩ : ByteArray)] : List ByteArray)) := ⟨_, rfl⟩
                 replace H : (guichetlaw16_MoneyTexts.l1 kj24 a1 a3 a4 y117 (y117.length : Int) x44_1 y133 (y133.length : Int) 0) = some r := by first | (rw [hy133]; with_reducible exact H) | (have H2_ := (Option.bind_some _ _).symm.trans H; rw [hy133]; with_reducible exact H2_) | (have H2_ := (Option.bind_some _ _).symm.trans H; with_reducible exact H2_) | with_reducible exact H | (rw [hy133]; exact H) | exact H
                 have Ny133 := Aside0.mk hy133
                 clear hy133
                 have H' := Aside0.mk H
                 clear H
                 go_wp2_with (first | ((with_reducible refine gate_conv (s := 9) (t := 30) rfl ?_); refine convB_law rfl 9 30 5 _ rfl Tryd.underlying9 Tryd.underlying30 Tryd.underlying5 _ _ rfl A40.out ?_; intro v130 w48 ho0 hb; have n0_ := Aside0.mk (Kd.R_below (by (with_reducible repeat (first | apply Kd.R_alloc | apply Kd.R_drewN | apply Kd.R_drew)); exact HO_42.out) hb); have n1_ := Aside0.mk (Kd.B_lower (Kd.B_mono (ok' := fun k_ => True) ho0 (fun _ hk_ => trivial)) (below_size (by repeat (first | (with_reducible first | exact HB.out | apply below_alloc | apply pw_below_drewN | apply below_drew1) | exact HB.out)))); have n2_ := Aside0.mk (below_step (by repeat (first | (with_reducible first | exact HB.out | apply below_alloc | apply pw_below_drewN | apply below_drew1) | exact HB.out)) hb); clear HO_42; clear HB; have HO_42 := n0_; have HO131 := n1_; have HB := n2_; clear n0_ n1_ n2_; (try clear hb); (try clear hb2); (try clear hk); (try clear hi); (try clear ho0); obtain ⟨Ao49, co49, eo49⟩ := Kd.B_slice HO131.out; subst eo49; have p45 : 0 ≤ ((ji42) : Int) := of_decide_eq_true (by first | (with_reducible assumption) | assumption); have q45 : ((ji42) : Int) < ((t129.length : Int) : Int) := of_decide_eq_true (by first | (with_reducible assumption) | assumption); obtain ⟨go45, co45, eo45, gb45, gl45, cl45, HG45⟩ := Kd.B_form HO131.out (by omega); (first | cases eo45 | (injection eo45 with ea_ en_ ec_; (first | subst ea_ | (injection ea_ with ea_; subst ea_)); subst ec_; clear en_)); have GB45 := Aside0.mk gb45; have GG45 := Aside0.mk HG45; clear gb45 gl45 HG45; obtain ⟨hx45_0, hf45_0⟩ := Kd.B_celln 0 HO131.out ((ji42) : Int) p45 q45; replace p45 := eq_true p45; replace q45 := eq_true q45; obtain ⟨hy50_, hz50_⟩ := Kd.B_celln 0 HO131.out ((ji42) : Int) (of_decide_eq_true (by first | (with_reducible assumption) | assumption)) (of_decide_eq_true (by first | (with_reducible assumption) | assumption)); have HP50 := Kd.B_putg HO131.out ((ji42) : Int) a4) | ((with_reducible refine gate_store (t := 5) (p := 97) rfl ?_); refine store_event (t := 5) (p := 97) (v := ?vo_w51) (w1 := (w48.setCell ⟨go45, ((ji42) : Int).toNat, none⟩ (.int .u8 a4))) ?hg ?ho ?hn ?hr ?_; (case ho => rfl); (case hg => rfl); (case hn => rfl); (case hr => first | (go_simp; done) | (go_simp; rfl)); intro w51 hw; have hg : w48.grownBy w51 (some go45) := (by rw [hw]; exact HP50.2); have hp_ : Kd.B (Kd.int .u8) 5 w51 w.heap.size (fun _ => True) (.slice (some ⟨go45, 0, none⟩) t129.length co49) y132 := (by rw [hw, Ny132.out]; exact HP50.1); clear HP50; have n0_ := Aside0.mk (Kd.R_overB (v := (.slice (some ⟨go45, 0, none⟩) t129.length co49)) (by (with_reducible repeat (first | apply Kd.R_alloc | apply Kd.R_drewN | apply Kd.R_drew)); exact HO_42.out) (Kd.B_typed HO131.out) (by decide) hg); have n1_ := Aside0.mk (hp_); have n2_ := Aside0.mk ((by rw [hw]; exact below_set (HB.out) GB45.out : Below w.heap.size w w51)); clear HO_42; clear HO131; clear HB; have HO_42 := n0_; have HO131 := n1_; have HB := n2_; clear n0_ n1_ n2_; clear hg hw hp_; have hcv52 := Kd.B_string (P := Tryd.prog) Tryd.underlying30 Tryd.underlying5 Tryd.underlying9 HO131.out) | ((with_reducible refine gate_dst (N := 105) rfl ?_); refine Kd.R_lit Kd.string _ 9 ?hg (N := 105) ?hd (xs := ([a1, strOfNums y132, (⟨#[48]⟩ : ByteArray) ++ t121, t121 ++ (⟨#[48]⟩ : ByteArray)] : List ByteArray)) (inner := [.string a1, .string (strOfNums y132), .string ((⟨#[48]⟩ : ByteArray) ++ t121), .string (t121 ++ (⟨#[48]⟩ : ByteArray))]) (ok := fun _ => True) (okp := fun _ => True) ?hr ?hp (fun _ hk => hk) trivial (Below.refl _ _) (Nat.le_refl _) (by simp) ?_; (case hd => rfl); (case hg => rfl); (case hr => first | (go_simp; done) | (go_simp; rfl)); (case hp => exact (Reps.one (show Kd.M Kd.string _ _ _ a1 [.string a1] from rfl) (Reps.one (show Kd.M Kd.string _ _ _ (strOfNums y132) [.string (strOfNums y132)] from rfl) (Reps.one (show Kd.M Kd.string _ _ _ ((⟨#[48]⟩ : ByteArray) ++ t121) [.string ((⟨#[48]⟩ : ByteArray) ++ t121)] from rfl) (Reps.one (show Kd.M Kd.string _ _ _ (t121 ++ (⟨#[48]⟩ : ByteArray)) [.string (t121 ++ (⟨#[48]⟩ : ByteArray))] from rfl) (Reps.none _ _)))))); intro v134 w53 ho54 hb hg_ hnew_; clear hg_ hnew_; (first | rw [← Ny133.out] at ho54 | (simp only [Int.reduceToNat] at ho54; rw [← Ny133.out] at ho54)); have n0_ := Aside0.mk (Kd.R_below (by (with_reducible repeat (first | apply Kd.R_alloc | apply Kd.R_drewN | apply Kd.R_drew)); exact HO_42.out) hb); have n1_ := Aside0.mk (Kd.B_below (by (with_reducible repeat (first | apply Kd.B_alloc | apply Kd.B_drewN | apply Kd.B_drew)); exact HO131.out) hb); have n2_ := Aside0.mk (Kd.R_lower ho54 (below_size (by repeat (first | (with_reducible first | exact HB.out | apply below_alloc | apply pw_below_drewN | apply below_drew1) | exact HB.out)))); have n3_ := Aside0.mk (below_step (by repeat (first | (with_reducible first | exact HB.out | apply below_alloc | apply pw_below_drewN | apply below_drew1) | exact HB.out)) hb); clear HO_42; clear HO131; clear HB; have HO_42 := n0_; have HO131 := n1_; have HO135 := n2_; have HB := n3_; clear n0_ n1_ n2_ n3_; clear hb ho54; obtain ⟨Ao55, co55, eo55⟩ := Kd.R_slice HO135.out; subst eo55))
                 go_loopg [107] kj24 (fun kq v107 w' => ∃ (x107_3 : Int), v107 = .int .i64 x107_3 ∧ Aside0 (guichetlaw16_MoneyTexts.l1 kq a1 a3 a4 y117 (y117.length : Int) x44_1 y133 (y133.length : Int) x107_3 = some r) ∧ Aside0 (kq ≤ kj24) ∧ Aside0 (Kd.R (Kd.int .i64) 2 w' w.heap.size (fun _ => True) (.slice (some ad120) y117.length co17) y117) ∧ Aside0 (Kd.R Kd.string 9 w' w.heap.size (fun _ => True) (.slice Ao55 y133.length co55) y133) ∧ Aside0 (Below w.heap.size w w'))
                 case atStart => exact ⟨(0), (by first | rfl | (simp; done) | (simp [*]; done)), H', ⟨Nat.le_refl _⟩, ⟨by (with_reducible repeat (first | apply Kd.R_alloc | apply Kd.R_drewN | apply Kd.R_drew)); first | exact HO_42.out | exact Kd.R_mono HO_42.out (fun _ hk_ => by omega)⟩, ⟨by (with_reducible repeat (first | apply Kd.R_alloc | apply Kd.R_drewN | apply Kd.R_drew)); first | exact HO135.out | exact Kd.R_mono HO135.out (fun _ hk_ => by omega)⟩, ⟨by repeat (first | (with_reducible first | exact HB.out | apply below_alloc | apply pw_below_drewN | apply below_drew1) | exact HB.out)⟩⟩
                 case round =>
                  clear H'
                  try clear c1
                  try clear p1
                  try clear q1
                  try clear hx1
                  try clear c2
                  try clear p2
                  try clear c3
                  try clear c4
                  try clear p4
                  try clear q4
                  try clear hx4
                  try clear hcv5
                  try clear c6
                  try clear p6
                  try clear c7
                  try clear c8
                  try clear c8b0
                  try clear c8b1
                  try clear c9
                  try clear c10
                  try clear c10b0
                  try clear c10b1
                  try clear c11
                  try clear c12
                  try clear c12b0
                  try clear p12
                  try clear q12
                  try clear hx12
                  try clear c13
                  try clear c13b0
                  try clear c18
                  try clear c18b0
                  try clear c19
                  try clear c19b0
                  try clear c20
                  try clear c20b0
                  try clear c30
                  try clear c30b0
                  try clear c30b1
                  try clear c31
                  try clear c31b0
                  try clear c31b1
                  try clear c32
                  try clear c33
                  try clear c33b0
                  try clear c33b1
                  try clear c39
                  try clear c41
                  try clear c41b0
                  try clear c41b1
                  try clear c41b2
                  try clear c43
                  try clear c43b0
                  try clear c44
                  try clear c44b0
                  try clear p45
                  try clear q45
                  try clear hx45
                  try clear hf45
                  try clear c46
                  try clear c46b0
                  try clear c46b1
                  try clear c46b2
                  try clear c47
                  try clear c47b0
                  try clear c47b1
                  try clear c47b2
                  try clear hcv52
                  try clear hx120_0
                  try clear hx45_0
                  try clear p1
                  try clear p12
                  try clear p120
                  try clear p2
                  try clear p45
                  try clear p6
                  try clear q1
                  try clear q12
                  try clear q120
                  try clear q45
                  obtain ⟨x107_3, rfl, HA, HK3, HO_42, HO_105, HB⟩ := hrel
                  cases gk with
                  | zero => exact absurd HA.out (by simp [guichetlaw16_MoneyTexts.l1])
                  | succ k3 =>
                   have H := HA.out
                   clear HA
                   simp only [guichetlaw16_MoneyTexts.l1] at H
                   by_cases c56 : x107_3 < (y133.length : Int)
                   ·rw [if_pos c56] at H
                    have c56b0 : decide (x107_3 < (y133.length : Int)) = true := decide_eq_true c56
                    clear c56
                    by_cases c57 : 0 ≤ x107_3
                    ·rw [if_pos c57] at H
                     have c57b0 : decide (0 ≤ x107_3) = true := decide_eq_true c57
                     clear c57
                     by_cases c58 : x107_3 < (y133.length : Int)
                     ·rw [if_pos c58] at H
                      have c58b0 : decide (x107_3 < (y133.length : Int)) = true := decide_eq_true c58
                      clear c58
                      replace H := Option.bind_eq_some_iff.mp H
                      obtain ⟨⟨t137, t138⟩, A590, H⟩ := H
                      replace H : ((guichetref12_MoneyParse.f k3 (rdOf ByteArray.empty y133 x107_3)).bind fun bt139 => (if t137 = bt139.1 then (if (t138 != bt139.2) = true then (none) else (guichetlaw16_MoneyTexts.l1 k3 a1 a3 a4 y117 (y117.length : Int) x44_1 y133 (y133.length : Int) (wrap64 (x107_3 + 1)))) else (none))) = some r := H
                      have A59 := Aside0.mk A590
                      clear A590
                      replace H := Option.bind_eq_some_iff.mp H
                      obtain ⟨⟨t139, t140⟩, A600, H⟩ := H
                      replace H : (if t137 = t139 then (if (t138 != t140) = true then (none) else (guichetlaw16_MoneyTexts.l1 k3 a1 a3 a4 y117 (y117.length : Int) x44_1 y133 (y133.length : Int) (wrap64 (x107_3 + 1)))) else (none)) = some r := H
                      have A60 := Aside0.mk A600
                      clear A600
                      by_cases c61 : t137 = t139
                      ·rw [if_pos c61] at H
                       have c61b0 : (t137 == t139) = true := beq_iff_eq.mpr c61
                       have c61b1 : (t137 != t139) = false := bne_eq_false_iff_eq.mpr c61
                       clear c61
                       by_cases c62 : (t138 != t140) = true
                       ·rw [if_pos c62] at H
                        exact absurd H (by simp)
                       ·rw [if_neg c62] at H
                        have c62b0 : (t138 != t140) = false := by simpa using c62
                        (try (have c62b1 : decide (t138 = t140) = true := by simpa using c62))
                        (try (have c62b2 : (t138 == t140) = true := by simpa using c62))
                        clear c62
                        have H' := Aside0.mk H
                        clear H
                        have p136 : 0 ≤ (x107_3 : Int) := of_decide_eq_true (by first | (with_reducible assumption) | assumption)
                        have q136 : x107_3 < (y133.length : Int) := of_decide_eq_true (by first | (with_reducible assumption) | assumption)
                        obtain ⟨ad136, e136, hx136_0⟩ := Kd.at_string (Kd.R_reads' HO_105.out).2.2 x107_3 p136 q136
                        cases e136
                        replace p136 := eq_true p136
                        replace q136 := eq_true q136
                        go_wp2_with (first | ((with_reducible refine gate_callee (f := 8) rfl ?_); refine goesL_ (some 113) rfl rfl Tryd.func8 (by kernel_rfl) rfl #[.string (rdOf ByteArray.empty y133 x107_3)] rfl (by (try simp only [List.map_toArray, List.map_cons, List.map_nil]); first | done | rfl | (simp only [List.length_drop, List.length_take]; rfl) | (rw [hsame_])) ?_; (with_reducible refine (money_Parse.calls (rdOf ByteArray.empty y133 x107_3) t137 t138 _ ?side1 A59.out).mono ?_); (case side1 => exact tab_at HT.out (by repeat (first | (with_reducible first | exact HB.out | apply below_alloc | apply pw_below_drewN | apply below_drew1) | exact HB.out))); rintro e w63 ⟨rfl, hb⟩; refine ⟨_, rfl, ?_⟩; have n0_ := Aside0.mk (Kd.R_below (by (with_reducible repeat (first | apply Kd.R_alloc | apply Kd.R_drewN | apply Kd.R_drew)); exact HO_42.out) hb); have n1_ := Aside0.mk (Kd.R_below (by (with_reducible repeat (first | apply Kd.R_alloc | apply Kd.R_drewN | apply Kd.R_drew)); exact HO_105.out) hb); have n2_ := Aside0.mk (below_step (by repeat (first | (with_reducible first | exact HB.out | apply below_alloc | apply pw_below_drewN | apply below_drew1) | exact HB.out)) hb); clear HO_42; clear HO_105; clear HB; have HO_42 := n0_; have HO_105 := n1_; have HB := n2_; clear n0_ n1_ n2_; (try clear hb); (try clear hb2); (try clear hk); (try clear hi)) | ((with_reducible refine gate_callee (f := 12) rfl ?_); refine goesL_ (some 118) rfl rfl Tryd.func12 (by kernel_rfl) rfl #[.string (rdOf ByteArray.empty y133 x107_3)] rfl (by (try simp only [List.map_toArray, List.map_cons, List.map_nil]); first | done | rfl | (simp only [List.length_drop, List.length_take]; rfl) | (rw [hsame_])) ?_; (with_reducible refine (guichetref12_MoneyParse.calls k3 (rdOf ByteArray.empty y133 x107_3) t139 t140 _ A60.out).mono ?_); rintro e w64 ⟨rfl, hb⟩; refine ⟨_, rfl, ?_⟩; have n0_ := Aside0.mk (Kd.R_below (by (with_reducible repeat (first | apply Kd.R_alloc | apply Kd.R_drewN | apply Kd.R_drew)); exact HO_42.out) hb); have n1_ := Aside0.mk (Kd.R_below (by (with_reducible repeat (first | apply Kd.R_alloc | apply Kd.R_drewN | apply Kd.R_drew)); exact HO_105.out) hb); have n2_ := Aside0.mk (below_step (by repeat (first | (with_reducible first | exact HB.out | apply below_alloc | apply pw_below_drewN | apply below_drew1) | exact HB.out)) hb); clear HO_42; clear HO_105; clear HB; have HO_42 := n0_; have HO_105 := n1_; have HB := n2_; clear n0_ n1_ n2_; (try clear hb); (try clear hb2); (try clear hk); (try clear hi)))
                        go_roundg k3
                        case measure => have := HK1.out; have := HJ24.out; have := HK3.out; omega
                        case rel => exact ⟨(wrap64 (x107_3 + 1)), (by first | rfl | (simp; done) | (simp [*]; done)), H', ⟨by have := HK1.out; have := HJ24.out; have := HK3.out; omega⟩, ⟨by (with_reducible repeat (first | apply Kd.R_alloc | apply Kd.R_drewN | apply Kd.R_drew)); first | exact HO_42.out | exact Kd.R_mono HO_42.out (fun _ hk_ => by omega)⟩, ⟨by (with_reducible repeat (first | apply Kd.R_alloc | apply Kd.R_drewN | apply Kd.R_drew)); first | exact HO_105.out | exact Kd.R_mono HO_105.out (fun _ hk_ => by omega)⟩, ⟨by repeat (first | (with_reducible first | exact HB.out | apply below_alloc | apply pw_below_drewN | apply below_drew1) | exact HB.out)⟩⟩
                      ·rw [if_neg c61] at H
                       exact absurd H (by simp)
                     ·rw [if_neg c58] at H
                      exact absurd H (by simp)
                    ·rw [if_neg c57] at H
                     exact absurd H (by simp)
                   ·rw [if_neg c56] at H
                    have c56b0 : decide (x107_3 < (y133.length : Int)) = false := decide_eq_false c56
                    clear c56
                    have H' := Aside0.mk H
                    clear H
                    go_wp2
                    go_roundg k3
                    case measure => have := HK1.out; have := HJ24.out; have := HK3.out; omega
                    case rel => exact ⟨(wrap64 (x44_1 + 1)), (by first | rfl | (simp; done) | (simp [*]; done)), H', ⟨by have := HK1.out; have := HJ24.out; have := HK3.out; omega⟩, ⟨by (with_reducible repeat (first | apply Kd.R_alloc | apply Kd.R_drewN | apply Kd.R_drew)); first | exact HO_42.out | exact Kd.R_mono HO_42.out (fun _ hk_ => by omega)⟩, ⟨by repeat (first | (with_reducible first | exact HB.out | apply below_alloc | apply pw_below_drewN | apply below_drew1) | exact HB.out)⟩⟩
                ·rw [if_neg c47] at H
                 exact absurd H (by simp)
               ·rw [if_neg c46] at H
                exact absurd H (by simp)
              ·rw [if_neg c44] at H
               exact absurd H (by simp)
             ·rw [if_neg c43] at H
              exact absurd H (by simp)
        ·rw [if_neg c20] at H
         exact absurd H (by simp)
       ·rw [if_neg c19] at H
        exact absurd H (by simp)
      ·rw [if_neg c18] at H
       have c18b0 : decide (x44_1 < (y117.length : Int)) = false := decide_eq_false c18
       clear c18
       obtain rfl := Option.some.inj H
       go_wp2
       go_ret
       exact ⟨by first | rfl | (simp [errW_none, errW_some] <;> rfl) | (simp only [← hji11]; first | rfl | (simp [errW_none, errW_some] <;> rfl)) | (simp [*, errW_none, errW_some] <;> rfl), by repeat (first | (with_reducible first | exact HB.out | apply below_alloc | apply pw_below_drewN | apply below_drew1) | exact HB.out)⟩
   ·rw [if_neg c10] at H
    exact absurd H (by simp)
 ·replace c7 := Bool.eq_false_iff.mpr c7
  subst c7
  have H1 : (none) = some r := by rw [if_neg (show ¬ (false = true) by decide)] at H; exact H
  clear H
  have H := H1
  clear H1
  exact absurd H (by simp)

/-- THE ONE PURE STATEMENT of guichetlaw16_MoneyTexts. -/
def guichetlaw16_MoneyTexts.Pure : Prop := ∀ (a0 : Int) (a1 : ByteArray) (a2 : Int) (a3 : Int) (a4 : Int), (Lit.int .i64 a0).wf = true → a1.size ≤ 140737488351232 → (Lit.int .u8 a2).wf = true → (Lit.int .u8 a3).wf = true → (Lit.int .u8 a4).wf = true → ∃ k, guichetlaw16_MoneyTexts.f k a0 a1 a2 a3 a4 = some true
theorem guichetlaw16_MoneyTexts.walk (P : guichetlaw16_MoneyTexts.Pure) (a0 : Int) (a1 : ByteArray) (a2 : Int) (a3 : Int) (a4 : Int) (w : World) (hT : TAB w) (w0 : (Lit.int .i64 a0).wf = true) (w1 : a1.size ≤ 140737488351232) (w2 : (Lit.int .u8 a2).wf = true) (w3 : (Lit.int .u8 a3).wf = true) (w4 : (Lit.int .u8 a4).wf = true) :
  Calls Tryd.prog 3 #[.int .i64 a0, .string a1, .int .u8 a2, .int .u8 a3, .int .u8 a4] w fun e w' => e = .returned (.bool true) ∧ Below w.heap.size w w' := by
 obtain ⟨k, h⟩ := P a0 a1 a2 a3 a4 w0 w1 w2 w3 w4
 refine (guichetlaw16_MoneyTexts.calls k a0 a1 a2 a3 a4 true w hT h).mono ?_
 rintro e w' ⟨rfl, hd⟩
 exact ⟨rfl, hd⟩

end Go.Proofs.YtjbhgooakdpabaaDoor.PAll
