-- written by xprint.py out of the translation. Not trusted: Lean checks it.
import Derived.Test.YtkhgiojpegghoaaDoorPAllx0
import Derived.Test.YtkhgiojpegghoaaDoorPAllx1
import Derived.Test.YtkhgiojpegghoaaDoorPAllx4
import Derived.Test.YtkhgiojpegghoaaDoorPAllx5
import Derived.Test.YtkhgiojpegghoaaDoorPAllx6
import Derived.Test.YtkhgiojpegghoaaDoorPAllx7
namespace Go.Proofs.YtkhgiojpegghoaaDoor.PAll
open Go.RowKit Go.Proofs.YtkhgiojpegghoaaDoorW.PrintWords Go.Proofs.YtkhgiojpegghoaaDoorW.PrintLast Go.Proofs.YtkhgiojpegghoaaDoorW.PrintMore
attribute [local go_sem] max2_int min2_int max_two min_two max_three min_three max_four min_four   -- for this text's walks alone
set_option linter.unusedVariables false
set_option linter.unusedSimpArgs false

attribute [local go_sem high] eqA25
/-! ### guichetlaw13_PosReads: function 4 -/
mutual
def guichetlaw13_PosReads.j0 : Nat → List Int → Bool → List Int → Int → Option (Bool)
 | 0, _, _, _, _ => none
 | k + 1, x0, x4, x13, x15 => if x4 = true then (if 0 ≤ x15 then (if x15 ≤ (x13.length : Int) then (guichetlaw13_PosReads.j1 k x0 (x13.take (x15 : Int).toNat)) else (none)) else (none)) else (guichetlaw13_PosReads.j1 k x0 x13)
def guichetlaw13_PosReads.j1 : Nat → List Int → List Int → Option (Bool)
 | 0, _, _ => none
 | k + 1, x0, x13 => (guichetref1_Frame.f k x0).bind fun bt290 => ((some (([x0, x13, bt290.1] : List (List Int)) : List (List Int))).bind fun y294 => (guichetlaw13_PosReads.l0 k y294 (y294.length : Int) 0))
def guichetlaw13_PosReads.l0 : Nat → List (List Int) → Int → Int → Option (Bool)
 | 0, _, _, _ => none
 | k + 1, x81, x82, x83 => if x83 < x82 then (if 0 ≤ x83 then (if x83 < (x81.length : Int) then ((pos_Read.f k (rd_L1 x81 x83)).bind fun bt298 => ((guichetref12_PosRead.f k (rd_L1 x81 x83)).bind fun bt305 => (if (!(bt298.1 == bt305.1) || (!(bt298.2.1 == bt305.2.1) || (!(bt298.2.2.1.toList == bt305.2.2.1.toList) || (!(bt298.2.2.2.1 == bt305.2.2.2.1))))) = true then (none) else (if bt298.2.2.2.2.1 = bt305.2.2.2.2.1 then (if bt298.2.2.2.2.2 = bt305.2.2.2.2.2 then (guichetlaw13_PosReads.l0 k x81 x82 (wrap64 (x83 + 1))) else (none)) else (none))))) else (none)) else (none)) else (some true)
end
def guichetlaw13_PosReads.f (k : Nat) (l0 : List Int) (a1 : Int) (a2 : Int) (a3 : Int) (a4 : Bool) (a5 : Bool) : Option (Bool) := (guichetlaw13_known.f k).bind fun t272 => (if t272 = true then (if (l0.length : Int) > 200 then (some true) else ((guichetseat_Pan.f a1).bind fun t273 => ((guichetref12_PosPut.f k (IntKind.u16.wrap (a1)) ((a2) % 4294967296) t273 (wrap64 ((wrap64 (a1)) + 1))).bind fun bt274 => (if (bt274.1.length : Int) = 0 then (none) else (if 0 ≤ (Int.tmod (wrap64 (a2)) (bt274.1.length : Int)) then (if (Int.tmod (wrap64 (a2)) (bt274.1.length : Int)) < (bt274.1.length : Int) then ((some (bt274.1.set ((Int.tmod (wrap64 (a2)) (bt274.1.length : Int)) : Int).toNat (Go.bits .xor .u8 (rd bt274.1 (Int.tmod (wrap64 (a2)) (bt274.1.length : Int))) a3) : List Int)).bind fun y279 => (if a5 = true then (if 1 ≤ (wrap64 ((bt274.1.length : Int) - 1)) then (if (wrap64 ((bt274.1.length : Int) - 1)) ≤ (bt274.1.length : Int) then ((guichetref1_Lrc.f k ((y279.take ((wrap64 ((bt274.1.length : Int) - 1)) : Int).toNat).drop 1)).bind fun t285 => (if 0 ≤ (wrap64 ((bt274.1.length : Int) - 1)) then (if (wrap64 ((bt274.1.length : Int) - 1)) < (bt274.1.length : Int) then (guichetlaw13_PosReads.j0 k l0 a4 (y279.set ((wrap64 ((bt274.1.length : Int) - 1)) : Int).toNat t285) (Int.tmod (wrap64 (a2)) (bt274.1.length : Int))) else (none)) else (none))) else (none)) else (none)) else (guichetlaw13_PosReads.j0 k l0 a4 y279 (Int.tmod (wrap64 (a2)) (bt274.1.length : Int))))) else (none)) else (none)))))) else (none))
theorem guichetlaw13_PosReads.mono_l : ∀ k, (∀ y0 y1 y2 y3, LeO (guichetlaw13_PosReads.j0 k y0 y1 y2 y3) (guichetlaw13_PosReads.j0 (k + 1) y0 y1 y2 y3)) ∧ (∀ y0 y1, LeO (guichetlaw13_PosReads.j1 k y0 y1) (guichetlaw13_PosReads.j1 (k + 1) y0 y1)) ∧ (∀ y0 y1 y2, LeO (guichetlaw13_PosReads.l0 k y0 y1 y2) (guichetlaw13_PosReads.l0 (k + 1) y0 y1 y2))
 | 0 => ⟨fun _ _ _ _ r h => by simp [guichetlaw13_PosReads.j0] at h, fun _ _ r h => by simp [guichetlaw13_PosReads.j1] at h, fun _ _ _ r h => by simp [guichetlaw13_PosReads.l0] at h⟩
 | k + 1 => by
  obtain ⟨ih0, ih1, ih2⟩ := guichetlaw13_PosReads.mono_l k
  refine ⟨?_, ?_, ?_⟩
  ·intro y0 y1 y2 y3
   unfold guichetlaw13_PosReads.j0
   repeat' first
   | (with_reducible exact ih0 _ _ _ _)
   | (with_reducible exact ih1 _ _)
   | (with_reducible exact ih2 _ _ _)
   | (with_reducible exact guichetlaw13_known.mono _)
   | (with_reducible exact guichetref12_PosPut.mono _ _ _ _ _)
   | (with_reducible exact guichetref12_PosRead.mono _ _)
   | (with_reducible exact guichetref1_Frame.mono _ _)
   | (with_reducible exact guichetref1_Lrc.mono _ _)
   | (with_reducible exact pos_Read.mono _ _)
   | (with_reducible exact LeO.refl _)
   | (with_reducible exact LeO.none _)
   | (with_reducible refine LeO.ite ?_ ?_)
   | (with_reducible refine LeO.bind ?_ (fun _ => ?_))
   | exact ih0 _ _ _ _
   | exact ih1 _ _
   | exact ih2 _ _ _
   | exact guichetlaw13_known.mono _
   | exact guichetref12_PosPut.mono _ _ _ _ _
   | exact guichetref12_PosRead.mono _ _
   | exact guichetref1_Frame.mono _ _
   | exact guichetref1_Lrc.mono _ _
   | exact pos_Read.mono _ _
   | exact LeO.none _
   | refine LeO.ite ?_ ?_
   | refine LeO.bind ?_ (fun _ => ?_)
  ·intro y0 y1
   unfold guichetlaw13_PosReads.j1
   repeat' first
   | (with_reducible exact ih0 _ _ _ _)
   | (with_reducible exact ih1 _ _)
   | (with_reducible exact ih2 _ _ _)
   | (with_reducible exact guichetlaw13_known.mono _)
   | (with_reducible exact guichetref12_PosPut.mono _ _ _ _ _)
   | (with_reducible exact guichetref12_PosRead.mono _ _)
   | (with_reducible exact guichetref1_Frame.mono _ _)
   | (with_reducible exact guichetref1_Lrc.mono _ _)
   | (with_reducible exact pos_Read.mono _ _)
   | (with_reducible exact LeO.refl _)
   | (with_reducible exact LeO.none _)
   | (with_reducible refine LeO.ite ?_ ?_)
   | (with_reducible refine LeO.bind ?_ (fun _ => ?_))
   | exact ih0 _ _ _ _
   | exact ih1 _ _
   | exact ih2 _ _ _
   | exact guichetlaw13_known.mono _
   | exact guichetref12_PosPut.mono _ _ _ _ _
   | exact guichetref12_PosRead.mono _ _
   | exact guichetref1_Frame.mono _ _
   | exact guichetref1_Lrc.mono _ _
   | exact pos_Read.mono _ _
   | exact LeO.none _
   | refine LeO.ite ?_ ?_
   | refine LeO.bind ?_ (fun _ => ?_)
  ·intro y0 y1 y2
   unfold guichetlaw13_PosReads.l0
   repeat' first
   | (with_reducible exact ih0 _ _ _ _)
   | (with_reducible exact ih1 _ _)
   | (with_reducible exact ih2 _ _ _)
   | (with_reducible exact guichetlaw13_known.mono _)
   | (with_reducible exact guichetref12_PosPut.mono _ _ _ _ _)
   | (with_reducible exact guichetref12_PosRead.mono _ _)
   | (with_reducible exact guichetref1_Frame.mono _ _)
   | (with_reducible exact guichetref1_Lrc.mono _ _)
   | (with_reducible exact pos_Read.mono _ _)
   | (with_reducible exact LeO.refl _)
   | (with_reducible exact LeO.none _)
   | (with_reducible refine LeO.ite ?_ ?_)
   | (with_reducible refine LeO.bind ?_ (fun _ => ?_))
   | exact ih0 _ _ _ _
   | exact ih1 _ _
   | exact ih2 _ _ _
   | exact guichetlaw13_known.mono _
   | exact guichetref12_PosPut.mono _ _ _ _ _
   | exact guichetref12_PosRead.mono _ _
   | exact guichetref1_Frame.mono _ _
   | exact guichetref1_Lrc.mono _ _
   | exact pos_Read.mono _ _
   | exact LeO.none _
   | refine LeO.ite ?_ ?_
   | refine LeO.bind ?_ (fun _ => ?_)
theorem guichetlaw13_PosReads.mono : ∀ a0 a1 a2 a3 a4 a5 k, LeO (guichetlaw13_PosReads.f k a0 a1 a2 a3 a4 a5) (guichetlaw13_PosReads.f (k + 1) a0 a1 a2 a3 a4 a5) := by
 intro a0 a1 a2 a3 a4 a5 k
 obtain ⟨ih0, ih1, ih2⟩ := guichetlaw13_PosReads.mono_l k
 unfold guichetlaw13_PosReads.f
 repeat' first
   | (with_reducible exact ih0 _ _ _ _)
   | (with_reducible exact ih1 _ _)
   | (with_reducible exact ih2 _ _ _)
   | (with_reducible exact guichetlaw13_known.mono _)
   | (with_reducible exact guichetref12_PosPut.mono _ _ _ _ _)
   | (with_reducible exact guichetref12_PosRead.mono _ _)
   | (with_reducible exact guichetref1_Frame.mono _ _)
   | (with_reducible exact guichetref1_Lrc.mono _ _)
   | (with_reducible exact pos_Read.mono _ _)
   | (with_reducible exact LeO.refl _)
   | (with_reducible exact LeO.none _)
   | (with_reducible refine LeO.ite ?_ ?_)
   | (with_reducible refine LeO.bind ?_ (fun _ => ?_))
   | exact ih0 _ _ _ _
   | exact ih1 _ _
   | exact ih2 _ _ _
   | exact guichetlaw13_known.mono _
   | exact guichetref12_PosPut.mono _ _ _ _ _
   | exact guichetref12_PosRead.mono _ _
   | exact guichetref1_Frame.mono _ _
   | exact guichetref1_Lrc.mono _ _
   | exact pos_Read.mono _ _
   | exact LeO.none _
   | refine LeO.ite ?_ ?_
   | refine LeO.bind ?_ (fun _ => ?_)
set_option maxHeartbeats 8000000 in
set_option maxRecDepth 100000 in
theorem guichetlaw13_PosReads.calls (k : Nat) (P0_ : Nat → Prop) (A0 : Option Addr) (c0 : Nat) (l0 : List Int) (a1 : Int) (a2 : Int) (a3 : Int) (a4 : Bool) (a5 : Bool) (r : Bool) (w : World) (hT : TAB w) (hs0 : Kd.V (Kd.int .u8) 5 w w.heap.size (fun k_ => P0_ k_) (.slice A0 l0.length c0) l0) (h : guichetlaw13_PosReads.f k l0 a1 a2 a3 a4 a5 = some r) :
  Calls Tryd.prog 4 #[.slice A0 l0.length c0, .int .u8 a1, .int .u8 a2, .int .u8 a3, .bool a4, .bool a5] w fun e w' => e = .returned (.bool r) ∧ Below w.heap.size w w' := by
 have HT := Aside0.mk hT
 clear hT
 have hu25 := Tryd.underlying25
 have HO0 := Aside0.mk (show Kd.V (Kd.int .u8) 5 w w.heap.size (fun k_ => (P0_ k_ ∨ w.heap.size ≤ k_)) (.slice A0 l0.length c0) l0 from Kd.V_mono hs0 (fun k_ hk => .inl hk))
 have HB := Aside0.mk (Below.refl w.heap.size w)
 have H : ((guichetlaw13_known.f k).bind fun t272 => (if t272 = true then (if (l0.length : Int) > 200 then (some true) else ((guichetseat_Pan.f a1).bind fun t273 => ((guichetref12_PosPut.f k (IntKind.u16.wrap (a1)) ((a2) % 4294967296) t273 (wrap64 ((wrap64 (a1)) + 1))).bind fun bt274 => (if (bt274.1.length : Int) = 0 then (none) else (if 0 ≤ (Int.tmod (wrap64 (a2)) (bt274.1.length : Int)) then (if (Int.tmod (wrap64 (a2)) (bt274.1.length : Int)) < (bt274.1.length : Int) then ((some (bt274.1.set ((Int.tmod (wrap64 (a2)) (bt274.1.length : Int)) : Int).toNat (Go.bits .xor .u8 (rd bt274.1 (Int.tmod (wrap64 (a2)) (bt274.1.length : Int))) a3) : List Int)).bind fun y279 => (if a5 = true then (if 1 ≤ (wrap64 ((bt274.1.length : Int) - 1)) then (if (wrap64 ((bt274.1.length : Int) - 1)) ≤ (bt274.1.length : Int) then ((guichetref1_Lrc.f k ((y279.take ((wrap64 ((bt274.1.length : Int) - 1)) : Int).toNat).drop 1)).bind fun t285 => (if 0 ≤ (wrap64 ((bt274.1.length : Int) - 1)) then (if (wrap64 ((bt274.1.length : Int) - 1)) < (bt274.1.length : Int) then (guichetlaw13_PosReads.j0 k l0 a4 (y279.set ((wrap64 ((bt274.1.length : Int) - 1)) : Int).toNat t285) (Int.tmod (wrap64 (a2)) (bt274.1.length : Int))) else (none)) else (none))) else (none)) else (none)) else (guichetlaw13_PosReads.j0 k l0 a4 y279 (Int.tmod (wrap64 (a2)) (bt274.1.length : Int))))) else (none)) else (none)))))) else (none))) = some r := h
 clear h
 replace H := Option.bind_eq_some_iff.mp H
 obtain ⟨t272, A70, H⟩ := H
 replace H : (if t272 = true then (if (l0.length : Int) > 200 then (some true) else ((guichetseat_Pan.f a1).bind fun t273 => ((guichetref12_PosPut.f k (IntKind.u16.wrap (a1)) ((a2) % 4294967296) t273 (wrap64 ((wrap64 (a1)) + 1))).bind fun bt274 => (if (bt274.1.length : Int) = 0 then (none) else (if 0 ≤ (Int.tmod (wrap64 (a2)) (bt274.1.length : Int)) then (if (Int.tmod (wrap64 (a2)) (bt274.1.length : Int)) < (bt274.1.length : Int) then ((some (bt274.1.set ((Int.tmod (wrap64 (a2)) (bt274.1.length : Int)) : Int).toNat (Go.bits .xor .u8 (rd bt274.1 (Int.tmod (wrap64 (a2)) (bt274.1.length : Int))) a3) : List Int)).bind fun y279 => (if a5 = true then (if 1 ≤ (wrap64 ((bt274.1.length : Int) - 1)) then (if (wrap64 ((bt274.1.length : Int) - 1)) ≤ (bt274.1.length : Int) then ((guichetref1_Lrc.f k ((y279.take ((wrap64 ((bt274.1.length : Int) - 1)) : Int).toNat).drop 1)).bind fun t285 => (if 0 ≤ (wrap64 ((bt274.1.length : Int) - 1)) then (if (wrap64 ((bt274.1.length : Int) - 1)) < (bt274.1.length : Int) then (guichetlaw13_PosReads.j0 k l0 a4 (y279.set ((wrap64 ((bt274.1.length : Int) - 1)) : Int).toNat t285) (Int.tmod (wrap64 (a2)) (bt274.1.length : Int))) else (none)) else (none))) else (none)) else (none)) else (guichetlaw13_PosReads.j0 k l0 a4 y279 (Int.tmod (wrap64 (a2)) (bt274.1.length : Int))))) else (none)) else (none)))))) else (none)) = some r := H
 have A7 := Aside0.mk A70
 clear A70
 by_cases c8 : t272 = true
 ·subst c8
  have H1 : (if (l0.length : Int) > 200 then (some true) else ((guichetseat_Pan.f a1).bind fun t273 => ((guichetref12_PosPut.f k (IntKind.u16.wrap (a1)) ((a2) % 4294967296) t273 (wrap64 ((wrap64 (a1)) + 1))).bind fun bt274 => (if (bt274.1.length : Int) = 0 then (none) else (if 0 ≤ (Int.tmod (wrap64 (a2)) (bt274.1.length : Int)) then (if (Int.tmod (wrap64 (a2)) (bt274.1.length : Int)) < (bt274.1.length : Int) then ((some (bt274.1.set ((Int.tmod (wrap64 (a2)) (bt274.1.length : Int)) : Int).toNat (Go.bits .xor .u8 (rd bt274.1 (Int.tmod (wrap64 (a2)) (bt274.1.length : Int))) a3) : List Int)).bind fun y279 => (if a5 = true then (if 1 ≤ (wrap64 ((bt274.1.length : Int) - 1)) then (if (wrap64 ((bt274.1.length : Int) - 1)) ≤ (bt274.1.length : Int) then ((guichetref1_Lrc.f k ((y279.take ((wrap64 ((bt274.1.length : Int) - 1)) : Int).toNat).drop 1)).bind fun t285 => (if 0 ≤ (wrap64 ((bt274.1.length : Int) - 1)) then (if (wrap64 ((bt274.1.length : Int) - 1)) < (bt274.1.length : Int) then (guichetlaw13_PosReads.j0 k l0 a4 (y279.set ((wrap64 ((bt274.1.length : Int) - 1)) : Int).toNat t285) (Int.tmod (wrap64 (a2)) (bt274.1.length : Int))) else (none)) else (none))) else (none)) else (none)) else (guichetlaw13_PosReads.j0 k l0 a4 y279 (Int.tmod (wrap64 (a2)) (bt274.1.length : Int))))) else (none)) else (none)))))) = some r := by rw [if_pos rfl] at H; exact H
  clear H
  have H := H1
  clear H1
  by_cases c9 : (l0.length : Int) > 200
  ·rw [if_pos c9] at H
   have c9b0 : decide (200 < (l0.length : Int)) = true := decide_eq_true c9
   have c9b1 : decide (200 < l0.length) = true := decide_eq_true (by omega)
   clear c9
   obtain rfl := Option.some.inj H
   go_enter Tryd.func4, Tryd.ntmps4
   go_wp2_with (first | ((with_reducible refine gate_callee (f := 6) rfl ?_); refine goesL_ (some 26) rfl rfl Tryd.func6 (by kernel_rfl) rfl #[] rfl (by (try simp only [List.map_toArray, List.map_cons, List.map_nil]); first | done | rfl | (simp only [List.length_drop, List.length_take]; rfl) | (rw [hsame_])) ?_; (with_reducible refine (guichetlaw13_known.calls k  true _ ?side1 A7.out).mono ?_); (case side1 => exact tab_at HT.out (by repeat (first | (with_reducible first | exact HB.out | apply below_alloc | apply pw_below_drewN | apply below_drew1) | exact HB.out))); rintro e w10 ⟨rfl, hb⟩; refine ⟨_, rfl, ?_⟩; have n0_ := Aside0.mk (Kd.V_below (by (with_reducible repeat (first | apply Kd.V_alloc | apply Kd.V_drewN | apply Kd.V_drew)); exact HO0.out) hb); have n1_ := Aside0.mk (below_step (by repeat (first | (with_reducible first | exact HB.out | apply below_alloc | apply pw_below_drewN | apply below_drew1) | exact HB.out)) hb); clear HO0; clear HB; have HO0 := n0_; have HB := n1_; clear n0_ n1_; (try clear hb); (try clear hb2); (try clear hk); (try clear hi)))
   go_ret
   exact ⟨by first | rfl | (simp [errW_none, errW_some] <;> rfl) | (simp [*, errW_none, errW_some] <;> rfl), by repeat (first | (with_reducible first | exact HB.out | apply below_alloc | apply pw_below_drewN | apply below_drew1) | exact HB.out)⟩
  ·rw [if_neg c9] at H
   have c9b0 : decide (200 < (l0.length : Int)) = false := decide_eq_false c9
   have c9b1 : decide (200 < l0.length) = false := decide_eq_false (by omega)
   clear c9
   replace H := Option.bind_eq_some_iff.mp H
   obtain ⟨t273, A110, H⟩ := H
   replace H : ((guichetref12_PosPut.f k (IntKind.u16.wrap (a1)) ((a2) % 4294967296) t273 (wrap64 ((wrap64 (a1)) + 1))).bind fun bt274 => (if (bt274.1.length : Int) = 0 then (none) else (if 0 ≤ (Int.tmod (wrap64 (a2)) (bt274.1.length : Int)) then (if (Int.tmod (wrap64 (a2)) (bt274.1.length : Int)) < (bt274.1.length : Int) then ((some (bt274.1.set ((Int.tmod (wrap64 (a2)) (bt274.1.length : Int)) : Int).toNat (Go.bits .xor .u8 (rd bt274.1 (Int.tmod (wrap64 (a2)) (bt274.1.length : Int))) a3) : List Int)).bind fun y279 => (if a5 = true then (if 1 ≤ (wrap64 ((bt274.1.length : Int) - 1)) then (if (wrap64 ((bt274.1.length : Int) - 1)) ≤ (bt274.1.length : Int) then ((guichetref1_Lrc.f k ((y279.take ((wrap64 ((bt274.1.length : Int) - 1)) : Int).toNat).drop 1)).bind fun t285 => (if 0 ≤ (wrap64 ((bt274.1.length : Int) - 1)) then (if (wrap64 ((bt274.1.length : Int) - 1)) < (bt274.1.length : Int) then (guichetlaw13_PosReads.j0 k l0 a4 (y279.set ((wrap64 ((bt274.1.length : Int) - 1)) : Int).toNat t285) (Int.tmod (wrap64 (a2)) (bt274.1.length : Int))) else (none)) else (none))) else (none)) else (none)) else (guichetlaw13_PosReads.j0 k l0 a4 y279 (Int.tmod (wrap64 (a2)) (bt274.1.length : Int))))) else (none)) else (none)))) = some r := H
   have A11 := Aside0.mk A110
   clear A110
   replace H := Option.bind_eq_some_iff.mp H
   obtain ⟨⟨t274, t277⟩, A120, H⟩ := H
   replace H : (if (t274.length : Int) = 0 then (none) else (if 0 ≤ (Int.tmod (wrap64 (a2)) (t274.length : Int)) then (if (Int.tmod (wrap64 (a2)) (t274.length : Int)) < (t274.length : Int) then ((some (t274.set ((Int.tmod (wrap64 (a2)) (t274.length : Int)) : Int).toNat (Go.bits .xor .u8 (rd t274 (Int.tmod (wrap64 (a2)) (t274.length : Int))) a3) : List Int)).bind fun y279 => (if a5 = true then (if 1 ≤ (wrap64 ((t274.length : Int) - 1)) then (if (wrap64 ((t274.length : Int) - 1)) ≤ (t274.length : Int) then ((guichetref1_Lrc.f k ((y279.take ((wrap64 ((t274.length : Int) - 1)) : Int).toNat).drop 1)).bind fun t285 => (if 0 ≤ (wrap64 ((t274.length : Int) - 1)) then (if (wrap64 ((t274.length : Int) - 1)) < (t274.length : Int) then (guichetlaw13_PosReads.j0 k l0 a4 (y279.set ((wrap64 ((t274.length : Int) - 1)) : Int).toNat t285) (Int.tmod (wrap64 (a2)) (t274.length : Int))) else (none)) else (none))) else (none)) else (none)) else (guichetlaw13_PosReads.j0 k l0 a4 y279 (Int.tmod (wrap64 (a2)) (t274.length : Int))))) else (none)) else (none))) = some r := H
   have A12 := Aside0.mk A120
   clear A120
   by_cases c13 : (t274.length : Int) = 0
   ·rw [if_pos c13] at H
    exact absurd H (by simp)
   ·rw [if_neg c13] at H
    have c13b0 : ((t274.length : Int) == 0) = false := beq_eq_false_iff_ne.mpr c13
    have c13b1 : ((t274.length : Int) != 0) = true := bne_iff_ne.mpr c13
    have c13b2 : ¬ (t274 = []) := fun h_ => c13 (by rw [h_]; rfl)
    obtain ⟨ji14, hji14⟩ : ∃ j_ : Int, (Int.tmod (wrap64 (a2)) (t274.length : Int)) = j_ := ⟨_, rfl⟩
    replace H : (if 0 ≤ (ji14) then (if (ji14) < (t274.length : Int) then ((some (t274.set ((ji14) : Int).toNat (Go.bits .xor .u8 (rd t274 (ji14)) a3) : List Int)).bind fun y279 => (if a5 = true then (if 1 ≤ (wrap64 ((t274.length : Int) - 1)) then (if (wrap64 ((t274.length : Int) - 1)) ≤ (t274.length : Int) then ((guichetref1_Lrc.f k ((y279.take ((wrap64 ((t274.length : Int) - 1)) : Int).toNat).drop 1)).bind fun t285 => (if 0 ≤ (wrap64 ((t274.length : Int) - 1)) then (if (wrap64 ((t274.length : Int) - 1)) < (t274.length : Int) then (guichetlaw13_PosReads.j0 k l0 a4 (y279.set ((wrap64 ((t274.length : Int) - 1)) : Int).toNat t285) ji14) else (none)) else (none))) else (none)) else (none)) else (guichetlaw13_PosReads.j0 k l0 a4 y279 ji14))) else (none)) else (none)) = some r := by first | (rw [hji14] at H; exact H) | (simp only [hji14] at H ⊢; exact H)
    (try rw [hji14] at A7)
    (try rw [hji14] at A11)
    (try rw [hji14] at A12)
    by_cases c15 : 0 ≤ (ji14)
    ·rw [if_pos c15] at H
     have c15b0 : decide (0 ≤ (ji14)) = true := decide_eq_true c15
     clear c15
     by_cases c16 : (ji14) < (t274.length : Int)
     ·rw [if_pos c16] at H
      have c16b0 : decide ((ji14) < (t274.length : Int)) = true := decide_eq_true c16
      clear c16
      obtain ⟨y279, hy279⟩ : ∃ y_ : List Int, y_ = (t274.set ((ji14) : Int).toNat (Go.bits .xor .u8 (rd t274 (ji14)) a3)) := ⟨_, rfl⟩
      replace H : (if a5 = true then (if 1 ≤ (wrap64 ((t274.length : Int) - 1)) then (if (wrap64 ((t274.length : Int) - 1)) ≤ (t274.length : Int) then ((guichetref1_Lrc.f k ((y279.take ((wrap64 ((t274.length : Int) - 1)) : Int).toNat).drop 1)).bind fun t285 => (if 0 ≤ (wrap64 ((t274.length : Int) - 1)) then (if (wrap64 ((t274.length : Int) - 1)) < (t274.length : Int) then (guichetlaw13_PosReads.j0 k l0 a4 (y279.set ((wrap64 ((t274.length : Int) - 1)) : Int).toNat t285) ji14) else (none)) else (none))) else (none)) else (none)) else (guichetlaw13_PosReads.j0 k l0 a4 y279 ji14)) = some r := by first | (rw [hy279]; with_reducible exact H) | (have H2_ := (Option.bind_some _ _).symm.trans H; rw [hy279]; with_reducible exact H2_) | (have H2_ := (Option.bind_some _ _).symm.trans H; with_reducible exact H2_) | with_reducible exact H | (rw [hy279]; exact H) | exact H
      have Ny279 := Aside0.mk hy279
      clear hy279
      have HC18 := Aside0.mk H
      clear H
      go_enter Tryd.func4, Tryd.ntmps4
      go_upto_if 57 with (first | ((with_reducible refine gate_callee (f := 6) rfl ?_); refine goesL_ (some 26) rfl rfl Tryd.func6 (by kernel_rfl) rfl #[] rfl (by (try simp only [List.map_toArray, List.map_cons, List.map_nil]); first | done | rfl | (simp only [List.length_drop, List.length_take]; rfl) | (rw [hsame_])) ?_; (with_reducible refine (guichetlaw13_known.calls k  true _ ?side1 A7.out).mono ?_); (case side1 => exact tab_at HT.out (by repeat (first | (with_reducible first | exact HB.out | apply below_alloc | apply pw_below_drewN | apply below_drew1) | exact HB.out))); rintro e w19 ⟨rfl, hb⟩; refine ⟨_, rfl, ?_⟩; have n0_ := Aside0.mk (Kd.V_below (by (with_reducible repeat (first | apply Kd.V_alloc | apply Kd.V_drewN | apply Kd.V_drew)); exact HO0.out) hb); have n1_ := Aside0.mk (below_step (by repeat (first | (with_reducible first | exact HB.out | apply below_alloc | apply pw_below_drewN | apply below_drew1) | exact HB.out)) hb); clear HO0; clear HB; have HO0 := n0_; have HB := n1_; clear n0_ n1_; (try clear hb); (try clear hb2); (try clear hk); (try clear hi)) | ((with_reducible refine gate_callee (f := 7) rfl ?_); refine goesL_ (some 37) rfl rfl Tryd.func7 (by kernel_rfl) rfl #[.int .u8 a1] rfl (by (try simp only [List.map_toArray, List.map_cons, List.map_nil]); first | done | rfl | (simp only [List.length_drop, List.length_take]; rfl) | (rw [hsame_])) ?_; (with_reducible refine (guichetseat_Pan.calls a1 t273 _ A11.out).mono ?_); rintro e w20 ⟨rfl, hb⟩; refine ⟨_, rfl, ?_⟩; have n0_ := Aside0.mk (Kd.V_below (by (with_reducible repeat (first | apply Kd.V_alloc | apply Kd.V_drewN | apply Kd.V_drew)); exact HO0.out) hb); have n1_ := Aside0.mk (below_step (by repeat (first | (with_reducible first | exact HB.out | apply below_alloc | apply pw_below_drewN | apply below_drew1) | exact HB.out)) hb); clear HO0; clear HB; have HO0 := n0_; have HB := n1_; clear n0_ n1_; (try clear hb); (try clear hb2); (try clear hk); (try clear hi)) | ((with_reducible refine gate_callee (f := 9) rfl ?_); refine goesL_ (some 42) rfl rfl Tryd.func9 (by kernel_rfl) rfl #[.agg #[.int .u16 (IntKind.u16.wrap (a1)), .int .u32 ((a2) % 4294967296), .string t273, .int .i64 (wrap64 ((wrap64 (a1)) + 1))]] rfl (by (try simp only [List.map_toArray, List.map_cons, List.map_nil]); first | done | rfl | (simp only [List.length_drop, List.length_take]; rfl) | (rw [hsame_])) ?_; (with_reducible refine (guichetref12_PosPut.calls k (IntKind.u16.wrap (a1)) ((a2) % 4294967296) t273 (wrap64 ((wrap64 (a1)) + 1)) t274 t277 _ A12.out).mono ?_); rintro e w21 ⟨v275, rfl, ho0, hb⟩; refine ⟨_, rfl, ?_⟩; have n0_ := Aside0.mk (Kd.V_elder' (by (with_reducible repeat (first | apply Kd.V_alloc | apply Kd.V_drewN | apply Kd.V_drew)); exact HO0.out) (Kd.R_base ho0) hb); have n1_ := Aside0.mk (Kd.R_lower (Kd.R_newM (M := fun k_ => (w.heap.size ≤ k_)) ho0 (below_size (by repeat (first | (with_reducible first | exact HB.out | apply below_alloc | apply pw_below_drewN | apply below_drew1) | exact HB.out))) (fun k_ h_ => h_)) (below_size (by repeat (first | (with_reducible first | exact HB.out | apply below_alloc | apply pw_below_drewN | apply below_drew1) | exact HB.out)))); have n2_ := Aside0.mk (below_step (by repeat (first | (with_reducible first | exact HB.out | apply below_alloc | apply pw_below_drewN | apply below_drew1) | exact HB.out)) hb); clear HO0; clear HB; have HO0 := n0_; have HO276 := n1_; have HB := n2_; clear n0_ n1_ n2_; (try clear hb); (try clear hb2); (try clear hk); (try clear hi); (try clear ho0); obtain ⟨Ao22, co22, eo22⟩ := Kd.R_slice HO276.out; subst eo22; have p278 : 0 ≤ ((ji14) : Int) := of_decide_eq_true (by first | (with_reducible assumption) | assumption); have q278 : (ji14) < (t274.length : Int) := of_decide_eq_true (by first | (with_reducible assumption) | assumption); obtain ⟨ad278, e278, hx278_0⟩ := Kd.at_int (Kd.R_reads' HO276.out).2.2 (ji14) p278 q278; cases e278; replace p278 := eq_true p278; replace q278 := eq_true q278; have p17 : 0 ≤ ((ji14) : Int) := of_decide_eq_true (by first | (with_reducible assumption) | assumption); have q17 : ((ji14) : Int) < ((t274.length : Int) : Int) := of_decide_eq_true (by first | (with_reducible assumption) | assumption); obtain ⟨go17, co17, eo17, gb17, gl17, cl17, HG17⟩ := Kd.R_form HO276.out (by omega); (first | cases eo17 | (injection eo17 with ea_ en_ ec_; (first | subst ea_ | (injection ea_ with ea_; subst ea_)); subst ec_; clear en_)); have GB17 := Aside0.mk gb17; have GG17 := Aside0.mk HG17; clear gb17 gl17 HG17; (first | simp only [add_plain] at hx278_0 | skip); obtain ⟨hx17_0, hf17_0⟩ := Kd.R_celln 0 HO276.out ((ji14) : Int) p17 q17; replace p17 := eq_true p17; replace q17 := eq_true q17; have n_ := Aside0.mk (Kd.R_mono (ok' := (fun k_ => (w.heap.size ≤ k_))) HO276.out (fun k_ hk => hk.1)); clear HO276; have HO276 := n_; clear n_; obtain ⟨hy23_, hz23_⟩ := Kd.R_celln 0 HO276.out ((ji14) : Int) (of_decide_eq_true (by first | (with_reducible assumption) | assumption)) (of_decide_eq_true (by first | (with_reducible assumption) | assumption)); have HP23 := Kd.R_putg HO276.out ((ji14) : Int) (Go.bits .xor .u8 (rd t274 (ji14)) a3)) | ((with_reducible refine gate_store (t := 5) (p := 56) rfl ?_); refine store_event (t := 5) (p := 56) (v := ?vo_w24) (w1 := (w21.setCell ⟨go17, ((ji14) : Int).toNat, none⟩ (.int .u8 (Go.bits .xor .u8 (rd t274 (ji14)) a3)))) ?hg ?ho ?hn ?hr ?_; (case ho => rfl); (case hg => rfl); (case hn => rfl); (case hr => first | (go_simp; done) | (go_simp; rfl)); intro w24 hw; have hg : w21.grownBy w24 (some go17) := (by rw [hw]; exact HP23.2); have hp_ : Kd.R (Kd.int .u8) 5 w24 w.heap.size (fun k_ => (w.heap.size ≤ k_)) (.slice (some ⟨go17, 0, none⟩) t274.length co22) y279 := (by rw [hw, Ny279.out]; exact HP23.1); clear HP23; have n0_ := Aside0.mk (Kd.V_afterv (v := (.slice (some ⟨go17, 0, none⟩) t274.length co22)) (v1 := (.slice (some ⟨go17, 0, none⟩) t274.length co22)) (ok := (fun k_ => (P0_ k_ ∨ w.heap.size ≤ k_))) (by (with_reducible repeat (first | apply Kd.V_alloc | apply Kd.V_drewN | apply Kd.V_drew)); exact HO0.out) hg (.inl rfl)); have n1_ := Aside0.mk (hp_); have n2_ := Aside0.mk ((by rw [hw]; exact below_set (HB.out) GB17.out : Below w.heap.size w w24)); clear HO0; clear HO276; clear HB; have HO0 := n0_; have HO276 := n1_; have HB := n2_; clear n0_ n1_ n2_; clear hg hw hp_))
      (try simp only [Act.put, List.setIfInBounds_toArray, List.set_cons_zero, List.set_cons_succ])
      go_cut [] (fun wc => ∃ (kq : Nat) (x13_17 : List Int), Aside0 (guichetlaw13_PosReads.j0 kq l0 a4 x13_17 ji14 = some r) ∧ Aside0 (kq ≤ k) ∧ Aside0 (Kd.V (Kd.int .u8) 5 wc w.heap.size (fun k_ => (P0_ k_ ∨ w.heap.size ≤ k_) ∧ some k_ ≠ ((.slice (some ⟨go17, 0, none⟩) t274.length co22) : Value).ownBlock) (.slice A0 l0.length c0) l0) ∧ Aside0 (Kd.R (Kd.int .u8) 5 wc w.heap.size (fun k_ => (w.heap.size ≤ k_)) (.slice (some ⟨go17, 0, none⟩) t274.length co22) x13_17) ∧ Aside0 (Below w.heap.size w wc))
      case first =>
       have H := HC18.out
       clear HC18
       by_cases c25 : a5 = true
       ·subst c25
        have H1 : (if 1 ≤ (wrap64 ((t274.length : Int) - 1)) then (if (wrap64 ((t274.length : Int) - 1)) ≤ (t274.length : Int) then ((guichetref1_Lrc.f k ((y279.take ((wrap64 ((t274.length : Int) - 1)) : Int).toNat).drop 1)).bind fun t285 => (if 0 ≤ (wrap64 ((t274.length : Int) - 1)) then (if (wrap64 ((t274.length : Int) - 1)) < (t274.length : Int) then (guichetlaw13_PosReads.j0 k l0 a4 (y279.set ((wrap64 ((t274.length : Int) - 1)) : Int).toNat t285) ji14) else (none)) else (none))) else (none)) else (none)) = some r := by rw [if_pos rfl] at H; exact H
        clear H
        have H := H1
        clear H1
        by_cases c26 : 1 ≤ (wrap64 ((t274.length : Int) - 1))
        ·rw [if_pos c26] at H
         have c26b0 := eq_true c26
         have c26b1 : decide (1 ≤ (wrap64 ((t274.length : Int) - 1))) = true := decide_eq_true c26
         clear c26
         by_cases c27 : (wrap64 ((t274.length : Int) - 1)) ≤ (t274.length : Int)
         ·rw [if_pos c27] at H
          have c27b0 := eq_true c27
          have c27b1 : decide ((wrap64 ((t274.length : Int) - 1)) ≤ (t274.length : Int)) = true := decide_eq_true c27
          clear c27
          obtain ⟨y280, hy280⟩ : ∃ y_ : List Int, y_ = ((y279.take ((wrap64 ((t274.length : Int) - 1)) : Int).toNat).drop 1) := ⟨_, rfl⟩
          replace H : ((guichetref1_Lrc.f k y280).bind fun t285 => (if 0 ≤ (wrap64 ((t274.length : Int) - 1)) then (if (wrap64 ((t274.length : Int) - 1)) < (t274.length : Int) then (guichetlaw13_PosReads.j0 k l0 a4 (y279.set ((wrap64 ((t274.length : Int) - 1)) : Int).toNat t285) ji14) else (none)) else (none))) = some r := by first | (rw [hy280]; with_reducible exact H) | (have H2_ := (Option.bind_some _ _).symm.trans H; rw [hy280]; with_reducible exact H2_) | (have H2_ := (Option.bind_some _ _).symm.trans H; with_reducible exact H2_) | with_reducible exact H | (rw [hy280]; exact H) | exact H
          have Ny280 := Aside0.mk hy280
          clear hy280
          replace H := Option.bind_eq_some_iff.mp H
          obtain ⟨t285, A280, H⟩ := H
          replace H : (if 0 ≤ (wrap64 ((t274.length : Int) - 1)) then (if (wrap64 ((t274.length : Int) - 1)) < (t274.length : Int) then (guichetlaw13_PosReads.j0 k l0 a4 (y279.set ((wrap64 ((t274.length : Int) - 1)) : Int).toNat t285) ji14) else (none)) else (none)) = some r := H
          have A28 := Aside0.mk A280
          clear A280
          obtain ⟨ji29, hji29⟩ : ∃ j_ : Int, (wrap64 ((t274.length : Int) - 1)) = j_ := ⟨_, rfl⟩
          replace H : (if 0 ≤ (ji29) then (if (ji29) < (t274.length : Int) then (guichetlaw13_PosReads.j0 k l0 a4 (y279.set ((ji29) : Int).toNat t285) ji14) else (none)) else (none)) = some r := by first | (rw [hji29] at H; exact H) | (simp only [hji29] at H ⊢; exact H)
          (try rw [hji29] at c26b0)
          (try rw [hji29] at c26b1)
          (try rw [hji29] at c27b0)
          (try rw [hji29] at c27b1)
          (try rw [hji29] at Ny280)
          (try rw [hji29] at A28)
          have hji29w : (IntKind.i64.wrap ((t274.length : Int) - 1)) = ji29 := (i64_w _).trans hji29
          by_cases c30 : 0 ≤ (ji29)
          ·rw [if_pos c30] at H
           have c30b0 : decide (0 ≤ (ji29)) = true := decide_eq_true c30
           clear c30
           (first | rw [c30b0] | (simp only [i64_w, i32_w]; rw [c30b0]) | skip)
           by_cases c31 : (ji29) < (t274.length : Int)
           ·rw [if_pos c31] at H
            have c31b0 : decide ((ji29) < (t274.length : Int)) = true := decide_eq_true c31
            clear c31
            obtain ⟨y286, hy286⟩ : ∃ y_ : List Int, y_ = (y279.set ((ji29) : Int).toNat t285) := ⟨_, rfl⟩
            replace H : (guichetlaw13_PosReads.j0 k l0 a4 y286 ji14) = some r := by first | (rw [hy286]; with_reducible exact H) | (have H2_ := (Option.bind_some _ _).symm.trans H; rw [hy286]; with_reducible exact H2_) | (have H2_ := (Option.bind_some _ _).symm.trans H; with_reducible exact H2_) | with_reducible exact H | (rw [hy286]; exact H) | exact H
            have Ny286 := Aside0.mk hy286
            clear hy286
            have H' := Aside0.mk H
            clear H
            have hlx33 := (Kd.R_reads' HO276.out).1
            have q33 : ((ji29) : Int) ≤ ((t274.length : Int) : Int) := of_decide_eq_true (by first | (with_reducible assumption) | assumption)
            obtain ⟨i033, hi033, _, hsz33, _⟩ := info_parts info5
            have hroom33 : t274.length ≤ co22 := (Kd.R_reads' HO276.out).2.1
            have hroomc33 : y279.length ≤ co22 := (by rw [← hlx33]; exact hroom33)
            have hC33 : Kd.F (Kd.int .u8) _ _ (some ⟨go17, 0, none⟩) y279.length y279 := (Kd.V_at (base := w.heap.size) (Kd.V_mono (ok' := (fun k_ => (P0_ k_ ∨ w.heap.size ≤ k_))) (Kd.R_V HO276.out) (fun k_ hk => (.inr (hk))))).2.2
            have ql33 : (1 : Int) ≤ ((ji29) : Int) := of_decide_eq_true (by first | (with_reducible assumption) | assumption)
            have hcut33 := cut_mid (P := Tryd.prog) 26 5 .i64 .i64 Tryd.underlying26 hi033 1 hsz33 (some ⟨go17, 0, none⟩) t274.length co22 1 (ji29) (by omega) ql33 q33 hroom33
            have hr33 := Kd.F_mid (lo := (1 : Int).toNat) (hi := ((ji29) : Int).toNat) (c := co22) hC33 (by omega) (by omega) hroomc33
            obtain ⟨A33, hA33⟩ : ∃ A1, A1 = (if co22 = (1 : Int).toNat then (some ⟨go17, 0, none⟩) else ((some ⟨go17, 0, none⟩) : Option Addr).map (·.add ((1 : Int).toNat * 1))) := ⟨_, rfl⟩
            obtain ⟨c33, hc33⟩ : ∃ c1, c1 = co22 - (1 : Int).toNat := ⟨_, rfl⟩
            have hy33 : y280.length = ((ji29) : Int).toNat - (1 : Int).toNat := (by rw [Ny280.out, List.length_drop, List.length_take] <;> omega)
            rw [show ((y279).take ((ji29) : Int).toNat).drop (1 : Int).toNat = y280 from Ny280.out.symm] at hr33
            replace hr33 : Kd.F (Kd.int .u8) _ _ A33 y280.length y280 := (by rw [hA33]; exact hr33)
            rw [← hy33, ← hA33, ← hc33] at hcut33
            have HO284 := Aside0.mk (show Kd.V (Kd.int .u8) 5 _ w.heap.size _ (.slice A33 y280.length c33) y280 from Kd.V_mk (by rw [hy33, hc33]; exact Nat.sub_le_sub_right (Nat.le_trans (by omega) hroom33) _) hr33)
            have HC284 := Aside0.mk (show y280.length ≤ c33 from by rw [hy33, hc33]; exact Nat.sub_le_sub_right (Nat.le_trans (by omega) hroom33) _)
            clear hr33 hC33 hroom33 hi033 hsz33 hc33 hroomc33
            have KY33 := Aside0.mk hy33
            have KA33 := Aside0.mk hA33
            clear hy33 hA33
            clear hlx33
            replace q33 := eq_true q33
            go_wp2_with (first | ((with_reducible refine gate_callee (f := 14) rfl ?_); refine goesL_ (some 67) rfl rfl Tryd.func14 (by kernel_rfl) rfl #[.slice A33 y280.length c33] rfl (by (try simp only [List.map_toArray, List.map_cons, List.map_nil]); first | done | rfl | (simp only [List.length_drop, List.length_take]; rfl) | (rw [hsame_])) ?_; (with_reducible refine (guichetref1_Lrc.calls k _ _ y280 t285 _ ?side1 ?side2 A28.out).mono ?_); (case side1 => repeat (first | exact (Kd.V_reads' HO284.out).2.2 | (with_reducible refine Kd.C_alloc ?_ _) | (with_reducible refine Kd.C_drewN ?_ _) | (with_reducible refine Kd.C_drew ?_))); (case side2 => exact (Kd.V_reads' HO284.out).2.1); rintro e w' ⟨rfl, ⟨nd, rfl⟩⟩; refine ⟨_, rfl, ?_⟩; (try (rw [drewN_self w24]; generalize hq_ : World.drewN w24 _ = w24; have n0_ : Aside0 (Kd.V (Kd.int .u8) 5 w24 w.heap.size (fun k_ => (P0_ k_ ∨ w.heap.size ≤ k_) ∧ some k_ ≠ (.slice (some ⟨go17, 0, none⟩) t274.length co22 : Value).ownBlock) (.slice A0 l0.length c0) l0) := ⟨by rw [← hq_]; exact (by (with_reducible repeat (first | apply Kd.V_alloc | apply Kd.V_drewN | apply Kd.V_drew)); exact HO0.out)⟩; have n1_ : Aside0 (Kd.R (Kd.int .u8) 5 w24 w.heap.size (fun k_ => (w.heap.size ≤ k_)) (.slice (some ⟨go17, 0, none⟩) t274.length co22) y279) := ⟨by rw [← hq_]; exact (by (with_reducible repeat (first | apply Kd.R_alloc | apply Kd.R_drewN | apply Kd.R_drew)); exact HO276.out)⟩; have n2_ : Aside0 (Kd.V (Kd.int .u8) 5 w24 w.heap.size (fun k_ => (P0_ k_ ∨ w.heap.size ≤ k_)) (.slice A33 y280.length c33) y280) := ⟨by rw [← hq_]; exact (by (with_reducible repeat (first | apply Kd.V_alloc | apply Kd.V_drewN | apply Kd.V_drew)); exact HO284.out)⟩; have n3_ : Aside0 (Below w.heap.size w w24) := ⟨by rw [← hq_]; exact (by repeat (first | (with_reducible first | exact HB.out | apply below_alloc | apply pw_below_drewN | apply below_drew1) | exact HB.out))⟩; clear HO0 HO276 HO284 HB hq_; have HO0 := n0_; have HO276 := n1_; have HO284 := n2_; have HB := n3_; clear n0_ n1_ n2_ n3_)); have p32 : 0 ≤ ((ji29) : Int) := of_decide_eq_true (by first | (with_reducible assumption) | assumption); have q32 : ((ji29) : Int) < ((t274.length : Int) : Int) := of_decide_eq_true (by first | (with_reducible assumption) | assumption); obtain ⟨hx32_0, hf32_0⟩ := Kd.R_celln 0 HO276.out ((ji29) : Int) p32 q32; replace p32 := eq_true p32; replace q32 := eq_true q32; obtain ⟨hy34_, hz34_⟩ := Kd.R_celln 0 HO276.out ((ji29) : Int) (of_decide_eq_true (by first | (with_reducible assumption) | assumption)) (of_decide_eq_true (by first | (with_reducible assumption) | assumption)); have HP34 := Kd.R_putg HO276.out ((ji29) : Int) t285) | ((with_reducible refine gate_store (t := 5) (p := 68) rfl ?_); refine store_event (t := 5) (p := 68) (v := ?vo_w35) (w1 := (w24.setCell ⟨go17, ((ji29) : Int).toNat, none⟩ (.int .u8 t285))) ?hg ?ho ?hn ?hr ?_; (case ho => rfl); (case hg => rfl); (case hn => rfl); (case hr => first | (go_simp; done) | (go_simp; rfl)); intro w35 hw; have hg : w24.grownBy w35 (some go17) := (by rw [hw]; exact HP34.2); have hp_ : Kd.R (Kd.int .u8) 5 w35 w.heap.size (fun k_ => (w.heap.size ≤ k_)) (.slice (some ⟨go17, 0, none⟩) t274.length co22) y286 := (by rw [hw, Ny286.out]; exact HP34.1); clear HP34; have n0_ := Aside0.mk (Kd.V_afterv (v := (.slice (some ⟨go17, 0, none⟩) t274.length co22)) (v1 := (.slice (some ⟨go17, 0, none⟩) t274.length co22)) (ok := (fun k_ => (P0_ k_ ∨ w.heap.size ≤ k_))) (by (with_reducible repeat (first | apply Kd.V_alloc | apply Kd.V_drewN | apply Kd.V_drew)); exact HO0.out) hg (.inl rfl)); have n1_ := Aside0.mk (hp_); have n2_ := Aside0.mk ((by rw [hw]; exact below_set (HB.out) GB17.out : Below w.heap.size w w35)); clear HO0; clear HO276; clear HB; have HO0 := n0_; have HO276 := n1_; have HB := n2_; clear n0_ n1_ n2_; clear hg hw hp_))
            go_meet
            case rel => exact ⟨_, (y286), H', ⟨by first | omega | exact Nat.le_refl _⟩, ⟨by (with_reducible repeat (first | apply Kd.V_alloc | apply Kd.V_drewN | apply Kd.V_drew)); first | exact HO0.out | exact Kd.R_mono HO0.out (fun _ hk_ => by omega)⟩, ⟨by (with_reducible repeat (first | apply Kd.R_alloc | apply Kd.R_drewN | apply Kd.R_drew)); first | exact HO276.out | exact Kd.R_mono HO276.out (fun _ hk_ => by omega)⟩, ⟨by repeat (first | (with_reducible first | exact HB.out | apply below_alloc | apply pw_below_drewN | apply below_drew1) | exact HB.out)⟩⟩
           ·rw [if_neg c31] at H
            exact absurd H (by simp)
          ·rw [if_neg c30] at H
           exact absurd H (by simp)
         ·rw [if_neg c27] at H
          exact absurd H (by simp)
        ·rw [if_neg c26] at H
         exact absurd H (by simp)
       ·replace c25 := Bool.eq_false_iff.mpr c25
        subst c25
        have H1 : (guichetlaw13_PosReads.j0 k l0 a4 y279 ji14) = some r := by rw [if_neg (show ¬ (false = true) by decide)] at H; exact H
        clear H
        have H := H1
        clear H1
        have H' := Aside0.mk H
        clear H
        go_wp2
        go_meet
        case rel => exact ⟨_, (y279), H', ⟨by first | omega | exact Nat.le_refl _⟩, ⟨by (with_reducible repeat (first | apply Kd.V_alloc | apply Kd.V_drewN | apply Kd.V_drew)); first | exact HO0.out | exact Kd.R_mono HO0.out (fun _ hk_ => by omega)⟩, ⟨by (with_reducible repeat (first | apply Kd.R_alloc | apply Kd.R_drewN | apply Kd.R_drew)); first | exact HO276.out | exact Kd.R_mono HO276.out (fun _ hk_ => by omega)⟩, ⟨by repeat (first | (with_reducible first | exact HB.out | apply below_alloc | apply pw_below_drewN | apply below_drew1) | exact HB.out)⟩⟩
      case rest =>
       clear HC18
       try clear c1
       try clear p1
       try clear q1
       try clear hx1
       try clear c2
       try clear p2
       try clear q2
       try clear hx2
       try clear c3
       try clear p3
       try clear q3
       try clear hx3
       try clear c4
       try clear c6
       try clear p6
       try clear c7
       try clear c8
       try clear c9
       try clear c9b0
       try clear c9b1
       try clear c13
       try clear c13b0
       try clear c13b1
       try clear c13b2
       try clear c14
       try clear c15
       try clear c15b0
       try clear c16
       try clear c16b0
       try clear p17
       try clear q17
       try clear hx17
       try clear hf17
       try clear c25
       try clear c26
       try clear c26b0
       try clear c26b1
       try clear c27
       try clear c27b0
       try clear c27b1
       try clear p27
       try clear q27
       try clear hx27
       try clear c30
       try clear c30b0
       try clear c31
       try clear c31b0
       try clear p32
       try clear q32
       try clear hx32
       try clear hf32
       try clear c33
       try clear q33
       try clear hx17_0
       try clear hx278_0
       try clear hx32_0
       try clear p17
       try clear p278
       try clear p32
       try clear q17
       try clear q278
       try clear q32
       try clear q33
       obtain ⟨kq, x13_17, HA, HJ17, HO_0, HO_13, HB⟩ := hcut
       have hl13_17 := (Kd.R_reads' HO_13.out).1
       rw [hl13_17] at HO_13
       (try simp only [hl13_17])
       (try simp only [hl13_17] at HO_0)
       cases kq with
       | zero => exact absurd HA.out (by simp [guichetlaw13_PosReads.j0])
       | succ kj17 =>
        have H := HA.out
        clear HA
        simp only [guichetlaw13_PosReads.j0] at H
        have HC36 := Aside0.mk H
        clear H
        go_upto_if 69 with (fail)
        go_cut [13] (fun v13 wc => ∃ (kq : Nat) (x13_35 : List Int), Aside0 (guichetlaw13_PosReads.j1 kq l0 x13_35 = some r) ∧ Aside0 (kq ≤ kj17) ∧ Aside0 (Kd.V (Kd.int .u8) 5 wc w.heap.size (fun k_ => (P0_ k_ ∨ w.heap.size ≤ k_) ∧ some k_ ≠ (v13 : Value).ownBlock) (.slice A0 l0.length c0) l0) ∧ Aside0 (Kd.R (Kd.int .u8) 5 wc w.heap.size (fun k_ => (w.heap.size ≤ k_)) v13 x13_35) ∧ Aside0 (Below w.heap.size w wc))
        case first =>
         have H := HC36.out
         clear HC36
         by_cases c37 : a4 = true
         ·subst c37
          have H1 : (if 0 ≤ ji14 then (if ji14 ≤ (x13_17.length : Int) then (guichetlaw13_PosReads.j1 kj17 l0 (x13_17.take (ji14 : Int).toNat)) else (none)) else (none)) = some r := by rw [if_pos rfl] at H; exact H
          clear H
          have H := H1
          clear H1
          by_cases c38 : 0 ≤ ji14
          ·rw [if_pos c38] at H
           have c38b0 := eq_true c38
           have c38b1 : decide (0 ≤ ji14) = true := decide_eq_true c38
           clear c38
           by_cases c39 : ji14 ≤ (x13_17.length : Int)
           ·rw [if_pos c39] at H
            have c39b0 := eq_true c39
            have c39b1 : decide (ji14 ≤ (x13_17.length : Int)) = true := decide_eq_true c39
            clear c39
            obtain ⟨y287, hy287⟩ : ∃ y_ : List Int, y_ = (x13_17.take (ji14 : Int).toNat) := ⟨_, rfl⟩
            replace H : (guichetlaw13_PosReads.j1 kj17 l0 y287) = some r := by first | (rw [hy287]; with_reducible exact H) | (have H2_ := (Option.bind_some _ _).symm.trans H; rw [hy287]; with_reducible exact H2_) | (have H2_ := (Option.bind_some _ _).symm.trans H; with_reducible exact H2_) | with_reducible exact H | (rw [hy287]; exact H) | exact H
            have Ny287 := Aside0.mk hy287
            clear hy287
            have H' := Aside0.mk H
            clear H
            have q40 : (ji14 : Int) ≤ ((x13_17.length : Int) : Int) := of_decide_eq_true (by first | (with_reducible assumption) | assumption)
            obtain ⟨i040, hi040, _, hsz40, _⟩ := info_parts info5
            have hcut40 := cut_to (P := Tryd.prog) 26 5 .i64 Tryd.underlying26 hi040 (some ⟨go17, 0, none⟩) x13_17.length co22 ji14 (of_decide_eq_true (by first | (with_reducible assumption) | assumption)) q40 (Kd.R_reads' HO_13.out).2.1
            have hr40 := Kd.R_take (m := (ji14 : Int).toNat) HO_13.out (by omega)
            have hy40 : y287.length = (ji14 : Int).toNat := (by rw [Ny287.out, List.length_take]; omega)
            rw [← Ny287.out] at hr40
            rw [← hy40] at hr40 hcut40
            clear hy40 hi040 hsz40 HO_13
            have HO289 := Aside0.mk hr40
            clear hr40
            replace q40 := eq_true q40
            (try rw [show (.slice (some ⟨go17, 0, none⟩) x13_17.length co22 : Value).ownBlock = (.slice (some ⟨go17, 0, none⟩) y287.length co22 : Value).ownBlock from ownBlock_len _ _ _ _ _] at HO_0)
            go_wp2
            go_meet
            case rel => exact ⟨_, (y287), H', ⟨by have := HJ17.out; first | omega | exact Nat.le_refl _⟩, ⟨by (try simp only [hl13_17]); (with_reducible repeat (first | apply Kd.V_alloc | apply Kd.V_drewN | apply Kd.V_drew)); first | exact HO_0.out | exact Kd.R_mono HO_0.out (fun _ hk_ => by omega)⟩, ⟨by (try simp only [hl13_17]); (with_reducible repeat (first | apply Kd.R_alloc | apply Kd.R_drewN | apply Kd.R_drew)); first | exact HO289.out | exact Kd.R_mono HO289.out (fun _ hk_ => by omega)⟩, ⟨by repeat (first | (with_reducible first | exact HB.out | apply below_alloc | apply pw_below_drewN | apply below_drew1) | exact HB.out)⟩⟩
           ·rw [if_neg c39] at H
            exact absurd H (by simp)
          ·rw [if_neg c38] at H
           exact absurd H (by simp)
         ·replace c37 := Bool.eq_false_iff.mpr c37
          subst c37
          have H1 : (guichetlaw13_PosReads.j1 kj17 l0 x13_17) = some r := by rw [if_neg (show ¬ (false = true) by decide)] at H; exact H
          clear H
          have H := H1
          clear H1
          have H' := Aside0.mk H
          clear H
          go_wp2
          go_meet
          case rel => exact ⟨_, (x13_17), H', ⟨by have := HJ17.out; first | omega | exact Nat.le_refl _⟩, ⟨by (try simp only [hl13_17]); (with_reducible repeat (first | apply Kd.V_alloc | apply Kd.V_drewN | apply Kd.V_drew)); first | exact HO_0.out | exact Kd.R_mono HO_0.out (fun _ hk_ => by omega)⟩, ⟨by (try simp only [hl13_17]); (with_reducible repeat (first | apply Kd.R_alloc | apply Kd.R_drewN | apply Kd.R_drew)); first | exact HO_13.out | exact Kd.R_mono HO_13.out (fun _ hk_ => by omega)⟩, ⟨by repeat (first | (with_reducible first | exact HB.out | apply below_alloc | apply pw_below_drewN | apply below_drew1) | exact HB.out)⟩⟩
        case rest =>
         clear HC36
         try clear c1
         try clear p1
         try clear q1
         try clear hx1
         try clear c2
         try clear p2
         try clear q2
         try clear hx2
         try clear c3
         try clear p3
         try clear q3
         try clear hx3
         try clear c4
         try clear q4
         try clear c6
         try clear p6
         try clear c7
         try clear c8
         try clear c9
         try clear c9b0
         try clear c9b1
         try clear c13
         try clear c13b0
         try clear c13b1
         try clear c13b2
         try clear c14
         try clear c15
         try clear c15b0
         try clear c16
         try clear c16b0
         try clear p17
         try clear q17
         try clear hx17
         try clear hf17
         try clear c25
         try clear c26
         try clear c26b0
         try clear c26b1
         try clear c27
         try clear c27b0
         try clear c27b1
         try clear p27
         try clear q27
         try clear hx27
         try clear c30
         try clear c30b0
         try clear c31
         try clear c31b0
         try clear p32
         try clear q32
         try clear hx32
         try clear hf32
         try clear c33
         try clear q33
         try clear c37
         try clear c38
         try clear c38b0
         try clear c38b1
         try clear c39
         try clear c39b0
         try clear c39b1
         try clear q40
         try clear hx17_0
         try clear hx278_0
         try clear hx32_0
         try clear p1
         try clear p17
         try clear p2
         try clear p27
         try clear p278
         try clear p3
         try clear p32
         try clear p6
         try clear q1
         try clear q17
         try clear q2
         try clear q27
         try clear q278
         try clear q3
         try clear q32
         try clear q33
         try clear q40
         obtain ⟨kq, x13_35, HA, HJ35, HO_0, HO_13, HB⟩ := hcut
         cases kq with
         | zero => exact absurd HA.out (by simp [guichetlaw13_PosReads.j1])
         | succ kj35 =>
          have H := HA.out
          clear HA
          simp only [guichetlaw13_PosReads.j1] at H
          replace H := Option.bind_eq_some_iff.mp H
          obtain ⟨⟨t290, t291⟩, A410, H⟩ := H
          replace H : ((some (([l0, x13_35, t290] : List (List Int)) : List (List Int))).bind fun y294 => (guichetlaw13_PosReads.l0 kj35 y294 (y294.length : Int) 0)) = some r := H
          have A41 := Aside0.mk A410
          clear A410
          obtain ⟨y294, hy294⟩ : ∃ y_ : List (List Int), y_ = (([l0, x13_35, t290] : List (List Int))) := ⟨_, rfl⟩
          replace H : (guichetlaw13_PosReads.l0 kj35 y294 (y294.length : Int) 0) = some r := by first | (rw [hy294]; with_reducible exact H) | (have H2_ := (Option.bind_some _ _).symm.trans H; rw [hy294]; with_reducible exact H2_) | (have H2_ := (Option.bind_some _ _).symm.trans H; with_reducible exact H2_) | with_reducible exact H | (rw [hy294]; exact H) | exact H
          have Ny294 := Aside0.mk hy294
          clear hy294
          have H' := Aside0.mk H
          clear H
          go_wp2_with (first | ((with_reducible refine gate_callee (f := 15) rfl ?_); refine goesL_ (some 75) rfl rfl Tryd.func15 (by kernel_rfl) rfl #[.slice A0 l0.length c0] rfl (by (try simp only [List.map_toArray, List.map_cons, List.map_nil]); first | done | rfl | (simp only [List.length_drop, List.length_take]; rfl) | (rw [hsame_])) ?_; (with_reducible refine (guichetref1_Frame.calls kj35 _ _ l0 t290 t291 _ ?side1 ?side2 A41.out).mono ?_); (case side1 => repeat (first | exact (Kd.V_reads' HO_0.out).2.2 | (with_reducible refine Kd.C_alloc ?_ _) | (with_reducible refine Kd.C_drewN ?_ _) | (with_reducible refine Kd.C_drew ?_))); (case side2 => exact (Kd.V_reads' HO_0.out).2.1); rintro e w42 ⟨v292, rfl, ho0, hb⟩; refine ⟨_, rfl, ?_⟩; have n0_ := Aside0.mk (Kd.V_elder' (by (with_reducible repeat (first | apply Kd.V_alloc | apply Kd.V_drewN | apply Kd.V_drew)); exact HO_0.out) (Kd.R_base ho0) hb); have n1_ := Aside0.mk (Kd.R_elder' (by (with_reducible repeat (first | apply Kd.R_alloc | apply Kd.R_drewN | apply Kd.R_drew)); exact HO_13.out) (Kd.R_base ho0) hb); have n2_ := Aside0.mk (Kd.R_lower (Kd.R_new' (Kd.R_newM (M := fun k_ => (w.heap.size ≤ k_)) ho0 (below_size (by repeat (first | (with_reducible first | exact HB.out | apply below_alloc | apply pw_below_drewN | apply below_drew1) | exact HB.out))) (fun k_ h_ => h_)) (Kd.R_lt (by (with_reducible repeat (first | apply Kd.R_alloc | apply Kd.R_drewN | apply Kd.R_drew)); exact HO_13.out))) (below_size (by repeat (first | (with_reducible first | exact HB.out | apply below_alloc | apply pw_below_drewN | apply below_drew1) | exact HB.out)))); have n3_ := Aside0.mk (below_step (by repeat (first | (with_reducible first | exact HB.out | apply below_alloc | apply pw_below_drewN | apply below_drew1) | exact HB.out)) hb); clear HO_0; clear HO_13; clear HB; have HO_0 := n0_; have HO_13 := n1_; have HO293 := n2_; have HB := n3_; clear n0_ n1_ n2_ n3_; (try clear hb); (try clear hb2); (try clear hk); (try clear hi); (try clear ho0); obtain ⟨Ao43, co43, eo43⟩ := Kd.R_slice HO_13.out; subst eo43; obtain ⟨Ao44, co44, eo44⟩ := Kd.R_slice HO293.out; subst eo44) | ((with_reducible refine gate_dst (N := 81) rfl ?_); refine Kd.N_lit (Kd.slice 5 (Kd.int .u8)) _ 26 ?hg (N' := 81) ?hd (xs := ([l0, x13_35, t290] : List (List Int))) (inner := [.slice A0 l0.length c0, .slice Ao43 x13_35.length co43, .slice Ao44 t290.length co44]) (ok := (fun k_ => (P0_ k_ ∨ w.heap.size ≤ k_))) (okp := (fun k_ => (P0_ k_ ∨ w.heap.size ≤ k_))) ?hr ?hp (fun _ hk => hk) ((show ∀ k_, w42.heap.size ≤ k_ → (fun k_ => (P0_ k_ ∨ w.heap.size ≤ k_)) k_ from fun k_ hk => (.inr (Nat.le_trans (below_size (by repeat (first | (with_reducible first | exact HB.out | apply below_alloc | apply pw_below_drewN | apply below_drew1) | exact HB.out))) hk))) _ (Nat.le_refl _)) (Below.refl _ _) (Nat.le_refl _) (by simp) ?_; (case hd => rfl); (case hg => rfl); (case hr => first | (go_simp; done) | (go_simp; rfl)); (case hp => exact (Reps.one (show Kd.FK (Kd.slice 5 (Kd.int .u8)) _ _ l0 [.slice A0 l0.length c0] from (Kd.FK_slice_mk (Kd.V_reads' (Kd.V_mono (ok' := (fun k_ => (P0_ k_ ∨ w.heap.size ≤ k_))) (HO_0.out) (fun k_ hk => hk.1.1))).2.1 (Kd.V_F (Kd.V_mono (ok' := (fun k_ => (P0_ k_ ∨ w.heap.size ≤ k_))) (HO_0.out) (fun k_ hk => hk.1.1))))) (Reps.one (show Kd.FK (Kd.slice 5 (Kd.int .u8)) _ _ x13_35 [.slice Ao43 x13_35.length co43] from (Kd.FK_slice_mk (Kd.R_reads' (Kd.R_mono (ok' := (fun k_ => (P0_ k_ ∨ w.heap.size ≤ k_))) (HO_13.out) (fun k_ hk => (.inr (hk.1))))).2.1 (Kd.R_F (Kd.R_mono (ok' := (fun k_ => (P0_ k_ ∨ w.heap.size ≤ k_))) (HO_13.out) (fun k_ hk => (.inr (hk.1))))))) (Reps.one (show Kd.FK (Kd.slice 5 (Kd.int .u8)) _ _ t290 [.slice Ao44 t290.length co44] from (Kd.FK_slice_mk (Kd.R_reads' (Kd.R_mono (ok' := (fun k_ => (P0_ k_ ∨ w.heap.size ≤ k_))) (HO293.out) (fun k_ hk => (.inr (hk.1.1))))).2.1 (Kd.R_F (Kd.R_mono (ok' := (fun k_ => (P0_ k_ ∨ w.heap.size ≤ k_))) (HO293.out) (fun k_ hk => (.inr (hk.1.1))))))) (Reps.none _ _))))); intro v295 w45 ho46 hb hg_ hnew_; clear hg_ hnew_; (first | rw [← Ny294.out] at ho46 | (simp only [Int.reduceToNat] at ho46; rw [← Ny294.out] at ho46)); have n0_ := Aside0.mk (Kd.V_elder' (by (with_reducible repeat (first | apply Kd.V_alloc | apply Kd.V_drewN | apply Kd.V_drew)); exact HO_0.out) (Kd.N_base ho46) hb); have n1_ := Aside0.mk (Kd.N_lower ho46 (below_size (by repeat (first | (with_reducible first | exact HB.out | apply below_alloc | apply pw_below_drewN | apply below_drew1) | exact HB.out)))); have n2_ := Aside0.mk (below_step (by repeat (first | (with_reducible first | exact HB.out | apply below_alloc | apply pw_below_drewN | apply below_drew1) | exact HB.out)) hb); clear HO_0; clear HB; clear HO293; clear HO_13; have HO_0 := n0_; have HO296 := n1_; have HB := n2_; clear n0_ n1_ n2_; clear hb ho46; obtain ⟨Ao47, co47, eo47⟩ := Kd.N_slice HO296.out; subst eo47))
          go_loopg [83] kj35 (fun kq v83 w' => ∃ (x83_3 : Int), v83 = .int .i64 x83_3 ∧ Aside0 (guichetlaw13_PosReads.l0 kq y294 (y294.length : Int) x83_3 = some r) ∧ Aside0 (kq ≤ kj35) ∧ Aside0 (Kd.N (Kd.slice 5 (Kd.int .u8)) 26 w' w.heap.size (fun k_ => (P0_ k_ ∨ w.heap.size ≤ k_)) (.slice Ao47 y294.length co47) y294) ∧ Aside0 (Below w.heap.size w w'))
          case atStart => exact ⟨(0), (by first | rfl | (simp; done) | (simp [*]; done)), H', ⟨Nat.le_refl _⟩, ⟨by (try simp only [hl13_17]); (with_reducible repeat (first | apply Kd.N_alloc | apply Kd.N_drewN | apply Kd.N_drew)); first | exact HO296.out | exact Kd.R_mono HO296.out (fun _ hk_ => by omega)⟩, ⟨by repeat (first | (with_reducible first | exact HB.out | apply below_alloc | apply pw_below_drewN | apply below_drew1) | exact HB.out)⟩⟩
          case round =>
           clear H'
           try clear c1
           try clear p1
           try clear q1
           try clear hx1
           try clear c2
           try clear p2
           try clear q2
           try clear hx2
           try clear c3
           try clear p3
           try clear q3
           try clear hx3
           try clear c4
           try clear q4
           try clear c6
           try clear p6
           try clear c7
           try clear c8
           try clear c9
           try clear c9b0
           try clear c9b1
           try clear c13
           try clear c13b0
           try clear c13b1
           try clear c13b2
           try clear c14
           try clear c15
           try clear c15b0
           try clear c16
           try clear c16b0
           try clear p17
           try clear q17
           try clear hx17
           try clear hf17
           try clear c25
           try clear c26
           try clear c26b0
           try clear c26b1
           try clear c27
           try clear c27b0
           try clear c27b1
           try clear p27
           try clear q27
           try clear hx27
           try clear c30
           try clear c30b0
           try clear c31
           try clear c31b0
           try clear p32
           try clear q32
           try clear hx32
           try clear hf32
           try clear c33
           try clear q33
           try clear c37
           try clear c38
           try clear c38b0
           try clear c38b1
           try clear c39
           try clear c39b0
           try clear c39b1
           try clear q40
           try clear hx17_0
           try clear hx278_0
           try clear hx32_0
           try clear p1
           try clear p17
           try clear p2
           try clear p27
           try clear p278
           try clear p3
           try clear p32
           try clear p6
           try clear q1
           try clear q17
           try clear q2
           try clear q27
           try clear q278
           try clear q3
           try clear q32
           try clear q33
           try clear q4
           try clear q40
           obtain ⟨x83_3, rfl, HA, HK3, HO_81, HB⟩ := hrel
           cases gk with
           | zero => exact absurd HA.out (by simp [guichetlaw13_PosReads.l0])
           | succ k3 =>
            have H := HA.out
            clear HA
            simp only [guichetlaw13_PosReads.l0] at H
            by_cases c48 : x83_3 < (y294.length : Int)
            ·rw [if_pos c48] at H
             have c48b0 : decide (x83_3 < (y294.length : Int)) = true := decide_eq_true c48
             clear c48
             by_cases c49 : 0 ≤ x83_3
             ·rw [if_pos c49] at H
              have c49b0 : decide (0 ≤ x83_3) = true := decide_eq_true c49
              clear c49
              by_cases c50 : x83_3 < (y294.length : Int)
              ·rw [if_pos c50] at H
               have c50b0 : decide (x83_3 < (y294.length : Int)) = true := decide_eq_true c50
               clear c50
               replace H := Option.bind_eq_some_iff.mp H
               obtain ⟨⟨t298, t299, t300, t301, t302, t303⟩, A510, H⟩ := H
               replace H : ((guichetref12_PosRead.f k3 (rd_L1 y294 x83_3)).bind fun bt305 => (if (!(t298 == bt305.1) || (!(t299 == bt305.2.1) || (!(t300.toList == bt305.2.2.1.toList) || (!(t301 == bt305.2.2.2.1))))) = true then (none) else (if t302 = bt305.2.2.2.2.1 then (if t303 = bt305.2.2.2.2.2 then (guichetlaw13_PosReads.l0 k3 y294 (y294.length : Int) (wrap64 (x83_3 + 1))) else (none)) else (none)))) = some r := H
               have A51 := Aside0.mk A510
               clear A510
               replace H := Option.bind_eq_some_iff.mp H
               obtain ⟨⟨t305, t306, t307, t308, t309, t310⟩, A520, H⟩ := H
               replace H : (if (!(t298 == t305) || (!(t299 == t306) || (!(t300.toList == t307.toList) || (!(t301 == t308))))) = true then (none) else (if t302 = t309 then (if t303 = t310 then (guichetlaw13_PosReads.l0 k3 y294 (y294.length : Int) (wrap64 (x83_3 + 1))) else (none)) else (none))) = some r := H
               have A52 := Aside0.mk A520
               clear A520
               by_cases c53 : (!(t298 == t305) || (!(t299 == t306) || (!(t300.toList == t307.toList) || (!(t301 == t308))))) = true
               ·rw [if_pos c53] at H
                exact absurd H (by simp)
               ·rw [if_neg c53] at H
                have c53b0 : (!(t298 == t305) || (!(t299 == t306) || (!(t300.toList == t307.toList) || (!(t301 == t308))))) = false := by simpa using c53
                clear c53
                by_cases c54 : t302 = t309
                ·rw [if_pos c54] at H
                 have c54b0 : (t302 == t309) = true := beq_iff_eq.mpr c54
                 have c54b1 : (t302 != t309) = false := bne_eq_false_iff_eq.mpr c54
                 clear c54
                 by_cases c55 : t303 = t310
                 ·rw [if_pos c55] at H
                  have c55b0 : (t303 == t310) = true := beq_iff_eq.mpr c55
                  have c55b1 : (t303 != t310) = false := bne_eq_false_iff_eq.mpr c55
                  clear c55
                  have H' := Aside0.mk H
                  clear H
                  have p297 : 0 ≤ (x83_3 : Int) := of_decide_eq_true (by first | (with_reducible assumption) | assumption)
                  have q297 : x83_3 < (y294.length : Int) := of_decide_eq_true (by first | (with_reducible assumption) | assumption)
                  obtain ⟨ad297, A297_0, c297_0, e297, hx297_0, hl297_0, hi297_0⟩ := at_L1 (Kd.N_reads' HO_81.out).2.2 x83_3 p297 q297
                  cases e297
                  obtain ⟨ce297, hce297, hMe297, hcc297⟩ := Kd.N_get HO_81.out [] x83_3 p297 (by first | exact q297 | exact of_decide_eq_true (by first | (with_reducible assumption) | assumption) | (have e_ := (Kd.N_reads' HO_81.out).1; omega))
                  obtain ⟨ua297_0, uc297_0, rfl, ul297_0, ge297_0⟩ := Kd.FK_slice_open hMe297
                  have hv297_0 := hcc297 0 _ rfl
                  rw [Nat.add_zero, show ((Kd.slice 5 (Kd.int .u8))).sz = 1 from rfl, Nat.mul_one] at hv297_0
                  replace hv297_0 := Option.some.inj (hv297_0.symm.trans hx297_0)
                  injection hv297_0 with hva_ hvn_ hvc_
                  rw [hva_] at ge297_0
                  rw [hvc_] at ul297_0
                  have HL297_0 := Aside0.mk (show Kd.V (Kd.int .u8) 5 _ w.heap.size _ _ (rd_L1 y294 x83_3) from Kd.V_mk ul297_0 ge297_0)
                  clear hva_ hvn_ hvc_ ge297_0 ul297_0
                  clear hcc297 hce297
                  have HR297_0 := Aside0.mk hi297_0
                  have HC297_0 := Aside0.mk hl297_0
                  clear hi297_0 hl297_0
                  replace p297 := eq_true p297
                  replace q297 := eq_true q297
                  go_wp2_with (first | ((with_reducible refine gate_callee (f := 12) rfl ?_); refine goesL_ (some 89) rfl rfl Tryd.func12 (by kernel_rfl) rfl #[.slice A297_0 (rd_L1 y294 x83_3).length c297_0] rfl (by (try simp only [List.map_toArray, List.map_cons, List.map_nil]); first | done | rfl | (simp only [List.length_drop, List.length_take]; rfl) | (rw [hsame_])) ?_; (with_reducible refine (pos_Read.calls k3 _ _ (rd_L1 y294 x83_3) t298 t299 t300 t301 t302 t303 _ ?side1 ?side2 ?side3 A51.out).mono ?_); (case side1 => exact tab_at HT.out (by repeat (first | (with_reducible first | exact HB.out | apply below_alloc | apply pw_below_drewN | apply below_drew1) | exact HB.out))); (case side2 => repeat (first | exact (by repeat (first | (with_reducible exact HR297_0.out) | (with_reducible refine Kd.C_alloc ?_ _) | (with_reducible refine Kd.C_drewN ?_ _) | (with_reducible refine Kd.C_drew ?_) | exact HR297_0.out)) | (with_reducible refine Kd.C_alloc ?_ _) | (with_reducible refine Kd.C_drewN ?_ _) | (with_reducible refine Kd.C_drew ?_))); (case side3 => exact HC297_0.out); rintro e w56 ⟨rfl, hb⟩; refine ⟨_, rfl, ?_⟩; have n0_ := Aside0.mk (Kd.N_below (by (with_reducible repeat (first | apply Kd.N_alloc | apply Kd.N_drewN | apply Kd.N_drew)); exact HO_81.out) hb); have n1_ := Aside0.mk (Kd.V_below (by (with_reducible repeat (first | apply Kd.V_alloc | apply Kd.V_drewN | apply Kd.V_drew)); exact HL297_0.out) hb); have n2_ := Aside0.mk (Kd.C_below (by repeat (first | (with_reducible exact HR297_0.out) | (with_reducible refine Kd.C_alloc ?_ _) | (with_reducible refine Kd.C_drewN ?_ _) | (with_reducible refine Kd.C_drew ?_) | exact HR297_0.out)) hb); have n3_ := Aside0.mk (below_step (by repeat (first | (with_reducible first | exact HB.out | apply below_alloc | apply pw_below_drewN | apply below_drew1) | exact HB.out)) hb); clear HO_81; clear HL297_0; clear HR297_0; clear HB; have HO_81 := n0_; have HL297_0 := n1_; have HR297_0 := n2_; have HB := n3_; clear n0_ n1_ n2_ n3_; (try clear hb); (try clear hb2); (try clear hk); (try clear hi)) | ((with_reducible refine gate_dst (N := 20) rfl ?_); refine box_event ?hg (N := 20) ?hd (cs := #[.int .u16 0, .int .u32 0, .string (⟨#[]⟩ : ByteArray), .int .i64 0]) (t := 25) ?hr ?_; (case hd => rfl); (case hg => rfl); (case hr => first | (go_simp; done) | (go_simp; rfl)); intro gb304 hg w57 hbox hb; have n0_ := Aside0.mk (Kd.N_below (Kd.N_elderB (by (with_reducible repeat (first | apply Kd.N_alloc | apply Kd.N_drewN | apply Kd.N_drew)); exact HO_81.out) gb304 (Nat.le_of_eq hg.symm)) hb); have n1_ := Aside0.mk (Kd.V_below (Kd.V_elderB (by (with_reducible repeat (first | apply Kd.V_alloc | apply Kd.V_drewN | apply Kd.V_drew)); exact HL297_0.out) gb304 (Nat.le_of_eq hg.symm)) hb); have n2_ := Aside0.mk (Kd.C_below (by repeat (first | (with_reducible exact HR297_0.out) | (with_reducible refine Kd.C_alloc ?_ _) | (with_reducible refine Kd.C_drewN ?_ _) | (with_reducible refine Kd.C_drew ?_) | exact HR297_0.out)) hb); have n3_ := Aside0.mk (below_step (by repeat (first | (with_reducible first | exact HB.out | apply below_alloc | apply pw_below_drewN | apply below_drew1) | exact HB.out)) hb); have n4_ := Aside0.mk (hbox); have n5_ := Aside0.mk ((by rw [hg]; exact (below_size (by repeat (first | (with_reducible first | exact HB.out | apply below_alloc | apply pw_below_drewN | apply below_drew1) | exact HB.out))) : w.heap.size ≤ gb304)); have n6_ := Aside0.mk ((by rw [hg]; exact (below_size (by repeat (first | (with_reducible first | exact HB.out | apply below_alloc | apply pw_below_drewN | apply below_drew1) | exact HB.out))) : w.heap.size ≤ gb304)); clear HO_81; clear HL297_0; clear HR297_0; clear HB; have HO_81 := n0_; have HL297_0 := n1_; have HR297_0 := n2_; have HB := n3_; have BK304 := n4_; have GW304 := n5_; have GE304 := n6_; clear n0_ n1_ n2_ n3_ n4_ n5_ n6_; clear hb hbox hg; have hcz58_0 : w57.cell? ⟨gb304, 0, none⟩ = some (.int .u16 0) := (blk_cell BK304.out 0).trans rfl; have hcz58_1 : w57.cell? ⟨gb304, 1, none⟩ = some (.int .u32 0) := (blk_cell BK304.out 1).trans rfl; have hcz58_2 : w57.cell? ⟨gb304, 2, none⟩ = some (.string (⟨#[]⟩ : ByteArray)) := (blk_cell BK304.out 2).trans rfl; have hcz58_3 : w57.cell? ⟨gb304, 3, none⟩ = some (.int .i64 0) := (blk_cell BK304.out 3).trans rfl; have hfz58_0 := blk_frozen BK304.out 0; have hfz58_1 := blk_frozen BK304.out 1; have hfz58_2 := blk_frozen BK304.out 2; have hfz58_3 := blk_frozen BK304.out 3) | ((with_reducible refine gate_callee (f := 13) rfl ?_); refine goesL_ (some 95) rfl rfl Tryd.func13 (by kernel_rfl) rfl #[.slice A297_0 (rd_L1 y294 x83_3).length c297_0] rfl (by (try simp only [List.map_toArray, List.map_cons, List.map_nil]); first | done | rfl | (simp only [List.length_drop, List.length_take]; rfl) | (rw [hsame_])) ?_; (with_reducible refine (guichetref12_PosRead.calls k3 _ _ (rd_L1 y294 x83_3) t305 t306 t307 t308 t309 t310 _ ?side1 ?side2 A52.out).mono ?_); (case side1 => repeat (first | exact ((Kd.V_reads' (by (with_reducible repeat (first | apply Kd.V_alloc | apply Kd.V_drewN | apply Kd.V_drew)); exact (Kd.V_mono (Kd.V_far (p := ⟨gb304, 3, none⟩) (Kd.V_far (p := ⟨gb304, 2, none⟩) (Kd.V_far (p := ⟨gb304, 1, none⟩) (Kd.V_far (p := ⟨gb304, 0, none⟩) (Kd.V_mono HL297_0.out (fun k_ hk => (⟨hk, hk.2⟩ : _ ∧ k_ ≠ gb304))) (fun _ hk => hk.2) (.int .u16 t298)) (fun _ hk => hk.2) (.int .u32 t299)) (fun _ hk => hk.2) (.string t300)) (fun _ hk => hk.2) (.int .i64 t301)) (fun _ h_ => h_.1)))).2.2) | (with_reducible refine Kd.C_alloc ?_ _) | (with_reducible refine Kd.C_drewN ?_ _) | (with_reducible refine Kd.C_drew ?_))); (case side2 => exact HC297_0.out); rintro e w59 ⟨rfl, hb⟩; refine ⟨_, rfl, ?_⟩; have n0_ := Aside0.mk (Kd.N_below (by (with_reducible repeat (first | apply Kd.N_alloc | apply Kd.N_drewN | apply Kd.N_drew)); exact (Kd.N_mono (Kd.N_far (p := ⟨gb304, 3, none⟩) (Kd.N_far (p := ⟨gb304, 2, none⟩) (Kd.N_far (p := ⟨gb304, 1, none⟩) (Kd.N_far (p := ⟨gb304, 0, none⟩) (Kd.N_mono HO_81.out (fun k_ hk => (⟨hk, hk.2⟩ : _ ∧ k_ ≠ gb304))) (fun _ hk => hk.2) (.int .u16 t298)) (fun _ hk => hk.2) (.int .u32 t299)) (fun _ hk => hk.2) (.string t300)) (fun _ hk => hk.2) (.int .i64 t301)) (fun _ h_ => h_.1))) hb); have n1_ := Aside0.mk (Kd.V_below (by (with_reducible repeat (first | apply Kd.V_alloc | apply Kd.V_drewN | apply Kd.V_drew)); exact (Kd.V_mono (Kd.V_far (p := ⟨gb304, 3, none⟩) (Kd.V_far (p := ⟨gb304, 2, none⟩) (Kd.V_far (p := ⟨gb304, 1, none⟩) (Kd.V_far (p := ⟨gb304, 0, none⟩) (Kd.V_mono HL297_0.out (fun k_ hk => (⟨hk, hk.2⟩ : _ ∧ k_ ≠ gb304))) (fun _ hk => hk.2) (.int .u16 t298)) (fun _ hk => hk.2) (.int .u32 t299)) (fun _ hk => hk.2) (.string t300)) (fun _ hk => hk.2) (.int .i64 t301)) (fun _ h_ => h_.1))) hb); have n2_ := Aside0.mk (Kd.C_below ((Kd.V_reads' (by (with_reducible repeat (first | apply Kd.V_alloc | apply Kd.V_drewN | apply Kd.V_drew)); exact (Kd.V_mono (Kd.V_far (p := ⟨gb304, 3, none⟩) (Kd.V_far (p := ⟨gb304, 2, none⟩) (Kd.V_far (p := ⟨gb304, 1, none⟩) (Kd.V_far (p := ⟨gb304, 0, none⟩) (Kd.V_mono HL297_0.out (fun k_ hk => (⟨hk, hk.2⟩ : _ ∧ k_ ≠ gb304))) (fun _ hk => hk.2) (.int .u16 t298)) (fun _ hk => hk.2) (.int .u32 t299)) (fun _ hk => hk.2) (.string t300)) (fun _ hk => hk.2) (.int .i64 t301)) (fun _ h_ => h_.1)))).2.2) hb); have n3_ := Aside0.mk (blk_below (g := gb304) (o := .cells #[.int .u16 t298, .int .u32 t299, .string t300, .int .i64 t301] 25 (0, 0)) (by (with_reducible repeat (first | refine blk_drewN ?_ _ | refine blk_drew ?_ | refine blk_alloc ?_ _)); refine blk_put (cs := #[.int .u16 t298, .int .u32 t299, .string t300, .int .i64 0]) ?_ 3 _ rfl; (with_reducible repeat (first | refine blk_drewN ?_ _ | refine blk_drew ?_ | refine blk_alloc ?_ _)); refine blk_put (cs := #[.int .u16 t298, .int .u32 t299, .string (⟨#[]⟩ : ByteArray), .int .i64 0]) ?_ 2 _ rfl; (with_reducible repeat (first | refine blk_drewN ?_ _ | refine blk_drew ?_ | refine blk_alloc ?_ _)); refine blk_put (cs := #[.int .u16 t298, .int .u32 0, .string (⟨#[]⟩ : ByteArray), .int .i64 0]) ?_ 1 _ rfl; (with_reducible repeat (first | refine blk_drewN ?_ _ | refine blk_drew ?_ | refine blk_alloc ?_ _)); refine blk_put (cs := #[.int .u16 0, .int .u32 0, .string (⟨#[]⟩ : ByteArray), .int .i64 0]) ?_ 0 _ rfl; (with_reducible repeat (first | refine blk_drewN ?_ _ | refine blk_drew ?_ | refine blk_alloc ?_ _)); exact BK304.out) hb); have n4_ := Aside0.mk (below_step (by repeat (first | (with_reducible first | exact HB.out | apply below_alloc | apply pw_below_drewN | apply below_drew1 | refine below_set ?_ GE304.out) | exact HB.out)) hb); clear HO_81; clear HL297_0; clear HR297_0; clear BK304; clear HB; have HO_81 := n0_; have HL297_0 := n1_; have HR297_0 := n2_; have BK304 := n3_; have HB := n4_; clear n0_ n1_ n2_ n3_ n4_; (try clear hb); (try clear hb2); (try clear hk); (try clear hi)) | ((with_reducible refine gate_dst (N := 23) rfl ?_); refine box_event ?hg (N := 23) ?hd (cs := #[.int .u16 0, .int .u32 0, .string (⟨#[]⟩ : ByteArray), .int .i64 0]) (t := 25) ?hr ?_; (case hd => rfl); (case hg => rfl); (case hr => first | (go_simp; done) | (go_simp; rfl)); intro gb311 hg w60 hbox hb; have n0_ := Aside0.mk (Kd.N_below (Kd.N_elderB (by (with_reducible repeat (first | apply Kd.N_alloc | apply Kd.N_drewN | apply Kd.N_drew)); exact HO_81.out) gb311 (Nat.le_of_eq hg.symm)) hb); have n1_ := Aside0.mk (Kd.V_below (Kd.V_elderB (by (with_reducible repeat (first | apply Kd.V_alloc | apply Kd.V_drewN | apply Kd.V_drew)); exact HL297_0.out) gb311 (Nat.le_of_eq hg.symm)) hb); have n2_ := Aside0.mk (Kd.C_below (by repeat (first | (with_reducible exact HR297_0.out) | (with_reducible refine Kd.C_alloc ?_ _) | (with_reducible refine Kd.C_drewN ?_ _) | (with_reducible refine Kd.C_drew ?_) | exact HR297_0.out)) hb); have n3_ := Aside0.mk (blk_below (g := gb304) (o := .cells #[.int .u16 t298, .int .u32 t299, .string t300, .int .i64 t301] 25 (0, 0)) (by (with_reducible repeat (first | refine blk_drewN ?_ _ | refine blk_drew ?_ | refine blk_alloc ?_ _)); exact BK304.out) hb); have n4_ := Aside0.mk (below_step (by repeat (first | (with_reducible first | exact HB.out | apply below_alloc | apply pw_below_drewN | apply below_drew1 | refine below_set ?_ GE304.out) | exact HB.out)) hb); have n5_ := Aside0.mk (hbox); have n6_ := Aside0.mk ((by rw [hg]; exact (below_size (by repeat (first | (with_reducible first | exact HB.out | apply below_alloc | apply pw_below_drewN | apply below_drew1 | refine below_set ?_ GE304.out) | exact HB.out))) : w.heap.size ≤ gb311)); have n7_ := Aside0.mk ((by rw [hg]; exact (below_size (by repeat (first | (with_reducible first | exact HB.out | apply below_alloc | apply pw_below_drewN | apply below_drew1 | refine below_set ?_ GE304.out) | exact HB.out))) : w.heap.size ≤ gb311)); have n8_ := Aside0.mk ((by rw [hg]; exact Nat.ne_of_lt (blk_lt (g := gb304) (o := .cells #[.int .u16 t298, .int .u32 t299, .string t300, .int .i64 t301] 25 (0, 0)) (by (with_reducible repeat (first | refine blk_drewN ?_ _ | refine blk_drew ?_ | refine blk_alloc ?_ _)); exact BK304.out)) : gb304 ≠ gb311)); have n9_ := Aside0.mk ((by rw [hg]; exact Nat.ne_of_gt (blk_lt (g := gb304) (o := .cells #[.int .u16 t298, .int .u32 t299, .string t300, .int .i64 t301] 25 (0, 0)) (by (with_reducible repeat (first | refine blk_drewN ?_ _ | refine blk_drew ?_ | refine blk_alloc ?_ _)); exact BK304.out)) : gb311 ≠ gb304)); clear HO_81; clear HL297_0; clear HR297_0; clear BK304; clear HB; have HO_81 := n0_; have HL297_0 := n1_; have HR297_0 := n2_; have BK304 := n3_; have HB := n4_; have BK311 := n5_; have GW311 := n6_; have GE311 := n7_; have NB304_311 := n8_; have NB311_304 := n9_; clear n0_ n1_ n2_ n3_ n4_ n5_ n6_ n7_ n8_ n9_; clear hb hbox hg; have hnb61 := NB311_304.out; have hnc61 := NB304_311.out; have hcz62_0 : w60.cell? ⟨gb311, 0, none⟩ = some (.int .u16 0) := (blk_cell BK311.out 0).trans rfl; have hcz62_1 : w60.cell? ⟨gb311, 1, none⟩ = some (.int .u32 0) := (blk_cell BK311.out 1).trans rfl; have hcz62_2 : w60.cell? ⟨gb311, 2, none⟩ = some (.string (⟨#[]⟩ : ByteArray)) := (blk_cell BK311.out 2).trans rfl; have hcz62_3 : w60.cell? ⟨gb311, 3, none⟩ = some (.int .i64 0) := (blk_cell BK311.out 3).trans rfl; have hfz62_0 := blk_frozen BK311.out 0; have hfz62_1 := blk_frozen BK311.out 1; have hfz62_2 := blk_frozen BK311.out 2; have hfz62_3 := blk_frozen BK311.out 3; have hcz63_0 : w60.cell? ⟨gb304, 0, none⟩ = some (.int .u16 t298) := (blk_cell BK304.out 0).trans rfl; have hcz63_1 : w60.cell? ⟨gb304, 1, none⟩ = some (.int .u32 t299) := (blk_cell BK304.out 1).trans rfl; have hcz63_2 : w60.cell? ⟨gb304, 2, none⟩ = some (.string t300) := (blk_cell BK304.out 2).trans rfl; have hcz63_3 : w60.cell? ⟨gb304, 3, none⟩ = some (.int .i64 t301) := (blk_cell BK304.out 3).trans rfl; have hfz63_0 := blk_frozen BK304.out 0; have hfz63_1 := blk_frozen BK304.out 1; have hfz63_2 := blk_frozen BK304.out 2; have hfz63_3 := blk_frozen BK304.out 3))
                  go_roundg k3
                  case measure => have := HJ17.out; have := HJ35.out; have := HK3.out; omega
                  case rel => exact ⟨(wrap64 (x83_3 + 1)), (by first | rfl | (simp; done) | (simp [*]; done)), H', ⟨by have := HJ17.out; have := HJ35.out; have := HK3.out; omega⟩, ⟨by (try simp only [hl13_17]); (with_reducible repeat (first | apply Kd.N_alloc | apply Kd.N_drewN | apply Kd.N_drew)); exact Kd.N_mono (Kd.N_far (p := ⟨gb311, 3, none⟩) (Kd.N_far (p := ⟨gb311, 2, none⟩) (Kd.N_far (p := ⟨gb311, 1, none⟩) (Kd.N_far (p := ⟨gb311, 0, none⟩) (Kd.N_mono HO_81.out (fun k_ hk => (⟨hk, hk.2⟩ : _ ∧ k_ ≠ gb311))) (fun _ hk => hk.2) (.int .u16 t305)) (fun _ hk => hk.2) (.int .u32 t306)) (fun _ hk => hk.2) (.string t307)) (fun _ hk => hk.2) (.int .i64 t308)) (fun _ hk => hk.1.1.1)⟩, ⟨by repeat (first | (with_reducible first | exact HB.out | apply below_alloc | apply pw_below_drewN | apply below_drew1 | refine below_set ?_ GE304.out | refine below_set ?_ GE311.out) | exact HB.out)⟩⟩
                 ·rw [if_neg c55] at H
                  exact absurd H (by simp)
                ·rw [if_neg c54] at H
                 exact absurd H (by simp)
              ·rw [if_neg c50] at H
               exact absurd H (by simp)
             ·rw [if_neg c49] at H
              exact absurd H (by simp)
            ·rw [if_neg c48] at H
             have c48b0 : decide (x83_3 < (y294.length : Int)) = false := decide_eq_false c48
             clear c48
             obtain rfl := Option.some.inj H
             go_wp2
             go_ret
             exact ⟨by first | rfl | (simp [errW_none, errW_some] <;> rfl) | (simp only [← hji14]; first | rfl | (simp [errW_none, errW_some] <;> rfl)) | (simp [*, errW_none, errW_some] <;> rfl), by repeat (first | (with_reducible first | exact HB.out | apply below_alloc | apply pw_below_drewN | apply below_drew1) | exact HB.out)⟩
     ·rw [if_neg c16] at H
      exact absurd H (by simp)
    ·rw [if_neg c15] at H
     exact absurd H (by simp)
 ·replace c8 := Bool.eq_false_iff.mpr c8
  subst c8
  have H1 : (none) = some r := by rw [if_neg (show ¬ (false = true) by decide)] at H; exact H
  clear H
  have H := H1
  clear H1
  exact absurd H (by simp)

/-- THE ONE PURE STATEMENT of guichetlaw13_PosReads. -/
def guichetlaw13_PosReads.Pure : Prop := ∀ (l0 : List Int) (a1 : Int) (a2 : Int) (a3 : Int) (a4 : Bool) (a5 : Bool), l0.length ≤ maxLen → l0.length * 1 ≤ 140737488351232 → (∀ x ∈ l0, (Lit.int .u8 x).wf = true) → (Lit.int .u8 a1).wf = true → (Lit.int .u8 a2).wf = true → (Lit.int .u8 a3).wf = true → ∃ k, guichetlaw13_PosReads.f k l0 a1 a2 a3 a4 a5 = some true
theorem guichetlaw13_PosReads.walk (P : guichetlaw13_PosReads.Pure) (a0 : Option Addr) (len0 cap0 : Nat) (z0 : List Int) (a1 : Int) (a2 : Int) (a3 : Int) (a4 : Bool) (a5 : Bool) (w : World) (hT : TAB w) (w0 : (a0 = none ∧ len0 = 0 ∧ cap0 = 0 ∧ z0 = []) ∨ ∃ x, a0 = some x ∧ len0 ≤ cap0 ∧ cap0 ≤ maxLen ∧ z0.length = cap0 ∧ (∀ i, i < z0.length → w.cell? (x.add i) = some (.int .u8 (z0.getD i 0))) ∧ ∀ n ∈ z0, (Lit.int .u8 n).wf = true) (y0 : len0 * 1 ≤ 140737488351232) (w1 : (Lit.int .u8 a1).wf = true) (w2 : (Lit.int .u8 a2).wf = true) (w3 : (Lit.int .u8 a3).wf = true) :
  Calls Tryd.prog 4 #[.slice a0 len0 cap0, .int .u8 a1, .int .u8 a2, .int .u8 a3, .bool a4, .bool a5] w fun e w' => e = .returned (.bool true) ∧ Below w.heap.size w w' := by
 obtain ⟨l0, rfl, hr0, hm0, hw0, hc0⟩ := ReadsInt.ofRowC w0
 obtain ⟨k, h⟩ := P l0 a1 a2 a3 a4 a5 hm0 y0 hw0 w1 w2 w3
 refine (guichetlaw13_PosReads.calls k (fun k_ => k_ < w.heap.size) _ _ l0 a1 a2 a3 a4 a5 true w hT (Kd.V_mk hc0 (Kd.C_F (Kd.heap_int .u8) (Kd.C_of_reads (d := (0 : Int)) (h1 := fun _ => rfl) hr0))) h).mono ?_
 rintro e w' ⟨rfl, hd⟩
 exact ⟨rfl, hd⟩

end Go.Proofs.YtkhgiojpegghoaaDoor.PAll
