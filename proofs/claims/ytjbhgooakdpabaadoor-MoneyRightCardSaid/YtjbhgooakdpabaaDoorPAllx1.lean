-- written by xprint.py out of the translation. Not trusted: Lean checks it.
import Derived.Test.YtjbhgooakdpabaaDoorPAllx0
namespace Go.Proofs.YtjbhgooakdpabaaDoor.PAll
open Go.RowKit Go.Proofs.YtjbhgooakdpabaaDoorW.PrintWords Go.Proofs.YtjbhgooakdpabaaDoorW.PrintLast Go.Proofs.YtjbhgooakdpabaaDoorW.PrintMore
attribute [local go_sem] max2_int min2_int max_two min_two max_three min_three max_four min_four   -- for this text's walks alone
set_option linter.unusedVariables false
set_option linter.unusedSimpArgs false

/-! ### strconv_FormatUint: function 19 -/
open Go.Shelf Go.Sort Go.Lib in
set_option maxHeartbeats 6400000 in
set_option maxRecDepth 100000 in
theorem fmtUint_inner (u : Nat) (hu : u < 18446744073709551616) (w : World) (htab : Lib.TabIs Tryd.prog w "internal/strconv.uint64pow10" .u64 Lib.pow10Tab) :
  Calls Tryd.prog 30 #[.int .u64 u, .int .i64 10] w fun e w' => e = .returned (.string ⟨(Lib.decDigits u).toArray⟩) ∧ Below w.heap.size w w' := by
 by_cases hs : u < 100
 ·have hw : IntKind.i64.wrap (u : Int) = (u : Int) := by rw [IntKind.wrap_i64]; omega
  have hlt : ((u : Int) < 100) = True := eq_true (by omega)
  go_enter Tryd.func30, Tryd.ntmps30
  go_wp2_with (go_at_call 36; (first | rw [hw] | skip); refine (Tryd.internal_strconv_small u hs _).mono ?_; rintro e w' ⟨rfl, rfl⟩)
  go_ret
  exact ⟨rfl, Below.refl _ _⟩
 ·have hu1 : 1 ≤ u := by omega
  have hnd20 : Lib.nDigits u ≤ 20 := by have := Lib.numDigits_eq u hu1 hu; split at this <;> omega
  have hlt : ((u : Int) < 100) = False := eq_false (by omega)
  have hb3 : Lib.nDigits u ≤ 24 := by omega
  have hal : Tryd.prog.arrayLen 67 = 24 := by simp [Program.arrayLen, Tryd.underlying67]
  have hsl : ∀ W, (Instr.sliceAt 67 (.pointer (some ⟨w.heap.size, 0, none⟩)) none (some (.int .i64 (Lib.nDigits u : Int))) none).run Tryd.prog W = .ok (.slice (some ⟨w.heap.size, 0, none⟩) (Lib.nDigits u) 24) W := fun W => by
   rw [run_sliceAt_array_h W 67 ⟨w.heap.size, 0, none⟩ (by simp [Program.arrayLen, Program.elem, Tryd.underlying67]) .i64 (Lib.nDigits u : Int) (by omega) (by rw [hal]; omega)]
   go_simp
   try omega
  have hH0 := Lib.holds_zero0 w 67 (Lib.nDigits u) (by omega)
  have hfmt := Tryd.internal_strconv_formatBase10 w.heap.size 0 24 u (Array.replicate (Lib.nDigits u) 0) (w.alloc (.cells Lib.zeros24 67)) hH0 (by rw [Array.size_replicate]; exact Lib.lt_pow_nDigits u) hu (by rw [Array.size_replicate]; omega)
  rw [Array.size_replicate] at hfmt
  have HH0 := Lib.hid hH0
  clear hH0 hal
  go_enter Tryd.func30, Tryd.ntmps30
  go_wp2_with (first
   | (go_at_call 37; refine (Tryd.internal_strconv_numDigits u hu1 hu _ (Lib.tabIs_alloc htab _)).mono ?_; rintro e w' ⟨rfl, rfl⟩))
  go_at_call 38
  refine hfmt.mono ?_
  rintro e w' ⟨rfl, k, v', dk, rfl, hF⟩
  have hcv : (convert 30 9 (.slice (some ⟨w.heap.size, 0, none⟩) (Lib.nDigits u) 24)).run Tryd.prog ((putRow (fun (b : UInt8) => Value.int .u8 (b.toNat : Int)) (w.alloc (.cells Lib.zeros24 67)) w.heap.size 0 dk).drewN k) = .ok (.string ⟨(Lib.decDigits u).toArray⟩) ((putRow (fun (b : UInt8) => Value.int .u8 (b.toNat : Int)) (w.alloc (.cells Lib.zeros24 67)) w.heap.size 0 dk).drewN k) := by
   have h := run_convert_bytes_back (P := Tryd.prog) ((putRow (fun (b : UInt8) => Value.int .u8 (b.toNat : Int)) (w.alloc (.cells Lib.zeros24 67)) w.heap.size 0 dk).drewN k) 30 9 5 ⟨w.heap.size, 0, none⟩ 24 (Lib.decDigits u) Tryd.underlying30 Tryd.underlying5 Tryd.underlying9 (fun j hj => by
    rw [Lib.row_is_numeral hF j hj, Lib.add_plain, World.cell?_drewN]
    exact cell?_putRow (fun (b : UInt8) => Value.int .u8 (b.toNat : Int)) _ w.heap.size 0 _ dk HH0.out (by rw [hF.size, Array.size_replicate]) j (by rw [hF.size]; rw [Lib.decDigits_length] at hj; exact hj))
   rw [Lib.decDigits_length] at h
   exact h
  go_wp2
  go_ret
  obtain ⟨os, eo⟩ := Lib.fin_at w (.cells Lib.zeros24 67) dk k 0
  exact ⟨rfl, by rw [eo]; exact Lib.below_grow _ _ (Nat.le_refl _) _ _⟩
def strconv_FormatUint.f (a0 a1 : Int) : Option (ByteArray) := if a1 = 10 ∧ (Lit.int .u64 a0).wf = true then some ⟨(Lib.itoa a0).toArray⟩ else none
theorem strconv_FormatUint.calls (a0 a1 : Int) (r : ByteArray) (w : World) (hT : TAB w) (h : strconv_FormatUint.f a0 a1 = some r) :
  Calls Tryd.prog 19 #[.int .u64 a0, .int .i64 a1] w fun e w' => e = .returned (.string r) ∧ Below w.heap.size w w' := by
 unfold strconv_FormatUint.f at h
 split at h
 case isFalse => cases h
 rename_i hc
 obtain ⟨rfl, hw⟩ := hc
 obtain rfl := Option.some.inj h
 have hb : 0 ≤ a0 ∧ a0 ≤ 18446744073709551615 := by simpa [Lit.wf, IntKind.min, IntKind.max, IntKind.bits, IntKind.signed] using hw
 obtain ⟨u, rfl⟩ : ∃ u : Nat, a0 = u := ⟨a0.toNat, by omega⟩
 rw [Lib.itoa_nonneg]
 go_enter Tryd.func19, Tryd.ntmps19
 go_wp2_with (go_at_call 30; refine (fmtUint_inner u (by omega) _ (TAB_pow10 hT)).mono ?_; rintro e w' ⟨rfl, hW⟩)
 go_ret
 exact ⟨rfl, hW⟩

/-! ### strconv_FormatInt: function 34 -/
def strconv_FormatInt.f (a0 a1 : Int) : Option (ByteArray) := if a1 = 10 ∧ (Lit.int .i64 a0).wf = true then some ⟨(Lib.itoa a0).toArray⟩ else none
theorem strconv_FormatInt.calls (a0 a1 : Int) (r : ByteArray) (w : World) (hT : TAB w) (h : strconv_FormatInt.f a0 a1 = some r) :
  Calls Tryd.prog 34 #[.int .i64 a0, .int .i64 a1] w fun e w' => e = .returned (.string r) ∧ Below w.heap.size w w' := by
 unfold strconv_FormatInt.f at h
 split at h
 case isFalse => cases h
 rename_i hc
 obtain ⟨rfl, hw⟩ := hc
 obtain rfl := Option.some.inj h
 have hb : -9223372036854775808 ≤ a0 ∧ a0 ≤ 9223372036854775807 := by simpa [Lit.wf, IntKind.min, IntKind.max, IntKind.bits, IntKind.signed] using hw
 refine (Tryd.strconv_FormatInt_10 a0 hb.1 hb.2 w (TAB_pow10 hT)).mono ?_
 rintro e w' ⟨rfl, k, os, rfl⟩
 exact ⟨rfl, Lib.below_grow _ _ (Nat.le_refl _) _ _⟩

/-! ### strings_Cut: function 20 -/
def strings_Cut.f (a0 a1 : ByteArray) : Option (ByteArray × ByteArray × Bool) := if a0.size < 4294967281 then some (⟨(Lib.cut a0.data.toList a1.data.toList).1.toArray⟩, ⟨(Lib.cut a0.data.toList a1.data.toList).2.1.toArray⟩, (Lib.cut a0.data.toList a1.data.toList).2.2) else none
theorem strings_Cut.calls (a0 a1 : ByteArray) (r1 r2 : ByteArray) (r3 : Bool) (w : World) (hT : TAB w) (h : strings_Cut.f a0 a1 = some (r1, r2, r3)) :
  Calls Tryd.prog 20 #[.string a0, .string a1] w fun e w' => e = .returned (.tuple #[.string r1, .string r2, .bool r3]) ∧ Below w.heap.size w w' := by
 unfold strings_Cut.f at h
 split at h
 case isFalse => cases h
 rename_i hs
 simp only [Option.some.injEq, Prod.mk.injEq] at h
 obtain ⟨rfl, rfl, rfl⟩ := h
 obtain ⟨m, hm⟩ := TAB_maxlen hT
 refine (Tryd.strings_Cut a0 a1 m w hs hm).mono ?_
 rintro e w' ⟨rfl, n, rfl⟩
 exact ⟨rfl, pw_below_drewN (Below.refl _ _) _⟩

/-! ### strconv_ParseInt: function 21 -/
def strconv_ParseInt.f (a0 : ByteArray) (a1 a2 : Int) : Option (Int × Option Int) :=
 if a1 = 10 ∧ a2 = 64 ∧ a0.size ≤ 9223372036854775806 then (match Lib.parseIntB 64 a0.data.toList with | .ok v => some (v, none) | _ => none) else none
theorem strconv_ParseInt.calls (a0 : ByteArray) (a1 a2 : Int) (r1 : Int) (r2 : Option Int) (w : World) (h : strconv_ParseInt.f a0 a1 a2 = some (r1, r2)) :
  Calls Tryd.prog 21 #[.string a0, .int .i64 a1, .int .i64 a2] w fun e w' => e = .returned (.tuple #[.int .i64 r1, errW r2]) ∧ Below w.heap.size w w' := by
 unfold strconv_ParseInt.f at h
 split at h
 case isFalse => cases h
 rename_i hc
 obtain ⟨rfl, rfl, hs⟩ := hc
 split at h
 case h_2 => cases h
 rename_i v hv
 simp only [Option.some.injEq, Prod.mk.injEq] at h
 obtain ⟨rfl, rfl⟩ := h
 refine (Tryd.strconv_ParseInt_10_at64_ok a0 hs v hv w).mono ?_
 rintro e w' ⟨rfl, rfl | ⟨t, rfl⟩⟩
 ·exact ⟨rfl, Below.refl _ _⟩
 ·exact ⟨rfl, bytes_below (Below.refl _ _) (Nat.le_refl _) _ _⟩

/-! ### strings_Repeat: function 35 -/
def strings_Repeat.f (a0 : ByteArray) (a1 : Int) : Option (ByteArray) := if 0 ≤ a1 ∧ a1 ≤ 9223372036854775807 ∧ a0.size * a1.toNat ≤ 140737488355328 then some ⟨(Lib.repeatL a0.data.toList a1.toNat).toArray⟩ else none
theorem strings_Repeat.calls (a0 : ByteArray) (a1 : Int) (r : ByteArray) (w : World) (h : strings_Repeat.f a0 a1 = some r) :
  Calls Tryd.prog 35 #[.string a0, .int .i64 a1] w fun e w' => e = .returned (.string r) ∧ Below w.heap.size w w' := by
 unfold strings_Repeat.f at h
 split at h
 case isFalse => cases h
 rename_i hc
 obtain ⟨h0, h1, h2⟩ := hc
 obtain rfl := Option.some.inj h
 obtain ⟨c, rfl⟩ := Int.eq_ofNat_of_zero_le h0
 exact Tryd.strings_Repeat a0 c w (by omega) h2

/-! ### guichetlaw16_known: function 6 -/
section
open Go.B
noncomputable def known_T : Tr Func := ((((((((((((Tr.nil.set 6 Tryd.f6).set 13 Tryd.f13).set 24 Tryd.f24).set 25 Tryd.f25).set 14 Tryd.f14).set 26 Tryd.f26).set 16 Tryd.f16).set 7 Tryd.f7).set 8 Tryd.f8).set 9 Tryd.f9).set 27 Tryd.f27).set 22 Tryd.f22)
def gFormatUint (a : Array Value) : Option Value := match a.toList with | [.int .u64 n, .int .i64 b] => (strconv_FormatUint.f n b).map .string | _ => none
def gFormatInt (a : Array Value) : Option Value := match a.toList with | [.int .i64 n, .int .i64 b] => (strconv_FormatInt.f n b).map .string | _ => none
def gCut (a : Array Value) : Option Value := match a.toList with | [.string s, .string t] => (strings_Cut.f s t).map fun p => .tuple #[.string p.1, .string p.2.1, .bool p.2.2] | _ => none
def gParseInt (a : Array Value) : Option Value := match a.toList with | [.string s, .int .i64 b, .int .i64 z] => (match strconv_ParseInt.f s b z with | some (v, none) => some (.tuple #[.int .i64 v, .nilIface]) | _ => none) | _ => none
def gRepeat (a : Array Value) : Option Value := match a.toList with | [.string s, .int .i64 n] => (strings_Repeat.f s n).map .string | _ => none
theorem of_toList {a : Array Value} {l : List Value} (h : a.toList = l) : a = l.toArray := Array.ext' h
theorem VRel.scalars {ρ : Ren} {l : List Value} (h : l.all isScalA = true) : VRel ρ (.tuple l.toArray) (.tuple l.toArray) := VRel.tuple rfl (fun i h1 _ => VRel.scalA (List.all_eq_true.mp h _ (List.getElem_mem h1)))
def known_X : Exts := fun f => if f = 19 then some (onlyVal gFormatUint) else if f = 34 then some (onlyVal gFormatInt) else if f = 20 then some (onlyVal gCut) else if f = 21 then some (onlyVal gParseInt) else if f = 35 then some (onlyVal gRepeat) else none
theorem known_X_ok [Dem Tryd.prog] (hD : ∀ w, Dem.I Tryd.prog w → TAB w) : ExtOk Tryd.prog known_X := by
 unfold known_X
 refine ExtOk.add (ExtOk.add (ExtOk.add (ExtOk.add (ExtOk.add ExtOk.none ?_) ?_) ?_) ?_) ?_
 ·refine ScalExt.ok (fun args v h => ?_) Tryd.func35 rfl (by decide +kernel)
  unfold gRepeat at h
  split at h
  case h_2 => cases h
  rename_i s n e
  obtain ⟨x, hx, rfl⟩ := Option.map_eq_some_iff.mp h
  refine ⟨by rw [e]; rfl, fun w hI => ?_⟩
  rw [of_toList e]
  refine (strings_Repeat.calls s n x w hx).mono ?_
  rintro e w' ⟨rfl, hb⟩
  exact ⟨⟨_, rfl, fun ρ => VRel.scalA rfl⟩, hb⟩
 ·refine ScalExt.ok (fun args v h => ?_) Tryd.func21 rfl (by decide +kernel)
  unfold gParseInt at h
  split at h
  case h_2 => cases h
  rename_i s b z e
  split at h
  case h_2 => cases h
  rename_i x hx
  obtain rfl := Option.some.inj h
  refine ⟨by rw [e]; rfl, fun w hI => ?_⟩
  rw [of_toList e]
  refine (strconv_ParseInt.calls s b z x none w hx).mono ?_
  rintro e w' ⟨rfl, hb⟩
  exact ⟨⟨_, rfl, fun ρ => VRel.scalars rfl⟩, hb⟩
 ·refine ScalExt.ok (fun args v h => ?_) Tryd.func20 rfl (by decide +kernel)
  unfold gCut at h
  split at h
  case h_2 => cases h
  rename_i s t e
  obtain ⟨⟨x, y, z⟩, hx, rfl⟩ := Option.map_eq_some_iff.mp h
  refine ⟨by rw [e]; rfl, fun w hI => ?_⟩
  rw [of_toList e]
  refine (strings_Cut.calls s t x y z w (hD w hI) hx).mono ?_
  rintro e w' ⟨rfl, hb⟩
  exact ⟨⟨_, rfl, fun ρ => VRel.scalars rfl⟩, hb⟩
 ·refine ScalExt.ok (fun args v h => ?_) Tryd.func34 rfl (by decide +kernel)
  unfold gFormatInt at h
  split at h
  case h_2 => cases h
  rename_i n b e
  obtain ⟨x, hx, rfl⟩ := Option.map_eq_some_iff.mp h
  refine ⟨by rw [e]; rfl, fun w hI => ?_⟩
  rw [of_toList e]
  refine (strconv_FormatInt.calls n b x w (hD w hI) hx).mono ?_
  rintro e w' ⟨rfl, hb⟩
  exact ⟨⟨_, rfl, fun ρ => VRel.scalA rfl⟩, hb⟩
 ·refine ScalExt.ok (fun args v h => ?_) Tryd.func19 rfl (by decide +kernel)
  unfold gFormatUint at h
  split at h
  case h_2 => cases h
  rename_i n b e
  obtain ⟨x, hx, rfl⟩ := Option.map_eq_some_iff.mp h
  refine ⟨by rw [e]; rfl, fun w hI => ?_⟩
  rw [of_toList e]
  refine (strconv_FormatUint.calls n b x w (hD w hI) hx).mono ?_
  rintro e w' ⟨rfl, hb⟩
  exact ⟨⟨_, rfl, fun ρ => VRel.scalA rfl⟩, hb⟩
theorem known_T_ok : TabOk Tryd.prog known_T.get := by
 unfold known_T
 repeat (first | exact TabOk.nil | refine TabOk.set ?_ (by kernel_rfl) (by decide +kernel))
set_option maxRecDepth 1000000 in
theorem known_run : said (callB drawRun Tryd.prog known_T.get known_X 50 6 #[] Go.B.H0) true = true := by decide +kernel
end
def guichetlaw16_known.f : Option Bool := some true
theorem guichetlaw16_known.calls (r : Bool) (w : World) (hT : TAB w) (h : guichetlaw16_known.f = some r) : Calls Tryd.prog 6 #[] w fun e w' => e = .returned (.bool r) ∧ Below w.heap.size w w' := by
 obtain rfl := Option.some.inj h
 let D : Go.B.Dem Tryd.prog := ⟨w.heap.size, fun W => Below w.heap.size w W, fun _ _ _ hb h => h.trans hb⟩
 exact Go.B.run_calls (k := 50) (b := true) (args := #[]) known_T_ok (known_X_ok (fun W hW => tab_at hT hW)) rfl known_run (Below.refl _ _) (Nat.le_refl _)

/-! ### money_Text: function 7 -/
def money_Text.f (a0 : Int) : Option (ByteArray) := if a0 < 0 then ((strconv_FormatUint.f (IntKind.u64.wrap ((Int.tmod (IntKind.u64.wrap (-(IntKind.u64.wrap (a0)))) 100) + 100)) 10).bind fun t101 => ((strconv_FormatUint.f (IntKind.u64.wrap (Int.tdiv (IntKind.u64.wrap (-(IntKind.u64.wrap (a0)))) 100)) 10).bind fun t102 => (if 1 + t102.size ≤ 9223372036854775807 then (if ((⟨#[45]⟩ : ByteArray) ++ t102).size + 1 ≤ 9223372036854775807 then (if 1 ≤ (t101.size : Int) then (if (((⟨#[45]⟩ : ByteArray) ++ t102) ++ (⟨#[46]⟩ : ByteArray)).size + (t101.extract 1 t101.size).size ≤ 9223372036854775807 then (some ((((⟨#[45]⟩ : ByteArray) ++ t102) ++ (⟨#[46]⟩ : ByteArray)) ++ (t101.extract 1 t101.size))) else (none)) else (none)) else (none)) else (none)))) else ((strconv_FormatUint.f (IntKind.u64.wrap ((Int.tmod (IntKind.u64.wrap (a0)) 100) + 100)) 10).bind fun t103 => ((strconv_FormatUint.f (IntKind.u64.wrap (Int.tdiv (IntKind.u64.wrap (a0)) 100)) 10).bind fun t104 => (if 0 + t104.size ≤ 9223372036854775807 then (if ((⟨#[]⟩ : ByteArray) ++ t104).size + 1 ≤ 9223372036854775807 then (if 1 ≤ (t103.size : Int) then (if (((⟨#[]⟩ : ByteArray) ++ t104) ++ (⟨#[46]⟩ : ByteArray)).size + (t103.extract 1 t103.size).size ≤ 9223372036854775807 then (some ((((⟨#[]⟩ : ByteArray) ++ t104) ++ (⟨#[46]⟩ : ByteArray)) ++ (t103.extract 1 t103.size))) else (none)) else (none)) else (none)) else (none))))
def money_Text.T5 : Bool × List (List Nat × List Nat) := (true, [([], []), ([], []), ([1], [1]), ([2], [2]), ([0, 3], [0, 3]), ([4], [4]), ([], []), ([6], [6]), ([5, 7], [5, 7]), ([8, 3, 0, 1, 2, 3, 4, 5, 6, 7, 8], [8])])
def money_Text.B5 : List Nat := [0, 0, 2, 6, 15, 31, 0, 64, 255, 511]
theorem money_Text.tab5 : rtab .any (opsOf Tryd.f7 5) = money_Text.T5 := by kernel_rfl
theorem money_Text.bits5 : waitsOk money_Text.T5.2 money_Text.B5 = true := by kernel_rfl
set_option maxHeartbeats 8000000 in
set_option maxRecDepth 100000 in
theorem money_Text.calls (a0 : Int) (r : ByteArray) (w : World) (hT : TAB w) (h : money_Text.f a0 = some r) :
  Calls Tryd.prog 7 #[.int .i64 a0] w fun e w' => e = .returned (.string r) ∧ Below w.heap.size w w' := by
 have HT := Aside0.mk hT
 clear hT
 have HB := Aside0.mk (Below.refl w.heap.size w)
 have H : (if a0 < 0 then ((strconv_FormatUint.f (IntKind.u64.wrap ((Int.tmod (IntKind.u64.wrap (-(IntKind.u64.wrap (a0)))) 100) + 100)) 10).bind fun t101 => ((strconv_FormatUint.f (IntKind.u64.wrap (Int.tdiv (IntKind.u64.wrap (-(IntKind.u64.wrap (a0)))) 100)) 10).bind fun t102 => (if 1 + t102.size ≤ 9223372036854775807 then (if ((⟨#[45]⟩ : ByteArray) ++ t102).size + 1 ≤ 9223372036854775807 then (if 1 ≤ (t101.size : Int) then (if (((⟨#[45]⟩ : ByteArray) ++ t102) ++ (⟨#[46]⟩ : ByteArray)).size + (t101.extract 1 t101.size).size ≤ 9223372036854775807 then (some ((((⟨#[45]⟩ : ByteArray) ++ t102) ++ (⟨#[46]⟩ : ByteArray)) ++ (t101.extract 1 t101.size))) else (none)) else (none)) else (none)) else (none)))) else ((strconv_FormatUint.f (IntKind.u64.wrap ((Int.tmod (IntKind.u64.wrap (a0)) 100) + 100)) 10).bind fun t103 => ((strconv_FormatUint.f (IntKind.u64.wrap (Int.tdiv (IntKind.u64.wrap (a0)) 100)) 10).bind fun t104 => (if 0 + t104.size ≤ 9223372036854775807 then (if ((⟨#[]⟩ : ByteArray) ++ t104).size + 1 ≤ 9223372036854775807 then (if 1 ≤ (t103.size : Int) then (if (((⟨#[]⟩ : ByteArray) ++ t104) ++ (⟨#[46]⟩ : ByteArray)).size + (t103.extract 1 t103.size).size ≤ 9223372036854775807 then (some ((((⟨#[]⟩ : ByteArray) ++ t104) ++ (⟨#[46]⟩ : ByteArray)) ++ (t103.extract 1 t103.size))) else (none)) else (none)) else (none)) else (none))))) = some r := h
 clear h
 by_cases c2 : a0 < 0
 ·rw [if_pos c2] at H
  have c2b0 : decide (a0 < 0) = true := decide_eq_true c2
  clear c2
  replace H := Option.bind_eq_some_iff.mp H
  obtain ⟨t101, A30, H⟩ := H
  replace H : ((strconv_FormatUint.f (IntKind.u64.wrap (Int.tdiv (IntKind.u64.wrap (-(IntKind.u64.wrap (a0)))) 100)) 10).bind fun t102 => (if 1 + t102.size ≤ 9223372036854775807 then (if ((⟨#[45]⟩ : ByteArray) ++ t102).size + 1 ≤ 9223372036854775807 then (if 1 ≤ (t101.size : Int) then (if (((⟨#[45]⟩ : ByteArray) ++ t102) ++ (⟨#[46]⟩ : ByteArray)).size + (t101.extract 1 t101.size).size ≤ 9223372036854775807 then (some ((((⟨#[45]⟩ : ByteArray) ++ t102) ++ (⟨#[46]⟩ : ByteArray)) ++ (t101.extract 1 t101.size))) else (none)) else (none)) else (none)) else (none))) = some r := H
  have A3 := Aside0.mk A30
  clear A30
  replace H := Option.bind_eq_some_iff.mp H
  obtain ⟨t102, A40, H⟩ := H
  replace H : (if 1 + t102.size ≤ 9223372036854775807 then (if ((⟨#[45]⟩ : ByteArray) ++ t102).size + 1 ≤ 9223372036854775807 then (if 1 ≤ (t101.size : Int) then (if (((⟨#[45]⟩ : ByteArray) ++ t102) ++ (⟨#[46]⟩ : ByteArray)).size + (t101.extract 1 t101.size).size ≤ 9223372036854775807 then (some ((((⟨#[45]⟩ : ByteArray) ++ t102) ++ (⟨#[46]⟩ : ByteArray)) ++ (t101.extract 1 t101.size))) else (none)) else (none)) else (none)) else (none)) = some r := H
  have A4 := Aside0.mk A40
  clear A40
  by_cases c5 : 1 + t102.size ≤ 9223372036854775807
  ·rw [if_pos c5] at H
   have c5b0 := eq_true c5
   have c5b1 : decide (1 + t102.size ≤ 9223372036854775807) = true := decide_eq_true c5
   try have c5b2 : (9223372036854775807 < 1 + t102.size) = False := eq_false (Nat.not_lt.2 c5)
   by_cases c6 : ((⟨#[45]⟩ : ByteArray) ++ t102).size + 1 ≤ 9223372036854775807
   ·rw [if_pos c6] at H
    have c6b0 := eq_true c6
    have c6b1 : decide (((⟨#[45]⟩ : ByteArray) ++ t102).size + 1 ≤ 9223372036854775807) = true := decide_eq_true c6
    (try have c6b5 : (9223372036854775807 < 1 + t102.size + 1) = False := (by rw [show 1 + t102.size + 1 = ((⟨#[45]⟩ : ByteArray) ++ t102).size + 1 from (by first | (simp only [ByteArray.size_append]; done) | (simp only [ByteArray.size_append]; rfl))]; exact eq_false (Nat.not_lt.2 c6)))
    try have c6b2 : (9223372036854775807 < ((⟨#[45]⟩ : ByteArray) ++ t102).size + 1) = False := eq_false (Nat.not_lt.2 c6)
    by_cases c7 : 1 ≤ (t101.size : Int)
    ·rw [if_pos c7] at H
     have c7b0 := eq_true c7
     have c7b1 : decide (1 ≤ (t101.size : Int)) = true := decide_eq_true c7
     clear c7
     by_cases c8 : (((⟨#[45]⟩ : ByteArray) ++ t102) ++ (⟨#[46]⟩ : ByteArray)).size + (t101.extract 1 t101.size).size ≤ 9223372036854775807
     ·rw [if_pos c8] at H
      have c8b0 := eq_true c8
      have c8b1 : decide ((((⟨#[45]⟩ : ByteArray) ++ t102) ++ (⟨#[46]⟩ : ByteArray)).size + (t101.extract 1 t101.size).size ≤ 9223372036854775807) = true := decide_eq_true c8
      (try have c8b6 : (9223372036854775807 < 1 + t102.size + 1 + (t101.size - 1)) = False := eq_false (by have h_ := c8; have hk_ : (⟨#[]⟩ : ByteArray).size = 0 := rfl; have hd_ : (⟨#[46]⟩ : ByteArray).size = 1 := rfl; have hm_ : (⟨#[45]⟩ : ByteArray).size = 1 := rfl; (try simp only [ByteArray.size_append, ByteArray.size_extract] at h_); omega))
      try have c8b2 : (9223372036854775807 < (((⟨#[45]⟩ : ByteArray) ++ t102) ++ (⟨#[46]⟩ : ByteArray)).size + (t101.extract 1 t101.size).size) = False := eq_false (Nat.not_lt.2 c8)
      obtain rfl := Option.some.inj H
      go_enter Tryd.func7, Tryd.ntmps7
      try go_wp2_with (first | ((with_reducible refine gate_callee (f := 19) rfl ?_); refine goesL_ (some 15) rfl rfl Tryd.func19 (by kernel_rfl) rfl #[.int .u64 (IntKind.u64.wrap ((Int.tmod (IntKind.u64.wrap (-(IntKind.u64.wrap (a0)))) 100) + 100)), .int .i64 10] rfl (by (try simp only [List.map_toArray, List.map_cons, List.map_nil]); first | done | rfl | (simp only [List.length_drop, List.length_take]; rfl) | (rw [hsame_])) ?_; (with_reducible refine (strconv_FormatUint.calls (IntKind.u64.wrap ((Int.tmod (IntKind.u64.wrap (-(IntKind.u64.wrap (a0)))) 100) + 100)) 10 t101 _ ?side1 A3.out).mono ?_); (case side1 => exact tab_at HT.out (by repeat (first | (with_reducible first | exact HB.out | apply below_alloc | apply pw_below_drewN | apply below_drew1) | exact HB.out))); rintro e w9 ⟨rfl, hb⟩; refine ⟨_, rfl, ?_⟩; have n0_ := Aside0.mk (below_step (by repeat (first | (with_reducible first | exact HB.out | apply below_alloc | apply pw_below_drewN | apply below_drew1) | exact HB.out)) hb); clear HB; have HB := n0_; clear n0_; (try clear hb); (try clear hb2); (try clear hk); (try clear hi)))
      have n0_ := Aside0.mk (below_drew1 HB.out)
      clear HB
      have HB := n0_
      clear n0_
      refine start_ (n := 10) (S := fun w' => True) (ds := []) #[false, false, false, false, false, false, false, false, false, false] (by kernel_rfl) rfl rfl trivial (fun hHeld => ?_); refine with_tabW money_Text.tab5 money_Text.bits5 (fun HT_ HW_ => ?_)
      generalize w9.drew = w10 at HB hHeld ⊢
      refine pure_ (i := 0) (N := some 16) (v := ?_) (a' := ?_) #[true, false, false, false, false, false, false, false, false, false] rfl rfl (any_of HT_.out (by kernel_rfl)) (fun _ _ _ h => h) (Or.inl ⟨by rfl, ?_⟩) ?_ ?_
      rotate_left
      ·intro w'
       go_simp
       with_reducible rfl
      rotate_left
      ·simp only [Act.put, List.setIfInBounds_toArray, List.set_cons_zero, List.set_cons_succ, i64_w, i32_w]
       rfl
      refine pure_ (i := 1) (N := some 17) (v := ?_) (a' := ?_) #[true, true, false, false, false, false, false, false, false, false] rfl rfl (any_of HT_.out (by kernel_rfl)) (fun _ _ _ h => h) (Or.inl ⟨by rfl, ?_⟩) ?_ ?_
      rotate_left
      ·intro w'
       go_simp
       with_reducible rfl
      rotate_left
      ·simp only [Act.put, List.setIfInBounds_toArray, List.set_cons_zero, List.set_cons_succ, i64_w, i32_w]
       rfl
      refine pure_ (i := 2) (N := some 18) (v := ?_) (a' := ?_) #[true, true, true, false, false, false, false, false, false, false] rfl rfl (any_of HT_.out (by kernel_rfl)) (fun _ _ _ h => h) (Or.inl ⟨by rfl, ?_⟩) ?_ ?_
      rotate_left
      ·intro w'
       go_simp
       with_reducible rfl
      rotate_left
      ·simp only [Act.put, List.setIfInBounds_toArray, List.set_cons_zero, List.set_cons_succ, i64_w, i32_w]
       rfl
      refine pure_ (i := 6) (N := some 22) (v := ?_) (a' := ?_) #[true, true, true, false, false, false, true, false, false, false] rfl rfl (any_of HT_.out (by kernel_rfl)) (fun _ _ _ h => h) (Or.inl ⟨by rfl, ?_⟩) ?_ ?_
      rotate_left
      ·intro w'
       go_simp
       with_reducible rfl
      rotate_left
      ·simp only [Act.put, List.setIfInBounds_toArray, List.set_cons_zero, List.set_cons_succ, i64_w, i32_w]
       rfl
      refine pure_ (i := 7) (N := some 23) (v := ?_) (a' := ?_) #[true, true, true, false, false, false, true, true, false, false] rfl rfl (any_of HT_.out (by kernel_rfl)) (fun _ _ _ h => h) (Or.inl ⟨by rfl, ?_⟩) ?_ ?_
      rotate_left
      ·intro w'
       go_simp
       with_reducible rfl
      rotate_left
      ·simp only [Act.put, List.setIfInBounds_toArray, List.set_cons_zero, List.set_cons_succ, i64_w, i32_w]
       rfl
      refine one_ (i := 3) (N := some 19) #[true, true, true, true, false, false, true, true, false, false] rfl rfl (one_of HT_.out (by kernel_rfl)) (by decide) (fun K hK => ?_)
      refine goes_ Tryd.func19 (by kernel_rfl) rfl #[.int .u64 (IntKind.u64.wrap (Int.tdiv (IntKind.u64.wrap (-(IntKind.u64.wrap (a0)))) 100)), .int .i64 10] (by rfl) rfl rfl (by (try simp only [List.map_toArray, List.map_cons, List.map_nil]); first | done | rfl | (simp only [List.length_drop, List.length_take]; rfl)) ?_
      with_reducible refine (strconv_FormatUint.calls (IntKind.u64.wrap (Int.tdiv (IntKind.u64.wrap (-(IntKind.u64.wrap (a0)))) 100)) 10 t102 _ ?side1 A4.out).mono ?_
      (case side1 => exact tab_at HT.out (by repeat (first | (with_reducible first | exact HB.out | apply below_alloc | apply pw_below_drewN | apply below_drew1) | exact HB.out)))
      rintro e w11 ⟨rfl, hb⟩
      refine ⟨_, rfl, ?_⟩
      have n0_ := Aside0.mk (below_step (by repeat (first | (with_reducible first | exact HB.out | apply below_alloc | apply pw_below_drewN | apply below_drew1) | exact HB.out)) hb)
      clear HB
      have HB := n0_
      clear n0_
      (try clear hb)
      (try clear hb2)
      (try clear hk)
      (try clear hi)
      refine hK.out _ _ trivial (fun hHeld => ?_)
      clear hK K
      refine norm_ (a' := ?_) ?_ ?_
      rotate_left
      ·show Act.put _ (some 19) _ = _
       simp only [Act.put, List.setIfInBounds_toArray, List.set_cons_zero, List.set_cons_succ, i64_w, i32_w]
       rfl
      refine pure_ (i := 4) (N := some 20) (v := ?_) (a' := ?_) #[true, true, true, true, true, false, true, true, false, false] rfl rfl (any_of HT_.out (by kernel_rfl)) (fun _ _ _ h => h) (Or.inl ⟨by rfl, ?_⟩) ?_ ?_
      rotate_left
      ·intro w'
       go_simp
       with_reducible rfl
      rotate_left
      ·simp only [Act.put, List.setIfInBounds_toArray, List.set_cons_zero, List.set_cons_succ, i64_w, i32_w]
       rfl
      refine pure_ (i := 5) (N := some 21) (v := ?_) (a' := ?_) #[true, true, true, true, true, true, true, true, false, false] rfl rfl (any_of HT_.out (by kernel_rfl)) (fun _ _ _ h => h) (Or.inl ⟨by rfl, ?_⟩) ?_ ?_
      rotate_left
      ·intro w'
       go_simp
       with_reducible rfl
      rotate_left
      ·simp only [Act.put, List.setIfInBounds_toArray, List.set_cons_zero, List.set_cons_succ, i64_w, i32_w]
       rfl
      refine pure_ (i := 8) (N := some 24) (v := ?_) (a' := ?_) #[true, true, true, true, true, true, true, true, true, false] rfl rfl (any_of HT_.out (by kernel_rfl)) (fun _ _ _ h => h) (Or.inl ⟨by rfl, ?_⟩) ?_ ?_
      rotate_left
      ·intro w'
       go_simp
       with_reducible rfl
      rotate_left
      ·simp only [Act.put, List.setIfInBounds_toArray, List.set_cons_zero, List.set_cons_succ, i64_w, i32_w]
       rfl
      refine pure_ (i := 9) (N := some 2) (v := ?_) (a' := ?_) #[true, true, true, true, true, true, true, true, true, true] rfl rfl (any_of HT_.out (by kernel_rfl)) (fun _ _ _ h => h) (Or.inl ⟨by rfl, ?_⟩) ?_ ?_
      rotate_left
      ·intro w'
       go_simp
       with_reducible rfl
      rotate_left
      ·simp only [Act.put, List.setIfInBounds_toArray, List.set_cons_zero, List.set_cons_succ, i64_w, i32_w]
       rfl
      refine done_ (done_of HT_.out (by kernel_rfl)) ?_
      try go_wp2
      go_ret
      exact ⟨by first | rfl | (simp [errW_none, errW_some] <;> rfl) | (simp [*, errW_none, errW_some] <;> rfl), by repeat (first | (with_reducible first | exact HB.out | apply below_alloc | apply pw_below_drewN | apply below_drew1) | exact HB.out)⟩
     ·rw [if_neg c8] at H
      exact absurd H (by simp)
    ·rw [if_neg c7] at H
     exact absurd H (by simp)
   ·rw [if_neg c6] at H
    exact absurd H (by simp)
  ·rw [if_neg c5] at H
   exact absurd H (by simp)
 ·rw [if_neg c2] at H
  have c2b0 : decide (a0 < 0) = false := decide_eq_false c2
  clear c2
  replace H := Option.bind_eq_some_iff.mp H
  obtain ⟨t103, A120, H⟩ := H
  replace H : ((strconv_FormatUint.f (IntKind.u64.wrap (Int.tdiv (IntKind.u64.wrap (a0)) 100)) 10).bind fun t104 => (if 0 + t104.size ≤ 9223372036854775807 then (if ((⟨#[]⟩ : ByteArray) ++ t104).size + 1 ≤ 9223372036854775807 then (if 1 ≤ (t103.size : Int) then (if (((⟨#[]⟩ : ByteArray) ++ t104) ++ (⟨#[46]⟩ : ByteArray)).size + (t103.extract 1 t103.size).size ≤ 9223372036854775807 then (some ((((⟨#[]⟩ : ByteArray) ++ t104) ++ (⟨#[46]⟩ : ByteArray)) ++ (t103.extract 1 t103.size))) else (none)) else (none)) else (none)) else (none))) = some r := H
  have A12 := Aside0.mk A120
  clear A120
  replace H := Option.bind_eq_some_iff.mp H
  obtain ⟨t104, A130, H⟩ := H
  replace H : (if 0 + t104.size ≤ 9223372036854775807 then (if ((⟨#[]⟩ : ByteArray) ++ t104).size + 1 ≤ 9223372036854775807 then (if 1 ≤ (t103.size : Int) then (if (((⟨#[]⟩ : ByteArray) ++ t104) ++ (⟨#[46]⟩ : ByteArray)).size + (t103.extract 1 t103.size).size ≤ 9223372036854775807 then (some ((((⟨#[]⟩ : ByteArray) ++ t104) ++ (⟨#[46]⟩ : ByteArray)) ++ (t103.extract 1 t103.size))) else (none)) else (none)) else (none)) else (none)) = some r := H
  have A13 := Aside0.mk A130
  clear A130
  by_cases c14 : 0 + t104.size ≤ 9223372036854775807
  ·rw [if_pos c14] at H
   have c14b0 := eq_true c14
   have c14b1 : decide (0 + t104.size ≤ 9223372036854775807) = true := decide_eq_true c14
   (try have c14b6 : (9223372036854775807 < 0 + t104.size) = False := eq_false (by have h_ := c14; have hk_ : (⟨#[]⟩ : ByteArray).size = 0 := rfl; have hd_ : (⟨#[46]⟩ : ByteArray).size = 1 := rfl; have hm_ : (⟨#[45]⟩ : ByteArray).size = 1 := rfl; (try simp only [ByteArray.size_append, ByteArray.size_extract] at h_); omega))
   (try have c14b7 : (9223372036854775807 < t104.size) = False := eq_false (by have h_ := c14; have hk_ : (⟨#[]⟩ : ByteArray).size = 0 := rfl; have hd_ : (⟨#[46]⟩ : ByteArray).size = 1 := rfl; have hm_ : (⟨#[45]⟩ : ByteArray).size = 1 := rfl; (try simp only [ByteArray.size_append, ByteArray.size_extract] at h_); omega))
   try have c14b2 : (9223372036854775807 < 0 + t104.size) = False := eq_false (Nat.not_lt.2 c14)
   by_cases c15 : ((⟨#[]⟩ : ByteArray) ++ t104).size + 1 ≤ 9223372036854775807
   ·rw [if_pos c15] at H
    have c15b0 := eq_true c15
    have c15b1 : decide (((⟨#[]⟩ : ByteArray) ++ t104).size + 1 ≤ 9223372036854775807) = true := decide_eq_true c15
    (try have c15b5 : (9223372036854775807 < 0 + t104.size + 1) = False := (by rw [show 0 + t104.size + 1 = ((⟨#[]⟩ : ByteArray) ++ t104).size + 1 from (by first | (simp only [ByteArray.size_append]; done) | (simp only [ByteArray.size_append]; rfl))]; exact eq_false (Nat.not_lt.2 c15)))
    (try have c15b6 : (9223372036854775807 < 0 + t104.size + 1) = False := eq_false (by have h_ := c15; have hk_ : (⟨#[]⟩ : ByteArray).size = 0 := rfl; have hd_ : (⟨#[46]⟩ : ByteArray).size = 1 := rfl; have hm_ : (⟨#[45]⟩ : ByteArray).size = 1 := rfl; (try simp only [ByteArray.size_append, ByteArray.size_extract] at h_); omega))
    (try have c15b7 : (9223372036854775807 < t104.size + 1) = False := eq_false (by have h_ := c15; have hk_ : (⟨#[]⟩ : ByteArray).size = 0 := rfl; have hd_ : (⟨#[46]⟩ : ByteArray).size = 1 := rfl; have hm_ : (⟨#[45]⟩ : ByteArray).size = 1 := rfl; (try simp only [ByteArray.size_append, ByteArray.size_extract] at h_); omega))
    try have c15b2 : (9223372036854775807 < ((⟨#[]⟩ : ByteArray) ++ t104).size + 1) = False := eq_false (Nat.not_lt.2 c15)
    by_cases c16 : 1 ≤ (t103.size : Int)
    ·rw [if_pos c16] at H
     have c16b0 := eq_true c16
     have c16b1 : decide (1 ≤ (t103.size : Int)) = true := decide_eq_true c16
     clear c16
     by_cases c17 : (((⟨#[]⟩ : ByteArray) ++ t104) ++ (⟨#[46]⟩ : ByteArray)).size + (t103.extract 1 t103.size).size ≤ 9223372036854775807
     ·rw [if_pos c17] at H
      have c17b0 := eq_true c17
      have c17b1 : decide ((((⟨#[]⟩ : ByteArray) ++ t104) ++ (⟨#[46]⟩ : ByteArray)).size + (t103.extract 1 t103.size).size ≤ 9223372036854775807) = true := decide_eq_true c17
      (try have c17b6 : (9223372036854775807 < 0 + t104.size + 1 + (t103.size - 1)) = False := eq_false (by have h_ := c17; have hk_ : (⟨#[]⟩ : ByteArray).size = 0 := rfl; have hd_ : (⟨#[46]⟩ : ByteArray).size = 1 := rfl; have hm_ : (⟨#[45]⟩ : ByteArray).size = 1 := rfl; (try simp only [ByteArray.size_append, ByteArray.size_extract] at h_); omega))
      (try have c17b7 : (9223372036854775807 < t104.size + 1 + (t103.size - 1)) = False := eq_false (by have h_ := c17; have hk_ : (⟨#[]⟩ : ByteArray).size = 0 := rfl; have hd_ : (⟨#[46]⟩ : ByteArray).size = 1 := rfl; have hm_ : (⟨#[45]⟩ : ByteArray).size = 1 := rfl; (try simp only [ByteArray.size_append, ByteArray.size_extract] at h_); omega))
      try have c17b2 : (9223372036854775807 < (((⟨#[]⟩ : ByteArray) ++ t104) ++ (⟨#[46]⟩ : ByteArray)).size + (t103.extract 1 t103.size).size) = False := eq_false (Nat.not_lt.2 c17)
      obtain rfl := Option.some.inj H
      go_enter Tryd.func7, Tryd.ntmps7
      try go_wp2_with (first | ((with_reducible refine gate_callee (f := 19) rfl ?_); refine goesL_ (some 15) rfl rfl Tryd.func19 (by kernel_rfl) rfl #[.int .u64 (IntKind.u64.wrap ((Int.tmod (IntKind.u64.wrap (a0)) 100) + 100)), .int .i64 10] rfl (by (try simp only [List.map_toArray, List.map_cons, List.map_nil]); first | done | rfl | (simp only [List.length_drop, List.length_take]; rfl) | (rw [hsame_])) ?_; (with_reducible refine (strconv_FormatUint.calls (IntKind.u64.wrap ((Int.tmod (IntKind.u64.wrap (a0)) 100) + 100)) 10 t103 _ ?side1 A12.out).mono ?_); (case side1 => exact tab_at HT.out (by repeat (first | (with_reducible first | exact HB.out | apply below_alloc | apply pw_below_drewN | apply below_drew1) | exact HB.out))); rintro e w18 ⟨rfl, hb⟩; refine ⟨_, rfl, ?_⟩; have n0_ := Aside0.mk (below_step (by repeat (first | (with_reducible first | exact HB.out | apply below_alloc | apply pw_below_drewN | apply below_drew1) | exact HB.out)) hb); clear HB; have HB := n0_; clear n0_; (try clear hb); (try clear hb2); (try clear hk); (try clear hi)))
      have n0_ := Aside0.mk (below_drew1 HB.out)
      clear HB
      have HB := n0_
      clear n0_
      refine start_ (n := 10) (S := fun w' => True) (ds := []) #[false, false, false, false, false, false, false, false, false, false] (by kernel_rfl) rfl rfl trivial (fun hHeld => ?_); refine with_tabW money_Text.tab5 money_Text.bits5 (fun HT_ HW_ => ?_)
      generalize w18.drew = w19 at HB hHeld ⊢
      refine pure_ (i := 0) (N := some 16) (v := ?_) (a' := ?_) #[true, false, false, false, false, false, false, false, false, false] rfl rfl (any_of HT_.out (by kernel_rfl)) (fun _ _ _ h => h) (Or.inl ⟨by rfl, ?_⟩) ?_ ?_
      rotate_left
      ·intro w'
       go_simp
       with_reducible rfl
      rotate_left
      ·simp only [Act.put, List.setIfInBounds_toArray, List.set_cons_zero, List.set_cons_succ, i64_w, i32_w]
       rfl
      refine pure_ (i := 1) (N := some 17) (v := ?_) (a' := ?_) #[true, true, false, false, false, false, false, false, false, false] rfl rfl (any_of HT_.out (by kernel_rfl)) (fun _ _ _ h => h) (Or.inl ⟨by rfl, ?_⟩) ?_ ?_
      rotate_left
      ·intro w'
       go_simp
       with_reducible rfl
      rotate_left
      ·simp only [Act.put, List.setIfInBounds_toArray, List.set_cons_zero, List.set_cons_succ, i64_w, i32_w]
       rfl
      refine pure_ (i := 2) (N := some 18) (v := ?_) (a' := ?_) #[true, true, true, false, false, false, false, false, false, false] rfl rfl (any_of HT_.out (by kernel_rfl)) (fun _ _ _ h => h) (Or.inl ⟨by rfl, ?_⟩) ?_ ?_
      rotate_left
      ·intro w'
       go_simp
       with_reducible rfl
      rotate_left
      ·simp only [Act.put, List.setIfInBounds_toArray, List.set_cons_zero, List.set_cons_succ, i64_w, i32_w]
       rfl
      refine pure_ (i := 6) (N := some 22) (v := ?_) (a' := ?_) #[true, true, true, false, false, false, true, false, false, false] rfl rfl (any_of HT_.out (by kernel_rfl)) (fun _ _ _ h => h) (Or.inl ⟨by rfl, ?_⟩) ?_ ?_
      rotate_left
      ·intro w'
       go_simp
       with_reducible rfl
      rotate_left
      ·simp only [Act.put, List.setIfInBounds_toArray, List.set_cons_zero, List.set_cons_succ, i64_w, i32_w]
       rfl
      refine pure_ (i := 7) (N := some 23) (v := ?_) (a' := ?_) #[true, true, true, false, false, false, true, true, false, false] rfl rfl (any_of HT_.out (by kernel_rfl)) (fun _ _ _ h => h) (Or.inl ⟨by rfl, ?_⟩) ?_ ?_
      rotate_left
      ·intro w'
       go_simp
       with_reducible rfl
      rotate_left
      ·simp only [Act.put, List.setIfInBounds_toArray, List.set_cons_zero, List.set_cons_succ, i64_w, i32_w]
       rfl
      refine one_ (i := 3) (N := some 19) #[true, true, true, true, false, false, true, true, false, false] rfl rfl (one_of HT_.out (by kernel_rfl)) (by decide) (fun K hK => ?_)
      refine goes_ Tryd.func19 (by kernel_rfl) rfl #[.int .u64 (IntKind.u64.wrap (Int.tdiv (IntKind.u64.wrap (a0)) 100)), .int .i64 10] (by rfl) rfl rfl (by (try simp only [List.map_toArray, List.map_cons, List.map_nil]); first | done | rfl | (simp only [List.length_drop, List.length_take]; rfl)) ?_
      with_reducible refine (strconv_FormatUint.calls (IntKind.u64.wrap (Int.tdiv (IntKind.u64.wrap (a0)) 100)) 10 t104 _ ?side1 A13.out).mono ?_
      (case side1 => exact tab_at HT.out (by repeat (first | (with_reducible first | exact HB.out | apply below_alloc | apply pw_below_drewN | apply below_drew1) | exact HB.out)))
      rintro e w20 ⟨rfl, hb⟩
      refine ⟨_, rfl, ?_⟩
      have n0_ := Aside0.mk (below_step (by repeat (first | (with_reducible first | exact HB.out | apply below_alloc | apply pw_below_drewN | apply below_drew1) | exact HB.out)) hb)
      clear HB
      have HB := n0_
      clear n0_
      (try clear hb)
      (try clear hb2)
      (try clear hk)
      (try clear hi)
      refine hK.out _ _ trivial (fun hHeld => ?_)
      clear hK K
      refine norm_ (a' := ?_) ?_ ?_
      rotate_left
      ·show Act.put _ (some 19) _ = _
       simp only [Act.put, List.setIfInBounds_toArray, List.set_cons_zero, List.set_cons_succ, i64_w, i32_w]
       rfl
      refine pure_ (i := 4) (N := some 20) (v := ?_) (a' := ?_) #[true, true, true, true, true, false, true, true, false, false] rfl rfl (any_of HT_.out (by kernel_rfl)) (fun _ _ _ h => h) (Or.inl ⟨by rfl, ?_⟩) ?_ ?_
      rotate_left
      ·intro w'
       go_simp
       with_reducible rfl
      rotate_left
      ·simp only [Act.put, List.setIfInBounds_toArray, List.set_cons_zero, List.set_cons_succ, i64_w, i32_w]
       rfl
      refine pure_ (i := 5) (N := some 21) (v := ?_) (a' := ?_) #[true, true, true, true, true, true, true, true, false, false] rfl rfl (any_of HT_.out (by kernel_rfl)) (fun _ _ _ h => h) (Or.inl ⟨by rfl, ?_⟩) ?_ ?_
      rotate_left
      ·intro w'
       go_simp
       with_reducible rfl
      rotate_left
      ·simp only [Act.put, List.setIfInBounds_toArray, List.set_cons_zero, List.set_cons_succ, i64_w, i32_w]
       rfl
      refine pure_ (i := 8) (N := some 24) (v := ?_) (a' := ?_) #[true, true, true, true, true, true, true, true, true, false] rfl rfl (any_of HT_.out (by kernel_rfl)) (fun _ _ _ h => h) (Or.inl ⟨by rfl, ?_⟩) ?_ ?_
      rotate_left
      ·intro w'
       go_simp
       with_reducible rfl
      rotate_left
      ·simp only [Act.put, List.setIfInBounds_toArray, List.set_cons_zero, List.set_cons_succ, i64_w, i32_w]
       rfl
      refine pure_ (i := 9) (N := some 2) (v := ?_) (a' := ?_) #[true, true, true, true, true, true, true, true, true, true] rfl rfl (any_of HT_.out (by kernel_rfl)) (fun _ _ _ h => h) (Or.inl ⟨by rfl, ?_⟩) ?_ ?_
      rotate_left
      ·intro w'
       go_simp
       with_reducible rfl
      rotate_left
      ·simp only [Act.put, List.setIfInBounds_toArray, List.set_cons_zero, List.set_cons_succ, i64_w, i32_w]
       rfl
      refine done_ (done_of HT_.out (by kernel_rfl)) ?_
      try go_wp2
      go_ret
      exact ⟨by first | rfl | (simp [errW_none, errW_some] <;> rfl) | (simp [*, errW_none, errW_some] <;> rfl), by repeat (first | (with_reducible first | exact HB.out | apply below_alloc | apply pw_below_drewN | apply below_drew1) | exact HB.out)⟩
     ·rw [if_neg c17] at H
      exact absurd H (by simp)
    ·rw [if_neg c16] at H
     exact absurd H (by simp)
   ·rw [if_neg c15] at H
    exact absurd H (by simp)
  ·rw [if_neg c14] at H
   exact absurd H (by simp)

/-! ### money_Parse: function 8 -/
def money_Parse.f (a0 : ByteArray) : Option (Int × Bool) := (strings_Cut.f a0 (⟨#[46]⟩ : ByteArray)).bind fun p => if p.1.size + p.2.1.size ≤ 281474976710656 then (match Lib.parseIntB 64 (p.1 ++ p.2.1).data.toList with | .ok v => (money_Text.f v).bind fun t => if t.toList = a0.toList then some (v, true) else some (0, false) | _ => some (0, false)) else none
set_option maxHeartbeats 8000000 in
set_option maxRecDepth 100000 in
theorem money_Parse.calls (a0 : ByteArray) (r1 : Int) (r2 : Bool) (w : World) (hT : TAB w) (h : money_Parse.f a0 = some (r1, r2)) :
  Calls Tryd.prog 8 #[.string a0] w fun e w' => e = .returned (.tuple #[.int .i64 r1, .bool r2]) ∧ Below w.heap.size w w' := by
 unfold money_Parse.f at h
 obtain ⟨⟨x, y, z⟩, hc, h2⟩ := Option.bind_eq_some_iff.mp h
 clear h
 dsimp only at h2
 split at h2
 case isFalse => cases h2
 rename_i hs0
 have hs : (x ++ y).size ≤ 281474976710656 := by rw [ByteArray.size_append]; exact hs0
 have c3b2 : (9223372036854775807 < x.size + y.size) = False := eq_false (by omega)
 have hcut := strings_Cut.calls a0 (⟨#[46]⟩ : ByteArray) x y z w hT hc
 generalize hp : Lib.parseIntB 64 (x ++ y).data.toList = p at h2
 rcases p with v | _ | _
 ·obtain ⟨t, ht, h3⟩ := Option.bind_eq_some_iff.mp h2
  clear h2
  have hpar := fun (W : World) => Tryd.strconv_ParseInt_10_at64_ok (x ++ y) (by omega) v hp W
  have htx := fun (W : World) (hW : Below w.heap.size w W) => money_Text.calls v t W (tab_at hT hW) ht
  by_cases ce : t.toList = a0.toList
  ·rw [if_pos ce] at h3
   have c6b0 : (t.toList == a0.toList) = true := beq_iff_eq.mpr ce
   have c6b1 : (t.toList != a0.toList) = false := bne_eq_false_iff_eq.mpr ce
   simp only [Option.some.injEq, Prod.mk.injEq] at h3
   obtain ⟨rfl, rfl⟩ := h3
   go_enter Tryd.func8, Tryd.ntmps8
   go_wp2_with (first
    | (go_at_call 20; refine hcut.mono ?_; rintro e W1 ⟨rfl, hb1⟩)
    | (go_at_call 21; refine (hpar _).mono ?_; rintro e W2 ⟨rfl, hW⟩; have hb2 : Below w.heap.size w W2 := (by rcases hW with rfl | ⟨t', rfl⟩ <;> first | exact hb1 | exact below_step hb1 (bytes_below (Below.refl _ _) (Nat.le_refl _) _ _)))
    | (go_at_call 7; refine (htx _ (by first | assumption | exact below_drew1 (by assumption) | exact pw_below_drewN (by assumption) _)).mono ?_; rintro e W3 ⟨rfl, hb3⟩))
   go_wp2
   go_ret2
   exact ⟨rfl, below_step hb2 hb3⟩
  ·rw [if_neg ce] at h3
   have c6b0 : (t.toList == a0.toList) = false := beq_eq_false_iff_ne.mpr ce
   have c6b1 : (t.toList != a0.toList) = true := bne_iff_ne.mpr ce
   simp only [Option.some.injEq, Prod.mk.injEq] at h3
   obtain ⟨rfl, rfl⟩ := h3
   go_enter Tryd.func8, Tryd.ntmps8
   go_wp2_with (first
    | (go_at_call 20; refine hcut.mono ?_; rintro e W1 ⟨rfl, hb1⟩)
    | (go_at_call 21; refine (hpar _).mono ?_; rintro e W2 ⟨rfl, hW⟩; have hb2 : Below w.heap.size w W2 := (by rcases hW with rfl | ⟨t', rfl⟩ <;> first | exact hb1 | exact below_step hb1 (bytes_below (Below.refl _ _) (Nat.le_refl _) _ _)))
    | (go_at_call 7; refine (htx _ (by first | assumption | exact below_drew1 (by assumption) | exact pw_below_drewN (by assumption) _)).mono ?_; rintro e W3 ⟨rfl, hb3⟩))
   go_wp2
   go_ret2
   exact ⟨rfl, below_step hb2 hb3⟩
 ·simp only [Option.some.injEq, Prod.mk.injEq] at h2
  obtain ⟨rfl, rfl⟩ := h2
  go_enter Tryd.func8, Tryd.ntmps8
  go_wp2_with (first
   | (go_at_call 20; refine hcut.mono ?_; rintro e W1 ⟨rfl, hb1⟩)
   | (go_at_call 21; obtain ⟨ev1, hv1, he1⟩ := TAB_syntax (tab_at hT hb1); refine (Any.strconv_ParseInt_10_at64_syntax Tryd.laysC174 (x ++ y) hs hp ev1 _ hv1 he1).mono ?_; rintro e W2 ⟨N0, rfl, hN, hc2, hb2⟩))
  go_wp2
  go_ret2
  exact ⟨rfl, below_step hb1 hb2⟩
 ·simp only [Option.some.injEq, Prod.mk.injEq] at h2
  obtain ⟨rfl, rfl⟩ := h2
  go_enter Tryd.func8, Tryd.ntmps8
  go_wp2_with (first
   | (go_at_call 20; refine hcut.mono ?_; rintro e W1 ⟨rfl, hb1⟩)
   | (go_at_call 21; obtain ⟨ev1, hv1, he1⟩ := TAB_range (tab_at hT hb1); refine (Any.strconv_ParseInt_10_at64_range Tryd.laysC174 (x ++ y) hs hp ev1 _ hv1 he1).mono ?_; rintro e W2 ⟨N0, rfl, hN, hc2, hb2⟩))
  go_wp2
  go_ret2
  exact ⟨rfl, below_step hb1 hb2⟩

/-! ### guichetref1_AllDigits: function 23 -/
def guichetref1_AllDigits.l0 : Nat → ByteArray → Int → Option (Bool)
 | 0, _, _ => none
 | k + 1, x0, x3 => if x3 < (x0.size : Int) then (if 0 ≤ x3 then (if (bt x0 x3) < 48 then (some false) else (if (bt x0 x3) > 57 then (some false) else (guichetref1_AllDigits.l0 k x0 (wrap64 (x3 + 1))))) else (none)) else (some true)
def guichetref1_AllDigits.f (k : Nat) (a0 : ByteArray) : Option (Bool) := guichetref1_AllDigits.l0 k a0 0
theorem guichetref1_AllDigits.mono_l : ∀ k, (∀ y0 y1, LeO (guichetref1_AllDigits.l0 k y0 y1) (guichetref1_AllDigits.l0 (k + 1) y0 y1))
 | 0 => fun _ _ r h => by simp [guichetref1_AllDigits.l0] at h
 | k + 1 => by
  have ih0 := guichetref1_AllDigits.mono_l k
  ·intro y0 y1
   unfold guichetref1_AllDigits.l0
   repeat' first
   | (with_reducible exact ih0 _ _)
   | (with_reducible exact LeO.refl _)
   | (with_reducible exact LeO.none _)
   | (with_reducible refine LeO.ite ?_ ?_)
   | (with_reducible refine LeO.bind ?_ (fun _ => ?_))
   | exact ih0 _ _
   | exact LeO.none _
   | refine LeO.ite ?_ ?_
   | refine LeO.bind ?_ (fun _ => ?_)
theorem guichetref1_AllDigits.mono : ∀ a0 k, LeO (guichetref1_AllDigits.f k a0) (guichetref1_AllDigits.f (k + 1) a0) := by
 intro a0 k
 have ih0 := guichetref1_AllDigits.mono_l k
 unfold guichetref1_AllDigits.f
 repeat' first
   | (with_reducible exact ih0 _ _)
   | (with_reducible exact LeO.refl _)
   | (with_reducible exact LeO.none _)
   | (with_reducible refine LeO.ite ?_ ?_)
   | (with_reducible refine LeO.bind ?_ (fun _ => ?_))
   | exact ih0 _ _
   | exact LeO.none _
   | refine LeO.ite ?_ ?_
   | refine LeO.bind ?_ (fun _ => ?_)
set_option maxHeartbeats 8000000 in
set_option maxRecDepth 100000 in
theorem guichetref1_AllDigits.calls (k : Nat) (a0 : ByteArray) (r : Bool) (w : World) (h : guichetref1_AllDigits.f k a0 = some r) :
  Calls Tryd.prog 23 #[.string a0] w fun e w' => e = .returned (.bool r) ∧ Drawn0 w w' := by
 have H : (guichetref1_AllDigits.l0 k a0 0) = some r := h
 clear h
 have H' := Aside0.mk H
 clear H
 go_enter Tryd.func23, Tryd.ntmps23
 go_wp2
 go_loopg [3] k (fun kq v3 w' => ∃ (x3_1 : Int), v3 = .int .i64 x3_1 ∧ Aside0 (guichetref1_AllDigits.l0 kq a0 x3_1 = some r) ∧ Aside0 (kq ≤ k) ∧ Drawn0 w w')
 case atStart => exact ⟨(0), (by first | rfl | (simp; done) | (simp [*]; done)), H', ⟨Nat.le_refl _⟩, by repeat (first | exact Drawn0.refl _ | apply Drawn0.step)⟩
 case round =>
  clear H'
  obtain ⟨x3_1, rfl, HA, HK1, ⟨m1, rfl⟩⟩ := hrel
  cases gk with
  | zero => exact absurd HA.out (by simp [guichetref1_AllDigits.l0])
  | succ k1 =>
   have H := HA.out
   clear HA
   simp only [guichetref1_AllDigits.l0] at H
   by_cases c2 : x3_1 < (a0.size : Int)
   ·rw [if_pos c2] at H
    have c2b0 : decide (x3_1 < (a0.size : Int)) = true := decide_eq_true c2
    clear c2
    by_cases c3 : 0 ≤ x3_1
    ·rw [if_pos c3] at H
     have c3b0 : decide (0 ≤ x3_1) = true := decide_eq_true c3
     clear c3
     by_cases c5 : (bt a0 x3_1) < 48
     ·rw [if_pos c5] at H
      have c5b0 : decide ((bt a0 x3_1) < 48) = true := decide_eq_true c5
      clear c5
      obtain rfl := Option.some.inj H
      have p4 : 0 ≤ (x3_1 : Int) := of_decide_eq_true (by first | (with_reducible assumption) | assumption)
      have q4 : x3_1 < (a0.size : Int) := of_decide_eq_true (by first | (with_reducible assumption) | assumption)
      have hx4 := bt_at a0 x3_1
      replace p4 := eq_true p4
      replace q4 := eq_true q4
      go_wp2
      go_ret
      exact ⟨by first | rfl | (simp; done) | (simp [*]; done), by repeat (first | exact Drawn0.refl _ | apply Drawn0.step)⟩
     ·rw [if_neg c5] at H
      have c5b0 : decide ((bt a0 x3_1) < 48) = false := decide_eq_false c5
      clear c5
      by_cases c7 : (bt a0 x3_1) > 57
      ·rw [if_pos c7] at H
       have c7b0 : decide (57 < (bt a0 x3_1)) = true := decide_eq_true c7
       clear c7
       obtain rfl := Option.some.inj H
       have p4 : 0 ≤ (x3_1 : Int) := of_decide_eq_true (by first | (with_reducible assumption) | assumption)
       have q4 : x3_1 < (a0.size : Int) := of_decide_eq_true (by first | (with_reducible assumption) | assumption)
       have hx4 := bt_at a0 x3_1
       replace p4 := eq_true p4
       replace q4 := eq_true q4
       have p6 : 0 ≤ (x3_1 : Int) := of_decide_eq_true (by first | (with_reducible assumption) | assumption)
       have q6 : x3_1 < (a0.size : Int) := of_decide_eq_true (by first | (with_reducible assumption) | assumption)
       have hx6 := bt_at a0 x3_1
       replace p6 := eq_true p6
       replace q6 := eq_true q6
       go_wp2
       go_ret
       exact ⟨by first | rfl | (simp; done) | (simp [*]; done), by repeat (first | exact Drawn0.refl _ | apply Drawn0.step)⟩
      ·rw [if_neg c7] at H
       have c7b0 : decide (57 < (bt a0 x3_1)) = false := decide_eq_false c7
       clear c7
       have H' := Aside0.mk H
       clear H
       have p4 : 0 ≤ (x3_1 : Int) := of_decide_eq_true (by first | (with_reducible assumption) | assumption)
       have q4 : x3_1 < (a0.size : Int) := of_decide_eq_true (by first | (with_reducible assumption) | assumption)
       have hx4 := bt_at a0 x3_1
       replace p4 := eq_true p4
       replace q4 := eq_true q4
       have p6 : 0 ≤ (x3_1 : Int) := of_decide_eq_true (by first | (with_reducible assumption) | assumption)
       have q6 : x3_1 < (a0.size : Int) := of_decide_eq_true (by first | (with_reducible assumption) | assumption)
       have hx6 := bt_at a0 x3_1
       replace p6 := eq_true p6
       replace q6 := eq_true q6
       go_wp2
       go_roundg k1
       case measure => have := HK1.out; omega
       case rel => exact ⟨(wrap64 (x3_1 + 1)), (by first | rfl | (simp; done) | (simp [*]; done)), H', ⟨by have := HK1.out; omega⟩, by repeat (first | exact Drawn0.refl _ | apply Drawn0.step)⟩
    ·rw [if_neg c3] at H
     exact absurd H (by simp)
   ·rw [if_neg c2] at H
    have c2b0 : decide (x3_1 < (a0.size : Int)) = false := decide_eq_false c2
    clear c2
    obtain rfl := Option.some.inj H
    go_wp2
    go_ret
    exact ⟨by first | rfl | (simp; done) | (simp [*]; done), by repeat (first | exact Drawn0.refl _ | apply Drawn0.step)⟩

end Go.Proofs.YtjbhgooakdpabaaDoor.PAll
