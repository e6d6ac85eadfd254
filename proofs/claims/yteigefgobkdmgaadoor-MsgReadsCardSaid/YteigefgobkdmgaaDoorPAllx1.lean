-- written by xprint.py out of the translation. Not trusted: Lean checks it.
import Derived.Test.YteigefgobkdmgaaDoorPAllx0
namespace Go.Proofs.YteigefgobkdmgaaDoor.PAll
open Go.RowKit Go.Proofs.YteigefgobkdmgaaDoorW.PrintWords Go.Proofs.YteigefgobkdmgaaDoorW.PrintLast Go.Proofs.YteigefgobkdmgaaDoorW.PrintMore
attribute [local go_sem] max2_int min2_int max_two min_two max_three min_three max_four min_four   -- for this text's walks alone
set_option linter.unusedVariables false
set_option linter.unusedSimpArgs false

/-! ### strconv_Itoa: function 19 -/
def strconv_Itoa.f (a0 : Int) : Option (ByteArray) := if (Lit.int .i64 a0).wf = true then some ⟨(Lib.itoa a0).toArray⟩ else none
theorem strconv_Itoa.calls (a0 : Int) (r : ByteArray) (w : World) (hT : TAB w) (h : strconv_Itoa.f a0 = some r) :
  Calls Tryd.prog 19 #[.int .i64 a0] w fun e w' => e = .returned (.string r) ∧ Below w.heap.size w w' := by
 unfold strconv_Itoa.f at h
 split at h
 case isFalse => cases h
 rename_i hw
 obtain rfl := Option.some.inj h
 have hb : -9223372036854775808 ≤ a0 ∧ a0 ≤ 9223372036854775807 := by simpa [Lit.wf, IntKind.min, IntKind.max, IntKind.bits, IntKind.signed] using hw
 refine (Tryd.strconv_Itoa a0 hb.1 hb.2 w (TAB_pow10 hT)).mono ?_
 rintro e w' ⟨rfl, k, os, rfl⟩
 exact ⟨rfl, Lib.below_grow _ _ (Nat.le_refl _) _ _⟩

/-! ### strconv_FormatUint: function 20 -/
open Go.Shelf Go.Sort Go.Lib in
set_option maxHeartbeats 6400000 in
set_option maxRecDepth 100000 in
theorem fmtUint_inner (u : Nat) (hu : u < 18446744073709551616) (w : World) (htab : Lib.TabIs Tryd.prog w "internal/strconv.uint64pow10" .u64 Lib.pow10Tab) :
  Calls Tryd.prog 41 #[.int .u64 u, .int .i64 10] w fun e w' => e = .returned (.string ⟨(Lib.decDigits u).toArray⟩) ∧ Below w.heap.size w w' := by
 by_cases hs : u < 100
 ·have hw : IntKind.i64.wrap (u : Int) = (u : Int) := by rw [IntKind.wrap_i64]; omega
  have hlt : ((u : Int) < 100) = True := eq_true (by omega)
  go_enter Tryd.func41, Tryd.ntmps41
  go_wp2_with (go_at_call 50; (first | rw [hw] | skip); refine (Tryd.internal_strconv_small u hs _).mono ?_; rintro e w' ⟨rfl, rfl⟩)
  go_ret
  exact ⟨rfl, Below.refl _ _⟩
 ·have hu1 : 1 ≤ u := by omega
  have hnd20 : Lib.nDigits u ≤ 20 := by have := Lib.numDigits_eq u hu1 hu; split at this <;> omega
  have hlt : ((u : Int) < 100) = False := eq_false (by omega)
  have hb3 : Lib.nDigits u ≤ 24 := by omega
  have hal : Tryd.prog.arrayLen 90 = 24 := by simp [Program.arrayLen, Tryd.underlying90]
  have hsl : ∀ W, (Instr.sliceAt 90 (.pointer (some ⟨w.heap.size, 0, none⟩)) none (some (.int .i64 (Lib.nDigits u : Int))) none).run Tryd.prog W = .ok (.slice (some ⟨w.heap.size, 0, none⟩) (Lib.nDigits u) 24) W := fun W => by
   rw [run_sliceAt_array_h W 90 ⟨w.heap.size, 0, none⟩ (by simp [Program.arrayLen, Program.elem, Tryd.underlying90]) .i64 (Lib.nDigits u : Int) (by omega) (by rw [hal]; omega)]
   go_simp
   try omega
  have hH0 := Lib.holds_zero0 w 90 (Lib.nDigits u) (by omega)
  have hfmt := Tryd.internal_strconv_formatBase10 w.heap.size 0 24 u (Array.replicate (Lib.nDigits u) 0) (w.alloc (.cells Lib.zeros24 90)) hH0 (by rw [Array.size_replicate]; exact Lib.lt_pow_nDigits u) hu (by rw [Array.size_replicate]; omega)
  rw [Array.size_replicate] at hfmt
  have HH0 := Lib.hid hH0
  clear hH0 hal
  go_enter Tryd.func41, Tryd.ntmps41
  go_wp2_with (first
   | (go_at_call 51; refine (Tryd.internal_strconv_numDigits u hu1 hu _ (Lib.tabIs_alloc htab _)).mono ?_; rintro e w' ⟨rfl, rfl⟩))
  go_at_call 52
  refine hfmt.mono ?_
  rintro e w' ⟨rfl, k, v', dk, rfl, hF⟩
  have hcv : (convert 31 9 (.slice (some ⟨w.heap.size, 0, none⟩) (Lib.nDigits u) 24)).run Tryd.prog ((putRow (fun (b : UInt8) => Value.int .u8 (b.toNat : Int)) (w.alloc (.cells Lib.zeros24 90)) w.heap.size 0 dk).drewN k) = .ok (.string ⟨(Lib.decDigits u).toArray⟩) ((putRow (fun (b : UInt8) => Value.int .u8 (b.toNat : Int)) (w.alloc (.cells Lib.zeros24 90)) w.heap.size 0 dk).drewN k) := by
   have h := run_convert_bytes_back (P := Tryd.prog) ((putRow (fun (b : UInt8) => Value.int .u8 (b.toNat : Int)) (w.alloc (.cells Lib.zeros24 90)) w.heap.size 0 dk).drewN k) 31 9 5 ⟨w.heap.size, 0, none⟩ 24 (Lib.decDigits u) Tryd.underlying31 Tryd.underlying5 Tryd.underlying9 (fun j hj => by
    rw [Lib.row_is_numeral hF j hj, Lib.add_plain, World.cell?_drewN]
    exact cell?_putRow (fun (b : UInt8) => Value.int .u8 (b.toNat : Int)) _ w.heap.size 0 _ dk HH0.out (by rw [hF.size, Array.size_replicate]) j (by rw [hF.size]; rw [Lib.decDigits_length] at hj; exact hj))
   rw [Lib.decDigits_length] at h
   exact h
  go_wp2
  go_ret
  obtain ⟨os, eo⟩ := Lib.fin_at w (.cells Lib.zeros24 90) dk k 0
  exact ⟨rfl, by rw [eo]; exact Lib.below_grow _ _ (Nat.le_refl _) _ _⟩
def strconv_FormatUint.f (a0 a1 : Int) : Option (ByteArray) := if a1 = 10 ∧ (Lit.int .u64 a0).wf = true then some ⟨(Lib.itoa a0).toArray⟩ else none
theorem strconv_FormatUint.calls (a0 a1 : Int) (r : ByteArray) (w : World) (hT : TAB w) (h : strconv_FormatUint.f a0 a1 = some r) :
  Calls Tryd.prog 20 #[.int .u64 a0, .int .i64 a1] w fun e w' => e = .returned (.string r) ∧ Below w.heap.size w w' := by
 unfold strconv_FormatUint.f at h
 split at h
 case isFalse => cases h
 rename_i hc
 obtain ⟨rfl, hw⟩ := hc
 obtain rfl := Option.some.inj h
 have hb : 0 ≤ a0 ∧ a0 ≤ 18446744073709551615 := by simpa [Lit.wf, IntKind.min, IntKind.max, IntKind.bits, IntKind.signed] using hw
 obtain ⟨u, rfl⟩ : ∃ u : Nat, a0 = u := ⟨a0.toNat, by omega⟩
 rw [Lib.itoa_nonneg]
 go_enter Tryd.func20, Tryd.ntmps20
 go_wp2_with (go_at_call 41; refine (fmtUint_inner u (by omega) _ (TAB_pow10 hT)).mono ?_; rintro e w' ⟨rfl, hW⟩)
 go_ret
 exact ⟨rfl, hW⟩

/-! ### strconv_FormatInt: function 21 -/
def strconv_FormatInt.f (a0 a1 : Int) : Option (ByteArray) := if a1 = 10 ∧ (Lit.int .i64 a0).wf = true then some ⟨(Lib.itoa a0).toArray⟩ else none
theorem strconv_FormatInt.calls (a0 a1 : Int) (r : ByteArray) (w : World) (hT : TAB w) (h : strconv_FormatInt.f a0 a1 = some r) :
  Calls Tryd.prog 21 #[.int .i64 a0, .int .i64 a1] w fun e w' => e = .returned (.string r) ∧ Below w.heap.size w w' := by
 unfold strconv_FormatInt.f at h
 split at h
 case isFalse => cases h
 rename_i hc
 obtain ⟨rfl, hw⟩ := hc
 obtain rfl := Option.some.inj h
 have hb : -9223372036854775808 ≤ a0 ∧ a0 ≤ 9223372036854775807 := by simpa [Lit.wf, IntKind.min, IntKind.max, IntKind.bits, IntKind.signed] using hw
 refine (Tryd.strconv_FormatInt_10 a0 hb.1 hb.2 w (TAB_pow10 hT)).mono ?_
 rintro e w' ⟨rfl, k, os, rfl⟩
 exact ⟨rfl, Lib.below_grow _ _ (Nat.le_refl _) _ _⟩

/-! ### strings_IndexByte: function 43 -/
def strings_IndexByte.f (a0 : ByteArray) (a1 : Int) : Option (Int) := some (Lib.indexByte a0.data.toList a1.toNat.toUInt8)
theorem strings_IndexByte.calls (a0 : ByteArray) (a1 : Int) (r : Int) (w : World) (h : strings_IndexByte.f a0 a1 = some r) :
  Calls Tryd.prog 43 #[.string a0, .int .u8 a1] w fun e w' => e = .returned (.int .i64 r) ∧ Drawn0 w w' := by
 obtain rfl := Option.some.inj h
 refine (Tryd.strings_IndexByte a0 a1 w).mono ?_
 rintro e w' ⟨rfl, rfl⟩
 exact ⟨rfl, Drawn0.refl _⟩

/-! ### strconv_Atoi: function 48 -/
def strconv_Atoi.v (s : ByteArray) (p : Value) : Value := match Lib.atoiAll s.data.toList with | .ok v => .tuple #[.int .i64 v, .nilIface] | Lib.NumEnd.syntax => .tuple #[.int .i64 0, .iface 113 p] | .range => .tuple #[.int .i64 (Lib.atoiSat s.data.toList), .iface 113 p]
theorem strconv_Atoi.calls (a0 : ByteArray) (w : World) (hT : TAB w) (h : a0.size ≤ 281474976710656) :
  Calls Tryd.prog 48 #[.string a0] w fun e w' => (∃ N, e = .returned (strconv_Atoi.v a0 (.pointer (some ⟨N, 0, none⟩)))) ∧ Below w.heap.size w w' := by
 obtain ⟨ev1, hv1, he1⟩ := TAB_syntax hT
 obtain ⟨ev2, hv2, he2⟩ := TAB_range hT
 unfold strconv_Atoi.v
 generalize hp : Lib.atoiAll a0.data.toList = p
 rcases p with v | _ | _
 ·refine (Tryd.strconv_Atoi_ok a0 (by omega) v hp w).mono ?_
  rintro e W1 ⟨rfl, hW⟩
  refine ⟨⟨0, rfl⟩, ?_⟩
  rcases hW with rfl | ⟨t, rfl⟩
  ·exact Below.refl _ _
  ·exact Lib.bytesWorld_below _ _ _
 ·refine (Tryd.strconv_Atoi_syntax a0 h hp ev1 w hv1 he1).mono ?_
  rintro e W1 ⟨N0, rfl, hN, hc, hb⟩
  exact ⟨⟨N0, rfl⟩, hb⟩
 ·refine (Tryd.strconv_Atoi_range a0 h hp ev2 w hv2 he2).mono ?_
  rintro e W1 ⟨N0, rfl, hN, hc, hb⟩
  exact ⟨⟨N0, rfl⟩, hb⟩

/-! ### strings_Join: function 44 -/
def strings_Join.f (l0 : List ByteArray) (a1 : ByteArray) : Option (ByteArray) := if l0.length ≤ 140737488355328 ∧ (Lib.join (l0.map (·.data.toList)) a1.data.toList).length ≤ 140737488355328 then some ⟨(Lib.join (l0.map (·.data.toList)) a1.data.toList).toArray⟩ else none
theorem strings_Join.calls (A0 : Option Addr) (c0 : Nat) (l0 : List ByteArray) (a1 : ByteArray) (r : ByteArray) (w : World) (hr0 : Kd.C Kd.string w A0 l0.length l0) (hc0 : l0.length ≤ c0) (h : strings_Join.f l0 a1 = some r) :
  Calls Tryd.prog 44 #[.slice A0 l0.length c0, .string a1] w fun e w' => e = .returned (.string r) ∧ Below w.heap.size w w' := by
 unfold strings_Join.f at h
 split at h
 case isFalse => cases h
 rename_i hc
 obtain ⟨hN, hlen⟩ := hc
 obtain rfl := Option.some.inj h
 by_cases h0 : 0 < l0.length
 ·obtain ⟨ad, rfl, hcell⟩ := hr0.2.2 h0
  have hcell' : ∀ (j : Nat) x, l0[j]? = some x → w.cell? (ad.add j) = some (.string x) := fun j x hx => by
   obtain ⟨c, hc1, hK, hcc⟩ := hcell j x hx
   have hK' : c = [Value.string x] := hK
   subst hK'
   have := hcc 0 _ rfl
   simpa [Kd.string, Kd.scalar] using this
  obtain ⟨b, off, spot⟩ := ad
  have hspot : spot = none := by
   have := hcell' 0 _ (List.getElem?_eq_getElem h0)
   simpa [Addr.add] using World.cell?_spot this
  subst hspot
  have hc2 : ∀ (j : Nat) x, l0[j]? = some x → w.cell? ⟨b, off + j, none⟩ = some (.string x) := fun j x hx => by
   have := hcell' j x hx
   rw [Go.WideShapes.add_plain] at this
   exact this
  have hb : b < w.heap.size := World.block_lt_of_cell? _ _ (hc2 0 _ (List.getElem?_eq_getElem h0))
  refine (Tryd.strings_Join b off c0 l0 a1 w hc2 hb hN hc0 hlen).mono ?_
  rintro e w' ⟨rfl, hb⟩
  exact ⟨rfl, hb⟩
 ·have hl : l0 = [] := List.length_eq_zero_iff.1 (by omega)
  subst hl
  refine (Tryd.strings_Join_none A0 c0 a1 w).mono ?_
  rintro e w' ⟨rfl, rfl⟩
  exact ⟨rfl, Below.refl _ _⟩

/-! ### strings_Split: function 47 -/
def strings_Split.f (a0 a1 : ByteArray) : Option (List ByteArray) := if a0.size < 4294967281 ∧ a1.size = 1 then some (Lib.splitB a1 0 (Lib.countB a0 a1) a0) else none
theorem strings_Split.calls (a0 a1 : ByteArray) (r : List ByteArray) (w : World) (h : strings_Split.f a0 a1 = some r) :
  Calls Tryd.prog 47 #[.string a0, .string a1] w fun e w' => ∃ v0_ : Value, e = .returned (v0_) ∧ Kd.R Kd.string 9 w' w.heap.size (fun _ => True) v0_ r ∧ Below w.heap.size w w' := by
 unfold strings_Split.f at h
 split at h
 case isFalse => cases h
 rename_i hc
 obtain ⟨hs, h1⟩ := hc
 obtain rfl := Option.some.inj h
 clear h
 obtain ⟨c, rfl⟩ := Lib.one_byte a1 h1
 have hle := Lib.countB_le (⟨#[c]⟩ : ByteArray) (Nat.le_refl 1) a0.size a0 (Nat.le_refl _)
 have hlen := Lib.splitB_all (⟨#[c]⟩ : ByteArray) (Nat.le_refl 1) 0 _ a0 rfl
 have hI : ∀ (x : ByteArray) (cs : Array Value), x.size ≤ a0.size → Calls Tryd.prog 72 #[.string x, .string ⟨#[c]⟩] (w.alloc (.cells cs 9)) fun e w' => e = .returned (.int .i64 (Lib.indexB x ⟨#[c]⟩)) ∧ w' = w.alloc (.cells cs 9) := fun x cs _ => by
  refine (Tryd.strings_Index_one x c _).mono fun e w' ⟨he, hw⟩ => ⟨?_, hw⟩
  rw [he]
  show _ = Ending.returned (Value.int .i64 (Lib.index x.data.toList [c]))
  rw [Lib.index_one]
 have hC : Calls Tryd.prog 71 #[.string a0, .string ⟨#[c]⟩] w fun e w' => e = .returned (.int .i64 (Lib.countB a0 ⟨#[c]⟩)) ∧ w' = w := by
  refine (Tryd.strings_Count_one a0 c w).mono fun e w' ⟨he, hw⟩ => ⟨?_, hw⟩
  rw [he]
  show _ = Ending.returned (Value.int .i64 ((Lib.count a0.data.toList [c] : Nat) : Int))
  rw [Lib.count_one]
  rfl
 have cg := Any.strings_genSplit_core Tryd.lays221 (by kernel_rfl) a0 ⟨#[c]⟩ 0 (-1) (Lib.countB a0 ⟨#[c]⟩ + 1) w hs (Nat.le_refl 1) (Nat.zero_le _) hI hC (by decide) (by decide) (by rw [if_pos (by decide)]; omega)
 rw [Nat.add_sub_cancel, hlen] at cg
 have e2 : Lib.cellsOf (Lib.splitB ⟨#[c]⟩ 0 (Lib.countB a0 ⟨#[c]⟩) a0) (Lib.countB a0 ⟨#[c]⟩ + 1) = ((Lib.splitB ⟨#[c]⟩ 0 (Lib.countB a0 ⟨#[c]⟩) a0).map Value.string).toArray := by rw [← hlen]; exact Lib.cellsOf_full _
 rw [e2] at cg
 have HG : Aside0 (Calls Tryd.prog 58 #[.string a0, .string ⟨#[c]⟩, .int .i64 0, .int .i64 (-1)] w fun e w' =>
   e = .returned (.slice (some ⟨w.heap.size, 0, none⟩) (Lib.countB a0 ⟨#[c]⟩ + 1) (Lib.countB a0 ⟨#[c]⟩ + 1)) ∧ w' = w.alloc (.cells ((Lib.splitB ⟨#[c]⟩ 0 (Lib.countB a0 ⟨#[c]⟩) a0).map Value.string).toArray 9)) := Aside0.mk cg
 clear cg hI hC e2
 have HO := own_lit (enc := Value.string) (h1 := fun _ => rfl) w 9 (Lib.splitB ⟨#[c]⟩ 0 (Lib.countB a0 ⟨#[c]⟩) a0) (by rw [hlen]; unfold maxLen; omega)
 rw [hlen] at HO
 have HO' := Aside0.mk HO
 clear HO hlen hle h1 hs
 go_enter Tryd.func47, Tryd.ntmps47
 go_wp2_with (go_at_call 58; refine HG.out.mono ?_; rintro e w' ⟨rfl, rfl⟩)
 go_ret
 exact ⟨_, rfl, HO'.out, (Below.refl _ _).alloc (Nat.le_refl _) _⟩
theorem strings_Split.exact (a0 a1 : ByteArray) (r : List ByteArray) (w : World) (h : strings_Split.f a0 a1 = some r) :
  Calls Tryd.prog 47 #[.string a0, .string a1] w fun e w' => e = .returned (.slice (some ⟨w.heap.size, 0, none⟩) r.length r.length) ∧ w' = w.alloc (.cells (r.map Value.string).toArray 9) := by
 unfold strings_Split.f at h
 split at h
 case isFalse => cases h
 rename_i hc
 obtain ⟨hs, h1⟩ := hc
 obtain rfl := Option.some.inj h
 clear h
 obtain ⟨c, rfl⟩ := Lib.one_byte a1 h1
 have hle := Lib.countB_le (⟨#[c]⟩ : ByteArray) (Nat.le_refl 1) a0.size a0 (Nat.le_refl _)
 have hlen := Lib.splitB_all (⟨#[c]⟩ : ByteArray) (Nat.le_refl 1) 0 _ a0 rfl
 have hI : ∀ (x : ByteArray) (cs : Array Value), x.size ≤ a0.size → Calls Tryd.prog 72 #[.string x, .string ⟨#[c]⟩] (w.alloc (.cells cs 9)) fun e w' => e = .returned (.int .i64 (Lib.indexB x ⟨#[c]⟩)) ∧ w' = w.alloc (.cells cs 9) := fun x cs _ => by
  refine (Tryd.strings_Index_one x c _).mono fun e w' ⟨he, hw⟩ => ⟨?_, hw⟩
  rw [he]
  show _ = Ending.returned (Value.int .i64 (Lib.index x.data.toList [c]))
  rw [Lib.index_one]
 have hC : Calls Tryd.prog 71 #[.string a0, .string ⟨#[c]⟩] w fun e w' => e = .returned (.int .i64 (Lib.countB a0 ⟨#[c]⟩)) ∧ w' = w := by
  refine (Tryd.strings_Count_one a0 c w).mono fun e w' ⟨he, hw⟩ => ⟨?_, hw⟩
  rw [he]
  show _ = Ending.returned (Value.int .i64 ((Lib.count a0.data.toList [c] : Nat) : Int))
  rw [Lib.count_one]
  rfl
 have cg := Any.strings_genSplit_core Tryd.lays221 (by kernel_rfl) a0 ⟨#[c]⟩ 0 (-1) (Lib.countB a0 ⟨#[c]⟩ + 1) w hs (Nat.le_refl 1) (Nat.zero_le _) hI hC (by decide) (by decide) (by rw [if_pos (by decide)]; omega)
 rw [Nat.add_sub_cancel, hlen] at cg
 have e2 : Lib.cellsOf (Lib.splitB ⟨#[c]⟩ 0 (Lib.countB a0 ⟨#[c]⟩) a0) (Lib.countB a0 ⟨#[c]⟩ + 1) = ((Lib.splitB ⟨#[c]⟩ 0 (Lib.countB a0 ⟨#[c]⟩) a0).map Value.string).toArray := by rw [← hlen]; exact Lib.cellsOf_full _
 rw [e2] at cg
 have HG : Aside0 (Calls Tryd.prog 58 #[.string a0, .string ⟨#[c]⟩, .int .i64 0, .int .i64 (-1)] w fun e w' =>
   e = .returned (.slice (some ⟨w.heap.size, 0, none⟩) (Lib.countB a0 ⟨#[c]⟩ + 1) (Lib.countB a0 ⟨#[c]⟩ + 1)) ∧ w' = w.alloc (.cells ((Lib.splitB ⟨#[c]⟩ 0 (Lib.countB a0 ⟨#[c]⟩) a0).map Value.string).toArray 9)) := Aside0.mk cg
 clear cg hI hC e2
 rw [← hlen] at HG
 clear hle hlen h1 hs
 go_enter Tryd.func47, Tryd.ntmps47
 go_wp2_with (go_at_call 58; refine HG.out.mono ?_; rintro e w' ⟨rfl, rfl⟩)
 go_ret
 exact ⟨rfl, rfl⟩

/-! ### guichetlaw12_known: function 7 -/
section
open Go.B Go.B.YteigefgobkdmgaaDoor
theorem of_toList {a : Array Value} {l : List Value} (h : a.toList = l) : a = l.toArray := Array.ext' h
theorem VRel.scalars {ρ : Go.B.Ren} {l : List Value} (h : l.all isScalA = true) : VRel ρ (.tuple l.toArray) (.tuple l.toArray) := VRel.tuple rfl (fun i h1 _ => VRel.scalA (List.all_eq_true.mp h _ (List.getElem_mem h1)))
theorem one_fn {f : Nat} {fn : Func} (hf : Tryd.prog.funcs[f]? = some fn) (hb : fn.body.isSome = true) (hn : (fn.name == "runtime.NumGoroutine") = false) : ∃ fn c, Tryd.prog.funcs[f]? = some fn ∧ fn.body = some c ∧ (fn.name == "runtime.NumGoroutine") = false := by
 obtain ⟨c, hc⟩ := Option.isSome_iff_exists.mp hb
 exact ⟨fn, c, hf, hc, hn⟩
theorem join_ok [Dem Tryd.prog] : CalOk Tryd.prog fun f' args H => if f' = 44 then xJoin Tryd.prog args H else none := by
 intro f' args H v H' hr
 simp only at hr
 split at hr
 case isFalse => cases hr
 rename_i e
 subst e
 refine ⟨one_fn Tryd.func44 rfl (by decide +kernel), fun ρ w args' hw ha => ?_⟩
 unfold xJoin at hr
 split at hr
 case h_2 => cases hr
 rename_i b n c sep ea
 obtain ⟨l, hl, hr⟩ := Option.bind_eq_some_iff.mp hr
 split at hr
 case isFalse => cases hr
 rename_i hbd
 cases hr
 obtain ⟨hsep, hbd⟩ := hbd
 have hbd2 : (Lib.join (l.map U) (U sep)).length ≤ 140737488355328 := by rw [hsep, join_jn]; exact hbd.2
 have hje : Lib.join (l.map U) (U sep) = jn (l.map U) := by rw [hsep, join_jn]
 rw [ea] at ha
 have hlen : args'.toList.length = 2 := ha.1.symm
 obtain ⟨s', sep', ea'⟩ : ∃ s' sep', args'.toList = [s', sep'] := by
  match args'.toList, hlen with
  | [s', sep'], _ => exact ⟨s', sep', rfl⟩
 rw [ea'] at ha
 obtain rfl := VRel.of_scal rfl ha.tail.head
 have hs := ha.head
 rw [of_toList ea']
 have fin : ∀ w', Below w.heap.size w w' → ∃ ρ' v', Ending.returned (.string (S (jn (l.map U)))) = .returned v' ∧ Mv Tryd.prog ρ H w ρ' H w' ∧ VRel ρ' (.string (S (jn (l.map U)))) v' := fun w' hb => ⟨ρ, _, rfl, Mv.below hw hb, .string _⟩
 by_cases h0 : n = 0
 ·subst h0
  obtain rfl : l = [] := by unfold rowS at hl; rw [if_pos rfl] at hl; cases hl; rfl
  have key : ∀ (a : Option Addr) (c : Nat), Calls Tryd.prog 44 #[.slice a 0 c, .string sep] w fun e w' => ∃ ρ' v', e = .returned v' ∧ Mv Tryd.prog ρ H w ρ' H w' ∧ VRel ρ' (.string (S (jn (([] : List ByteArray).map U)))) v' := fun a c => by
   refine (Tryd.strings_Join_none a c sep w).mono ?_
   rintro e w' ⟨rfl, rfl⟩
   exact fin w' (Below.refl _ _)
  cases hs with
  | sliceNil => exact key _ _
  | slice h hl hc ht => exact key _ _
  | slice0 hc => exact key _ _
 ·unfold rowS at hl
  rw [if_neg h0] at hl
  split at hl
  case h_2 => cases hl
  rename_i i o
  split at hl
  case h_2 => cases hl
  rename_i cs et ro hg
  split at hl
  case isFalse => cases hl
  rename_i hsz
  have hcs := strs_inv hl
  have hln : l.length = n := by have := congrArg List.length hcs; simp at this; omega
  cases hs with
  | slice0 hc => exact absurd rfl h0
  | slice h hle hc ht =>
   rw [← hln] at hle ⊢
   rename_i c' L
   obtain ⟨L', hL', cc, fr, e', hb, _, hsz2, hle2, hes, hcell, _⟩ := hw.cells i cs et ro hg
   rw [h] at hL'
   cases hL'
   refine (Tryd.strings_Join L.blk (L.sh + o) c' l sep w (fun j x hx => ?_) (hw.ren i L h).2 hbd.1 hle hbd2).mono ?_
   ·rw [cell_at hb]
    have hj : j < l.length := (List.getElem?_eq_some_iff.mp hx).1
    have h1 : cs[o + j]? = some (.string x) := by
     have := congrArg (fun z : List Value => z[j]?) hcs
     simp only [List.getElem?_map, hx, Option.map_some] at this
     rw [List.getElem?_take_of_lt (by omega : j < n), List.getElem?_drop] at this
     exact this
    obtain ⟨v', h2, h3⟩ := hcell (o + j) _ h1
    cases h3
    rw [Nat.add_assoc]; exact h2
   ·rintro e w' ⟨rfl, hb⟩
    have := fin w' hb
    rw [← hje] at this ⊢
    exact this
theorem split_ok [Dem Tryd.prog] : CalOk Tryd.prog fun f' args H => if f' = 47 then xSplit args H else none := by
 intro f' args H v H' hr
 simp only at hr
 split at hr
 case isFalse => cases hr
 rename_i e
 subst e
 refine ⟨one_fn Tryd.func47 rfl (by decide +kernel), fun ρ w args' hw ha => ?_⟩
 unfold xSplit at hr
 split at hr
 case h_2 => cases hr
 rename_i s sep ea
 split at hr
 case isFalse => cases hr
 rename_i hbd
 cases hr
 rw [ea] at ha
 have hlen : args'.toList.length = 2 := ha.1.symm
 obtain ⟨s', sep', ea'⟩ : ∃ s' sep', args'.toList = [s', sep'] := by
  match args'.toList, hlen with
  | [s', sep'], _ => exact ⟨s', sep', rfl⟩
 rw [ea'] at ha
 obtain rfl := VRel.of_scal rfl ha.head
 obtain rfl := VRel.of_scal rfl ha.tail.head
 rw [of_toList ea']
 have hse : sep = S [28] := U_inj hbd.1
 subst hse
 generalize hr : (sp (U s)).map S = r
 refine (strings_Split.exact s (S [28]) r w (by unfold strings_Split.f; rw [if_pos ⟨hbd.2, rfl⟩, splitB_sp, hr])).mono ?_
 rintro e w' ⟨rfl, rfl⟩
 refine ⟨_, _, rfl, Mv.newRow hw (Adds.push hw _) sz_9 (cc := (r.map Value.string).toArray) (by simp) (fun o v hv => ⟨v, by simpa using hv, ?_⟩) (fr := (0, 0)) (fun o _ => by omega) rfl rfl rfl rfl, ?_⟩
 ·rw [List.getElem?_map] at hv
  obtain ⟨x, _, rfl⟩ := Option.map_eq_some_iff.mp hv
  exact .string _
 ·refine VRel.slice (L := ⟨w.heap.size, 0, (r.map Value.string).toArray.size, 1⟩) ?_ (Nat.le_refl _) (.inr rfl) (by simp)
  exact Go.B.Ren.put_same
theorem X0_ok [Dem Tryd.prog] (hD : ∀ w, Dem.I Tryd.prog w → TAB w) : ExtOk Tryd.prog X0 := by
 unfold X0
 refine ExtOk.add (ExtOk.add (ExtOk.add (ExtOk.add (ExtOk.add (ExtOk.add (ExtOk.add ExtOk.none split_ok) join_ok) ?_) ?_) ?_) ?_) ?_
 ·refine ScalExt.ok (fun args v h => ?_) Tryd.func48 rfl (by decide +kernel)
  unfold xAtoi at h
  split at h
  case h_2 => cases h
  rename_i s e
  split at h
  case isFalse => cases h
  rename_i hs
  cases h
  refine ⟨by rw [e]; rfl, fun w hI => ?_⟩
  rw [of_toList e]
  refine (strconv_Atoi.calls s w (hD w hI) hs).mono ?_
  rintro e w' ⟨⟨N, rfl⟩, hb⟩
  refine ⟨⟨_, rfl, fun ρ => ?_⟩, hb⟩
  unfold atoiV strconv_Atoi.v U
  rcases Lib.atoiAll s.data.toList with v | _ | _
  ·exact VRel.scalars (l := [.int .i64 v, .nilIface]) rfl
  ·exact LRel.tuple (LRel.cons (.int _ _) (LRel.cons (.iface _ (.glob _)) LRel.nil))
  ·exact LRel.tuple (LRel.cons (.int _ _) (LRel.cons (.iface _ (.glob _)) LRel.nil))
 ·refine ScalExt.ok (fun args v h => ?_) Tryd.func43 rfl (by decide +kernel)
  unfold xIndexByte at h
  split at h
  case h_2 => cases h
  rename_i s c e
  cases h
  refine ⟨by rw [e]; rfl, fun w hI => ?_⟩
  rw [of_toList e]
  refine (strings_IndexByte.calls s c _ w rfl).mono ?_
  rintro e w' ⟨rfl, hb⟩
  exact ⟨⟨_, rfl, fun ρ => VRel.scalA rfl⟩, hb.below⟩
 ·refine ScalExt.ok (fun args v h => ?_) Tryd.func21 rfl (by decide +kernel)
  unfold xFormatInt at h
  split at h
  case h_2 => cases h
  rename_i n b e
  split at h
  case isFalse => cases h
  rename_i hc
  cases h
  refine ⟨by rw [e]; rfl, fun w hI => ?_⟩
  rw [of_toList e]
  refine (strconv_FormatInt.calls n b _ w (hD w hI) (if_pos hc)).mono ?_
  rintro e w' ⟨rfl, hb⟩
  exact ⟨⟨_, rfl, fun ρ => VRel.scalA rfl⟩, hb⟩
 ·refine ScalExt.ok (fun args v h => ?_) Tryd.func20 rfl (by decide +kernel)
  unfold xFormatUint at h
  split at h
  case h_2 => cases h
  rename_i n b e
  split at h
  case isFalse => cases h
  rename_i hc
  cases h
  refine ⟨by rw [e]; rfl, fun w hI => ?_⟩
  rw [of_toList e]
  refine (strconv_FormatUint.calls n b _ w (hD w hI) (if_pos hc)).mono ?_
  rintro e w' ⟨rfl, hb⟩
  exact ⟨⟨_, rfl, fun ρ => VRel.scalA rfl⟩, hb⟩
 ·refine ScalExt.ok (fun args v h => ?_) Tryd.func19 rfl (by decide +kernel)
  unfold xItoa at h
  split at h
  case h_2 => cases h
  rename_i n e
  split at h
  case isFalse => cases h
  rename_i hc
  cases h
  refine ⟨by rw [e]; rfl, fun w hI => ?_⟩
  rw [of_toList e]
  refine (strconv_Itoa.calls n _ w (hD w hI) (if_pos hc)).mono ?_
  rintro e w' ⟨rfl, hb⟩
  exact ⟨⟨_, rfl, fun ρ => VRel.scalA rfl⟩, hb⟩
noncomputable def known_T : Tr Func := tab.set 7 Tryd.f7
theorem known_T_ok : TabOk Tryd.prog known_T.get := TabOk.set tab_ok (by kernel_rfl) (by decide +kernel)
set_option maxRecDepth 1000000 in
theorem known_run : said (callB drawRun Tryd.prog known_T.get X0 60 7 #[] Go.B.H0) true = true := by decide +kernel
end
def guichetlaw12_known.f : Option Bool := some true
theorem guichetlaw12_known.calls (r : Bool) (w : World) (hT : TAB w) (h : guichetlaw12_known.f = some r) : Calls Tryd.prog 7 #[] w fun e w' => e = .returned (.bool r) ∧ Below w.heap.size w w' := by
 obtain rfl := Option.some.inj h
 let D : Go.B.Dem Tryd.prog := ⟨w.heap.size, fun W => Below w.heap.size w W, fun _ _ _ hb h => h.trans hb⟩
 exact Go.B.run_calls (k := 60) (b := true) (args := #[]) known_T_ok (X0_ok (fun W hW => tab_at hT hW)) rfl known_run (Below.refl _ _) (Nat.le_refl _)
theorem X_ok [Go.B.Dem Tryd.prog] (hD : ∀ w, Go.B.Dem.I Tryd.prog w → TAB w) : Go.B.ExtOk Tryd.prog Go.B.YteigefgobkdmgaaDoor.X := by
 refine Go.B.ExtOk.add (X0_ok hD) ?_
 refine Go.B.ScalExt.ok (fun args v h => ?_) Tryd.func7 rfl (by decide +kernel)
 unfold Go.B.YteigefgobkdmgaaDoor.trueX at h
 split at h
 ·rename_i hs
  cases h
  have ha : args = #[] := Array.eq_empty_of_size_eq_zero hs
  subst ha
  refine ⟨rfl, fun w hI => ?_⟩
  refine (guichetlaw12_known.calls true w (hD w hI) rfl).mono ?_
  rintro e w' ⟨rfl, hb⟩
  exact ⟨⟨_, rfl, fun ρ => Go.B.VRel.scalA rfl⟩, hb⟩
 ·cases h

end Go.Proofs.YteigefgobkdmgaaDoor.PAll
