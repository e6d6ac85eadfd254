import Derived.Test.YteigefgobkdmgaaDoorProg
import Derived.Test.YteigefgobkdmgaaDoorBC
import Derived.WalkKit
/- Facts of the program's types and functions. -/
namespace Go.B.YteigefgobkdmgaaDoor
open Go Go.B Go.Proofs
set_option linter.unusedVariables false
set_option linter.unusedSimpArgs false
theorem sz_2 : szOf Tryd.prog 2 = some 1 := by kernel_rfl
theorem by_2 : byOf Tryd.prog 2 = some 8 := by kernel_rfl
theorem ag_2 : aggOf Tryd.prog 2 = some false := by kernel_rfl
theorem ze_2 : zeroOf Tryd.prog 2 = (some (Value.int IntKind.i64 0)) := by kernel_rfl
theorem un_2 : Program.underlying Tryd.prog 2 = some (TypeDesc.int IntKind.i64) := by kernel_rfl
theorem if_2 : ifaceT Tryd.prog 2 = false := by kernel_rfl
theorem al_2 {e : Operand → Value} {H : Heap} {d : Option Tmp} {ty : TypeId} {pos : String} {af : Array Edge} {g : Option (Nat × Bool)} : aop Tryd.prog e ⟨d, .alloc 2, ty, pos, af, g⟩ H = some (.val (.pointer (some ⟨H.next, 0, none⟩)) (H.push (.cells [(Value.int IntKind.i64 0)] 2 false))) := by exact aop_alloc ze_2 rfl
theorem ad_2 {e : Operand → Value} {d : Option Tmp} {ty : TypeId} {pos : String} {af : Array Edge} {g : Option (Nat × Bool)} {j : Nat} : allocB Tryd.prog e ⟨d, .alloc 2, ty, pos, af, g⟩ j = some (.pointer (some ⟨j, 0, none⟩), .cells [(Value.int IntKind.i64 0)] 2 false) := by rw [allocB_alloc, ze_2, alZ_some]; rfl
theorem sz_3 : szOf Tryd.prog 3 = some 1 := by kernel_rfl
theorem by_3 : byOf Tryd.prog 3 = some 8 := by kernel_rfl
theorem ag_3 : aggOf Tryd.prog 3 = some false := by kernel_rfl
theorem ze_3 : zeroOf Tryd.prog 3 = (some (Value.int IntKind.i64 0)) := by kernel_rfl
theorem un_3 : Program.underlying Tryd.prog 3 = some (TypeDesc.int IntKind.i64) := by kernel_rfl
theorem if_3 : ifaceT Tryd.prog 3 = false := by kernel_rfl
theorem al_3 {e : Operand → Value} {H : Heap} {d : Option Tmp} {ty : TypeId} {pos : String} {af : Array Edge} {g : Option (Nat × Bool)} : aop Tryd.prog e ⟨d, .alloc 3, ty, pos, af, g⟩ H = some (.val (.pointer (some ⟨H.next, 0, none⟩)) (H.push (.cells [(Value.int IntKind.i64 0)] 3 false))) := by exact aop_alloc ze_3 rfl
theorem ad_3 {e : Operand → Value} {d : Option Tmp} {ty : TypeId} {pos : String} {af : Array Edge} {g : Option (Nat × Bool)} {j : Nat} : allocB Tryd.prog e ⟨d, .alloc 3, ty, pos, af, g⟩ j = some (.pointer (some ⟨j, 0, none⟩), .cells [(Value.int IntKind.i64 0)] 3 false) := by rw [allocB_alloc, ze_3, alZ_some]; rfl
theorem sz_4 : szOf Tryd.prog 4 = some 1 := by kernel_rfl
theorem by_4 : byOf Tryd.prog 4 = some 1 := by kernel_rfl
theorem ag_4 : aggOf Tryd.prog 4 = some false := by kernel_rfl
theorem ze_4 : zeroOf Tryd.prog 4 = (some (Value.bool false)) := by kernel_rfl
theorem un_4 : Program.underlying Tryd.prog 4 = some TypeDesc.bool := by kernel_rfl
theorem if_4 : ifaceT Tryd.prog 4 = false := by kernel_rfl
theorem al_4 {e : Operand → Value} {H : Heap} {d : Option Tmp} {ty : TypeId} {pos : String} {af : Array Edge} {g : Option (Nat × Bool)} : aop Tryd.prog e ⟨d, .alloc 4, ty, pos, af, g⟩ H = some (.val (.pointer (some ⟨H.next, 0, none⟩)) (H.push (.cells [(Value.bool false)] 4 false))) := by exact aop_alloc ze_4 rfl
theorem ad_4 {e : Operand → Value} {d : Option Tmp} {ty : TypeId} {pos : String} {af : Array Edge} {g : Option (Nat × Bool)} {j : Nat} : allocB Tryd.prog e ⟨d, .alloc 4, ty, pos, af, g⟩ j = some (.pointer (some ⟨j, 0, none⟩), .cells [(Value.bool false)] 4 false) := by rw [allocB_alloc, ze_4, alZ_some]; rfl
theorem sz_5 : szOf Tryd.prog 5 = some 1 := by kernel_rfl
theorem by_5 : byOf Tryd.prog 5 = some 1 := by kernel_rfl
theorem ag_5 : aggOf Tryd.prog 5 = some false := by kernel_rfl
theorem ze_5 : zeroOf Tryd.prog 5 = (some (Value.int IntKind.u8 0)) := by kernel_rfl
theorem un_5 : Program.underlying Tryd.prog 5 = some (TypeDesc.int IntKind.u8) := by kernel_rfl
theorem if_5 : ifaceT Tryd.prog 5 = false := by kernel_rfl
theorem al_5 {e : Operand → Value} {H : Heap} {d : Option Tmp} {ty : TypeId} {pos : String} {af : Array Edge} {g : Option (Nat × Bool)} : aop Tryd.prog e ⟨d, .alloc 5, ty, pos, af, g⟩ H = some (.val (.pointer (some ⟨H.next, 0, none⟩)) (H.push (.cells [(Value.int IntKind.u8 0)] 5 false))) := by exact aop_alloc ze_5 rfl
theorem ad_5 {e : Operand → Value} {d : Option Tmp} {ty : TypeId} {pos : String} {af : Array Edge} {g : Option (Nat × Bool)} {j : Nat} : allocB Tryd.prog e ⟨d, .alloc 5, ty, pos, af, g⟩ j = some (.pointer (some ⟨j, 0, none⟩), .cells [(Value.int IntKind.u8 0)] 5 false) := by rw [allocB_alloc, ze_5, alZ_some]; rfl
theorem sz_9 : szOf Tryd.prog 9 = some 1 := by kernel_rfl
theorem by_9 : byOf Tryd.prog 9 = some 16 := by kernel_rfl
theorem ag_9 : aggOf Tryd.prog 9 = some false := by kernel_rfl
theorem ze_9 : zeroOf Tryd.prog 9 = (some (Value.string { data := #[] })) := by kernel_rfl
theorem un_9 : Program.underlying Tryd.prog 9 = some TypeDesc.string := by kernel_rfl
theorem if_9 : ifaceT Tryd.prog 9 = false := by kernel_rfl
theorem al_9 {e : Operand → Value} {H : Heap} {d : Option Tmp} {ty : TypeId} {pos : String} {af : Array Edge} {g : Option (Nat × Bool)} : aop Tryd.prog e ⟨d, .alloc 9, ty, pos, af, g⟩ H = some (.val (.pointer (some ⟨H.next, 0, none⟩)) (H.push (.cells [(Value.string { data := #[] })] 9 false))) := by exact aop_alloc ze_9 rfl
theorem ad_9 {e : Operand → Value} {d : Option Tmp} {ty : TypeId} {pos : String} {af : Array Edge} {g : Option (Nat × Bool)} {j : Nat} : allocB Tryd.prog e ⟨d, .alloc 9, ty, pos, af, g⟩ j = some (.pointer (some ⟨j, 0, none⟩), .cells [(Value.string { data := #[] })] 9 false) := by rw [allocB_alloc, ze_9, alZ_some]; rfl
theorem ix_9 {s : ByteArray} {k : IntKind} {i : Int} : indexB Tryd.prog 9 (.string s) (.int k i) = if 0 ≤ i then (s[i.toNat]?).map fun b => .int .u8 b.toNat else none := by exact index_string un_9
theorem ln_9 {H : Heap} {s : ByteArray} : lenIn Tryd.prog H 9 (.string s) = some (s.size : Int) := by exact lenIn_string un_9
theorem sl_9 {s : ByteArray} {lo hi : Option Value} : strSliceB Tryd.prog 9 s lo hi none = strW s (boundB lo 0) (boundB hi s.size) := by exact strSliceB_eq un_9
theorem ab_9 {H : Heap} {t : TypeId} {s x : Value} : builtinB Tryd.prog H .append #[t, 9] [s, x] = appendB Tryd.prog H t s x := by exact builtinB_append (by kernel_rfl)
theorem sz_22 : szOf Tryd.prog 22 = some 1 := by kernel_rfl
theorem by_22 : byOf Tryd.prog 22 = some 2 := by kernel_rfl
theorem ag_22 : aggOf Tryd.prog 22 = some false := by kernel_rfl
theorem ze_22 : zeroOf Tryd.prog 22 = (some (Value.int IntKind.u16 0)) := by kernel_rfl
theorem un_22 : Program.underlying Tryd.prog 22 = some (TypeDesc.int IntKind.u16) := by kernel_rfl
theorem if_22 : ifaceT Tryd.prog 22 = false := by kernel_rfl
theorem al_22 {e : Operand → Value} {H : Heap} {d : Option Tmp} {ty : TypeId} {pos : String} {af : Array Edge} {g : Option (Nat × Bool)} : aop Tryd.prog e ⟨d, .alloc 22, ty, pos, af, g⟩ H = some (.val (.pointer (some ⟨H.next, 0, none⟩)) (H.push (.cells [(Value.int IntKind.u16 0)] 22 false))) := by exact aop_alloc ze_22 rfl
theorem ad_22 {e : Operand → Value} {d : Option Tmp} {ty : TypeId} {pos : String} {af : Array Edge} {g : Option (Nat × Bool)} {j : Nat} : allocB Tryd.prog e ⟨d, .alloc 22, ty, pos, af, g⟩ j = some (.pointer (some ⟨j, 0, none⟩), .cells [(Value.int IntKind.u16 0)] 22 false) := by rw [allocB_alloc, ze_22, alZ_some]; rfl
theorem sz_23 : szOf Tryd.prog 23 = some 1 := by kernel_rfl
theorem by_23 : byOf Tryd.prog 23 = some 4 := by kernel_rfl
theorem ag_23 : aggOf Tryd.prog 23 = some false := by kernel_rfl
theorem ze_23 : zeroOf Tryd.prog 23 = (some (Value.int IntKind.u32 0)) := by kernel_rfl
theorem un_23 : Program.underlying Tryd.prog 23 = some (TypeDesc.int IntKind.u32) := by kernel_rfl
theorem if_23 : ifaceT Tryd.prog 23 = false := by kernel_rfl
theorem al_23 {e : Operand → Value} {H : Heap} {d : Option Tmp} {ty : TypeId} {pos : String} {af : Array Edge} {g : Option (Nat × Bool)} : aop Tryd.prog e ⟨d, .alloc 23, ty, pos, af, g⟩ H = some (.val (.pointer (some ⟨H.next, 0, none⟩)) (H.push (.cells [(Value.int IntKind.u32 0)] 23 false))) := by exact aop_alloc ze_23 rfl
theorem ad_23 {e : Operand → Value} {d : Option Tmp} {ty : TypeId} {pos : String} {af : Array Edge} {g : Option (Nat × Bool)} {j : Nat} : allocB Tryd.prog e ⟨d, .alloc 23, ty, pos, af, g⟩ j = some (.pointer (some ⟨j, 0, none⟩), .cells [(Value.int IntKind.u32 0)] 23 false) := by rw [allocB_alloc, ze_23, alZ_some]; rfl
theorem sz_25 : szOf Tryd.prog 25 = some 4 := by kernel_rfl
theorem by_25 : byOf Tryd.prog 25 = some 32 := by kernel_rfl
theorem ag_25 : aggOf Tryd.prog 25 = some true := by kernel_rfl
theorem ze_25 : zeroOf Tryd.prog 25 = (some (Value.agg #[(Value.int IntKind.i64 0), (Value.int IntKind.i64 0), (Value.int IntKind.i64 0), (Value.int IntKind.i64 0)])) := by kernel_rfl
theorem un_25 : Program.underlying Tryd.prog 25 = some (TypeDesc.array 4 3) := by kernel_rfl
theorem if_25 : ifaceT Tryd.prog 25 = false := by kernel_rfl
theorem al_25 {e : Operand → Value} {H : Heap} {d : Option Tmp} {ty : TypeId} {pos : String} {af : Array Edge} {g : Option (Nat × Bool)} : aop Tryd.prog e ⟨d, .alloc 25, ty, pos, af, g⟩ H = some (.val (.pointer (some ⟨H.next, 0, none⟩)) (H.push (.cells [(Value.int IntKind.i64 0), (Value.int IntKind.i64 0), (Value.int IntKind.i64 0), (Value.int IntKind.i64 0)] 25 false))) := by exact aop_alloc ze_25 rfl
theorem ad_25 {e : Operand → Value} {d : Option Tmp} {ty : TypeId} {pos : String} {af : Array Edge} {g : Option (Nat × Bool)} {j : Nat} : allocB Tryd.prog e ⟨d, .alloc 25, ty, pos, af, g⟩ j = some (.pointer (some ⟨j, 0, none⟩), .cells [(Value.int IntKind.i64 0), (Value.int IntKind.i64 0), (Value.int IntKind.i64 0), (Value.int IntKind.i64 0)] 25 false) := by rw [allocB_alloc, ze_25, alZ_some]; rfl
theorem pl_25 : placesB Tryd.prog 25 = some (fun i => some (i * 1, 1)) := by kernel_rfl
theorem ia_25 {b o : Nat} {k : IntKind} {i : Int} : indexAddrB Tryd.prog 25 (.pointer (some ⟨b, o, none⟩)) (.int k i) = if 0 ≤ i ∧ i < 4 then (szOf Tryd.prog 3).map fun n => .pointer (some ⟨b, o + i.toNat * n, none⟩) else none := by exact indexAddr_array un_25
theorem ix_25 {cs : Array Value} {k : IntKind} {i : Int} : indexB Tryd.prog 25 (.agg cs) (.int k i) = if 0 ≤ i ∧ i < 4 then (szOf Tryd.prog 3).bind fun n => partB Tryd.prog 3 cs (i.toNat * n) else none := by exact index_array un_25
theorem ln_25 {H : Heap} {x : Value} : lenIn Tryd.prog H 25 x = some 4 := by exact lenIn_array un_25
theorem eq_25 {d : Nat} {a0 b0 : Int} {a1 b1 : Int} {a2 b2 : Int} {a3 b3 : Int} : runP Tryd.prog (Op.equalIn (d + 2) 25 (.agg #[.int .i64 a0, .int .i64 a1, .int .i64 a2, .int .i64 a3]) (.agg #[.int .i64 b0, .int .i64 b1, .int .i64 b2, .int .i64 b3])) = some ((a0 == b0) && ((a1 == b1) && ((a2 == b2) && ((a3 == b3) && true)))) := by
  refine eqArray (d := d + 1) un_25 sz_3 ?_
  simp only [List.range'_succ, List.range'_zero, List.map_cons, List.map_nil, fldEq, eltEq, partB_eq, partV_agg, partV_one, ag_3, sz_3, List.size_toArray, List.length_cons, List.length_nil, Nat.reduceAdd, Nat.reduceLeDiff, Nat.reduceMul, Nat.zero_mul, Nat.zero_add, Nat.add_zero, if_true, List.drop_succ_cons, List.drop_zero, List.take_succ_cons, List.take_zero, List.getElem?_toArray, List.getElem?_cons_zero, List.getElem?_cons_succ, Option.bind_some, ne_eq, String.reduceEq, not_false_eq_true, allO_cons, allO_nil, lazyAnd_some, eqInt (d := d) un_3]
theorem gt_25 : Program.eqGuardType Tryd.prog (Program.depth Tryd.prog) 25 = false := by kernel_rfl
theorem be_25 {a0 b0 : Int} {a1 b1 : Int} {a2 b2 : Int} {a3 b3 : Int} {H : Heap} {x y : Operand} : binV Tryd.prog H .eql 25 x y (.agg #[.int .i64 a0, .int .i64 a1, .int .i64 a2, .int .i64 a3]) (.agg #[.int .i64 b0, .int .i64 b1, .int .i64 b2, .int .i64 b3]) = some (.val (.bool ((a0 == b0) && ((a1 == b1) && ((a2 == b2) && ((a3 == b3) && true))))) H) := by exact binV_aggeq nilEq_agg (by simp [isScalA, isScal]) gt_25 (eq_25 (d := 9998))
theorem bn_25 {a0 b0 : Int} {a1 b1 : Int} {a2 b2 : Int} {a3 b3 : Int} {H : Heap} {x y : Operand} : binV Tryd.prog H .neq 25 x y (.agg #[.int .i64 a0, .int .i64 a1, .int .i64 a2, .int .i64 a3]) (.agg #[.int .i64 b0, .int .i64 b1, .int .i64 b2, .int .i64 b3]) = some (.val (.bool (!((a0 == b0) && ((a1 == b1) && ((a2 == b2) && ((a3 == b3) && true)))))) H) := by exact binV_aggne nilEq_agg (by simp [isScalA, isScal]) gt_25 (eq_25 (d := 9998))
theorem sz_27 : szOf Tryd.prog 27 = some 26 := by kernel_rfl
theorem by_27 : byOf Tryd.prog 27 = some 208 := by kernel_rfl
theorem ag_27 : aggOf Tryd.prog 27 = some true := by kernel_rfl
theorem ze_27 : zeroOf Tryd.prog 27 = (some (Value.agg #[(Value.int IntKind.i64 0), (Value.int IntKind.u16 0), (Value.int IntKind.u32 0), (Value.string { data := #[] }), (Value.int IntKind.i64 0), (Value.int IntKind.i64 0), (Value.int IntKind.i64 0), (Value.int IntKind.i64 0), (Value.int IntKind.i64 0), (Value.int IntKind.i64 0), (Value.int IntKind.i64 0), (Value.int IntKind.i64 0), (Value.int IntKind.i64 0), (Value.int IntKind.i64 0), (Value.int IntKind.i64 0), (Value.int IntKind.i64 0), (Value.int IntKind.i64 0), (Value.int IntKind.i64 0), (Value.int IntKind.i64 0), (Value.int IntKind.i64 0), (Value.int IntKind.i64 0), (Value.int IntKind.i64 0), (Value.int IntKind.i64 0), (Value.int IntKind.i64 0), (Value.int IntKind.i64 0), (Value.int IntKind.i64 0)])) := by kernel_rfl
theorem un_27 : Program.underlying Tryd.prog 27 = some (TypeDesc.struct #[{ name := "Kind", type := 3, offset := 0, embedded := false, tag := "", pkgPath := "", byteOffset := 0 }, { name := "Term", type := 22, offset := 1, embedded := false, tag := "", pkgPath := "", byteOffset := 8 }, { name := "Stan", type := 23, offset := 2, embedded := false, tag := "", pkgPath := "", byteOffset := 12 }, { name := "Pan", type := 9, offset := 3, embedded := false, tag := "", pkgPath := "", byteOffset := 16 }, { name := "Amount", type := 2, offset := 4, embedded := false, tag := "", pkgPath := "", byteOffset := 32 }, { name := "Notes", type := 25, offset := 5, embedded := false, tag := "", pkgPath := "", byteOffset := 40 }, { name := "Rej", type := 25, offset := 9, embedded := false, tag := "", pkgPath := "", byteOffset := 72 }, { name := "Cum", type := 25, offset := 13, embedded := false, tag := "", pkgPath := "", byteOffset := 104 }, { name := "CumRej", type := 25, offset := 17, embedded := false, tag := "", pkgPath := "", byteOffset := 136 }, { name := "Loads", type := 3, offset := 21, embedded := false, tag := "", pkgPath := "", byteOffset := 168 }, { name := "Loaded", type := 25, offset := 22, embedded := false, tag := "", pkgPath := "", byteOffset := 176 }]) := by kernel_rfl
theorem if_27 : ifaceT Tryd.prog 27 = false := by kernel_rfl
theorem al_27 {e : Operand → Value} {H : Heap} {d : Option Tmp} {ty : TypeId} {pos : String} {af : Array Edge} {g : Option (Nat × Bool)} : aop Tryd.prog e ⟨d, .alloc 27, ty, pos, af, g⟩ H = some (.val (.pointer (some ⟨H.next, 0, none⟩)) (H.push (.cells [(Value.int IntKind.i64 0), (Value.int IntKind.u16 0), (Value.int IntKind.u32 0), (Value.string { data := #[] }), (Value.int IntKind.i64 0), (Value.int IntKind.i64 0), (Value.int IntKind.i64 0), (Value.int IntKind.i64 0), (Value.int IntKind.i64 0), (Value.int IntKind.i64 0), (Value.int IntKind.i64 0), (Value.int IntKind.i64 0), (Value.int IntKind.i64 0), (Value.int IntKind.i64 0), (Value.int IntKind.i64 0), (Value.int IntKind.i64 0), (Value.int IntKind.i64 0), (Value.int IntKind.i64 0), (Value.int IntKind.i64 0), (Value.int IntKind.i64 0), (Value.int IntKind.i64 0), (Value.int IntKind.i64 0), (Value.int IntKind.i64 0), (Value.int IntKind.i64 0), (Value.int IntKind.i64 0), (Value.int IntKind.i64 0)] 27 false))) := by exact aop_alloc ze_27 rfl
theorem ad_27 {e : Operand → Value} {d : Option Tmp} {ty : TypeId} {pos : String} {af : Array Edge} {g : Option (Nat × Bool)} {j : Nat} : allocB Tryd.prog e ⟨d, .alloc 27, ty, pos, af, g⟩ j = some (.pointer (some ⟨j, 0, none⟩), .cells [(Value.int IntKind.i64 0), (Value.int IntKind.u16 0), (Value.int IntKind.u32 0), (Value.string { data := #[] }), (Value.int IntKind.i64 0), (Value.int IntKind.i64 0), (Value.int IntKind.i64 0), (Value.int IntKind.i64 0), (Value.int IntKind.i64 0), (Value.int IntKind.i64 0), (Value.int IntKind.i64 0), (Value.int IntKind.i64 0), (Value.int IntKind.i64 0), (Value.int IntKind.i64 0), (Value.int IntKind.i64 0), (Value.int IntKind.i64 0), (Value.int IntKind.i64 0), (Value.int IntKind.i64 0), (Value.int IntKind.i64 0), (Value.int IntKind.i64 0), (Value.int IntKind.i64 0), (Value.int IntKind.i64 0), (Value.int IntKind.i64 0), (Value.int IntKind.i64 0), (Value.int IntKind.i64 0), (Value.int IntKind.i64 0)] 27 false) := by rw [allocB_alloc, ze_27, alZ_some]; rfl
theorem fa_27_0 : fieldAt Tryd.prog 27 0 = some (3, 0, 1) := by kernel_rfl
theorem fa_27_1 : fieldAt Tryd.prog 27 1 = some (22, 1, 1) := by kernel_rfl
theorem fa_27_2 : fieldAt Tryd.prog 27 2 = some (23, 2, 1) := by kernel_rfl
theorem fa_27_3 : fieldAt Tryd.prog 27 3 = some (9, 3, 1) := by kernel_rfl
theorem fa_27_4 : fieldAt Tryd.prog 27 4 = some (2, 4, 1) := by kernel_rfl
theorem fa_27_5 : fieldAt Tryd.prog 27 5 = some (25, 5, 4) := by kernel_rfl
theorem fa_27_6 : fieldAt Tryd.prog 27 6 = some (25, 9, 4) := by kernel_rfl
theorem fa_27_7 : fieldAt Tryd.prog 27 7 = some (25, 13, 4) := by kernel_rfl
theorem fa_27_8 : fieldAt Tryd.prog 27 8 = some (25, 17, 4) := by kernel_rfl
theorem fa_27_9 : fieldAt Tryd.prog 27 9 = some (3, 21, 1) := by kernel_rfl
theorem fa_27_10 : fieldAt Tryd.prog 27 10 = some (25, 22, 4) := by kernel_rfl
theorem pl_27 : placesB Tryd.prog 27 = some (fun i => ([(0, 1), (1, 1), (2, 1), (3, 1), (4, 1), (5, 4), (9, 4), (13, 4), (17, 4), (21, 1), (22, 4)] : List (Nat × Nat)).toArray[i]?) := by kernel_rfl
theorem st_27 : Program.stoodInHeld Tryd.prog 27 = false := by kernel_rfl
theorem eq_27 {d : Nat} {a0 b0 : Int} {a1 b1 : Int} {a2 b2 : Int} {a3 b3 : ByteArray} {a4 b4 : Int} {a5 b5 : Int} {a6 b6 : Int} {a7 b7 : Int} {a8 b8 : Int} {a9 b9 : Int} {a10 b10 : Int} {a11 b11 : Int} {a12 b12 : Int} {a13 b13 : Int} {a14 b14 : Int} {a15 b15 : Int} {a16 b16 : Int} {a17 b17 : Int} {a18 b18 : Int} {a19 b19 : Int} {a20 b20 : Int} {a21 b21 : Int} {a22 b22 : Int} {a23 b23 : Int} {a24 b24 : Int} {a25 b25 : Int} : runP Tryd.prog (Op.equalIn (d + 3) 27 (.agg #[.int .i64 a0, .int .u16 a1, .int .u32 a2, .string a3, .int .i64 a4, .int .i64 a5, .int .i64 a6, .int .i64 a7, .int .i64 a8, .int .i64 a9, .int .i64 a10, .int .i64 a11, .int .i64 a12, .int .i64 a13, .int .i64 a14, .int .i64 a15, .int .i64 a16, .int .i64 a17, .int .i64 a18, .int .i64 a19, .int .i64 a20, .int .i64 a21, .int .i64 a22, .int .i64 a23, .int .i64 a24, .int .i64 a25]) (.agg #[.int .i64 b0, .int .u16 b1, .int .u32 b2, .string b3, .int .i64 b4, .int .i64 b5, .int .i64 b6, .int .i64 b7, .int .i64 b8, .int .i64 b9, .int .i64 b10, .int .i64 b11, .int .i64 b12, .int .i64 b13, .int .i64 b14, .int .i64 b15, .int .i64 b16, .int .i64 b17, .int .i64 b18, .int .i64 b19, .int .i64 b20, .int .i64 b21, .int .i64 b22, .int .i64 b23, .int .i64 b24, .int .i64 b25])) = some ((a0 == b0) && ((a1 == b1) && ((a2 == b2) && ((a3 == b3) && ((a4 == b4) && (((a5 == b5) && ((a6 == b6) && ((a7 == b7) && ((a8 == b8) && true)))) && (((a9 == b9) && ((a10 == b10) && ((a11 == b11) && ((a12 == b12) && true)))) && (((a13 == b13) && ((a14 == b14) && ((a15 == b15) && ((a16 == b16) && true)))) && (((a17 == b17) && ((a18 == b18) && ((a19 == b19) && ((a20 == b20) && true)))) && ((a21 == b21) && (((a22 == b22) && ((a23 == b23) && ((a24 == b24) && ((a25 == b25) && true)))) && true))))))))))) := by
  refine eqStruct (d := d + 2) un_27 st_27 ?_
  simp only [List.range'_succ, List.range'_zero, List.map_cons, List.map_nil, fldEq, eltEq, partB_eq, partV_agg, partV_one, ag_2, sz_2, ag_3, sz_3, ag_9, sz_9, ag_22, sz_22, ag_23, sz_23, ag_25, sz_25, List.size_toArray, List.length_cons, List.length_nil, Nat.reduceAdd, Nat.reduceLeDiff, Nat.reduceMul, Nat.zero_mul, Nat.zero_add, Nat.add_zero, if_true, List.drop_succ_cons, List.drop_zero, List.take_succ_cons, List.take_zero, List.getElem?_toArray, List.getElem?_cons_zero, List.getElem?_cons_succ, Option.bind_some, ne_eq, String.reduceEq, not_false_eq_true, allO_cons, allO_nil, lazyAnd_some, eqInt (d := d + 1) un_2, eqInt (d := d + 1) un_3, eqStr (d := d + 1) un_9, eqInt (d := d + 1) un_22, eqInt (d := d + 1) un_23, eq_25 (d := d)]
theorem gt_27 : Program.eqGuardType Tryd.prog (Program.depth Tryd.prog) 27 = false := by kernel_rfl
theorem be_27 {a0 b0 : Int} {a1 b1 : Int} {a2 b2 : Int} {a3 b3 : ByteArray} {a4 b4 : Int} {a5 b5 : Int} {a6 b6 : Int} {a7 b7 : Int} {a8 b8 : Int} {a9 b9 : Int} {a10 b10 : Int} {a11 b11 : Int} {a12 b12 : Int} {a13 b13 : Int} {a14 b14 : Int} {a15 b15 : Int} {a16 b16 : Int} {a17 b17 : Int} {a18 b18 : Int} {a19 b19 : Int} {a20 b20 : Int} {a21 b21 : Int} {a22 b22 : Int} {a23 b23 : Int} {a24 b24 : Int} {a25 b25 : Int} {H : Heap} {x y : Operand} : binV Tryd.prog H .eql 27 x y (.agg #[.int .i64 a0, .int .u16 a1, .int .u32 a2, .string a3, .int .i64 a4, .int .i64 a5, .int .i64 a6, .int .i64 a7, .int .i64 a8, .int .i64 a9, .int .i64 a10, .int .i64 a11, .int .i64 a12, .int .i64 a13, .int .i64 a14, .int .i64 a15, .int .i64 a16, .int .i64 a17, .int .i64 a18, .int .i64 a19, .int .i64 a20, .int .i64 a21, .int .i64 a22, .int .i64 a23, .int .i64 a24, .int .i64 a25]) (.agg #[.int .i64 b0, .int .u16 b1, .int .u32 b2, .string b3, .int .i64 b4, .int .i64 b5, .int .i64 b6, .int .i64 b7, .int .i64 b8, .int .i64 b9, .int .i64 b10, .int .i64 b11, .int .i64 b12, .int .i64 b13, .int .i64 b14, .int .i64 b15, .int .i64 b16, .int .i64 b17, .int .i64 b18, .int .i64 b19, .int .i64 b20, .int .i64 b21, .int .i64 b22, .int .i64 b23, .int .i64 b24, .int .i64 b25]) = some (.val (.bool ((a0 == b0) && ((a1 == b1) && ((a2 == b2) && ((a3 == b3) && ((a4 == b4) && (((a5 == b5) && ((a6 == b6) && ((a7 == b7) && ((a8 == b8) && true)))) && (((a9 == b9) && ((a10 == b10) && ((a11 == b11) && ((a12 == b12) && true)))) && (((a13 == b13) && ((a14 == b14) && ((a15 == b15) && ((a16 == b16) && true)))) && (((a17 == b17) && ((a18 == b18) && ((a19 == b19) && ((a20 == b20) && true)))) && ((a21 == b21) && (((a22 == b22) && ((a23 == b23) && ((a24 == b24) && ((a25 == b25) && true)))) && true)))))))))))) H) := by exact binV_aggeq nilEq_agg (by simp [isScalA, isScal]) gt_27 (eq_27 (d := 9997))
theorem bn_27 {a0 b0 : Int} {a1 b1 : Int} {a2 b2 : Int} {a3 b3 : ByteArray} {a4 b4 : Int} {a5 b5 : Int} {a6 b6 : Int} {a7 b7 : Int} {a8 b8 : Int} {a9 b9 : Int} {a10 b10 : Int} {a11 b11 : Int} {a12 b12 : Int} {a13 b13 : Int} {a14 b14 : Int} {a15 b15 : Int} {a16 b16 : Int} {a17 b17 : Int} {a18 b18 : Int} {a19 b19 : Int} {a20 b20 : Int} {a21 b21 : Int} {a22 b22 : Int} {a23 b23 : Int} {a24 b24 : Int} {a25 b25 : Int} {H : Heap} {x y : Operand} : binV Tryd.prog H .neq 27 x y (.agg #[.int .i64 a0, .int .u16 a1, .int .u32 a2, .string a3, .int .i64 a4, .int .i64 a5, .int .i64 a6, .int .i64 a7, .int .i64 a8, .int .i64 a9, .int .i64 a10, .int .i64 a11, .int .i64 a12, .int .i64 a13, .int .i64 a14, .int .i64 a15, .int .i64 a16, .int .i64 a17, .int .i64 a18, .int .i64 a19, .int .i64 a20, .int .i64 a21, .int .i64 a22, .int .i64 a23, .int .i64 a24, .int .i64 a25]) (.agg #[.int .i64 b0, .int .u16 b1, .int .u32 b2, .string b3, .int .i64 b4, .int .i64 b5, .int .i64 b6, .int .i64 b7, .int .i64 b8, .int .i64 b9, .int .i64 b10, .int .i64 b11, .int .i64 b12, .int .i64 b13, .int .i64 b14, .int .i64 b15, .int .i64 b16, .int .i64 b17, .int .i64 b18, .int .i64 b19, .int .i64 b20, .int .i64 b21, .int .i64 b22, .int .i64 b23, .int .i64 b24, .int .i64 b25]) = some (.val (.bool (!((a0 == b0) && ((a1 == b1) && ((a2 == b2) && ((a3 == b3) && ((a4 == b4) && (((a5 == b5) && ((a6 == b6) && ((a7 == b7) && ((a8 == b8) && true)))) && (((a9 == b9) && ((a10 == b10) && ((a11 == b11) && ((a12 == b12) && true)))) && (((a13 == b13) && ((a14 == b14) && ((a15 == b15) && ((a16 == b16) && true)))) && (((a17 == b17) && ((a18 == b18) && ((a19 == b19) && ((a20 == b20) && true)))) && ((a21 == b21) && (((a22 == b22) && ((a23 == b23) && ((a24 == b24) && ((a25 == b25) && true)))) && true))))))))))))) H) := by exact binV_aggne nilEq_agg (by simp [isScalA, isScal]) gt_27 (eq_27 (d := 9997))
theorem sz_30 : szOf Tryd.prog 30 = some 1 := by kernel_rfl
theorem by_30 : byOf Tryd.prog 30 = some 24 := by kernel_rfl
theorem ag_30 : aggOf Tryd.prog 30 = some false := by kernel_rfl
theorem ze_30 : zeroOf Tryd.prog 30 = (some (Value.slice none 0 0)) := by kernel_rfl
theorem un_30 : Program.underlying Tryd.prog 30 = some (TypeDesc.slice 27) := by kernel_rfl
theorem if_30 : ifaceT Tryd.prog 30 = false := by kernel_rfl
theorem al_30 {e : Operand → Value} {H : Heap} {d : Option Tmp} {ty : TypeId} {pos : String} {af : Array Edge} {g : Option (Nat × Bool)} : aop Tryd.prog e ⟨d, .alloc 30, ty, pos, af, g⟩ H = some (.val (.pointer (some ⟨H.next, 0, none⟩)) (H.push (.cells [(Value.slice none 0 0)] 30 false))) := by exact aop_alloc ze_30 rfl
theorem ad_30 {e : Operand → Value} {d : Option Tmp} {ty : TypeId} {pos : String} {af : Array Edge} {g : Option (Nat × Bool)} {j : Nat} : allocB Tryd.prog e ⟨d, .alloc 30, ty, pos, af, g⟩ j = some (.pointer (some ⟨j, 0, none⟩), .cells [(Value.slice none 0 0)] 30 false) := by rw [allocB_alloc, ze_30, alZ_some]; rfl
theorem ia_30 {b o len cap : Nat} {k : IntKind} {i : Int} : indexAddrB Tryd.prog 30 (.slice (some ⟨b, o, none⟩) len cap) (.int k i) = if 0 ≤ i ∧ i < len then (szOf Tryd.prog 27).map fun n => .pointer (some ⟨b, o + i.toNat * n, none⟩) else none := by exact indexAddr_slice un_30
theorem ln_30 {H : Heap} {a : Option Addr} {n c : Nat} : lenIn Tryd.prog H 30 (.slice a n c) = some (n : Int) := by exact lenIn_slice un_30
theorem bs_30 {j len : Nat} {ps : List (Nat × Value)} : buildSliceB Tryd.prog j 30 len ps = if len * 26 ≤ 16777216 then (fillL (fun i => some (i * 26, 26)) (zrep len [(Value.int IntKind.i64 0), (Value.int IntKind.u16 0), (Value.int IntKind.u32 0), (Value.string { data := #[] }), (Value.int IntKind.i64 0), (Value.int IntKind.i64 0), (Value.int IntKind.i64 0), (Value.int IntKind.i64 0), (Value.int IntKind.i64 0), (Value.int IntKind.i64 0), (Value.int IntKind.i64 0), (Value.int IntKind.i64 0), (Value.int IntKind.i64 0), (Value.int IntKind.i64 0), (Value.int IntKind.i64 0), (Value.int IntKind.i64 0), (Value.int IntKind.i64 0), (Value.int IntKind.i64 0), (Value.int IntKind.i64 0), (Value.int IntKind.i64 0), (Value.int IntKind.i64 0), (Value.int IntKind.i64 0), (Value.int IntKind.i64 0), (Value.int IntKind.i64 0), (Value.int IntKind.i64 0), (Value.int IntKind.i64 0)]) ps).map fun cs => (.slice (some ⟨j, 0, none⟩) len len, .cells cs 27 false) else none := by 
  rw [buildSliceB_eq un_30, sz_27, ze_27, bslV_some]
  by_cases h : len * 26 ≤ 16777216
  · rw [if_pos h, if_pos ⟨rfl, h, rfl⟩]; rfl
  · rw [if_neg h, if_neg (fun z => h z.2.1)]
theorem sl_30 {H : Heap} {i o len cap : Nat} {lo hi : Option Value} : sliceB Tryd.prog H 30 (.slice (some ⟨i, o, none⟩) len cap) lo hi none = cutW Tryd.prog 26 i o len cap (H.get i) (boundB lo 0) (boundB hi len) := by exact sliceB_eq un_30 sz_27
theorem ap_30 {H : Heap} {base : Option Addr} {x : Value} {l c : Nat} : appendB Tryd.prog H 30 (.slice base l c) x = apV H base l c 27 (firstB H 26 l (.slice base l c)) (lenB x) (firstO H 26 x (lenB x)) := by exact appendB_eq un_30 sz_27 by_27 ze_27 (by decide) rfl
theorem ab_30 {H : Heap} {t : TypeId} {s x : Value} : builtinB Tryd.prog H .append #[t, 30] [s, x] = appendB Tryd.prog H t s x := by exact builtinB_append (by kernel_rfl)
theorem sz_31 : szOf Tryd.prog 31 = some 1 := by kernel_rfl
theorem by_31 : byOf Tryd.prog 31 = some 24 := by kernel_rfl
theorem ag_31 : aggOf Tryd.prog 31 = some false := by kernel_rfl
theorem ze_31 : zeroOf Tryd.prog 31 = (some (Value.slice none 0 0)) := by kernel_rfl
theorem un_31 : Program.underlying Tryd.prog 31 = some (TypeDesc.slice 5) := by kernel_rfl
theorem if_31 : ifaceT Tryd.prog 31 = false := by kernel_rfl
theorem al_31 {e : Operand → Value} {H : Heap} {d : Option Tmp} {ty : TypeId} {pos : String} {af : Array Edge} {g : Option (Nat × Bool)} : aop Tryd.prog e ⟨d, .alloc 31, ty, pos, af, g⟩ H = some (.val (.pointer (some ⟨H.next, 0, none⟩)) (H.push (.cells [(Value.slice none 0 0)] 31 false))) := by exact aop_alloc ze_31 rfl
theorem ad_31 {e : Operand → Value} {d : Option Tmp} {ty : TypeId} {pos : String} {af : Array Edge} {g : Option (Nat × Bool)} {j : Nat} : allocB Tryd.prog e ⟨d, .alloc 31, ty, pos, af, g⟩ j = some (.pointer (some ⟨j, 0, none⟩), .cells [(Value.slice none 0 0)] 31 false) := by rw [allocB_alloc, ze_31, alZ_some]; rfl
theorem ia_31 {b o len cap : Nat} {k : IntKind} {i : Int} : indexAddrB Tryd.prog 31 (.slice (some ⟨b, o, none⟩) len cap) (.int k i) = if 0 ≤ i ∧ i < len then (szOf Tryd.prog 5).map fun n => .pointer (some ⟨b, o + i.toNat * n, none⟩) else none := by exact indexAddr_slice un_31
theorem ln_31 {H : Heap} {a : Option Addr} {n c : Nat} : lenIn Tryd.prog H 31 (.slice a n c) = some (n : Int) := by exact lenIn_slice un_31
theorem bs_31 {j len : Nat} {ps : List (Nat × Value)} : buildSliceB Tryd.prog j 31 len ps = if len * 1 ≤ 16777216 then (fillL (fun i => some (i * 1, 1)) (zrep len [(Value.int IntKind.u8 0)]) ps).map fun cs => (.slice (some ⟨j, 0, none⟩) len len, .cells cs 5 false) else none := by 
  rw [buildSliceB_eq un_31, sz_5, ze_5, bslV_some]
  by_cases h : len * 1 ≤ 16777216
  · rw [if_pos h, if_pos ⟨rfl, h, rfl⟩]; rfl
  · rw [if_neg h, if_neg (fun z => h z.2.1)]
theorem sl_31 {H : Heap} {i o len cap : Nat} {lo hi : Option Value} : sliceB Tryd.prog H 31 (.slice (some ⟨i, o, none⟩) len cap) lo hi none = cutW Tryd.prog 1 i o len cap (H.get i) (boundB lo 0) (boundB hi len) := by exact sliceB_eq un_31 sz_5
theorem ap_31 {H : Heap} {base : Option Addr} {x : Value} {l c : Nat} : appendB Tryd.prog H 31 (.slice base l c) x = apV H base l c 5 (firstB H 1 l (.slice base l c)) (lenB x) (firstO H 1 x (lenB x)) := by exact appendB_eq un_31 sz_5 by_5 ze_5 (by decide) rfl
theorem ab_31 {H : Heap} {t : TypeId} {s x : Value} : builtinB Tryd.prog H .append #[t, 31] [s, x] = appendB Tryd.prog H t s x := by exact builtinB_append (by kernel_rfl)
theorem u8_5 : u8T Tryd.prog 5 = true := by kernel_rfl
theorem sz_42 : szOf Tryd.prog 42 = some 1 := by kernel_rfl
theorem by_42 : byOf Tryd.prog 42 = some 24 := by kernel_rfl
theorem ag_42 : aggOf Tryd.prog 42 = some false := by kernel_rfl
theorem ze_42 : zeroOf Tryd.prog 42 = (some (Value.slice none 0 0)) := by kernel_rfl
theorem un_42 : Program.underlying Tryd.prog 42 = some (TypeDesc.slice 31) := by kernel_rfl
theorem if_42 : ifaceT Tryd.prog 42 = false := by kernel_rfl
theorem al_42 {e : Operand → Value} {H : Heap} {d : Option Tmp} {ty : TypeId} {pos : String} {af : Array Edge} {g : Option (Nat × Bool)} : aop Tryd.prog e ⟨d, .alloc 42, ty, pos, af, g⟩ H = some (.val (.pointer (some ⟨H.next, 0, none⟩)) (H.push (.cells [(Value.slice none 0 0)] 42 false))) := by exact aop_alloc ze_42 rfl
theorem ad_42 {e : Operand → Value} {d : Option Tmp} {ty : TypeId} {pos : String} {af : Array Edge} {g : Option (Nat × Bool)} {j : Nat} : allocB Tryd.prog e ⟨d, .alloc 42, ty, pos, af, g⟩ j = some (.pointer (some ⟨j, 0, none⟩), .cells [(Value.slice none 0 0)] 42 false) := by rw [allocB_alloc, ze_42, alZ_some]; rfl
theorem ia_42 {b o len cap : Nat} {k : IntKind} {i : Int} : indexAddrB Tryd.prog 42 (.slice (some ⟨b, o, none⟩) len cap) (.int k i) = if 0 ≤ i ∧ i < len then (szOf Tryd.prog 31).map fun n => .pointer (some ⟨b, o + i.toNat * n, none⟩) else none := by exact indexAddr_slice un_42
theorem ln_42 {H : Heap} {a : Option Addr} {n c : Nat} : lenIn Tryd.prog H 42 (.slice a n c) = some (n : Int) := by exact lenIn_slice un_42
theorem bs_42 {j len : Nat} {ps : List (Nat × Value)} : buildSliceB Tryd.prog j 42 len ps = if len * 1 ≤ 16777216 then (fillL (fun i => some (i * 1, 1)) (zrep len [(Value.slice none 0 0)]) ps).map fun cs => (.slice (some ⟨j, 0, none⟩) len len, .cells cs 31 false) else none := by 
  rw [buildSliceB_eq un_42, sz_31, ze_31, bslV_some]
  by_cases h : len * 1 ≤ 16777216
  · rw [if_pos h, if_pos ⟨rfl, h, rfl⟩]; rfl
  · rw [if_neg h, if_neg (fun z => h z.2.1)]
theorem sl_42 {H : Heap} {i o len cap : Nat} {lo hi : Option Value} : sliceB Tryd.prog H 42 (.slice (some ⟨i, o, none⟩) len cap) lo hi none = cutW Tryd.prog 1 i o len cap (H.get i) (boundB lo 0) (boundB hi len) := by exact sliceB_eq un_42 sz_31
theorem ap_42 {H : Heap} {base : Option Addr} {x : Value} {l c : Nat} : appendB Tryd.prog H 42 (.slice base l c) x = apV H base l c 31 (firstB H 1 l (.slice base l c)) (lenB x) (firstO H 1 x (lenB x)) := by exact appendB_eq un_42 sz_31 by_31 ze_31 (by decide) rfl
theorem ab_42 {H : Heap} {t : TypeId} {s x : Value} : builtinB Tryd.prog H .append #[t, 42] [s, x] = appendB Tryd.prog H t s x := by exact builtinB_append (by kernel_rfl)
theorem sz_47 : szOf Tryd.prog 47 = some 1 := by kernel_rfl
theorem by_47 : byOf Tryd.prog 47 = some 8 := by kernel_rfl
theorem ag_47 : aggOf Tryd.prog 47 = some false := by kernel_rfl
theorem ze_47 : zeroOf Tryd.prog 47 = (some (Value.int IntKind.u64 0)) := by kernel_rfl
theorem un_47 : Program.underlying Tryd.prog 47 = some (TypeDesc.int IntKind.u64) := by kernel_rfl
theorem if_47 : ifaceT Tryd.prog 47 = false := by kernel_rfl
theorem al_47 {e : Operand → Value} {H : Heap} {d : Option Tmp} {ty : TypeId} {pos : String} {af : Array Edge} {g : Option (Nat × Bool)} : aop Tryd.prog e ⟨d, .alloc 47, ty, pos, af, g⟩ H = some (.val (.pointer (some ⟨H.next, 0, none⟩)) (H.push (.cells [(Value.int IntKind.u64 0)] 47 false))) := by exact aop_alloc ze_47 rfl
theorem ad_47 {e : Operand → Value} {d : Option Tmp} {ty : TypeId} {pos : String} {af : Array Edge} {g : Option (Nat × Bool)} {j : Nat} : allocB Tryd.prog e ⟨d, .alloc 47, ty, pos, af, g⟩ j = some (.pointer (some ⟨j, 0, none⟩), .cells [(Value.int IntKind.u64 0)] 47 false) := by rw [allocB_alloc, ze_47, alZ_some]; rfl
theorem sz_52 : szOf Tryd.prog 52 = some 1 := by kernel_rfl
theorem by_52 : byOf Tryd.prog 52 = some 24 := by kernel_rfl
theorem ag_52 : aggOf Tryd.prog 52 = some false := by kernel_rfl
theorem ze_52 : zeroOf Tryd.prog 52 = (some (Value.slice none 0 0)) := by kernel_rfl
theorem un_52 : Program.underlying Tryd.prog 52 = some (TypeDesc.slice 9) := by kernel_rfl
theorem if_52 : ifaceT Tryd.prog 52 = false := by kernel_rfl
theorem al_52 {e : Operand → Value} {H : Heap} {d : Option Tmp} {ty : TypeId} {pos : String} {af : Array Edge} {g : Option (Nat × Bool)} : aop Tryd.prog e ⟨d, .alloc 52, ty, pos, af, g⟩ H = some (.val (.pointer (some ⟨H.next, 0, none⟩)) (H.push (.cells [(Value.slice none 0 0)] 52 false))) := by exact aop_alloc ze_52 rfl
theorem ad_52 {e : Operand → Value} {d : Option Tmp} {ty : TypeId} {pos : String} {af : Array Edge} {g : Option (Nat × Bool)} {j : Nat} : allocB Tryd.prog e ⟨d, .alloc 52, ty, pos, af, g⟩ j = some (.pointer (some ⟨j, 0, none⟩), .cells [(Value.slice none 0 0)] 52 false) := by rw [allocB_alloc, ze_52, alZ_some]; rfl
theorem ia_52 {b o len cap : Nat} {k : IntKind} {i : Int} : indexAddrB Tryd.prog 52 (.slice (some ⟨b, o, none⟩) len cap) (.int k i) = if 0 ≤ i ∧ i < len then (szOf Tryd.prog 9).map fun n => .pointer (some ⟨b, o + i.toNat * n, none⟩) else none := by exact indexAddr_slice un_52
theorem ln_52 {H : Heap} {a : Option Addr} {n c : Nat} : lenIn Tryd.prog H 52 (.slice a n c) = some (n : Int) := by exact lenIn_slice un_52
theorem bs_52 {j len : Nat} {ps : List (Nat × Value)} : buildSliceB Tryd.prog j 52 len ps = if len * 1 ≤ 16777216 then (fillL (fun i => some (i * 1, 1)) (zrep len [(Value.string { data := #[] })]) ps).map fun cs => (.slice (some ⟨j, 0, none⟩) len len, .cells cs 9 false) else none := by 
  rw [buildSliceB_eq un_52, sz_9, ze_9, bslV_some]
  by_cases h : len * 1 ≤ 16777216
  · rw [if_pos h, if_pos ⟨rfl, h, rfl⟩]; rfl
  · rw [if_neg h, if_neg (fun z => h z.2.1)]
theorem sl_52 {H : Heap} {i o len cap : Nat} {lo hi : Option Value} : sliceB Tryd.prog H 52 (.slice (some ⟨i, o, none⟩) len cap) lo hi none = cutW Tryd.prog 1 i o len cap (H.get i) (boundB lo 0) (boundB hi len) := by exact sliceB_eq un_52 sz_9
theorem ap_52 {H : Heap} {base : Option Addr} {x : Value} {l c : Nat} : appendB Tryd.prog H 52 (.slice base l c) x = apV H base l c 9 (firstB H 1 l (.slice base l c)) (lenB x) (firstO H 1 x (lenB x)) := by exact appendB_eq un_52 sz_9 by_9 ze_9 (by decide) rfl
theorem ab_52 {H : Heap} {t : TypeId} {s x : Value} : builtinB Tryd.prog H .append #[t, 52] [s, x] = appendB Tryd.prog H t s x := by exact builtinB_append (by kernel_rfl)
theorem sz_63 : szOf Tryd.prog 63 = some 1 := by kernel_rfl
theorem by_63 : byOf Tryd.prog 63 = some 8 := by kernel_rfl
theorem ag_63 : aggOf Tryd.prog 63 = some false := by kernel_rfl
theorem ze_63 : zeroOf Tryd.prog 63 = (some (Value.pointer none)) := by kernel_rfl
theorem un_63 : Program.underlying Tryd.prog 63 = some (TypeDesc.pointer 27) := by kernel_rfl
theorem if_63 : ifaceT Tryd.prog 63 = false := by kernel_rfl
theorem al_63 {e : Operand → Value} {H : Heap} {d : Option Tmp} {ty : TypeId} {pos : String} {af : Array Edge} {g : Option (Nat × Bool)} : aop Tryd.prog e ⟨d, .alloc 63, ty, pos, af, g⟩ H = some (.val (.pointer (some ⟨H.next, 0, none⟩)) (H.push (.cells [(Value.pointer none)] 63 false))) := by exact aop_alloc ze_63 rfl
theorem ad_63 {e : Operand → Value} {d : Option Tmp} {ty : TypeId} {pos : String} {af : Array Edge} {g : Option (Nat × Bool)} {j : Nat} : allocB Tryd.prog e ⟨d, .alloc 63, ty, pos, af, g⟩ j = some (.pointer (some ⟨j, 0, none⟩), .cells [(Value.pointer none)] 63 false) := by rw [allocB_alloc, ze_63, alZ_some]; rfl
theorem sz_69 : szOf Tryd.prog 69 = some 1 := by kernel_rfl
theorem by_69 : byOf Tryd.prog 69 = some 8 := by kernel_rfl
theorem ag_69 : aggOf Tryd.prog 69 = some false := by kernel_rfl
theorem ze_69 : zeroOf Tryd.prog 69 = (some (Value.pointer none)) := by kernel_rfl
theorem un_69 : Program.underlying Tryd.prog 69 = some (TypeDesc.pointer 72) := by kernel_rfl
theorem if_69 : ifaceT Tryd.prog 69 = false := by kernel_rfl
theorem al_69 {e : Operand → Value} {H : Heap} {d : Option Tmp} {ty : TypeId} {pos : String} {af : Array Edge} {g : Option (Nat × Bool)} : aop Tryd.prog e ⟨d, .alloc 69, ty, pos, af, g⟩ H = some (.val (.pointer (some ⟨H.next, 0, none⟩)) (H.push (.cells [(Value.pointer none)] 69 false))) := by exact aop_alloc ze_69 rfl
theorem ad_69 {e : Operand → Value} {d : Option Tmp} {ty : TypeId} {pos : String} {af : Array Edge} {g : Option (Nat × Bool)} {j : Nat} : allocB Tryd.prog e ⟨d, .alloc 69, ty, pos, af, g⟩ j = some (.pointer (some ⟨j, 0, none⟩), .cells [(Value.pointer none)] 69 false) := by rw [allocB_alloc, ze_69, alZ_some]; rfl
theorem sz_72 : szOf Tryd.prog 72 = some 2 := by kernel_rfl
theorem by_72 : byOf Tryd.prog 72 = some 32 := by kernel_rfl
theorem ag_72 : aggOf Tryd.prog 72 = some true := by kernel_rfl
theorem ze_72 : zeroOf Tryd.prog 72 = (some (Value.agg #[(Value.slice none 0 0), (Value.bool false)])) := by kernel_rfl
theorem un_72 : Program.underlying Tryd.prog 72 = some (TypeDesc.struct #[{ name := "l", type := 52, offset := 0, embedded := false, tag := "", pkgPath := "guichet/ndc", byteOffset := 0 }, { name := "bad", type := 4, offset := 1, embedded := false, tag := "", pkgPath := "guichet/ndc", byteOffset := 24 }]) := by kernel_rfl
theorem if_72 : ifaceT Tryd.prog 72 = false := by kernel_rfl
theorem al_72 {e : Operand → Value} {H : Heap} {d : Option Tmp} {ty : TypeId} {pos : String} {af : Array Edge} {g : Option (Nat × Bool)} : aop Tryd.prog e ⟨d, .alloc 72, ty, pos, af, g⟩ H = some (.val (.pointer (some ⟨H.next, 0, none⟩)) (H.push (.cells [(Value.slice none 0 0), (Value.bool false)] 72 false))) := by exact aop_alloc ze_72 rfl
theorem ad_72 {e : Operand → Value} {d : Option Tmp} {ty : TypeId} {pos : String} {af : Array Edge} {g : Option (Nat × Bool)} {j : Nat} : allocB Tryd.prog e ⟨d, .alloc 72, ty, pos, af, g⟩ j = some (.pointer (some ⟨j, 0, none⟩), .cells [(Value.slice none 0 0), (Value.bool false)] 72 false) := by rw [allocB_alloc, ze_72, alZ_some]; rfl
theorem fa_72_0 : fieldAt Tryd.prog 72 0 = some (52, 0, 1) := by kernel_rfl
theorem fa_72_1 : fieldAt Tryd.prog 72 1 = some (4, 1, 1) := by kernel_rfl
theorem pl_72 : placesB Tryd.prog 72 = some (fun i => ([(0, 1), (1, 1)] : List (Nat × Nat)).toArray[i]?) := by kernel_rfl
theorem sz_78 : szOf Tryd.prog 78 = some 8 := by kernel_rfl
theorem by_78 : byOf Tryd.prog 78 = some 128 := by kernel_rfl
theorem ag_78 : aggOf Tryd.prog 78 = some true := by kernel_rfl
theorem ze_78 : zeroOf Tryd.prog 78 = (some (Value.agg #[(Value.string { data := #[] }), (Value.string { data := #[] }), (Value.string { data := #[] }), (Value.string { data := #[] }), (Value.string { data := #[] }), (Value.string { data := #[] }), (Value.string { data := #[] }), (Value.string { data := #[] })])) := by kernel_rfl
theorem un_78 : Program.underlying Tryd.prog 78 = some (TypeDesc.array 8 9) := by kernel_rfl
theorem if_78 : ifaceT Tryd.prog 78 = false := by kernel_rfl
theorem al_78 {e : Operand → Value} {H : Heap} {d : Option Tmp} {ty : TypeId} {pos : String} {af : Array Edge} {g : Option (Nat × Bool)} : aop Tryd.prog e ⟨d, .alloc 78, ty, pos, af, g⟩ H = some (.val (.pointer (some ⟨H.next, 0, none⟩)) (H.push (.cells [(Value.string { data := #[] }), (Value.string { data := #[] }), (Value.string { data := #[] }), (Value.string { data := #[] }), (Value.string { data := #[] }), (Value.string { data := #[] }), (Value.string { data := #[] }), (Value.string { data := #[] })] 78 false))) := by exact aop_alloc ze_78 rfl
theorem ad_78 {e : Operand → Value} {d : Option Tmp} {ty : TypeId} {pos : String} {af : Array Edge} {g : Option (Nat × Bool)} {j : Nat} : allocB Tryd.prog e ⟨d, .alloc 78, ty, pos, af, g⟩ j = some (.pointer (some ⟨j, 0, none⟩), .cells [(Value.string { data := #[] }), (Value.string { data := #[] }), (Value.string { data := #[] }), (Value.string { data := #[] }), (Value.string { data := #[] }), (Value.string { data := #[] }), (Value.string { data := #[] }), (Value.string { data := #[] })] 78 false) := by rw [allocB_alloc, ze_78, alZ_some]; rfl
theorem pl_78 : placesB Tryd.prog 78 = some (fun i => some (i * 1, 1)) := by kernel_rfl
theorem ia_78 {b o : Nat} {k : IntKind} {i : Int} : indexAddrB Tryd.prog 78 (.pointer (some ⟨b, o, none⟩)) (.int k i) = if 0 ≤ i ∧ i < 8 then (szOf Tryd.prog 9).map fun n => .pointer (some ⟨b, o + i.toNat * n, none⟩) else none := by exact indexAddr_array un_78
theorem ix_78 {cs : Array Value} {k : IntKind} {i : Int} : indexB Tryd.prog 78 (.agg cs) (.int k i) = if 0 ≤ i ∧ i < 8 then (szOf Tryd.prog 9).bind fun n => partB Tryd.prog 9 cs (i.toNat * n) else none := by exact index_array un_78
theorem ln_78 {H : Heap} {x : Value} : lenIn Tryd.prog H 78 x = some 8 := by exact lenIn_array un_78
theorem eq_78 {d : Nat} {a0 b0 : ByteArray} {a1 b1 : ByteArray} {a2 b2 : ByteArray} {a3 b3 : ByteArray} {a4 b4 : ByteArray} {a5 b5 : ByteArray} {a6 b6 : ByteArray} {a7 b7 : ByteArray} : runP Tryd.prog (Op.equalIn (d + 2) 78 (.agg #[.string a0, .string a1, .string a2, .string a3, .string a4, .string a5, .string a6, .string a7]) (.agg #[.string b0, .string b1, .string b2, .string b3, .string b4, .string b5, .string b6, .string b7])) = some ((a0 == b0) && ((a1 == b1) && ((a2 == b2) && ((a3 == b3) && ((a4 == b4) && ((a5 == b5) && ((a6 == b6) && ((a7 == b7) && true)))))))) := by
  refine eqArray (d := d + 1) un_78 sz_9 ?_
  simp only [List.range'_succ, List.range'_zero, List.map_cons, List.map_nil, fldEq, eltEq, partB_eq, partV_agg, partV_one, ag_9, sz_9, List.size_toArray, List.length_cons, List.length_nil, Nat.reduceAdd, Nat.reduceLeDiff, Nat.reduceMul, Nat.zero_mul, Nat.zero_add, Nat.add_zero, if_true, List.drop_succ_cons, List.drop_zero, List.take_succ_cons, List.take_zero, List.getElem?_toArray, List.getElem?_cons_zero, List.getElem?_cons_succ, Option.bind_some, ne_eq, String.reduceEq, not_false_eq_true, allO_cons, allO_nil, lazyAnd_some, eqStr (d := d) un_9]
theorem gt_78 : Program.eqGuardType Tryd.prog (Program.depth Tryd.prog) 78 = false := by kernel_rfl
theorem be_78 {a0 b0 : ByteArray} {a1 b1 : ByteArray} {a2 b2 : ByteArray} {a3 b3 : ByteArray} {a4 b4 : ByteArray} {a5 b5 : ByteArray} {a6 b6 : ByteArray} {a7 b7 : ByteArray} {H : Heap} {x y : Operand} : binV Tryd.prog H .eql 78 x y (.agg #[.string a0, .string a1, .string a2, .string a3, .string a4, .string a5, .string a6, .string a7]) (.agg #[.string b0, .string b1, .string b2, .string b3, .string b4, .string b5, .string b6, .string b7]) = some (.val (.bool ((a0 == b0) && ((a1 == b1) && ((a2 == b2) && ((a3 == b3) && ((a4 == b4) && ((a5 == b5) && ((a6 == b6) && ((a7 == b7) && true))))))))) H) := by exact binV_aggeq nilEq_agg (by simp [isScalA, isScal]) gt_78 (eq_78 (d := 9998))
theorem bn_78 {a0 b0 : ByteArray} {a1 b1 : ByteArray} {a2 b2 : ByteArray} {a3 b3 : ByteArray} {a4 b4 : ByteArray} {a5 b5 : ByteArray} {a6 b6 : ByteArray} {a7 b7 : ByteArray} {H : Heap} {x y : Operand} : binV Tryd.prog H .neq 78 x y (.agg #[.string a0, .string a1, .string a2, .string a3, .string a4, .string a5, .string a6, .string a7]) (.agg #[.string b0, .string b1, .string b2, .string b3, .string b4, .string b5, .string b6, .string b7]) = some (.val (.bool (!((a0 == b0) && ((a1 == b1) && ((a2 == b2) && ((a3 == b3) && ((a4 == b4) && ((a5 == b5) && ((a6 == b6) && ((a7 == b7) && true)))))))))) H) := by exact binV_aggne nilEq_agg (by simp [isScalA, isScal]) gt_78 (eq_78 (d := 9998))
theorem sz_79 : szOf Tryd.prog 79 = some 1 := by kernel_rfl
theorem by_79 : byOf Tryd.prog 79 = some 24 := by kernel_rfl
theorem ag_79 : aggOf Tryd.prog 79 = some false := by kernel_rfl
theorem ze_79 : zeroOf Tryd.prog 79 = (some (Value.slice none 0 0)) := by kernel_rfl
theorem un_79 : Program.underlying Tryd.prog 79 = some (TypeDesc.slice 25) := by kernel_rfl
theorem if_79 : ifaceT Tryd.prog 79 = false := by kernel_rfl
theorem al_79 {e : Operand → Value} {H : Heap} {d : Option Tmp} {ty : TypeId} {pos : String} {af : Array Edge} {g : Option (Nat × Bool)} : aop Tryd.prog e ⟨d, .alloc 79, ty, pos, af, g⟩ H = some (.val (.pointer (some ⟨H.next, 0, none⟩)) (H.push (.cells [(Value.slice none 0 0)] 79 false))) := by exact aop_alloc ze_79 rfl
theorem ad_79 {e : Operand → Value} {d : Option Tmp} {ty : TypeId} {pos : String} {af : Array Edge} {g : Option (Nat × Bool)} {j : Nat} : allocB Tryd.prog e ⟨d, .alloc 79, ty, pos, af, g⟩ j = some (.pointer (some ⟨j, 0, none⟩), .cells [(Value.slice none 0 0)] 79 false) := by rw [allocB_alloc, ze_79, alZ_some]; rfl
theorem ia_79 {b o len cap : Nat} {k : IntKind} {i : Int} : indexAddrB Tryd.prog 79 (.slice (some ⟨b, o, none⟩) len cap) (.int k i) = if 0 ≤ i ∧ i < len then (szOf Tryd.prog 25).map fun n => .pointer (some ⟨b, o + i.toNat * n, none⟩) else none := by exact indexAddr_slice un_79
theorem ln_79 {H : Heap} {a : Option Addr} {n c : Nat} : lenIn Tryd.prog H 79 (.slice a n c) = some (n : Int) := by exact lenIn_slice un_79
theorem bs_79 {j len : Nat} {ps : List (Nat × Value)} : buildSliceB Tryd.prog j 79 len ps = if len * 4 ≤ 16777216 then (fillL (fun i => some (i * 4, 4)) (zrep len [(Value.int IntKind.i64 0), (Value.int IntKind.i64 0), (Value.int IntKind.i64 0), (Value.int IntKind.i64 0)]) ps).map fun cs => (.slice (some ⟨j, 0, none⟩) len len, .cells cs 25 false) else none := by 
  rw [buildSliceB_eq un_79, sz_25, ze_25, bslV_some]
  by_cases h : len * 4 ≤ 16777216
  · rw [if_pos h, if_pos ⟨rfl, h, rfl⟩]; rfl
  · rw [if_neg h, if_neg (fun z => h z.2.1)]
theorem sl_79 {H : Heap} {i o len cap : Nat} {lo hi : Option Value} : sliceB Tryd.prog H 79 (.slice (some ⟨i, o, none⟩) len cap) lo hi none = cutW Tryd.prog 4 i o len cap (H.get i) (boundB lo 0) (boundB hi len) := by exact sliceB_eq un_79 sz_25
theorem ap_79 {H : Heap} {base : Option Addr} {x : Value} {l c : Nat} : appendB Tryd.prog H 79 (.slice base l c) x = apV H base l c 25 (firstB H 4 l (.slice base l c)) (lenB x) (firstO H 4 x (lenB x)) := by exact appendB_eq un_79 sz_25 by_25 ze_25 (by decide) rfl
theorem ab_79 {H : Heap} {t : TypeId} {s x : Value} : builtinB Tryd.prog H .append #[t, 79] [s, x] = appendB Tryd.prog H t s x := by exact builtinB_append (by kernel_rfl)
theorem sz_85 : szOf Tryd.prog 85 = some 1 := by kernel_rfl
theorem by_85 : byOf Tryd.prog 85 = some 16 := by kernel_rfl
theorem ag_85 : aggOf Tryd.prog 85 = some false := by kernel_rfl
theorem ze_85 : zeroOf Tryd.prog 85 = (some Value.nilIface) := by kernel_rfl
theorem un_85 : Program.underlying Tryd.prog 85 = some (TypeDesc.interface #[("Error", 73)]) := by kernel_rfl
theorem bd_25 {ps : List (Nat × Value)} : buildB Tryd.prog 25 ps = (fillL (fun i => some (i * 1, 1)) [(Value.int IntKind.i64 0), (Value.int IntKind.i64 0), (Value.int IntKind.i64 0), (Value.int IntKind.i64 0)] ps).map fun l => .agg l.toArray := by rw [buildB_eq, ze_25, pl_25, bldV_some]; rfl
theorem bd_27 {ps : List (Nat × Value)} : buildB Tryd.prog 27 ps = (fillL (fun i => ([(0, 1), (1, 1), (2, 1), (3, 1), (4, 1), (5, 4), (9, 4), (13, 4), (17, 4), (21, 1), (22, 4)] : List (Nat × Nat)).toArray[i]?) [(Value.int IntKind.i64 0), (Value.int IntKind.u16 0), (Value.int IntKind.u32 0), (Value.string { data := #[] }), (Value.int IntKind.i64 0), (Value.int IntKind.i64 0), (Value.int IntKind.i64 0), (Value.int IntKind.i64 0), (Value.int IntKind.i64 0), (Value.int IntKind.i64 0), (Value.int IntKind.i64 0), (Value.int IntKind.i64 0), (Value.int IntKind.i64 0), (Value.int IntKind.i64 0), (Value.int IntKind.i64 0), (Value.int IntKind.i64 0), (Value.int IntKind.i64 0), (Value.int IntKind.i64 0), (Value.int IntKind.i64 0), (Value.int IntKind.i64 0), (Value.int IntKind.i64 0), (Value.int IntKind.i64 0), (Value.int IntKind.i64 0), (Value.int IntKind.i64 0), (Value.int IntKind.i64 0), (Value.int IntKind.i64 0)] ps).map fun l => .agg l.toArray := by rw [buildB_eq, ze_27, pl_27, bldV_some]; rfl
theorem bd_72 {ps : List (Nat × Value)} : buildB Tryd.prog 72 ps = (fillL (fun i => ([(0, 1), (1, 1)] : List (Nat × Nat)).toArray[i]?) [(Value.slice none 0 0), (Value.bool false)] ps).map fun l => .agg l.toArray := by rw [buildB_eq, ze_72, pl_72, bldV_some]; rfl
theorem bd_78 {ps : List (Nat × Value)} : buildB Tryd.prog 78 ps = (fillL (fun i => some (i * 1, 1)) [(Value.string { data := #[] }), (Value.string { data := #[] }), (Value.string { data := #[] }), (Value.string { data := #[] }), (Value.string { data := #[] }), (Value.string { data := #[] }), (Value.string { data := #[] }), (Value.string { data := #[] })] ps).map fun l => .agg l.toArray := by rw [buildB_eq, ze_78, pl_78, bldV_some]; rfl
theorem cm_2_22 {H : Heap} {x : Value} : cvM Tryd.prog H 2 22 x = cvV Tryd.prog H 2 22 x := by exact cvM_ne (by decide)
theorem cv_2_22 {H : Heap} {k0 : IntKind} {n : Int} : cvV Tryd.prog H 2 22 (.int k0 n) = some (.val (.int .u16 (IntKind.wrap .u16 n)) H) := by exact cvV_int un_2 un_22
theorem cm_2_23 {H : Heap} {x : Value} : cvM Tryd.prog H 2 23 x = cvV Tryd.prog H 2 23 x := by exact cvM_ne (by decide)
theorem cv_2_23 {H : Heap} {k0 : IntKind} {n : Int} : cvV Tryd.prog H 2 23 (.int k0 n) = some (.val (.int .u32 (IntKind.wrap .u32 n)) H) := by exact cvV_int un_2 un_23
theorem cm_2_47 {H : Heap} {x : Value} : cvM Tryd.prog H 2 47 x = cvV Tryd.prog H 2 47 x := by exact cvM_ne (by decide)
theorem cv_2_47 {H : Heap} {k0 : IntKind} {n : Int} : cvV Tryd.prog H 2 47 (.int k0 n) = some (.val (.int .u64 (IntKind.wrap .u64 n)) H) := by exact cvV_int un_2 un_47
theorem cm_3_22 {H : Heap} {x : Value} : cvM Tryd.prog H 3 22 x = cvV Tryd.prog H 3 22 x := by exact cvM_ne (by decide)
theorem cv_3_22 {H : Heap} {k0 : IntKind} {n : Int} : cvV Tryd.prog H 3 22 (.int k0 n) = some (.val (.int .u16 (IntKind.wrap .u16 n)) H) := by exact cvV_int un_3 un_22
theorem cm_3_23 {H : Heap} {x : Value} : cvM Tryd.prog H 3 23 x = cvV Tryd.prog H 3 23 x := by exact cvM_ne (by decide)
theorem cv_3_23 {H : Heap} {k0 : IntKind} {n : Int} : cvV Tryd.prog H 3 23 (.int k0 n) = some (.val (.int .u32 (IntKind.wrap .u32 n)) H) := by exact cvV_int un_3 un_23
theorem cm_5_2 {H : Heap} {x : Value} : cvM Tryd.prog H 5 2 x = cvV Tryd.prog H 5 2 x := by exact cvM_ne (by decide)
theorem cv_5_2 {H : Heap} {k0 : IntKind} {n : Int} : cvV Tryd.prog H 5 2 (.int k0 n) = some (.val (.int .i64 (IntKind.wrap .i64 n)) H) := by exact cvV_int un_5 un_2
theorem cm_5_3 {H : Heap} {x : Value} : cvM Tryd.prog H 5 3 x = cvV Tryd.prog H 5 3 x := by exact cvM_ne (by decide)
theorem cv_5_3 {H : Heap} {k0 : IntKind} {n : Int} : cvV Tryd.prog H 5 3 (.int k0 n) = some (.val (.int .i64 (IntKind.wrap .i64 n)) H) := by exact cvV_int un_5 un_3
theorem cm_5_22 {H : Heap} {x : Value} : cvM Tryd.prog H 5 22 x = cvV Tryd.prog H 5 22 x := by exact cvM_ne (by decide)
theorem cv_5_22 {H : Heap} {k0 : IntKind} {n : Int} : cvV Tryd.prog H 5 22 (.int k0 n) = some (.val (.int .u16 (IntKind.wrap .u16 n)) H) := by exact cvV_int un_5 un_22
theorem cm_9_31 {H : Heap} {x : Value} : cvM Tryd.prog H 9 31 x = cvV Tryd.prog H 9 31 x := by exact cvM_ne (by decide)
theorem cb_9_31 {j : Nat} {s : ByteArray} : bytesB Tryd.prog j 9 31 (.string s) = some (.slice (some ⟨j, 0, none⟩) s.size capU, .cells (s.data.toList.map fun b => .int .u8 b.toNat) 5 false) := by exact bytesB_string un_9 un_31 u8_5 sz_5
theorem cm_22_2 {H : Heap} {x : Value} : cvM Tryd.prog H 22 2 x = cvV Tryd.prog H 22 2 x := by exact cvM_ne (by decide)
theorem cv_22_2 {H : Heap} {k0 : IntKind} {n : Int} : cvV Tryd.prog H 22 2 (.int k0 n) = some (.val (.int .i64 (IntKind.wrap .i64 n)) H) := by exact cvV_int un_22 un_2
theorem cm_22_3 {H : Heap} {x : Value} : cvM Tryd.prog H 22 3 x = cvV Tryd.prog H 22 3 x := by exact cvM_ne (by decide)
theorem cv_22_3 {H : Heap} {k0 : IntKind} {n : Int} : cvV Tryd.prog H 22 3 (.int k0 n) = some (.val (.int .i64 (IntKind.wrap .i64 n)) H) := by exact cvV_int un_22 un_3
theorem cm_22_23 {H : Heap} {x : Value} : cvM Tryd.prog H 22 23 x = cvV Tryd.prog H 22 23 x := by exact cvM_ne (by decide)
theorem cv_22_23 {H : Heap} {k0 : IntKind} {n : Int} : cvV Tryd.prog H 22 23 (.int k0 n) = some (.val (.int .u32 (IntKind.wrap .u32 n)) H) := by exact cvV_int un_22 un_23
theorem cm_23_2 {H : Heap} {x : Value} : cvM Tryd.prog H 23 2 x = cvV Tryd.prog H 23 2 x := by exact cvM_ne (by decide)
theorem cv_23_2 {H : Heap} {k0 : IntKind} {n : Int} : cvV Tryd.prog H 23 2 (.int k0 n) = some (.val (.int .i64 (IntKind.wrap .i64 n)) H) := by exact cvV_int un_23 un_2
theorem cm_23_47 {H : Heap} {x : Value} : cvM Tryd.prog H 23 47 x = cvV Tryd.prog H 23 47 x := by exact cvM_ne (by decide)
theorem cv_23_47 {H : Heap} {k0 : IntKind} {n : Int} : cvV Tryd.prog H 23 47 (.int k0 n) = some (.val (.int .u64 (IntKind.wrap .u64 n)) H) := by exact cvV_int un_23 un_47
theorem cm_31_9 {H : Heap} {x : Value} : cvM Tryd.prog H 31 9 x = cvV Tryd.prog H 31 9 x := by exact cvM_ne (by decide)
theorem cm_47_2 {H : Heap} {x : Value} : cvM Tryd.prog H 47 2 x = cvV Tryd.prog H 47 2 x := by exact cvM_ne (by decide)
theorem cv_47_2 {H : Heap} {k0 : IntKind} {n : Int} : cvV Tryd.prog H 47 2 (.int k0 n) = some (.val (.int .i64 (IntKind.wrap .i64 n)) H) := by exact cvV_int un_47 un_2
noncomputable def tab : Tr Func := (((((((((((((((((((((((((((((((((((((Tr.nil).set 3 Tryd.f3).set 4 Tryd.f4).set 5 Tryd.f5).set 6 Tryd.f6).set 8 Tryd.f8).set 9 Tryd.f9).set 10 Tryd.f10).set 11 Tryd.f11).set 12 Tryd.f12).set 13 Tryd.f13).set 14 Tryd.f14).set 15 Tryd.f15).set 16 Tryd.f16).set 17 Tryd.f17).set 18 Tryd.f18).set 22 Tryd.f22).set 24 Tryd.f24).set 26 Tryd.f26).set 28 Tryd.f28).set 29 Tryd.f29).set 30 Tryd.f30).set 31 Tryd.f31).set 32 Tryd.f32).set 33 Tryd.f33).set 35 Tryd.f35).set 36 Tryd.f36).set 37 Tryd.f37).set 39 Tryd.f39).set 23 Tryd.f23).set 25 Tryd.f25).set 27 Tryd.f27).set 34 Tryd.f34).set 38 Tryd.f38).set 46 Tryd.f46).set 49 Tryd.f49).set 61 Tryd.f61).set 45 Tryd.f45
theorem tab_3 : tab.get 3 = some Tryd.f3 := by kernel_rfl
theorem tab_4 : tab.get 4 = some Tryd.f4 := by kernel_rfl
theorem tab_5 : tab.get 5 = some Tryd.f5 := by kernel_rfl
theorem tab_6 : tab.get 6 = some Tryd.f6 := by kernel_rfl
theorem tab_8 : tab.get 8 = some Tryd.f8 := by kernel_rfl
theorem tab_9 : tab.get 9 = some Tryd.f9 := by kernel_rfl
theorem tab_10 : tab.get 10 = some Tryd.f10 := by kernel_rfl
theorem tab_11 : tab.get 11 = some Tryd.f11 := by kernel_rfl
theorem tab_12 : tab.get 12 = some Tryd.f12 := by kernel_rfl
theorem tab_13 : tab.get 13 = some Tryd.f13 := by kernel_rfl
theorem tab_14 : tab.get 14 = some Tryd.f14 := by kernel_rfl
theorem tab_15 : tab.get 15 = some Tryd.f15 := by kernel_rfl
theorem tab_16 : tab.get 16 = some Tryd.f16 := by kernel_rfl
theorem tab_17 : tab.get 17 = some Tryd.f17 := by kernel_rfl
theorem tab_18 : tab.get 18 = some Tryd.f18 := by kernel_rfl
theorem tab_22 : tab.get 22 = some Tryd.f22 := by kernel_rfl
theorem tab_24 : tab.get 24 = some Tryd.f24 := by kernel_rfl
theorem tab_26 : tab.get 26 = some Tryd.f26 := by kernel_rfl
theorem tab_28 : tab.get 28 = some Tryd.f28 := by kernel_rfl
theorem tab_29 : tab.get 29 = some Tryd.f29 := by kernel_rfl
theorem tab_30 : tab.get 30 = some Tryd.f30 := by kernel_rfl
theorem tab_31 : tab.get 31 = some Tryd.f31 := by kernel_rfl
theorem tab_32 : tab.get 32 = some Tryd.f32 := by kernel_rfl
theorem tab_33 : tab.get 33 = some Tryd.f33 := by kernel_rfl
theorem tab_35 : tab.get 35 = some Tryd.f35 := by kernel_rfl
theorem tab_36 : tab.get 36 = some Tryd.f36 := by kernel_rfl
theorem tab_37 : tab.get 37 = some Tryd.f37 := by kernel_rfl
theorem tab_39 : tab.get 39 = some Tryd.f39 := by kernel_rfl
theorem tab_23 : tab.get 23 = some Tryd.f23 := by kernel_rfl
theorem tab_25 : tab.get 25 = some Tryd.f25 := by kernel_rfl
theorem tab_27 : tab.get 27 = some Tryd.f27 := by kernel_rfl
theorem tab_34 : tab.get 34 = some Tryd.f34 := by kernel_rfl
theorem tab_38 : tab.get 38 = some Tryd.f38 := by kernel_rfl
theorem tab_46 : tab.get 46 = some Tryd.f46 := by kernel_rfl
theorem tab_49 : tab.get 49 = some Tryd.f49 := by kernel_rfl
theorem tab_61 : tab.get 61 = some Tryd.f61 := by kernel_rfl
theorem tab_45 : tab.get 45 = some Tryd.f45 := by kernel_rfl
theorem tab_ok : TabOk Tryd.prog tab.get := by
  unfold tab
  repeat (first | exact TabOk.nil | refine TabOk.set ?_ (by kernel_rfl) (by decide +kernel))
end Go.B.YteigefgobkdmgaaDoor
