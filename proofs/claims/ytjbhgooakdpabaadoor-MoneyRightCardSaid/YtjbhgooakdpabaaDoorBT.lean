import Derived.Test.YtjbhgooakdpabaaDoorProg
import Derived.Test.YtjbhgooakdpabaaDoorBC
import Derived.WalkKit
/- Facts of the program's types and functions. -/
namespace Go.B.YtjbhgooakdpabaaDoor
open Go Go.B Go.Proofs
set_option linter.unusedVariables false
set_option linter.unusedSimpArgs false
theorem sz_2 : szOf Tryd.prog 2 = some 1 := by kernel_rfl
theorem by_2 : byOf Tryd.prog 2 = some 8 := by kernel_rfl
theorem ag_2 : aggOf Tryd.prog 2 = some false := by kernel_rfl
theorem ze_2 : zeroOf Tryd.prog 2 = (some (Value.int IntKind.i64 0)) := by kernel_rfl
theorem un_2 : Program.underlying Tryd.prog 2 = some (TypeDesc.int IntKind.i64) := by kernel_rfl
theorem if_2 : ifaceT Tryd.prog 2 = false := by kernel_rfl
theorem al_2 {e : Operand → Value} {H : Heap} {d : Option Tmp} {ty : TypeId} {pos : String} {af : Array Edge} {g : Option (Nat × Bool)} : aop Tryd.prog e ⟨d, .alloc 2, ty, pos, af, g⟩ H = some (.val (.pointer (some ⟨H.next, 0, none⟩)) (H.push (.cells [(Value.int IntKind.i64 0)] 2 false))) := by exact aop_alloc ze_2 rfl
theorem ad_2 {e : Operand → Value} {d : Option Tmp} {ty : TypeId} {pos : String} {af : Array Edge} {g : Option (Nat × Bool)} {j : Nat} : allocB Tryd.prog e ⟨d, .alloc 2, ty, pos, af, g⟩ j = some (.pointer (some ⟨j, 0, none⟩), .cells [(Value.int IntKind.i64 0)] 2 false) := by rw [allocB_alloc, ze_2, alZ_some]; rfl
theorem sz_3 : szOf Tryd.prog 3 = some 1 := by kernel_rfl
theorem by_3 : byOf Tryd.prog 3 = some 8 := by kernel_rfl
theorem ag_3 : aggOf Tryd.prog 3 = some false := by kernel_rfl
theorem ze_3 : zeroOf Tryd.prog 3 = (some (Value.int IntKind.i64 0)) := by kernel_rfl
theorem un_3 : Program.underlying Tryd.prog 3 = some (TypeDesc.int IntKind.i64) := by kernel_rfl
theorem if_3 : ifaceT Tryd.prog 3 = false := by kernel_rfl
theorem al_3 {e : Operand → Value} {H : Heap} {d : Option Tmp} {ty : TypeId} {pos : String} {af : Array Edge} {g : Option (Nat × Bool)} : aop Tryd.prog e ⟨d, .alloc 3, ty, pos, af, g⟩ H = some (.val (.pointer (some ⟨H.next, 0, none⟩)) (H.push (.cells [(Value.int IntKind.i64 0)] 3 false))) := by exact aop_alloc ze_3 rfl
theorem ad_3 {e : Operand → Value} {d : Option Tmp} {ty : TypeId} {pos : String} {af : Array Edge} {g : Option (Nat × Bool)} {j : Nat} : allocB Tryd.prog e ⟨d, .alloc 3, ty, pos, af, g⟩ j = some (.pointer (some ⟨j, 0, none⟩), .cells [(Value.int IntKind.i64 0)] 3 false) := by rw [allocB_alloc, ze_3, alZ_some]; rfl
theorem sz_4 : szOf Tryd.prog 4 = some 1 := by kernel_rfl
theorem by_4 : byOf Tryd.prog 4 = some 1 := by kernel_rfl
theorem ag_4 : aggOf Tryd.prog 4 = some false := by kernel_rfl
theorem ze_4 : zeroOf Tryd.prog 4 = (some (Value.bool false)) := by kernel_rfl
theorem un_4 : Program.underlying Tryd.prog 4 = some TypeDesc.bool := by kernel_rfl
theorem if_4 : ifaceT Tryd.prog 4 = false := by kernel_rfl
theorem al_4 {e : Operand → Value} {H : Heap} {d : Option Tmp} {ty : TypeId} {pos : String} {af : Array Edge} {g : Option (Nat × Bool)} : aop Tryd.prog e ⟨d, .alloc 4, ty, pos, af, g⟩ H = some (.val (.pointer (some ⟨H.next, 0, none⟩)) (H.push (.cells [(Value.bool false)] 4 false))) := by exact aop_alloc ze_4 rfl
theorem ad_4 {e : Operand → Value} {d : Option Tmp} {ty : TypeId} {pos : String} {af : Array Edge} {g : Option (Nat × Bool)} {j : Nat} : allocB Tryd.prog e ⟨d, .alloc 4, ty, pos, af, g⟩ j = some (.pointer (some ⟨j, 0, none⟩), .cells [(Value.bool false)] 4 false) := by rw [allocB_alloc, ze_4, alZ_some]; rfl
theorem sz_5 : szOf Tryd.prog 5 = some 1 := by kernel_rfl
theorem by_5 : byOf Tryd.prog 5 = some 1 := by kernel_rfl
theorem ag_5 : aggOf Tryd.prog 5 = some false := by kernel_rfl
theorem ze_5 : zeroOf Tryd.prog 5 = (some (Value.int IntKind.u8 0)) := by kernel_rfl
theorem un_5 : Program.underlying Tryd.prog 5 = some (TypeDesc.int IntKind.u8) := by kernel_rfl
theorem if_5 : ifaceT Tryd.prog 5 = false := by kernel_rfl
theorem al_5 {e : Operand → Value} {H : Heap} {d : Option Tmp} {ty : TypeId} {pos : String} {af : Array Edge} {g : Option (Nat × Bool)} : aop Tryd.prog e ⟨d, .alloc 5, ty, pos, af, g⟩ H = some (.val (.pointer (some ⟨H.next, 0, none⟩)) (H.push (.cells [(Value.int IntKind.u8 0)] 5 false))) := by exact aop_alloc ze_5 rfl
theorem ad_5 {e : Operand → Value} {d : Option Tmp} {ty : TypeId} {pos : String} {af : Array Edge} {g : Option (Nat × Bool)} {j : Nat} : allocB Tryd.prog e ⟨d, .alloc 5, ty, pos, af, g⟩ j = some (.pointer (some ⟨j, 0, none⟩), .cells [(Value.int IntKind.u8 0)] 5 false) := by rw [allocB_alloc, ze_5, alZ_some]; rfl
theorem sz_9 : szOf Tryd.prog 9 = some 1 := by kernel_rfl
theorem by_9 : byOf Tryd.prog 9 = some 16 := by kernel_rfl
theorem ag_9 : aggOf Tryd.prog 9 = some false := by kernel_rfl
theorem ze_9 : zeroOf Tryd.prog 9 = (some (Value.string { data := #[] })) := by kernel_rfl
theorem un_9 : Program.underlying Tryd.prog 9 = some TypeDesc.string := by kernel_rfl
theorem if_9 : ifaceT Tryd.prog 9 = false := by kernel_rfl
theorem al_9 {e : Operand → Value} {H : Heap} {d : Option Tmp} {ty : TypeId} {pos : String} {af : Array Edge} {g : Option (Nat × Bool)} : aop Tryd.prog e ⟨d, .alloc 9, ty, pos, af, g⟩ H = some (.val (.pointer (some ⟨H.next, 0, none⟩)) (H.push (.cells [(Value.string { data := #[] })] 9 false))) := by exact aop_alloc ze_9 rfl
theorem ad_9 {e : Operand → Value} {d : Option Tmp} {ty : TypeId} {pos : String} {af : Array Edge} {g : Option (Nat × Bool)} {j : Nat} : allocB Tryd.prog e ⟨d, .alloc 9, ty, pos, af, g⟩ j = some (.pointer (some ⟨j, 0, none⟩), .cells [(Value.string { data := #[] })] 9 false) := by rw [allocB_alloc, ze_9, alZ_some]; rfl
theorem ix_9 {s : ByteArray} {k : IntKind} {i : Int} : indexB Tryd.prog 9 (.string s) (.int k i) = if 0 ≤ i then (s[i.toNat]?).map fun b => .int .u8 b.toNat else none := by exact index_string un_9
theorem ln_9 {H : Heap} {s : ByteArray} : lenIn Tryd.prog H 9 (.string s) = some (s.size : Int) := by exact lenIn_string un_9
theorem sl_9 {s : ByteArray} {lo hi : Option Value} : strSliceB Tryd.prog 9 s lo hi none = strW s (boundB lo 0) (boundB hi s.size) := by exact strSliceB_eq un_9
theorem ab_9 {H : Heap} {t : TypeId} {s x : Value} : builtinB Tryd.prog H .append #[t, 9] [s, x] = appendB Tryd.prog H t s x := by exact builtinB_append (by kernel_rfl)
theorem sz_23 : szOf Tryd.prog 23 = some 1 := by kernel_rfl
theorem by_23 : byOf Tryd.prog 23 = some 24 := by kernel_rfl
theorem ag_23 : aggOf Tryd.prog 23 = some false := by kernel_rfl
theorem ze_23 : zeroOf Tryd.prog 23 = (some (Value.slice none 0 0)) := by kernel_rfl
theorem un_23 : Program.underlying Tryd.prog 23 = some (TypeDesc.slice 2) := by kernel_rfl
theorem if_23 : ifaceT Tryd.prog 23 = false := by kernel_rfl
theorem al_23 {e : Operand → Value} {H : Heap} {d : Option Tmp} {ty : TypeId} {pos : String} {af : Array Edge} {g : Option (Nat × Bool)} : aop Tryd.prog e ⟨d, .alloc 23, ty, pos, af, g⟩ H = some (.val (.pointer (some ⟨H.next, 0, none⟩)) (H.push (.cells [(Value.slice none 0 0)] 23 false))) := by exact aop_alloc ze_23 rfl
theorem ad_23 {e : Operand → Value} {d : Option Tmp} {ty : TypeId} {pos : String} {af : Array Edge} {g : Option (Nat × Bool)} {j : Nat} : allocB Tryd.prog e ⟨d, .alloc 23, ty, pos, af, g⟩ j = some (.pointer (some ⟨j, 0, none⟩), .cells [(Value.slice none 0 0)] 23 false) := by rw [allocB_alloc, ze_23, alZ_some]; rfl
theorem ia_23 {b o len cap : Nat} {k : IntKind} {i : Int} : indexAddrB Tryd.prog 23 (.slice (some ⟨b, o, none⟩) len cap) (.int k i) = if 0 ≤ i ∧ i < len then (szOf Tryd.prog 2).map fun n => .pointer (some ⟨b, o + i.toNat * n, none⟩) else none := by exact indexAddr_slice un_23
theorem ln_23 {H : Heap} {a : Option Addr} {n c : Nat} : lenIn Tryd.prog H 23 (.slice a n c) = some (n : Int) := by exact lenIn_slice un_23
theorem bs_23 {j len : Nat} {ps : List (Nat × Value)} : buildSliceB Tryd.prog j 23 len ps = if len * 1 ≤ 16777216 then (fillL (fun i => some (i * 1, 1)) (zrep len [(Value.int IntKind.i64 0)]) ps).map fun cs => (.slice (some ⟨j, 0, none⟩) len len, .cells cs 2 false) else none := by 
  rw [buildSliceB_eq un_23, sz_2, ze_2, bslV_some]
  by_cases h : len * 1 ≤ 16777216
  · rw [if_pos h, if_pos ⟨rfl, h, rfl⟩]; rfl
  · rw [if_neg h, if_neg (fun z => h z.2.1)]
theorem sl_23 {H : Heap} {i o len cap : Nat} {lo hi : Option Value} : sliceB Tryd.prog H 23 (.slice (some ⟨i, o, none⟩) len cap) lo hi none = cutW Tryd.prog 1 i o len cap (H.get i) (boundB lo 0) (boundB hi len) := by exact sliceB_eq un_23 sz_2
theorem ap_23 {H : Heap} {base : Option Addr} {x : Value} {l c : Nat} : appendB Tryd.prog H 23 (.slice base l c) x = apV H base l c 2 (firstB H 1 l (.slice base l c)) (lenB x) (firstO H 1 x (lenB x)) := by exact appendB_eq un_23 sz_2 by_2 ze_2 (by decide) rfl
theorem ab_23 {H : Heap} {t : TypeId} {s x : Value} : builtinB Tryd.prog H .append #[t, 23] [s, x] = appendB Tryd.prog H t s x := by exact builtinB_append (by kernel_rfl)
theorem sz_31 : szOf Tryd.prog 31 = some 1 := by kernel_rfl
theorem by_31 : byOf Tryd.prog 31 = some 24 := by kernel_rfl
theorem ag_31 : aggOf Tryd.prog 31 = some false := by kernel_rfl
theorem ze_31 : zeroOf Tryd.prog 31 = (some (Value.slice none 0 0)) := by kernel_rfl
theorem un_31 : Program.underlying Tryd.prog 31 = some (TypeDesc.slice 9) := by kernel_rfl
theorem if_31 : ifaceT Tryd.prog 31 = false := by kernel_rfl
theorem al_31 {e : Operand → Value} {H : Heap} {d : Option Tmp} {ty : TypeId} {pos : String} {af : Array Edge} {g : Option (Nat × Bool)} : aop Tryd.prog e ⟨d, .alloc 31, ty, pos, af, g⟩ H = some (.val (.pointer (some ⟨H.next, 0, none⟩)) (H.push (.cells [(Value.slice none 0 0)] 31 false))) := by exact aop_alloc ze_31 rfl
theorem ad_31 {e : Operand → Value} {d : Option Tmp} {ty : TypeId} {pos : String} {af : Array Edge} {g : Option (Nat × Bool)} {j : Nat} : allocB Tryd.prog e ⟨d, .alloc 31, ty, pos, af, g⟩ j = some (.pointer (some ⟨j, 0, none⟩), .cells [(Value.slice none 0 0)] 31 false) := by rw [allocB_alloc, ze_31, alZ_some]; rfl
theorem ia_31 {b o len cap : Nat} {k : IntKind} {i : Int} : indexAddrB Tryd.prog 31 (.slice (some ⟨b, o, none⟩) len cap) (.int k i) = if 0 ≤ i ∧ i < len then (szOf Tryd.prog 9).map fun n => .pointer (some ⟨b, o + i.toNat * n, none⟩) else none := by exact indexAddr_slice un_31
theorem ln_31 {H : Heap} {a : Option Addr} {n c : Nat} : lenIn Tryd.prog H 31 (.slice a n c) = some (n : Int) := by exact lenIn_slice un_31
theorem bs_31 {j len : Nat} {ps : List (Nat × Value)} : buildSliceB Tryd.prog j 31 len ps = if len * 1 ≤ 16777216 then (fillL (fun i => some (i * 1, 1)) (zrep len [(Value.string { data := #[] })]) ps).map fun cs => (.slice (some ⟨j, 0, none⟩) len len, .cells cs 9 false) else none := by 
  rw [buildSliceB_eq un_31, sz_9, ze_9, bslV_some]
  by_cases h : len * 1 ≤ 16777216
  · rw [if_pos h, if_pos ⟨rfl, h, rfl⟩]; rfl
  · rw [if_neg h, if_neg (fun z => h z.2.1)]
theorem sl_31 {H : Heap} {i o len cap : Nat} {lo hi : Option Value} : sliceB Tryd.prog H 31 (.slice (some ⟨i, o, none⟩) len cap) lo hi none = cutW Tryd.prog 1 i o len cap (H.get i) (boundB lo 0) (boundB hi len) := by exact sliceB_eq un_31 sz_9
theorem ap_31 {H : Heap} {base : Option Addr} {x : Value} {l c : Nat} : appendB Tryd.prog H 31 (.slice base l c) x = apV H base l c 9 (firstB H 1 l (.slice base l c)) (lenB x) (firstO H 1 x (lenB x)) := by exact appendB_eq un_31 sz_9 by_9 ze_9 (by decide) rfl
theorem ab_31 {H : Heap} {t : TypeId} {s x : Value} : builtinB Tryd.prog H .append #[t, 31] [s, x] = appendB Tryd.prog H t s x := by exact builtinB_append (by kernel_rfl)
theorem sz_38 : szOf Tryd.prog 38 = some 4 := by kernel_rfl
theorem by_38 : byOf Tryd.prog 38 = some 32 := by kernel_rfl
theorem ag_38 : aggOf Tryd.prog 38 = some true := by kernel_rfl
theorem ze_38 : zeroOf Tryd.prog 38 = (some (Value.agg #[(Value.int IntKind.i64 0), (Value.int IntKind.i64 0), (Value.int IntKind.i64 0), (Value.int IntKind.i64 0)])) := by kernel_rfl
theorem un_38 : Program.underlying Tryd.prog 38 = some (TypeDesc.struct #[{ name := "Denom", type := 2, offset := 0, embedded := false, tag := "", pkgPath := "", byteOffset := 0 }, { name := "Loaded", type := 3, offset := 1, embedded := false, tag := "", pkgPath := "", byteOffset := 8 }, { name := "Given", type := 3, offset := 2, embedded := false, tag := "", pkgPath := "", byteOffset := 16 }, { name := "Rejected", type := 3, offset := 3, embedded := false, tag := "", pkgPath := "", byteOffset := 24 }]) := by kernel_rfl
theorem if_38 : ifaceT Tryd.prog 38 = false := by kernel_rfl
theorem al_38 {e : Operand → Value} {H : Heap} {d : Option Tmp} {ty : TypeId} {pos : String} {af : Array Edge} {g : Option (Nat × Bool)} : aop Tryd.prog e ⟨d, .alloc 38, ty, pos, af, g⟩ H = some (.val (.pointer (some ⟨H.next, 0, none⟩)) (H.push (.cells [(Value.int IntKind.i64 0), (Value.int IntKind.i64 0), (Value.int IntKind.i64 0), (Value.int IntKind.i64 0)] 38 false))) := by exact aop_alloc ze_38 rfl
theorem ad_38 {e : Operand → Value} {d : Option Tmp} {ty : TypeId} {pos : String} {af : Array Edge} {g : Option (Nat × Bool)} {j : Nat} : allocB Tryd.prog e ⟨d, .alloc 38, ty, pos, af, g⟩ j = some (.pointer (some ⟨j, 0, none⟩), .cells [(Value.int IntKind.i64 0), (Value.int IntKind.i64 0), (Value.int IntKind.i64 0), (Value.int IntKind.i64 0)] 38 false) := by rw [allocB_alloc, ze_38, alZ_some]; rfl
theorem fa_38_0 : fieldAt Tryd.prog 38 0 = some (2, 0, 1) := by kernel_rfl
theorem fa_38_1 : fieldAt Tryd.prog 38 1 = some (3, 1, 1) := by kernel_rfl
theorem fa_38_2 : fieldAt Tryd.prog 38 2 = some (3, 2, 1) := by kernel_rfl
theorem fa_38_3 : fieldAt Tryd.prog 38 3 = some (3, 3, 1) := by kernel_rfl
theorem pl_38 : placesB Tryd.prog 38 = some (fun i => ([(0, 1), (1, 1), (2, 1), (3, 1)] : List (Nat × Nat)).toArray[i]?) := by kernel_rfl
theorem st_38 : Program.stoodInHeld Tryd.prog 38 = false := by kernel_rfl
theorem eq_38 {d : Nat} {a0 b0 : Int} {a1 b1 : Int} {a2 b2 : Int} {a3 b3 : Int} : runP Tryd.prog (Op.equalIn (d + 2) 38 (.agg #[.int .i64 a0, .int .i64 a1, .int .i64 a2, .int .i64 a3]) (.agg #[.int .i64 b0, .int .i64 b1, .int .i64 b2, .int .i64 b3])) = some ((a0 == b0) && ((a1 == b1) && ((a2 == b2) && ((a3 == b3) && true)))) := by
  refine eqStruct (d := d + 1) un_38 st_38 ?_
  simp only [List.range'_succ, List.range'_zero, List.map_cons, List.map_nil, fldEq, eltEq, partB_eq, partV_agg, partV_one, ag_2, sz_2, ag_3, sz_3, List.size_toArray, List.length_cons, List.length_nil, Nat.reduceAdd, Nat.reduceLeDiff, Nat.reduceMul, Nat.zero_mul, Nat.zero_add, Nat.add_zero, if_true, List.drop_succ_cons, List.drop_zero, List.take_succ_cons, List.take_zero, List.getElem?_toArray, List.getElem?_cons_zero, List.getElem?_cons_succ, Option.bind_some, ne_eq, String.reduceEq, not_false_eq_true, allO_cons, allO_nil, lazyAnd_some, eqInt (d := d) un_2, eqInt (d := d) un_3]
theorem gt_38 : Program.eqGuardType Tryd.prog (Program.depth Tryd.prog) 38 = false := by kernel_rfl
theorem be_38 {a0 b0 : Int} {a1 b1 : Int} {a2 b2 : Int} {a3 b3 : Int} {H : Heap} {x y : Operand} : binV Tryd.prog H .eql 38 x y (.agg #[.int .i64 a0, .int .i64 a1, .int .i64 a2, .int .i64 a3]) (.agg #[.int .i64 b0, .int .i64 b1, .int .i64 b2, .int .i64 b3]) = some (.val (.bool ((a0 == b0) && ((a1 == b1) && ((a2 == b2) && ((a3 == b3) && true))))) H) := by exact binV_aggeq nilEq_agg (by simp [isScalA, isScal]) gt_38 (eq_38 (d := 9998))
theorem bn_38 {a0 b0 : Int} {a1 b1 : Int} {a2 b2 : Int} {a3 b3 : Int} {H : Heap} {x y : Operand} : binV Tryd.prog H .neq 38 x y (.agg #[.int .i64 a0, .int .i64 a1, .int .i64 a2, .int .i64 a3]) (.agg #[.int .i64 b0, .int .i64 b1, .int .i64 b2, .int .i64 b3]) = some (.val (.bool (!((a0 == b0) && ((a1 == b1) && ((a2 == b2) && ((a3 == b3) && true)))))) H) := by exact binV_aggne nilEq_agg (by simp [isScalA, isScal]) gt_38 (eq_38 (d := 9998))
theorem sz_39 : szOf Tryd.prog 39 = some 16 := by kernel_rfl
theorem by_39 : byOf Tryd.prog 39 = some 128 := by kernel_rfl
theorem ag_39 : aggOf Tryd.prog 39 = some true := by kernel_rfl
theorem ze_39 : zeroOf Tryd.prog 39 = (some (Value.agg #[(Value.int IntKind.i64 0), (Value.int IntKind.i64 0), (Value.int IntKind.i64 0), (Value.int IntKind.i64 0), (Value.int IntKind.i64 0), (Value.int IntKind.i64 0), (Value.int IntKind.i64 0), (Value.int IntKind.i64 0), (Value.int IntKind.i64 0), (Value.int IntKind.i64 0), (Value.int IntKind.i64 0), (Value.int IntKind.i64 0), (Value.int IntKind.i64 0), (Value.int IntKind.i64 0), (Value.int IntKind.i64 0), (Value.int IntKind.i64 0)])) := by kernel_rfl
theorem un_39 : Program.underlying Tryd.prog 39 = some (TypeDesc.array 4 38) := by kernel_rfl
theorem if_39 : ifaceT Tryd.prog 39 = false := by kernel_rfl
theorem al_39 {e : Operand → Value} {H : Heap} {d : Option Tmp} {ty : TypeId} {pos : String} {af : Array Edge} {g : Option (Nat × Bool)} : aop Tryd.prog e ⟨d, .alloc 39, ty, pos, af, g⟩ H = some (.val (.pointer (some ⟨H.next, 0, none⟩)) (H.push (.cells [(Value.int IntKind.i64 0), (Value.int IntKind.i64 0), (Value.int IntKind.i64 0), (Value.int IntKind.i64 0), (Value.int IntKind.i64 0), (Value.int IntKind.i64 0), (Value.int IntKind.i64 0), (Value.int IntKind.i64 0), (Value.int IntKind.i64 0), (Value.int IntKind.i64 0), (Value.int IntKind.i64 0), (Value.int IntKind.i64 0), (Value.int IntKind.i64 0), (Value.int IntKind.i64 0), (Value.int IntKind.i64 0), (Value.int IntKind.i64 0)] 39 false))) := by exact aop_alloc ze_39 rfl
theorem ad_39 {e : Operand → Value} {d : Option Tmp} {ty : TypeId} {pos : String} {af : Array Edge} {g : Option (Nat × Bool)} {j : Nat} : allocB Tryd.prog e ⟨d, .alloc 39, ty, pos, af, g⟩ j = some (.pointer (some ⟨j, 0, none⟩), .cells [(Value.int IntKind.i64 0), (Value.int IntKind.i64 0), (Value.int IntKind.i64 0), (Value.int IntKind.i64 0), (Value.int IntKind.i64 0), (Value.int IntKind.i64 0), (Value.int IntKind.i64 0), (Value.int IntKind.i64 0), (Value.int IntKind.i64 0), (Value.int IntKind.i64 0), (Value.int IntKind.i64 0), (Value.int IntKind.i64 0), (Value.int IntKind.i64 0), (Value.int IntKind.i64 0), (Value.int IntKind.i64 0), (Value.int IntKind.i64 0)] 39 false) := by rw [allocB_alloc, ze_39, alZ_some]; rfl
theorem pl_39 : placesB Tryd.prog 39 = some (fun i => some (i * 4, 4)) := by kernel_rfl
theorem ia_39 {b o : Nat} {k : IntKind} {i : Int} : indexAddrB Tryd.prog 39 (.pointer (some ⟨b, o, none⟩)) (.int k i) = if 0 ≤ i ∧ i < 4 then (szOf Tryd.prog 38).map fun n => .pointer (some ⟨b, o + i.toNat * n, none⟩) else none := by exact indexAddr_array un_39
theorem ix_39 {cs : Array Value} {k : IntKind} {i : Int} : indexB Tryd.prog 39 (.agg cs) (.int k i) = if 0 ≤ i ∧ i < 4 then (szOf Tryd.prog 38).bind fun n => partB Tryd.prog 38 cs (i.toNat * n) else none := by exact index_array un_39
theorem ln_39 {H : Heap} {x : Value} : lenIn Tryd.prog H 39 x = some 4 := by exact lenIn_array un_39
theorem eq_39 {d : Nat} {a0 b0 : Int} {a1 b1 : Int} {a2 b2 : Int} {a3 b3 : Int} {a4 b4 : Int} {a5 b5 : Int} {a6 b6 : Int} {a7 b7 : Int} {a8 b8 : Int} {a9 b9 : Int} {a10 b10 : Int} {a11 b11 : Int} {a12 b12 : Int} {a13 b13 : Int} {a14 b14 : Int} {a15 b15 : Int} : runP Tryd.prog (Op.equalIn (d + 3) 39 (.agg #[.int .i64 a0, .int .i64 a1, .int .i64 a2, .int .i64 a3, .int .i64 a4, .int .i64 a5, .int .i64 a6, .int .i64 a7, .int .i64 a8, .int .i64 a9, .int .i64 a10, .int .i64 a11, .int .i64 a12, .int .i64 a13, .int .i64 a14, .int .i64 a15]) (.agg #[.int .i64 b0, .int .i64 b1, .int .i64 b2, .int .i64 b3, .int .i64 b4, .int .i64 b5, .int .i64 b6, .int .i64 b7, .int .i64 b8, .int .i64 b9, .int .i64 b10, .int .i64 b11, .int .i64 b12, .int .i64 b13, .int .i64 b14, .int .i64 b15])) = some (((a0 == b0) && ((a1 == b1) && ((a2 == b2) && ((a3 == b3) && true)))) && (((a4 == b4) && ((a5 == b5) && ((a6 == b6) && ((a7 == b7) && true)))) && (((a8 == b8) && ((a9 == b9) && ((a10 == b10) && ((a11 == b11) && true)))) && (((a12 == b12) && ((a13 == b13) && ((a14 == b14) && ((a15 == b15) && true)))) && true)))) := by
  refine eqArray (d := d + 2) un_39 sz_38 ?_
  simp only [List.range'_succ, List.range'_zero, List.map_cons, List.map_nil, fldEq, eltEq, partB_eq, partV_agg, partV_one, ag_38, sz_38, List.size_toArray, List.length_cons, List.length_nil, Nat.reduceAdd, Nat.reduceLeDiff, Nat.reduceMul, Nat.zero_mul, Nat.zero_add, Nat.add_zero, if_true, List.drop_succ_cons, List.drop_zero, List.take_succ_cons, List.take_zero, List.getElem?_toArray, List.getElem?_cons_zero, List.getElem?_cons_succ, Option.bind_some, ne_eq, String.reduceEq, not_false_eq_true, allO_cons, allO_nil, lazyAnd_some, eq_38 (d := d)]
theorem gt_39 : Program.eqGuardType Tryd.prog (Program.depth Tryd.prog) 39 = false := by kernel_rfl
theorem be_39 {a0 b0 : Int} {a1 b1 : Int} {a2 b2 : Int} {a3 b3 : Int} {a4 b4 : Int} {a5 b5 : Int} {a6 b6 : Int} {a7 b7 : Int} {a8 b8 : Int} {a9 b9 : Int} {a10 b10 : Int} {a11 b11 : Int} {a12 b12 : Int} {a13 b13 : Int} {a14 b14 : Int} {a15 b15 : Int} {H : Heap} {x y : Operand} : binV Tryd.prog H .eql 39 x y (.agg #[.int .i64 a0, .int .i64 a1, .int .i64 a2, .int .i64 a3, .int .i64 a4, .int .i64 a5, .int .i64 a6, .int .i64 a7, .int .i64 a8, .int .i64 a9, .int .i64 a10, .int .i64 a11, .int .i64 a12, .int .i64 a13, .int .i64 a14, .int .i64 a15]) (.agg #[.int .i64 b0, .int .i64 b1, .int .i64 b2, .int .i64 b3, .int .i64 b4, .int .i64 b5, .int .i64 b6, .int .i64 b7, .int .i64 b8, .int .i64 b9, .int .i64 b10, .int .i64 b11, .int .i64 b12, .int .i64 b13, .int .i64 b14, .int .i64 b15]) = some (.val (.bool (((a0 == b0) && ((a1 == b1) && ((a2 == b2) && ((a3 == b3) && true)))) && (((a4 == b4) && ((a5 == b5) && ((a6 == b6) && ((a7 == b7) && true)))) && (((a8 == b8) && ((a9 == b9) && ((a10 == b10) && ((a11 == b11) && true)))) && (((a12 == b12) && ((a13 == b13) && ((a14 == b14) && ((a15 == b15) && true)))) && true))))) H) := by exact binV_aggeq nilEq_agg (by simp [isScalA, isScal]) gt_39 (eq_39 (d := 9997))
theorem bn_39 {a0 b0 : Int} {a1 b1 : Int} {a2 b2 : Int} {a3 b3 : Int} {a4 b4 : Int} {a5 b5 : Int} {a6 b6 : Int} {a7 b7 : Int} {a8 b8 : Int} {a9 b9 : Int} {a10 b10 : Int} {a11 b11 : Int} {a12 b12 : Int} {a13 b13 : Int} {a14 b14 : Int} {a15 b15 : Int} {H : Heap} {x y : Operand} : binV Tryd.prog H .neq 39 x y (.agg #[.int .i64 a0, .int .i64 a1, .int .i64 a2, .int .i64 a3, .int .i64 a4, .int .i64 a5, .int .i64 a6, .int .i64 a7, .int .i64 a8, .int .i64 a9, .int .i64 a10, .int .i64 a11, .int .i64 a12, .int .i64 a13, .int .i64 a14, .int .i64 a15]) (.agg #[.int .i64 b0, .int .i64 b1, .int .i64 b2, .int .i64 b3, .int .i64 b4, .int .i64 b5, .int .i64 b6, .int .i64 b7, .int .i64 b8, .int .i64 b9, .int .i64 b10, .int .i64 b11, .int .i64 b12, .int .i64 b13, .int .i64 b14, .int .i64 b15]) = some (.val (.bool (!(((a0 == b0) && ((a1 == b1) && ((a2 == b2) && ((a3 == b3) && true)))) && (((a4 == b4) && ((a5 == b5) && ((a6 == b6) && ((a7 == b7) && true)))) && (((a8 == b8) && ((a9 == b9) && ((a10 == b10) && ((a11 == b11) && true)))) && (((a12 == b12) && ((a13 == b13) && ((a14 == b14) && ((a15 == b15) && true)))) && true)))))) H) := by exact binV_aggne nilEq_agg (by simp [isScalA, isScal]) gt_39 (eq_39 (d := 9997))
theorem sz_33 : szOf Tryd.prog 33 = some 1 := by kernel_rfl
theorem by_33 : byOf Tryd.prog 33 = some 24 := by kernel_rfl
theorem ag_33 : aggOf Tryd.prog 33 = some false := by kernel_rfl
theorem ze_33 : zeroOf Tryd.prog 33 = (some (Value.slice none 0 0)) := by kernel_rfl
theorem un_33 : Program.underlying Tryd.prog 33 = some (TypeDesc.slice 39) := by kernel_rfl
theorem if_33 : ifaceT Tryd.prog 33 = false := by kernel_rfl
theorem al_33 {e : Operand → Value} {H : Heap} {d : Option Tmp} {ty : TypeId} {pos : String} {af : Array Edge} {g : Option (Nat × Bool)} : aop Tryd.prog e ⟨d, .alloc 33, ty, pos, af, g⟩ H = some (.val (.pointer (some ⟨H.next, 0, none⟩)) (H.push (.cells [(Value.slice none 0 0)] 33 false))) := by exact aop_alloc ze_33 rfl
theorem ad_33 {e : Operand → Value} {d : Option Tmp} {ty : TypeId} {pos : String} {af : Array Edge} {g : Option (Nat × Bool)} {j : Nat} : allocB Tryd.prog e ⟨d, .alloc 33, ty, pos, af, g⟩ j = some (.pointer (some ⟨j, 0, none⟩), .cells [(Value.slice none 0 0)] 33 false) := by rw [allocB_alloc, ze_33, alZ_some]; rfl
theorem ia_33 {b o len cap : Nat} {k : IntKind} {i : Int} : indexAddrB Tryd.prog 33 (.slice (some ⟨b, o, none⟩) len cap) (.int k i) = if 0 ≤ i ∧ i < len then (szOf Tryd.prog 39).map fun n => .pointer (some ⟨b, o + i.toNat * n, none⟩) else none := by exact indexAddr_slice un_33
theorem ln_33 {H : Heap} {a : Option Addr} {n c : Nat} : lenIn Tryd.prog H 33 (.slice a n c) = some (n : Int) := by exact lenIn_slice un_33
theorem bs_33 {j len : Nat} {ps : List (Nat × Value)} : buildSliceB Tryd.prog j 33 len ps = if len * 16 ≤ 16777216 then (fillL (fun i => some (i * 16, 16)) (zrep len [(Value.int IntKind.i64 0), (Value.int IntKind.i64 0), (Value.int IntKind.i64 0), (Value.int IntKind.i64 0), (Value.int IntKind.i64 0), (Value.int IntKind.i64 0), (Value.int IntKind.i64 0), (Value.int IntKind.i64 0), (Value.int IntKind.i64 0), (Value.int IntKind.i64 0), (Value.int IntKind.i64 0), (Value.int IntKind.i64 0), (Value.int IntKind.i64 0), (Value.int IntKind.i64 0), (Value.int IntKind.i64 0), (Value.int IntKind.i64 0)]) ps).map fun cs => (.slice (some ⟨j, 0, none⟩) len len, .cells cs 39 false) else none := by 
  rw [buildSliceB_eq un_33, sz_39, ze_39, bslV_some]
  by_cases h : len * 16 ≤ 16777216
  · rw [if_pos h, if_pos ⟨rfl, h, rfl⟩]; rfl
  · rw [if_neg h, if_neg (fun z => h z.2.1)]
theorem sl_33 {H : Heap} {i o len cap : Nat} {lo hi : Option Value} : sliceB Tryd.prog H 33 (.slice (some ⟨i, o, none⟩) len cap) lo hi none = cutW Tryd.prog 16 i o len cap (H.get i) (boundB lo 0) (boundB hi len) := by exact sliceB_eq un_33 sz_39
theorem ap_33 {H : Heap} {base : Option Addr} {x : Value} {l c : Nat} : appendB Tryd.prog H 33 (.slice base l c) x = apV H base l c 39 (firstB H 16 l (.slice base l c)) (lenB x) (firstO H 16 x (lenB x)) := by exact appendB_eq un_33 sz_39 by_39 ze_39 (by decide) rfl
theorem ab_33 {H : Heap} {t : TypeId} {s x : Value} : builtinB Tryd.prog H .append #[t, 33] [s, x] = appendB Tryd.prog H t s x := by exact builtinB_append (by kernel_rfl)
theorem sz_35 : szOf Tryd.prog 35 = some 5 := by kernel_rfl
theorem by_35 : byOf Tryd.prog 35 = some 88 := by kernel_rfl
theorem ag_35 : aggOf Tryd.prog 35 = some true := by kernel_rfl
theorem ze_35 : zeroOf Tryd.prog 35 = (some (Value.agg #[(Value.slice none 0 0), (Value.slice none 0 0), (Value.slice none 0 0), (Value.int IntKind.i64 0), (Value.int IntKind.i64 0)])) := by kernel_rfl
theorem un_35 : Program.underlying Tryd.prog 35 = some (TypeDesc.struct #[{ name := "Terms", type := 33, offset := 0, embedded := false, tag := "", pkgPath := "", byteOffset := 0 }, { name := "Pans", type := 31, offset := 1, embedded := false, tag := "", pkgPath := "", byteOffset := 24 }, { name := "Funds", type := 23, offset := 2, embedded := false, tag := "", pkgPath := "", byteOffset := 48 }, { name := "Least", type := 2, offset := 3, embedded := false, tag := "", pkgPath := "", byteOffset := 72 }, { name := "Most", type := 2, offset := 4, embedded := false, tag := "", pkgPath := "", byteOffset := 80 }]) := by kernel_rfl
theorem if_35 : ifaceT Tryd.prog 35 = false := by kernel_rfl
theorem al_35 {e : Operand → Value} {H : Heap} {d : Option Tmp} {ty : TypeId} {pos : String} {af : Array Edge} {g : Option (Nat × Bool)} : aop Tryd.prog e ⟨d, .alloc 35, ty, pos, af, g⟩ H = some (.val (.pointer (some ⟨H.next, 0, none⟩)) (H.push (.cells [(Value.slice none 0 0), (Value.slice none 0 0), (Value.slice none 0 0), (Value.int IntKind.i64 0), (Value.int IntKind.i64 0)] 35 false))) := by exact aop_alloc ze_35 rfl
theorem ad_35 {e : Operand → Value} {d : Option Tmp} {ty : TypeId} {pos : String} {af : Array Edge} {g : Option (Nat × Bool)} {j : Nat} : allocB Tryd.prog e ⟨d, .alloc 35, ty, pos, af, g⟩ j = some (.pointer (some ⟨j, 0, none⟩), .cells [(Value.slice none 0 0), (Value.slice none 0 0), (Value.slice none 0 0), (Value.int IntKind.i64 0), (Value.int IntKind.i64 0)] 35 false) := by rw [allocB_alloc, ze_35, alZ_some]; rfl
theorem fa_35_0 : fieldAt Tryd.prog 35 0 = some (33, 0, 1) := by kernel_rfl
theorem fa_35_1 : fieldAt Tryd.prog 35 1 = some (31, 1, 1) := by kernel_rfl
theorem fa_35_2 : fieldAt Tryd.prog 35 2 = some (23, 2, 1) := by kernel_rfl
theorem fa_35_3 : fieldAt Tryd.prog 35 3 = some (2, 3, 1) := by kernel_rfl
theorem fa_35_4 : fieldAt Tryd.prog 35 4 = some (2, 4, 1) := by kernel_rfl
theorem pl_35 : placesB Tryd.prog 35 = some (fun i => ([(0, 1), (1, 1), (2, 1), (3, 1), (4, 1)] : List (Nat × Nat)).toArray[i]?) := by kernel_rfl
theorem sz_40 : szOf Tryd.prog 40 = some 1 := by kernel_rfl
theorem by_40 : byOf Tryd.prog 40 = some 24 := by kernel_rfl
theorem ag_40 : aggOf Tryd.prog 40 = some false := by kernel_rfl
theorem ze_40 : zeroOf Tryd.prog 40 = (some (Value.slice none 0 0)) := by kernel_rfl
theorem un_40 : Program.underlying Tryd.prog 40 = some (TypeDesc.slice 35) := by kernel_rfl
theorem if_40 : ifaceT Tryd.prog 40 = false := by kernel_rfl
theorem al_40 {e : Operand → Value} {H : Heap} {d : Option Tmp} {ty : TypeId} {pos : String} {af : Array Edge} {g : Option (Nat × Bool)} : aop Tryd.prog e ⟨d, .alloc 40, ty, pos, af, g⟩ H = some (.val (.pointer (some ⟨H.next, 0, none⟩)) (H.push (.cells [(Value.slice none 0 0)] 40 false))) := by exact aop_alloc ze_40 rfl
theorem ad_40 {e : Operand → Value} {d : Option Tmp} {ty : TypeId} {pos : String} {af : Array Edge} {g : Option (Nat × Bool)} {j : Nat} : allocB Tryd.prog e ⟨d, .alloc 40, ty, pos, af, g⟩ j = some (.pointer (some ⟨j, 0, none⟩), .cells [(Value.slice none 0 0)] 40 false) := by rw [allocB_alloc, ze_40, alZ_some]; rfl
theorem ia_40 {b o len cap : Nat} {k : IntKind} {i : Int} : indexAddrB Tryd.prog 40 (.slice (some ⟨b, o, none⟩) len cap) (.int k i) = if 0 ≤ i ∧ i < len then (szOf Tryd.prog 35).map fun n => .pointer (some ⟨b, o + i.toNat * n, none⟩) else none := by exact indexAddr_slice un_40
theorem ln_40 {H : Heap} {a : Option Addr} {n c : Nat} : lenIn Tryd.prog H 40 (.slice a n c) = some (n : Int) := by exact lenIn_slice un_40
theorem bs_40 {j len : Nat} {ps : List (Nat × Value)} : buildSliceB Tryd.prog j 40 len ps = if len * 5 ≤ 16777216 then (fillL (fun i => some (i * 5, 5)) (zrep len [(Value.slice none 0 0), (Value.slice none 0 0), (Value.slice none 0 0), (Value.int IntKind.i64 0), (Value.int IntKind.i64 0)]) ps).map fun cs => (.slice (some ⟨j, 0, none⟩) len len, .cells cs 35 false) else none := by 
  rw [buildSliceB_eq un_40, sz_35, ze_35, bslV_some]
  by_cases h : len * 5 ≤ 16777216
  · rw [if_pos h, if_pos ⟨rfl, h, rfl⟩]; rfl
  · rw [if_neg h, if_neg (fun z => h z.2.1)]
theorem sl_40 {H : Heap} {i o len cap : Nat} {lo hi : Option Value} : sliceB Tryd.prog H 40 (.slice (some ⟨i, o, none⟩) len cap) lo hi none = cutW Tryd.prog 5 i o len cap (H.get i) (boundB lo 0) (boundB hi len) := by exact sliceB_eq un_40 sz_35
theorem ap_40 {H : Heap} {base : Option Addr} {x : Value} {l c : Nat} : appendB Tryd.prog H 40 (.slice base l c) x = apV H base l c 35 (firstB H 5 l (.slice base l c)) (lenB x) (firstO H 5 x (lenB x)) := by exact appendB_eq un_40 sz_35 by_35 ze_35 (by decide) rfl
theorem ab_40 {H : Heap} {t : TypeId} {s x : Value} : builtinB Tryd.prog H .append #[t, 40] [s, x] = appendB Tryd.prog H t s x := by exact builtinB_append (by kernel_rfl)
theorem sz_58 : szOf Tryd.prog 58 = some 1 := by kernel_rfl
theorem by_58 : byOf Tryd.prog 58 = some 8 := by kernel_rfl
theorem ag_58 : aggOf Tryd.prog 58 = some false := by kernel_rfl
theorem ze_58 : zeroOf Tryd.prog 58 = (some (Value.map none)) := by kernel_rfl
theorem un_58 : Program.underlying Tryd.prog 58 = some (TypeDesc.map 9 4) := by kernel_rfl
theorem if_58 : ifaceT Tryd.prog 58 = false := by kernel_rfl
theorem al_58 {e : Operand → Value} {H : Heap} {d : Option Tmp} {ty : TypeId} {pos : String} {af : Array Edge} {g : Option (Nat × Bool)} : aop Tryd.prog e ⟨d, .alloc 58, ty, pos, af, g⟩ H = some (.val (.pointer (some ⟨H.next, 0, none⟩)) (H.push (.cells [(Value.map none)] 58 false))) := by exact aop_alloc ze_58 rfl
theorem ad_58 {e : Operand → Value} {d : Option Tmp} {ty : TypeId} {pos : String} {af : Array Edge} {g : Option (Nat × Bool)} {j : Nat} : allocB Tryd.prog e ⟨d, .alloc 58, ty, pos, af, g⟩ j = some (.pointer (some ⟨j, 0, none⟩), .cells [(Value.map none)] 58 false) := by rw [allocB_alloc, ze_58, alZ_some]; rfl
theorem sz_63 : szOf Tryd.prog 63 = some 4 := by kernel_rfl
theorem by_63 : byOf Tryd.prog 63 = some 32 := by kernel_rfl
theorem ag_63 : aggOf Tryd.prog 63 = some true := by kernel_rfl
theorem ze_63 : zeroOf Tryd.prog 63 = (some (Value.agg #[(Value.int IntKind.i64 0), (Value.int IntKind.i64 0), (Value.int IntKind.i64 0), (Value.int IntKind.i64 0)])) := by kernel_rfl
theorem un_63 : Program.underlying Tryd.prog 63 = some (TypeDesc.array 4 2) := by kernel_rfl
theorem if_63 : ifaceT Tryd.prog 63 = false := by kernel_rfl
theorem al_63 {e : Operand → Value} {H : Heap} {d : Option Tmp} {ty : TypeId} {pos : String} {af : Array Edge} {g : Option (Nat × Bool)} : aop Tryd.prog e ⟨d, .alloc 63, ty, pos, af, g⟩ H = some (.val (.pointer (some ⟨H.next, 0, none⟩)) (H.push (.cells [(Value.int IntKind.i64 0), (Value.int IntKind.i64 0), (Value.int IntKind.i64 0), (Value.int IntKind.i64 0)] 63 false))) := by exact aop_alloc ze_63 rfl
theorem ad_63 {e : Operand → Value} {d : Option Tmp} {ty : TypeId} {pos : String} {af : Array Edge} {g : Option (Nat × Bool)} {j : Nat} : allocB Tryd.prog e ⟨d, .alloc 63, ty, pos, af, g⟩ j = some (.pointer (some ⟨j, 0, none⟩), .cells [(Value.int IntKind.i64 0), (Value.int IntKind.i64 0), (Value.int IntKind.i64 0), (Value.int IntKind.i64 0)] 63 false) := by rw [allocB_alloc, ze_63, alZ_some]; rfl
theorem pl_63 : placesB Tryd.prog 63 = some (fun i => some (i * 1, 1)) := by kernel_rfl
theorem ia_63 {b o : Nat} {k : IntKind} {i : Int} : indexAddrB Tryd.prog 63 (.pointer (some ⟨b, o, none⟩)) (.int k i) = if 0 ≤ i ∧ i < 4 then (szOf Tryd.prog 2).map fun n => .pointer (some ⟨b, o + i.toNat * n, none⟩) else none := by exact indexAddr_array un_63
theorem ix_63 {cs : Array Value} {k : IntKind} {i : Int} : indexB Tryd.prog 63 (.agg cs) (.int k i) = if 0 ≤ i ∧ i < 4 then (szOf Tryd.prog 2).bind fun n => partB Tryd.prog 2 cs (i.toNat * n) else none := by exact index_array un_63
theorem ln_63 {H : Heap} {x : Value} : lenIn Tryd.prog H 63 x = some 4 := by exact lenIn_array un_63
theorem eq_63 {d : Nat} {a0 b0 : Int} {a1 b1 : Int} {a2 b2 : Int} {a3 b3 : Int} : runP Tryd.prog (Op.equalIn (d + 2) 63 (.agg #[.int .i64 a0, .int .i64 a1, .int .i64 a2, .int .i64 a3]) (.agg #[.int .i64 b0, .int .i64 b1, .int .i64 b2, .int .i64 b3])) = some ((a0 == b0) && ((a1 == b1) && ((a2 == b2) && ((a3 == b3) && true)))) := by
  refine eqArray (d := d + 1) un_63 sz_2 ?_
  simp only [List.range'_succ, List.range'_zero, List.map_cons, List.map_nil, fldEq, eltEq, partB_eq, partV_agg, partV_one, ag_2, sz_2, List.size_toArray, List.length_cons, List.length_nil, Nat.reduceAdd, Nat.reduceLeDiff, Nat.reduceMul, Nat.zero_mul, Nat.zero_add, Nat.add_zero, if_true, List.drop_succ_cons, List.drop_zero, List.take_succ_cons, List.take_zero, List.getElem?_toArray, List.getElem?_cons_zero, List.getElem?_cons_succ, Option.bind_some, ne_eq, String.reduceEq, not_false_eq_true, allO_cons, allO_nil, lazyAnd_some, eqInt (d := d) un_2]
theorem gt_63 : Program.eqGuardType Tryd.prog (Program.depth Tryd.prog) 63 = false := by kernel_rfl
theorem be_63 {a0 b0 : Int} {a1 b1 : Int} {a2 b2 : Int} {a3 b3 : Int} {H : Heap} {x y : Operand} : binV Tryd.prog H .eql 63 x y (.agg #[.int .i64 a0, .int .i64 a1, .int .i64 a2, .int .i64 a3]) (.agg #[.int .i64 b0, .int .i64 b1, .int .i64 b2, .int .i64 b3]) = some (.val (.bool ((a0 == b0) && ((a1 == b1) && ((a2 == b2) && ((a3 == b3) && true))))) H) := by exact binV_aggeq nilEq_agg (by simp [isScalA, isScal]) gt_63 (eq_63 (d := 9998))
theorem bn_63 {a0 b0 : Int} {a1 b1 : Int} {a2 b2 : Int} {a3 b3 : Int} {H : Heap} {x y : Operand} : binV Tryd.prog H .neq 63 x y (.agg #[.int .i64 a0, .int .i64 a1, .int .i64 a2, .int .i64 a3]) (.agg #[.int .i64 b0, .int .i64 b1, .int .i64 b2, .int .i64 b3]) = some (.val (.bool (!((a0 == b0) && ((a1 == b1) && ((a2 == b2) && ((a3 == b3) && true)))))) H) := by exact binV_aggne nilEq_agg (by simp [isScalA, isScal]) gt_63 (eq_63 (d := 9998))
theorem sz_64 : szOf Tryd.prog 64 = some 1 := by kernel_rfl
theorem by_64 : byOf Tryd.prog 64 = some 24 := by kernel_rfl
theorem ag_64 : aggOf Tryd.prog 64 = some false := by kernel_rfl
theorem ze_64 : zeroOf Tryd.prog 64 = (some (Value.slice none 0 0)) := by kernel_rfl
theorem un_64 : Program.underlying Tryd.prog 64 = some (TypeDesc.slice 63) := by kernel_rfl
theorem if_64 : ifaceT Tryd.prog 64 = false := by kernel_rfl
theorem al_64 {e : Operand → Value} {H : Heap} {d : Option Tmp} {ty : TypeId} {pos : String} {af : Array Edge} {g : Option (Nat × Bool)} : aop Tryd.prog e ⟨d, .alloc 64, ty, pos, af, g⟩ H = some (.val (.pointer (some ⟨H.next, 0, none⟩)) (H.push (.cells [(Value.slice none 0 0)] 64 false))) := by exact aop_alloc ze_64 rfl
theorem ad_64 {e : Operand → Value} {d : Option Tmp} {ty : TypeId} {pos : String} {af : Array Edge} {g : Option (Nat × Bool)} {j : Nat} : allocB Tryd.prog e ⟨d, .alloc 64, ty, pos, af, g⟩ j = some (.pointer (some ⟨j, 0, none⟩), .cells [(Value.slice none 0 0)] 64 false) := by rw [allocB_alloc, ze_64, alZ_some]; rfl
theorem ia_64 {b o len cap : Nat} {k : IntKind} {i : Int} : indexAddrB Tryd.prog 64 (.slice (some ⟨b, o, none⟩) len cap) (.int k i) = if 0 ≤ i ∧ i < len then (szOf Tryd.prog 63).map fun n => .pointer (some ⟨b, o + i.toNat * n, none⟩) else none := by exact indexAddr_slice un_64
theorem ln_64 {H : Heap} {a : Option Addr} {n c : Nat} : lenIn Tryd.prog H 64 (.slice a n c) = some (n : Int) := by exact lenIn_slice un_64
theorem bs_64 {j len : Nat} {ps : List (Nat × Value)} : buildSliceB Tryd.prog j 64 len ps = if len * 4 ≤ 16777216 then (fillL (fun i => some (i * 4, 4)) (zrep len [(Value.int IntKind.i64 0), (Value.int IntKind.i64 0), (Value.int IntKind.i64 0), (Value.int IntKind.i64 0)]) ps).map fun cs => (.slice (some ⟨j, 0, none⟩) len len, .cells cs 63 false) else none := by 
  rw [buildSliceB_eq un_64, sz_63, ze_63, bslV_some]
  by_cases h : len * 4 ≤ 16777216
  · rw [if_pos h, if_pos ⟨rfl, h, rfl⟩]; rfl
  · rw [if_neg h, if_neg (fun z => h z.2.1)]
theorem sl_64 {H : Heap} {i o len cap : Nat} {lo hi : Option Value} : sliceB Tryd.prog H 64 (.slice (some ⟨i, o, none⟩) len cap) lo hi none = cutW Tryd.prog 4 i o len cap (H.get i) (boundB lo 0) (boundB hi len) := by exact sliceB_eq un_64 sz_63
theorem ap_64 {H : Heap} {base : Option Addr} {x : Value} {l c : Nat} : appendB Tryd.prog H 64 (.slice base l c) x = apV H base l c 63 (firstB H 4 l (.slice base l c)) (lenB x) (firstO H 4 x (lenB x)) := by exact appendB_eq un_64 sz_63 by_63 ze_63 (by decide) rfl
theorem ab_64 {H : Heap} {t : TypeId} {s x : Value} : builtinB Tryd.prog H .append #[t, 64] [s, x] = appendB Tryd.prog H t s x := by exact builtinB_append (by kernel_rfl)
theorem sz_65 : szOf Tryd.prog 65 = some 1 := by kernel_rfl
theorem by_65 : byOf Tryd.prog 65 = some 24 := by kernel_rfl
theorem ag_65 : aggOf Tryd.prog 65 = some false := by kernel_rfl
theorem ze_65 : zeroOf Tryd.prog 65 = (some (Value.slice none 0 0)) := by kernel_rfl
theorem un_65 : Program.underlying Tryd.prog 65 = some (TypeDesc.slice 3) := by kernel_rfl
theorem if_65 : ifaceT Tryd.prog 65 = false := by kernel_rfl
theorem al_65 {e : Operand → Value} {H : Heap} {d : Option Tmp} {ty : TypeId} {pos : String} {af : Array Edge} {g : Option (Nat × Bool)} : aop Tryd.prog e ⟨d, .alloc 65, ty, pos, af, g⟩ H = some (.val (.pointer (some ⟨H.next, 0, none⟩)) (H.push (.cells [(Value.slice none 0 0)] 65 false))) := by exact aop_alloc ze_65 rfl
theorem ad_65 {e : Operand → Value} {d : Option Tmp} {ty : TypeId} {pos : String} {af : Array Edge} {g : Option (Nat × Bool)} {j : Nat} : allocB Tryd.prog e ⟨d, .alloc 65, ty, pos, af, g⟩ j = some (.pointer (some ⟨j, 0, none⟩), .cells [(Value.slice none 0 0)] 65 false) := by rw [allocB_alloc, ze_65, alZ_some]; rfl
theorem ia_65 {b o len cap : Nat} {k : IntKind} {i : Int} : indexAddrB Tryd.prog 65 (.slice (some ⟨b, o, none⟩) len cap) (.int k i) = if 0 ≤ i ∧ i < len then (szOf Tryd.prog 3).map fun n => .pointer (some ⟨b, o + i.toNat * n, none⟩) else none := by exact indexAddr_slice un_65
theorem ln_65 {H : Heap} {a : Option Addr} {n c : Nat} : lenIn Tryd.prog H 65 (.slice a n c) = some (n : Int) := by exact lenIn_slice un_65
theorem bs_65 {j len : Nat} {ps : List (Nat × Value)} : buildSliceB Tryd.prog j 65 len ps = if len * 1 ≤ 16777216 then (fillL (fun i => some (i * 1, 1)) (zrep len [(Value.int IntKind.i64 0)]) ps).map fun cs => (.slice (some ⟨j, 0, none⟩) len len, .cells cs 3 false) else none := by 
  rw [buildSliceB_eq un_65, sz_3, ze_3, bslV_some]
  by_cases h : len * 1 ≤ 16777216
  · rw [if_pos h, if_pos ⟨rfl, h, rfl⟩]; rfl
  · rw [if_neg h, if_neg (fun z => h z.2.1)]
theorem sl_65 {H : Heap} {i o len cap : Nat} {lo hi : Option Value} : sliceB Tryd.prog H 65 (.slice (some ⟨i, o, none⟩) len cap) lo hi none = cutW Tryd.prog 1 i o len cap (H.get i) (boundB lo 0) (boundB hi len) := by exact sliceB_eq un_65 sz_3
theorem ap_65 {H : Heap} {base : Option Addr} {x : Value} {l c : Nat} : appendB Tryd.prog H 65 (.slice base l c) x = apV H base l c 3 (firstB H 1 l (.slice base l c)) (lenB x) (firstO H 1 x (lenB x)) := by exact appendB_eq un_65 sz_3 by_3 ze_3 (by decide) rfl
theorem ab_65 {H : Heap} {t : TypeId} {s x : Value} : builtinB Tryd.prog H .append #[t, 65] [s, x] = appendB Tryd.prog H t s x := by exact builtinB_append (by kernel_rfl)
theorem bd_38 {ps : List (Nat × Value)} : buildB Tryd.prog 38 ps = (fillL (fun i => ([(0, 1), (1, 1), (2, 1), (3, 1)] : List (Nat × Nat)).toArray[i]?) [(Value.int IntKind.i64 0), (Value.int IntKind.i64 0), (Value.int IntKind.i64 0), (Value.int IntKind.i64 0)] ps).map fun l => .agg l.toArray := by rw [buildB_eq, ze_38, pl_38, bldV_some]; rfl
theorem bd_39 {ps : List (Nat × Value)} : buildB Tryd.prog 39 ps = (fillL (fun i => some (i * 4, 4)) [(Value.int IntKind.i64 0), (Value.int IntKind.i64 0), (Value.int IntKind.i64 0), (Value.int IntKind.i64 0), (Value.int IntKind.i64 0), (Value.int IntKind.i64 0), (Value.int IntKind.i64 0), (Value.int IntKind.i64 0), (Value.int IntKind.i64 0), (Value.int IntKind.i64 0), (Value.int IntKind.i64 0), (Value.int IntKind.i64 0), (Value.int IntKind.i64 0), (Value.int IntKind.i64 0), (Value.int IntKind.i64 0), (Value.int IntKind.i64 0)] ps).map fun l => .agg l.toArray := by rw [buildB_eq, ze_39, pl_39, bldV_some]; rfl
theorem bd_35 {ps : List (Nat × Value)} : buildB Tryd.prog 35 ps = (fillL (fun i => ([(0, 1), (1, 1), (2, 1), (3, 1), (4, 1)] : List (Nat × Nat)).toArray[i]?) [(Value.slice none 0 0), (Value.slice none 0 0), (Value.slice none 0 0), (Value.int IntKind.i64 0), (Value.int IntKind.i64 0)] ps).map fun l => .agg l.toArray := by rw [buildB_eq, ze_35, pl_35, bldV_some]; rfl
theorem bd_63 {ps : List (Nat × Value)} : buildB Tryd.prog 63 ps = (fillL (fun i => some (i * 1, 1)) [(Value.int IntKind.i64 0), (Value.int IntKind.i64 0), (Value.int IntKind.i64 0), (Value.int IntKind.i64 0)] ps).map fun l => .agg l.toArray := by rw [buildB_eq, ze_63, pl_63, bldV_some]; rfl
theorem cv_3_5 {H : Heap} {k0 : IntKind} {n : Int} : cvV Tryd.prog H 3 5 (.int k0 n) = some (.val (.int .u8 (IntKind.wrap .u8 n)) H) := by exact cvV_int un_3 un_5
theorem cv_5_2 {H : Heap} {k0 : IntKind} {n : Int} : cvV Tryd.prog H 5 2 (.int k0 n) = some (.val (.int .i64 (IntKind.wrap .i64 n)) H) := by exact cvV_int un_5 un_2
theorem cv_5_3 {H : Heap} {k0 : IntKind} {n : Int} : cvV Tryd.prog H 5 3 (.int k0 n) = some (.val (.int .i64 (IntKind.wrap .i64 n)) H) := by exact cvV_int un_5 un_3
noncomputable def tab : Tr Func := (((((((((((Tr.nil).set 4 Tryd.f4).set 13 Tryd.f13).set 14 Tryd.f14).set 15 Tryd.f15).set 16 Tryd.f16).set 23 Tryd.f23).set 24 Tryd.f24).set 25 Tryd.f25).set 26 Tryd.f26).set 27 Tryd.f27).set 28 Tryd.f28
theorem tab_4 : tab.get 4 = some Tryd.f4 := by kernel_rfl
theorem tab_13 : tab.get 13 = some Tryd.f13 := by kernel_rfl
theorem tab_14 : tab.get 14 = some Tryd.f14 := by kernel_rfl
theorem tab_15 : tab.get 15 = some Tryd.f15 := by kernel_rfl
theorem tab_16 : tab.get 16 = some Tryd.f16 := by kernel_rfl
theorem tab_23 : tab.get 23 = some Tryd.f23 := by kernel_rfl
theorem tab_24 : tab.get 24 = some Tryd.f24 := by kernel_rfl
theorem tab_25 : tab.get 25 = some Tryd.f25 := by kernel_rfl
theorem tab_26 : tab.get 26 = some Tryd.f26 := by kernel_rfl
theorem tab_27 : tab.get 27 = some Tryd.f27 := by kernel_rfl
theorem tab_28 : tab.get 28 = some Tryd.f28 := by kernel_rfl
theorem tab_ok : TabOk Tryd.prog tab.get := by
  unfold tab
  repeat (first | exact TabOk.nil | refine TabOk.set ?_ (by kernel_rfl) (by decide +kernel))
end Go.B.YtjbhgooakdpabaaDoor
