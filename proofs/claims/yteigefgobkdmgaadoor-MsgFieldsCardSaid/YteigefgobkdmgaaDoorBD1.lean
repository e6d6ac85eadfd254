import Derived.Test.YteigefgobkdmgaaDoorBS
import Derived.Test.YteigefgobkdmgaaDoorBD0
import Derived.Lib.Bytealg
/- What is told from outside; digits, accounts' numbers, decimals. -/
namespace Go.B.YteigefgobkdmgaaDoor
open Go Go.B Go.Proofs
set_option maxRecDepth 100000
set_option maxHeartbeats 8000000
set_option linter.unusedSimpArgs false
set_option linter.unusedVariables false
def trueX (a : Array Value) : Option Value := if a.size = 0 then some (.bool true) else none
def xItoa (a : Array Value) : Option Value := match a.toList with | [.int .i64 n] => if (Lit.int .i64 n).wf = true then some (.string (S (Lib.itoa n))) else none | _ => none
def xFormatUint (a : Array Value) : Option Value := match a.toList with | [.int .u64 n, .int .i64 b] => if b = 10 ∧ (Lit.int .u64 n).wf = true then some (.string (S (Lib.itoa n))) else none | _ => none
def xFormatInt (a : Array Value) : Option Value := match a.toList with | [.int .i64 n, .int .i64 b] => if b = 10 ∧ (Lit.int .i64 n).wf = true then some (.string (S (Lib.itoa n))) else none | _ => none
def xIndexByte (a : Array Value) : Option Value := match a.toList with | [.string s, .int .u8 c] => some (.int .i64 (Lib.indexByte (U s) c.toNat.toUInt8)) | _ => none
def atoiV (s : ByteArray) : Value := match Lib.atoiAll (U s) with | .ok v => .tuple #[.int .i64 v, .nilIface] | Lib.NumEnd.syntax => .tuple #[.int .i64 0, .iface 113 (.chan none)] | .range => .tuple #[.int .i64 (Lib.atoiSat (U s)), .iface 113 (.chan none)]
def xAtoi (a : Array Value) : Option Value := match a.toList with | [.string s] => if s.size ≤ 281474976710656 then some (atoiV s) else none | _ => none
def strs : List Value → Option (List ByteArray)
  | [] => some []
  | .string s :: r => (strs r).map (s :: ·)
  | _ :: _ => none
theorem strs_map : ∀ l : List ByteArray, strs (l.map Value.string) = some l
  | [] => rfl
  | s :: l => by rw [List.map_cons, strs, strs_map l]; rfl
theorem strs_inv : ∀ {c : List Value} {l : List ByteArray}, strs c = some l → c = l.map Value.string
  | [], l, h => by cases h; rfl
  | v :: c, l, h => by
    cases v <;> simp only [strs] at h <;> try (cases h; done)
    obtain ⟨l2, h1, rfl⟩ := Option.map_eq_some_iff.mp h
    rw [List.map_cons, ← strs_inv h1]
/-- The texts of a row. -/
def rowS (P : Program) (H : Heap) (b : Option Addr) (n : Nat) : Option (List ByteArray) :=
  if n = 0 then some [] else match b with
  | some ⟨i, o, none⟩ => (match H.get i with
    | some (.cells cs e ro) => if szOf P e = some 1 ∧ o + n ≤ cs.length then strs ((cs.drop o).take n) else none
    | _ => none)
  | _ => none
theorem rowS_of {P : Program} {H : Heap} {b : Option Addr} {l : List ByteArray} (h : Row P H b l.length 1 (l.map Value.string)) : rowS P H b l.length = some l := by
  unfold rowS
  by_cases h0 : l.length = 0
  · rw [if_pos h0, List.length_eq_zero_iff.1 h0]
  rw [if_neg h0]
  rcases h.at_ with h1 | ⟨i, o, c, e, ro, rfl, h2, h3, h4, h5⟩
  · exact absurd h1 h0
  · simp only [h2]
    rw [List.length_map] at h3 h4
    rw [if_pos ⟨h5, h3⟩, h4, strs_map]
def xJoin (P : Program) (a : Array Value) (H : Heap) : Option (Value × Heap) := match a.toList with
  | [.slice b n c, .string sep] => (rowS P H b n).bind fun l => if U sep = [28] ∧ l.length ≤ 140737488355328 ∧ (jn (l.map U)).length ≤ 140737488355328 then some (.string (S (jn (l.map U))), H) else none
  | _ => none
def xSplit (a : Array Value) (H : Heap) : Option (Value × Heap) := match a.toList with
  | [.string s, .string sep] => if U sep = [28] ∧ s.size < 4294967281 then some (.slice (some ⟨H.next, 0, none⟩) ((sp (U s)).map S).length capU, H.push (.cells (((sp (U s)).map S).map Value.string) 9 false)) else none
  | _ => none
noncomputable def X0 : Exts := fun f => if f = 19 then some (onlyVal xItoa) else if f = 20 then some (onlyVal xFormatUint) else if f = 21 then some (onlyVal xFormatInt)
  else if f = 43 then some (onlyVal xIndexByte) else if f = 48 then some (onlyVal xAtoi) else if f = 44 then some (xJoin Tryd.prog) else if f = 47 then some xSplit else none
noncomputable def X : Exts := fun f => if f = 7 then some (onlyVal trueX) else X0 f
noncomputable def V : Env := { P := Tryd.prog, T := tab.get, X := X }
theorem V_P : V.P = Tryd.prog := rfl

theorem c_Itoa (n : Int) (H : Heap) (h0 : -9223372036854775808 ≤ n) (h1 : n ≤ 9223372036854775807) : Ca V 19 #[.int .i64 n] H (.string (S (Lib.itoa n))) H := Ca_ext rfl (by simp only [onlyVal, xItoa]; rw [if_pos (by simp [Lit.wf, IntKind.min, IntKind.max, IntKind.bits, IntKind.signed]; omega)]; rfl)
theorem c_FormatUint (n : Int) (H : Heap) (h0 : 0 ≤ n) (h1 : n ≤ 18446744073709551615) : Ca V 20 #[.int .u64 n, .int .i64 10] H (.string (S (Lib.itoa n))) H := Ca_ext rfl (by simp only [onlyVal, xFormatUint]; rw [if_pos (by simp [Lit.wf, IntKind.min, IntKind.max, IntKind.bits, IntKind.signed]; omega)]; rfl)
theorem c_FormatInt (n : Int) (H : Heap) (h0 : -9223372036854775808 ≤ n) (h1 : n ≤ 9223372036854775807) : Ca V 21 #[.int .i64 n, .int .i64 10] H (.string (S (Lib.itoa n))) H := Ca_ext rfl (by simp only [onlyVal, xFormatInt]; rw [if_pos (by simp [Lit.wf, IntKind.min, IntKind.max, IntKind.bits, IntKind.signed]; omega)]; rfl)
theorem c_IndexByte (s : ByteArray) (c : Int) (H : Heap) : Ca V 43 #[.string s, .int .u8 c] H (.int .i64 (Lib.indexByte (U s) c.toNat.toUInt8)) H := Ca_ext rfl rfl
theorem c_Atoi (s : ByteArray) (H : Heap) (h : s.size ≤ 281474976710656) : Ca V 48 #[.string s] H (atoiV s) H := Ca_ext rfl (by simp only [onlyVal, xAtoi]; rw [if_pos h]; rfl)
theorem c_Join (l : List ByteArray) (b : Option Addr) (c : Nat) (H : Heap) (h : Row Tryd.prog H b l.length 1 (l.map Value.string)) (hn : l.length ≤ 140737488355328) (hl : (jn (l.map U)).length ≤ 140737488355328) : Ca V 44 #[.slice b l.length c, .string (S [28])] H (.string (S (jn (l.map U)))) H := Ca_ext rfl (by
  simp only [xJoin]
  rw [rowS_of h, Option.bind_some, if_pos ⟨trivial, hn, hl⟩])
theorem c_Split (s : ByteArray) (H : Heap) (h : s.size < 4294967281) : Ca V 47 #[.string s, .string (S [28])] H (.slice (some ⟨H.next, 0, none⟩) ((sp (U s)).map S).length capU) (H.push (.cells (((sp (U s)).map S).map Value.string) 9 false)) := Ca_ext rfl (by
  simp only [xSplit]
  rw [if_pos ⟨trivial, h⟩])
theorem c_known (H : Heap) : Ca V 7 #[] H (.bool true) H := Ca_ext rfl rfl

def digs (s : ByteArray) : Bool := s.data.toList.all isDig
theorem digs_of {s : ByteArray} (h : ∀ j b, j < s.size → s[j]? = some b → isDig b = true) : digs s = true := by
  unfold digs
  rw [List.all_eq_true]
  intro x hx
  obtain ⟨j, hj, rfl⟩ := List.mem_iff_getElem.mp hx
  have hj' : j < s.size := by simpa using hj
  exact h j _ hj' (by rw [getElem?_pos s j hj']; rfl)
theorem digs_not {s : ByteArray} {j : Nat} {b : UInt8} (h : s[j]? = some b) (hb : isDig b = false) : digs s = false := by
  unfold digs
  rw [List.all_eq_false]
  have hj : j < s.size := by
    rcases Nat.lt_or_ge j s.size with h1 | h1
    · exact h1
    · rw [getElem?_neg s j (by omega)] at h; cases h
  rw [getElem?_pos s j hj] at h
  refine ⟨b, ?_, by simp [hb]⟩
  cases h
  exact Array.getElem_mem_toList _

theorem frame_Digits (s : ByteArray) (H : Heap) (hl : s.size ≤ maxLen) : ∃ v H', Ca V 29 #[.string s] H v H' ∧ v = .bool (digs s) ∧ H' = H := by
  have hl : s.size ≤ 9223372036854775807 := hl
  refine Ca_run rfl tab_29 rfl ?_
  simp (maxSteps := 5000000) (disch := omega) only [Tryd.f29, V_P, SX, W_block, exitW, goInt, Int.reduceEq, setCells, oneOf, cellOk, reduceIte, Nat.reduceLT, Nat.reduceLeDiff, Nat.reduceEqDiff, Nat.reduceAdd, Nat.reduceSub, Nat.reduceMul, Int.reduceToNat, Int.reduceLT, Int.reduceLE, Int.reduceAdd, Int.reduceSub, implies_true, ne_eq, if_true, if_false, reduceCtorEq]
  refine W_for (fun (i : Nat) t H2 => H2 = H ∧ t.get 0 = some (.string s) ∧ t.get 5 = some (.int .i64 s.size) ∧ t.get 6 = some (.int .i64 i) ∧ i ≤ s.size ∧ (∀ j b, j < i → s[j]? = some b → isDig b = true)) (fun i => s.size - i) 0 ?_ ?_
  · simp (maxSteps := 5000000) (disch := omega) only [V_P, SX, W_block, exitW, goInt, Int.reduceEq, setCells, oneOf, cellOk, reduceIte, Nat.reduceLT, Nat.reduceLeDiff, Nat.reduceEqDiff, Nat.reduceAdd, Nat.reduceSub, Nat.reduceMul, Int.reduceToNat, Int.reduceLT, Int.reduceLE, Int.reduceAdd, Int.reduceSub, implies_true, ne_eq, if_true, if_false, reduceCtorEq]
    exact ⟨rfl, Nat.zero_le _, fun j x h => absurd h (by omega)⟩
  rintro i t H2 ⟨rfl, g0, g5, g6, hi, hall⟩
  simp (maxSteps := 5000000) (disch := omega) only [g0, g5, g6, V_P, SX, W_block, exitW, goInt, Int.reduceEq, setCells, oneOf, cellOk, reduceIte, Nat.reduceLT, Nat.reduceLeDiff, Nat.reduceEqDiff, Nat.reduceAdd, Nat.reduceSub, Nat.reduceMul, Int.reduceToNat, Int.reduceLT, Int.reduceLE, Int.reduceAdd, Int.reduceSub, implies_true, ne_eq, if_true, if_false, reduceCtorEq]
  refine cW_dec (fun hlt => ?_) (fun hlt => ?_)
  · have hlt' : i < s.size := by omega
    have hb : s[i]? = some s[i] := getElem?_pos s i hlt'
    generalize s[i] = b at hb
    simp (maxSteps := 5000000) (disch := omega) only [g0, g5, g6, hb, V_P, SX, W_block, exitW, goInt, Int.reduceEq, setCells, oneOf, cellOk, reduceIte, Nat.reduceLT, Nat.reduceLeDiff, Nat.reduceEqDiff, Nat.reduceAdd, Nat.reduceSub, Nat.reduceMul, Int.reduceToNat, Int.reduceLT, Int.reduceLE, Int.reduceAdd, Int.reduceSub, implies_true, ne_eq, if_true, if_false, reduceCtorEq]
    repeat' (first
    | (refine gW_dec (fun h => ?_) (fun h => ?_) <;> simp (maxSteps := 5000000) (disch := omega) only [h, g0, g5, g6, hb, V_P, SX, W_block, exitW, goInt, Int.reduceEq, setCells, oneOf, cellOk, reduceIte, Nat.reduceLT, Nat.reduceLeDiff, Nat.reduceEqDiff, Nat.reduceAdd, Nat.reduceSub, Nat.reduceMul, Int.reduceToNat, Int.reduceLT, Int.reduceLE, Int.reduceAdd, Int.reduceSub, implies_true, ne_eq, if_true, if_false, reduceCtorEq])
    | (refine cW_dec (fun h => ?_) (fun h => ?_) <;> simp (maxSteps := 5000000) (disch := omega) only [h, g0, g5, g6, hb, V_P, SX, W_block, exitW, goInt, Int.reduceEq, setCells, oneOf, cellOk, reduceIte, Nat.reduceLT, Nat.reduceLeDiff, Nat.reduceEqDiff, Nat.reduceAdd, Nat.reduceSub, Nat.reduceMul, Int.reduceToNat, Int.reduceLT, Int.reduceLE, Int.reduceAdd, Int.reduceSub, implies_true, ne_eq, if_true, if_false, reduceCtorEq])
    | (refine gW_bool (fun h => ?_) (fun h => ?_) <;> simp (maxSteps := 5000000) (disch := omega) only [h, g0, g5, g6, hb, V_P, SX, W_block, exitW, goInt, Int.reduceEq, setCells, oneOf, cellOk, reduceIte, Nat.reduceLT, Nat.reduceLeDiff, Nat.reduceEqDiff, Nat.reduceAdd, Nat.reduceSub, Nat.reduceMul, Int.reduceToNat, Int.reduceLT, Int.reduceLE, Int.reduceAdd, Int.reduceSub, implies_true, ne_eq, if_true, if_false, reduceCtorEq])
    | (refine cW_bool (fun h => ?_) (fun h => ?_) <;> simp (maxSteps := 5000000) (disch := omega) only [h, g0, g5, g6, hb, V_P, SX, W_block, exitW, goInt, Int.reduceEq, setCells, oneOf, cellOk, reduceIte, Nat.reduceLT, Nat.reduceLeDiff, Nat.reduceEqDiff, Nat.reduceAdd, Nat.reduceSub, Nat.reduceMul, Int.reduceToNat, Int.reduceLT, Int.reduceLE, Int.reduceAdd, Int.reduceSub, implies_true, ne_eq, if_true, if_false, reduceCtorEq]))
    · rw [digs_not hb (by unfold isDig; simp; omega)]
    · rw [digs_not hb (by unfold isDig; simp; omega)]
    · refine ⟨i + 1, ⟨by simp, by omega, fun j c hj hc => ?_⟩, by omega⟩
      by_cases hji : j = i
      · subst hji; rw [hb] at hc; cases hc; unfold isDig; simp; omega
      · exact hall j c (by omega) hc
  · simp (maxSteps := 5000000) (disch := omega) only [g0, g5, g6, V_P, SX, W_block, exitW, goInt, Int.reduceEq, setCells, oneOf, cellOk, reduceIte, Nat.reduceLT, Nat.reduceLeDiff, Nat.reduceEqDiff, Nat.reduceAdd, Nat.reduceSub, Nat.reduceMul, Int.reduceToNat, Int.reduceLT, Int.reduceLE, Int.reduceAdd, Int.reduceSub, implies_true, ne_eq, if_true, if_false, reduceCtorEq]
    rw [digs_of (fun j b hj hb => hall j b (by omega) hb)]

theorem ref_AllDigits (s : ByteArray) (H : Heap) (hl : s.size ≤ maxLen) : ∃ v H', Ca V 46 #[.string s] H v H' ∧ v = .bool (digs s) ∧ H' = H := by
  have hl : s.size ≤ 9223372036854775807 := hl
  refine Ca_run rfl tab_46 rfl ?_
  simp (maxSteps := 5000000) (disch := omega) only [Tryd.f46, V_P, SX, W_block, exitW, goInt, Int.reduceEq, setCells, oneOf, cellOk, reduceIte, Nat.reduceLT, Nat.reduceLeDiff, Nat.reduceEqDiff, Nat.reduceAdd, Nat.reduceSub, Nat.reduceMul, Int.reduceToNat, Int.reduceLT, Int.reduceLE, Int.reduceAdd, Int.reduceSub, implies_true, ne_eq, if_true, if_false, reduceCtorEq]
  refine W_for (fun (i : Nat) t H2 => H2 = H ∧ t.get 0 = some (.string s) ∧ t.get 3 = some (.int .i64 i) ∧ i ≤ s.size ∧ (∀ j b, j < i → s[j]? = some b → isDig b = true)) (fun i => s.size - i) 0 ?_ ?_
  · simp (maxSteps := 5000000) (disch := omega) only [V_P, SX, W_block, exitW, goInt, Int.reduceEq, setCells, oneOf, cellOk, reduceIte, Nat.reduceLT, Nat.reduceLeDiff, Nat.reduceEqDiff, Nat.reduceAdd, Nat.reduceSub, Nat.reduceMul, Int.reduceToNat, Int.reduceLT, Int.reduceLE, Int.reduceAdd, Int.reduceSub, implies_true, ne_eq, if_true, if_false, reduceCtorEq]
    exact ⟨rfl, Nat.zero_le _, fun j x h => absurd h (by omega)⟩
  rintro i t H2 ⟨rfl, g0, g3, hi, hall⟩
  simp (maxSteps := 5000000) (disch := omega) only [g0, g3, V_P, SX, W_block, exitW, goInt, Int.reduceEq, setCells, oneOf, cellOk, reduceIte, Nat.reduceLT, Nat.reduceLeDiff, Nat.reduceEqDiff, Nat.reduceAdd, Nat.reduceSub, Nat.reduceMul, Int.reduceToNat, Int.reduceLT, Int.reduceLE, Int.reduceAdd, Int.reduceSub, implies_true, ne_eq, if_true, if_false, reduceCtorEq]
  refine cW_dec (fun hlt => ?_) (fun hlt => ?_)
  · have hlt' : i < s.size := by omega
    have hb : s[i]? = some s[i] := getElem?_pos s i hlt'
    generalize s[i] = b at hb
    simp (maxSteps := 5000000) (disch := omega) only [g0, g3, hb, V_P, SX, W_block, exitW, goInt, Int.reduceEq, setCells, oneOf, cellOk, reduceIte, Nat.reduceLT, Nat.reduceLeDiff, Nat.reduceEqDiff, Nat.reduceAdd, Nat.reduceSub, Nat.reduceMul, Int.reduceToNat, Int.reduceLT, Int.reduceLE, Int.reduceAdd, Int.reduceSub, implies_true, ne_eq, if_true, if_false, reduceCtorEq]
    repeat' (first
    | (refine gW_dec (fun h => ?_) (fun h => ?_) <;> simp (maxSteps := 5000000) (disch := omega) only [h, g0, g3, hb, V_P, SX, W_block, exitW, goInt, Int.reduceEq, setCells, oneOf, cellOk, reduceIte, Nat.reduceLT, Nat.reduceLeDiff, Nat.reduceEqDiff, Nat.reduceAdd, Nat.reduceSub, Nat.reduceMul, Int.reduceToNat, Int.reduceLT, Int.reduceLE, Int.reduceAdd, Int.reduceSub, implies_true, ne_eq, if_true, if_false, reduceCtorEq])
    | (refine cW_dec (fun h => ?_) (fun h => ?_) <;> simp (maxSteps := 5000000) (disch := omega) only [h, g0, g3, hb, V_P, SX, W_block, exitW, goInt, Int.reduceEq, setCells, oneOf, cellOk, reduceIte, Nat.reduceLT, Nat.reduceLeDiff, Nat.reduceEqDiff, Nat.reduceAdd, Nat.reduceSub, Nat.reduceMul, Int.reduceToNat, Int.reduceLT, Int.reduceLE, Int.reduceAdd, Int.reduceSub, implies_true, ne_eq, if_true, if_false, reduceCtorEq])
    | (refine gW_bool (fun h => ?_) (fun h => ?_) <;> simp (maxSteps := 5000000) (disch := omega) only [h, g0, g3, hb, V_P, SX, W_block, exitW, goInt, Int.reduceEq, setCells, oneOf, cellOk, reduceIte, Nat.reduceLT, Nat.reduceLeDiff, Nat.reduceEqDiff, Nat.reduceAdd, Nat.reduceSub, Nat.reduceMul, Int.reduceToNat, Int.reduceLT, Int.reduceLE, Int.reduceAdd, Int.reduceSub, implies_true, ne_eq, if_true, if_false, reduceCtorEq])
    | (refine cW_bool (fun h => ?_) (fun h => ?_) <;> simp (maxSteps := 5000000) (disch := omega) only [h, g0, g3, hb, V_P, SX, W_block, exitW, goInt, Int.reduceEq, setCells, oneOf, cellOk, reduceIte, Nat.reduceLT, Nat.reduceLeDiff, Nat.reduceEqDiff, Nat.reduceAdd, Nat.reduceSub, Nat.reduceMul, Int.reduceToNat, Int.reduceLT, Int.reduceLE, Int.reduceAdd, Int.reduceSub, implies_true, ne_eq, if_true, if_false, reduceCtorEq]))
    · rw [digs_not hb (by unfold isDig; simp; omega)]
    · rw [digs_not hb (by unfold isDig; simp; omega)]
    · refine ⟨i + 1, ⟨by simp, by omega, fun j c hj hc => ?_⟩, by omega⟩
      by_cases hji : j = i
      · subst hji; rw [hb] at hc; cases hc; unfold isDig; simp; omega
      · exact hall j c (by omega) hc
  · simp (maxSteps := 5000000) (disch := omega) only [g0, g3, V_P, SX, W_block, exitW, goInt, Int.reduceEq, setCells, oneOf, cellOk, reduceIte, Nat.reduceLT, Nat.reduceLeDiff, Nat.reduceEqDiff, Nat.reduceAdd, Nat.reduceSub, Nat.reduceMul, Int.reduceToNat, Int.reduceLT, Int.reduceLE, Int.reduceAdd, Int.reduceSub, implies_true, ne_eq, if_true, if_false, reduceCtorEq]
    rw [digs_of (fun j b hj hb => hall j b (by omega) hb)]

def panOk (s : ByteArray) : Bool := decide (1 ≤ s.size) && (decide (s.size ≤ 19) && digs s)
theorem ref_Pan (s : ByteArray) (H : Heap) (hl : s.size ≤ maxLen) : ∃ v H', Ca V 32 #[.string s] H v H' ∧ v = .bool (panOk s) ∧ H' = H := by
  refine Ca_run rfl tab_32 rfl ?_
  simp (maxSteps := 5000000) (disch := omega) only [Tryd.f32, V_P, SX, W_block, exitW, goInt, Int.reduceEq, setCells, oneOf, cellOk, reduceIte, Nat.reduceLT, Nat.reduceLeDiff, Nat.reduceEqDiff, Nat.reduceAdd, Nat.reduceSub, Nat.reduceMul, Int.reduceToNat, Int.reduceLT, Int.reduceLE, Int.reduceAdd, Int.reduceSub, implies_true, ne_eq, if_true, if_false, reduceCtorEq]
  repeat' (first
    | (refine gW_dec (fun h => ?_) (fun h => ?_) <;> simp (maxSteps := 5000000) (disch := omega) only [h, V_P, SX, W_block, exitW, goInt, Int.reduceEq, setCells, oneOf, cellOk, reduceIte, Nat.reduceLT, Nat.reduceLeDiff, Nat.reduceEqDiff, Nat.reduceAdd, Nat.reduceSub, Nat.reduceMul, Int.reduceToNat, Int.reduceLT, Int.reduceLE, Int.reduceAdd, Int.reduceSub, implies_true, ne_eq, if_true, if_false, reduceCtorEq])
    | (refine cW_dec (fun h => ?_) (fun h => ?_) <;> simp (maxSteps := 5000000) (disch := omega) only [h, V_P, SX, W_block, exitW, goInt, Int.reduceEq, setCells, oneOf, cellOk, reduceIte, Nat.reduceLT, Nat.reduceLeDiff, Nat.reduceEqDiff, Nat.reduceAdd, Nat.reduceSub, Nat.reduceMul, Int.reduceToNat, Int.reduceLT, Int.reduceLE, Int.reduceAdd, Int.reduceSub, implies_true, ne_eq, if_true, if_false, reduceCtorEq])
    | (refine gW_bool (fun h => ?_) (fun h => ?_) <;> simp (maxSteps := 5000000) (disch := omega) only [h, V_P, SX, W_block, exitW, goInt, Int.reduceEq, setCells, oneOf, cellOk, reduceIte, Nat.reduceLT, Nat.reduceLeDiff, Nat.reduceEqDiff, Nat.reduceAdd, Nat.reduceSub, Nat.reduceMul, Int.reduceToNat, Int.reduceLT, Int.reduceLE, Int.reduceAdd, Int.reduceSub, implies_true, ne_eq, if_true, if_false, reduceCtorEq])
    | (refine cW_bool (fun h => ?_) (fun h => ?_) <;> simp (maxSteps := 5000000) (disch := omega) only [h, V_P, SX, W_block, exitW, goInt, Int.reduceEq, setCells, oneOf, cellOk, reduceIte, Nat.reduceLT, Nat.reduceLeDiff, Nat.reduceEqDiff, Nat.reduceAdd, Nat.reduceSub, Nat.reduceMul, Int.reduceToNat, Int.reduceLT, Int.reduceLE, Int.reduceAdd, Int.reduceSub, implies_true, ne_eq, if_true, if_false, reduceCtorEq]))
  · refine W_callR rfl (by simp (maxSteps := 5000000) (disch := omega) only [V_P, SX, W_block, exitW, goInt, Int.reduceEq, setCells, oneOf, cellOk, reduceIte, Nat.reduceLT, Nat.reduceLeDiff, Nat.reduceEqDiff, Nat.reduceAdd, Nat.reduceSub, Nat.reduceMul, Int.reduceToNat, Int.reduceLT, Int.reduceLE, Int.reduceAdd, Int.reduceSub, implies_true, ne_eq, if_true, if_false, reduceCtorEq]) (ref_AllDigits s H hl) ?_
    rintro v H' ⟨rfl, rfl⟩
    simp (maxSteps := 5000000) (disch := omega) only [V_P, SX, W_block, exitW, goInt, Int.reduceEq, setCells, oneOf, cellOk, reduceIte, Nat.reduceLT, Nat.reduceLeDiff, Nat.reduceEqDiff, Nat.reduceAdd, Nat.reduceSub, Nat.reduceMul, Int.reduceToNat, Int.reduceLT, Int.reduceLE, Int.reduceAdd, Int.reduceSub, implies_true, ne_eq, if_true, if_false, reduceCtorEq]
    have h1 : 1 ≤ s.size := by omega
    have h2 : s.size ≤ 19 := by omega
    simp [panOk, h1, h2]
  · simp [panOk]; omega
  · simp [panOk]; omega

end Go.B.YteigefgobkdmgaaDoor
