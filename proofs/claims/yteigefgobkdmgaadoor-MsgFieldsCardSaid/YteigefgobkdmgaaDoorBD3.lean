import Derived.Test.YteigefgobkdmgaaDoorBD2
/- A message in the heap, told as one: its parts read, and written. -/
namespace Go.B.YteigefgobkdmgaaDoor
open Go Go.B Go.Proofs
set_option maxRecDepth 100000
set_option maxHeartbeats 16000000
set_option linter.unusedSimpArgs false
set_option linter.unusedVariables false
theorem Msg.cells_length (m : Msg) : m.cells.length = 26 := rfl
def Msg.set (m : Msg) (i : Nat) (v : Int) : Msg := ⟨m.pan, fun j => if j = i then v else m.c j⟩
def Msg.set4 (m : Msg) (i : Nat) (a b c d : Int) : Msg := ⟨m.pan, fun j => if j = i then a else if j = i + 1 then b else if j = i + 2 then c else if j = i + 3 then d else m.c j⟩
def Msg.setPan (m : Msg) (s : ByteArray) : Msg := ⟨s, m.c⟩
theorem set_eq {m : Msg} {i : Nat} {v : Int} : (m.set i v).c i = v := if_pos rfl
theorem set_ne {m : Msg} {i j : Nat} {v : Int} (h : j ≠ i) : (m.set i v).c j = m.c j := if_neg h
theorem set4_ne {m : Msg} {i j : Nat} {a b c d : Int} (h : j < i ∨ i + 4 ≤ j) : (m.set4 i a b c d).c j = m.c j := by
  unfold Msg.set4; simp only []; rw [if_neg (by omega), if_neg (by omega), if_neg (by omega), if_neg (by omega)]
theorem setPan_c {m : Msg} {j : Nat} {s : ByteArray} : (m.setPan s).c j = m.c j := rfl
theorem setPan_pan {m : Msg} {s : ByteArray} : (m.setPan s).pan = s := rfl
theorem set_pan {m : Msg} {i : Nat} {v : Int} : (m.set i v).pan = m.pan := rfl
theorem set4_pan {m : Msg} {i : Nat} {a b c d : Int} : (m.set4 i a b c d).pan = m.pan := rfl
def Msg.zero : Msg := ⟨S [], fun _ => 0⟩
/-- A message that may be written. -/
def mO (m : Msg) : AObj := .cells m.cells 27 false
theorem mO_def (m : Msg) : AObj.cells m.cells 27 false = mO m := rfl
theorem mO_get {o n : Nat} {m : Msg} : gcV o n (some (mO m)) = if o + n ≤ 26 then some ((m.cells.drop o).take n) else none := rfl
theorem mO_all {m : Msg} : gcV 0 26 (some (mO m)) = some m.cells := rfl
theorem cells_toList {m : Msg} : m.cells.toArray.toList = m.cells := rfl
theorem cells_size {m : Msg} : m.cells.toArray.size = 26 := rfl
theorem mO_g0 {m : Msg} : gcV 0 1 (some (mO m)) = some [.int .i64 (m.c 0)] := rfl
theorem mO_g1 {m : Msg} : gcV 1 1 (some (mO m)) = some [.int .u16 (m.c 1)] := rfl
theorem mO_g2 {m : Msg} : gcV 2 1 (some (mO m)) = some [.int .u32 (m.c 2)] := rfl
theorem mO_g3 {m : Msg} : gcV 3 1 (some (mO m)) = some [.string m.pan] := rfl
theorem mO_g4 {m : Msg} : gcV 4 1 (some (mO m)) = some [.int .i64 (m.c 4)] := rfl
theorem mO_g21 {m : Msg} : gcV 21 1 (some (mO m)) = some [.int .i64 (m.c 21)] := rfl
theorem mO_g5 {m : Msg} : gcV 5 4 (some (mO m)) = some [.int .i64 (m.c 5), .int .i64 (m.c 6), .int .i64 (m.c 7), .int .i64 (m.c 8)] := rfl
theorem mO_g9 {m : Msg} : gcV 9 4 (some (mO m)) = some [.int .i64 (m.c 9), .int .i64 (m.c 10), .int .i64 (m.c 11), .int .i64 (m.c 12)] := rfl
theorem mO_g13 {m : Msg} : gcV 13 4 (some (mO m)) = some [.int .i64 (m.c 13), .int .i64 (m.c 14), .int .i64 (m.c 15), .int .i64 (m.c 16)] := rfl
theorem mO_g17 {m : Msg} : gcV 17 4 (some (mO m)) = some [.int .i64 (m.c 17), .int .i64 (m.c 18), .int .i64 (m.c 19), .int .i64 (m.c 20)] := rfl
theorem mO_g22 {m : Msg} : gcV 22 4 (some (mO m)) = some [.int .i64 (m.c 22), .int .i64 (m.c 23), .int .i64 (m.c 24), .int .i64 (m.c 25)] := rfl
theorem mO_h5 {m : Msg} : gcV 5 1 (some (mO m)) = some [.int .i64 (m.c 5)] := rfl
theorem mO_h6 {m : Msg} : gcV 6 1 (some (mO m)) = some [.int .i64 (m.c 6)] := rfl
theorem mO_h7 {m : Msg} : gcV 7 1 (some (mO m)) = some [.int .i64 (m.c 7)] := rfl
theorem mO_h8 {m : Msg} : gcV 8 1 (some (mO m)) = some [.int .i64 (m.c 8)] := rfl
theorem mO_h9 {m : Msg} : gcV 9 1 (some (mO m)) = some [.int .i64 (m.c 9)] := rfl
theorem mO_h10 {m : Msg} : gcV 10 1 (some (mO m)) = some [.int .i64 (m.c 10)] := rfl
theorem mO_h11 {m : Msg} : gcV 11 1 (some (mO m)) = some [.int .i64 (m.c 11)] := rfl
theorem mO_h12 {m : Msg} : gcV 12 1 (some (mO m)) = some [.int .i64 (m.c 12)] := rfl
theorem mO_h13 {m : Msg} : gcV 13 1 (some (mO m)) = some [.int .i64 (m.c 13)] := rfl
theorem mO_h14 {m : Msg} : gcV 14 1 (some (mO m)) = some [.int .i64 (m.c 14)] := rfl
theorem mO_h15 {m : Msg} : gcV 15 1 (some (mO m)) = some [.int .i64 (m.c 15)] := rfl
theorem mO_h16 {m : Msg} : gcV 16 1 (some (mO m)) = some [.int .i64 (m.c 16)] := rfl
theorem mO_h17 {m : Msg} : gcV 17 1 (some (mO m)) = some [.int .i64 (m.c 17)] := rfl
theorem mO_h18 {m : Msg} : gcV 18 1 (some (mO m)) = some [.int .i64 (m.c 18)] := rfl
theorem mO_h19 {m : Msg} : gcV 19 1 (some (mO m)) = some [.int .i64 (m.c 19)] := rfl
theorem mO_h20 {m : Msg} : gcV 20 1 (some (mO m)) = some [.int .i64 (m.c 20)] := rfl
theorem mO_h22 {m : Msg} : gcV 22 1 (some (mO m)) = some [.int .i64 (m.c 22)] := rfl
theorem mO_h23 {m : Msg} : gcV 23 1 (some (mO m)) = some [.int .i64 (m.c 23)] := rfl
theorem mO_h24 {m : Msg} : gcV 24 1 (some (mO m)) = some [.int .i64 (m.c 24)] := rfl
theorem mO_h25 {m : Msg} : gcV 25 1 (some (mO m)) = some [.int .i64 (m.c 25)] := rfl
theorem mO_p0 {H : Heap} {i : Nat} {m : Msg} {v : Int} : pcV H i 0 [.int .i64 v] (some (mO m)) = some (H.set i (mO (m.set 0 v))) := rfl
theorem mO_p1 {H : Heap} {i : Nat} {m : Msg} {v : Int} : pcV H i 1 [.int .u16 v] (some (mO m)) = some (H.set i (mO (m.set 1 v))) := rfl
theorem mO_p2 {H : Heap} {i : Nat} {m : Msg} {v : Int} : pcV H i 2 [.int .u32 v] (some (mO m)) = some (H.set i (mO (m.set 2 v))) := rfl
theorem mO_p4 {H : Heap} {i : Nat} {m : Msg} {v : Int} : pcV H i 4 [.int .i64 v] (some (mO m)) = some (H.set i (mO (m.set 4 v))) := rfl
theorem mO_p5 {H : Heap} {i : Nat} {m : Msg} {v : Int} : pcV H i 5 [.int .i64 v] (some (mO m)) = some (H.set i (mO (m.set 5 v))) := rfl
theorem mO_p6 {H : Heap} {i : Nat} {m : Msg} {v : Int} : pcV H i 6 [.int .i64 v] (some (mO m)) = some (H.set i (mO (m.set 6 v))) := rfl
theorem mO_p7 {H : Heap} {i : Nat} {m : Msg} {v : Int} : pcV H i 7 [.int .i64 v] (some (mO m)) = some (H.set i (mO (m.set 7 v))) := rfl
theorem mO_p8 {H : Heap} {i : Nat} {m : Msg} {v : Int} : pcV H i 8 [.int .i64 v] (some (mO m)) = some (H.set i (mO (m.set 8 v))) := rfl
theorem mO_p9 {H : Heap} {i : Nat} {m : Msg} {v : Int} : pcV H i 9 [.int .i64 v] (some (mO m)) = some (H.set i (mO (m.set 9 v))) := rfl
theorem mO_p10 {H : Heap} {i : Nat} {m : Msg} {v : Int} : pcV H i 10 [.int .i64 v] (some (mO m)) = some (H.set i (mO (m.set 10 v))) := rfl
theorem mO_p11 {H : Heap} {i : Nat} {m : Msg} {v : Int} : pcV H i 11 [.int .i64 v] (some (mO m)) = some (H.set i (mO (m.set 11 v))) := rfl
theorem mO_p12 {H : Heap} {i : Nat} {m : Msg} {v : Int} : pcV H i 12 [.int .i64 v] (some (mO m)) = some (H.set i (mO (m.set 12 v))) := rfl
theorem mO_p13 {H : Heap} {i : Nat} {m : Msg} {v : Int} : pcV H i 13 [.int .i64 v] (some (mO m)) = some (H.set i (mO (m.set 13 v))) := rfl
theorem mO_p14 {H : Heap} {i : Nat} {m : Msg} {v : Int} : pcV H i 14 [.int .i64 v] (some (mO m)) = some (H.set i (mO (m.set 14 v))) := rfl
theorem mO_p15 {H : Heap} {i : Nat} {m : Msg} {v : Int} : pcV H i 15 [.int .i64 v] (some (mO m)) = some (H.set i (mO (m.set 15 v))) := rfl
theorem mO_p16 {H : Heap} {i : Nat} {m : Msg} {v : Int} : pcV H i 16 [.int .i64 v] (some (mO m)) = some (H.set i (mO (m.set 16 v))) := rfl
theorem mO_p17 {H : Heap} {i : Nat} {m : Msg} {v : Int} : pcV H i 17 [.int .i64 v] (some (mO m)) = some (H.set i (mO (m.set 17 v))) := rfl
theorem mO_p18 {H : Heap} {i : Nat} {m : Msg} {v : Int} : pcV H i 18 [.int .i64 v] (some (mO m)) = some (H.set i (mO (m.set 18 v))) := rfl
theorem mO_p19 {H : Heap} {i : Nat} {m : Msg} {v : Int} : pcV H i 19 [.int .i64 v] (some (mO m)) = some (H.set i (mO (m.set 19 v))) := rfl
theorem mO_p20 {H : Heap} {i : Nat} {m : Msg} {v : Int} : pcV H i 20 [.int .i64 v] (some (mO m)) = some (H.set i (mO (m.set 20 v))) := rfl
theorem mO_p21 {H : Heap} {i : Nat} {m : Msg} {v : Int} : pcV H i 21 [.int .i64 v] (some (mO m)) = some (H.set i (mO (m.set 21 v))) := rfl
theorem mO_p22 {H : Heap} {i : Nat} {m : Msg} {v : Int} : pcV H i 22 [.int .i64 v] (some (mO m)) = some (H.set i (mO (m.set 22 v))) := rfl
theorem mO_p23 {H : Heap} {i : Nat} {m : Msg} {v : Int} : pcV H i 23 [.int .i64 v] (some (mO m)) = some (H.set i (mO (m.set 23 v))) := rfl
theorem mO_p24 {H : Heap} {i : Nat} {m : Msg} {v : Int} : pcV H i 24 [.int .i64 v] (some (mO m)) = some (H.set i (mO (m.set 24 v))) := rfl
theorem mO_p25 {H : Heap} {i : Nat} {m : Msg} {v : Int} : pcV H i 25 [.int .i64 v] (some (mO m)) = some (H.set i (mO (m.set 25 v))) := rfl
theorem mO_p3 {H : Heap} {i : Nat} {m : Msg} {s : ByteArray} : pcV H i 3 [.string s] (some (mO m)) = some (H.set i (mO (m.setPan s))) := rfl
theorem mO_q5 {H : Heap} {i : Nat} {m : Msg} {a b c d : Int} : pcV H i 5 [.int .i64 a, .int .i64 b, .int .i64 c, .int .i64 d] (some (mO m)) = some (H.set i (mO (m.set4 5 a b c d))) := rfl
theorem mO_q9 {H : Heap} {i : Nat} {m : Msg} {a b c d : Int} : pcV H i 9 [.int .i64 a, .int .i64 b, .int .i64 c, .int .i64 d] (some (mO m)) = some (H.set i (mO (m.set4 9 a b c d))) := rfl
theorem mO_q13 {H : Heap} {i : Nat} {m : Msg} {a b c d : Int} : pcV H i 13 [.int .i64 a, .int .i64 b, .int .i64 c, .int .i64 d] (some (mO m)) = some (H.set i (mO (m.set4 13 a b c d))) := rfl
theorem mO_q17 {H : Heap} {i : Nat} {m : Msg} {a b c d : Int} : pcV H i 17 [.int .i64 a, .int .i64 b, .int .i64 c, .int .i64 d] (some (mO m)) = some (H.set i (mO (m.set4 17 a b c d))) := rfl
theorem mO_q22 {H : Heap} {i : Nat} {m : Msg} {a b c d : Int} : pcV H i 22 [.int .i64 a, .int .i64 b, .int .i64 c, .int .i64 d] (some (mO m)) = some (H.set i (mO (m.set4 22 a b c d))) := rfl
theorem set_all (m x : Msg) : setCells m.cells 0 x.cells = x.cells := by
  unfold Msg.cells
  simp only [setCells, List.set_cons_zero, List.set_cons_succ, Nat.reduceAdd]
theorem mO_pAll {H : Heap} {i : Nat} {m x : Msg} : pcV H i 0 x.cells (some (mO m)) = some (H.set i (mO x)) := by
  unfold mO
  rw [pcV_cells, if_pos ⟨Nat.le_refl _, rfl⟩, set_all]
theorem cells_all_ok {x : Msg} : x.cells.all cellOk = true := rfl
theorem mO_alloc {e : Operand → Value} {H : Heap} {d : Option Tmp} {ty : TypeId} {pos : String} {af : Array Edge} {g : Option (Nat × Bool)} : aop Tryd.prog e ⟨d, .alloc 27, ty, pos, af, g⟩ H = some (.val (.pointer (some ⟨H.next, 0, none⟩)) (H.push (mO .zero))) := al_27
theorem mO_allocD {e : Operand → Value} {d : Option Tmp} {ty : TypeId} {pos : String} {af : Array Edge} {g : Option (Nat × Bool)} {j : Nat} : allocB Tryd.prog e ⟨d, .alloc 27, ty, pos, af, g⟩ j = some (.pointer (some ⟨j, 0, none⟩), mO .zero) := ad_27
theorem ba_beq {a b : ByteArray} : (a == b) = true ↔ a = b := by
  constructor
  · intro h
    obtain ⟨x⟩ := a; obtain ⟨y⟩ := b
    have : (x == y) = true := h
    rw [eq_of_beq this]
  · rintro rfl
    obtain ⟨x⟩ := a
    show (x == x) = true
    exact beq_self_eq_true x
/-- Are two messages the same? -/
def Msg.same (m x : Msg) : Bool := (m.c 0 == x.c 0) && ((m.c 1 == x.c 1) && ((m.c 2 == x.c 2) && ((m.pan == x.pan) && ((m.c 4 == x.c 4) && (((m.c 5 == x.c 5) && ((m.c 6 == x.c 6) && ((m.c 7 == x.c 7) && ((m.c 8 == x.c 8) && true)))) && (((m.c 9 == x.c 9) && ((m.c 10 == x.c 10) && ((m.c 11 == x.c 11) && ((m.c 12 == x.c 12) && true)))) && (((m.c 13 == x.c 13) && ((m.c 14 == x.c 14) && ((m.c 15 == x.c 15) && ((m.c 16 == x.c 16) && true)))) && (((m.c 17 == x.c 17) && ((m.c 18 == x.c 18) && ((m.c 19 == x.c 19) && ((m.c 20 == x.c 20) && true)))) && ((m.c 21 == x.c 21) && (((m.c 22 == x.c 22) && ((m.c 23 == x.c 23) && ((m.c 24 == x.c 24) && ((m.c 25 == x.c 25) && true)))) && true))))))))))
theorem mO_eq {H : Heap} {a b : Operand} {m x : Msg} : binV Tryd.prog H .eql 27 a b (.agg m.cells.toArray) (.agg x.cells.toArray) = some (.val (.bool (m.same x)) H) := be_27
theorem mO_ne {H : Heap} {a b : Operand} {m x : Msg} : binV Tryd.prog H .neq 27 a b (.agg m.cells.toArray) (.agg x.cells.toArray) = some (.val (.bool (!(m.same x))) H) := bn_27
theorem same_iff {m x : Msg} : m.same x = true ↔ m.pan = x.pan ∧ ∀ j, j < 26 → j ≠ 3 → m.c j = x.c j := by
  unfold Msg.same
  simp only [Bool.and_eq_true, ba_beq, beq_iff_eq, and_true]
  constructor
  · rintro ⟨h0, h1, h2, h3, h4, ⟨h5, h6, h7, h8⟩, ⟨h9, h10, h11, h12⟩, ⟨h13, h14, h15, h16⟩, ⟨h17, h18, h19, h20⟩, h21, ⟨h22, h23, h24, h25⟩⟩
    refine ⟨h3, fun j h1 h2 => ?_⟩
    have : j = 0 ∨ j = 1 ∨ j = 2 ∨ j = 4 ∨ j = 5 ∨ j = 6 ∨ j = 7 ∨ j = 8 ∨ j = 9 ∨ j = 10 ∨ j = 11 ∨ j = 12 ∨ j = 13 ∨ j = 14 ∨ j = 15 ∨ j = 16 ∨ j = 17 ∨ j = 18 ∨ j = 19 ∨ j = 20 ∨ j = 21 ∨ j = 22 ∨ j = 23 ∨ j = 24 ∨ j = 25 := by omega
    rcases this with rfl | rfl | rfl | rfl | rfl | rfl | rfl | rfl | rfl | rfl | rfl | rfl | rfl | rfl | rfl | rfl | rfl | rfl | rfl | rfl | rfl | rfl | rfl | rfl | rfl <;> assumption
  · rintro ⟨hp, h⟩
    exact ⟨h 0 (by decide) (by decide), h 1 (by decide) (by decide), h 2 (by decide) (by decide), hp, h 4 (by decide) (by decide), ⟨h 5 (by decide) (by decide), h 6 (by decide) (by decide), h 7 (by decide) (by decide), h 8 (by decide) (by decide)⟩, ⟨h 9 (by decide) (by decide), h 10 (by decide) (by decide), h 11 (by decide) (by decide), h 12 (by decide) (by decide)⟩, ⟨h 13 (by decide) (by decide), h 14 (by decide) (by decide), h 15 (by decide) (by decide), h 16 (by decide) (by decide)⟩, ⟨h 17 (by decide) (by decide), h 18 (by decide) (by decide), h 19 (by decide) (by decide), h 20 (by decide) (by decide)⟩, h 21 (by decide) (by decide), ⟨h 22 (by decide) (by decide), h 23 (by decide) (by decide), h 24 (by decide) (by decide), h 25 (by decide) (by decide)⟩⟩
theorem same_cells {m x : Msg} (h : m.same x = true) : m.cells = x.cells := by
  obtain ⟨h1, h2⟩ := same_iff.mp h
  unfold Msg.cells
  rw [h1, h2 0 (by decide) (by decide), h2 1 (by decide) (by decide), h2 2 (by decide) (by decide), h2 4 (by decide) (by decide), h2 5 (by decide) (by decide), h2 6 (by decide) (by decide), h2 7 (by decide) (by decide), h2 8 (by decide) (by decide), h2 9 (by decide) (by decide), h2 10 (by decide) (by decide), h2 11 (by decide) (by decide), h2 12 (by decide) (by decide), h2 13 (by decide) (by decide), h2 14 (by decide) (by decide), h2 15 (by decide) (by decide), h2 16 (by decide) (by decide), h2 17 (by decide) (by decide), h2 18 (by decide) (by decide), h2 19 (by decide) (by decide), h2 20 (by decide) (by decide), h2 21 (by decide) (by decide), h2 22 (by decide) (by decide), h2 23 (by decide) (by decide), h2 24 (by decide) (by decide), h2 25 (by decide) (by decide)]
theorem vs_cells {m : Msg} : isVs m.cells = True := eq_true (by unfold Msg.cells; simp only [isVs_int', isVs_string', isVs_nil])
theorem MX : type_of% (And.intro (@vs_cells) (And.intro (@mO_all) (And.intro (@cells_toList) (And.intro (@cells_size) (And.intro (@setPan_c) (And.intro (@setPan_pan) (And.intro (@set_pan) (And.intro (@set4_pan) (And.intro (@set_eq) (And.intro (@mO_g0) (And.intro (@mO_g1) (And.intro (@mO_g2) (And.intro (@mO_g3) (And.intro (@mO_g4) (And.intro (@mO_g21) (And.intro (@mO_g5) (And.intro (@mO_g9) (And.intro (@mO_g13) (And.intro (@mO_g17) (And.intro (@mO_g22) (And.intro (@mO_p0) (And.intro (@mO_p1) (And.intro (@mO_p2) (And.intro (@mO_p4) (And.intro (@mO_p21) (And.intro (@mO_p3) (And.intro (@mO_q5) (And.intro (@mO_q9) (And.intro (@mO_q13) (And.intro (@mO_q17) (And.intro (@mO_q22) (And.intro (@mO_pAll) (And.intro (@mO_alloc) (And.intro (@mO_allocD) (And.intro (@mO_def) (And.intro (@mO_eq) (@mO_ne))))))))))))))))))))))))))))))))))))) := And.intro (@vs_cells) (And.intro (@mO_all) (And.intro (@cells_toList) (And.intro (@cells_size) (And.intro (@setPan_c) (And.intro (@setPan_pan) (And.intro (@set_pan) (And.intro (@set4_pan) (And.intro (@set_eq) (And.intro (@mO_g0) (And.intro (@mO_g1) (And.intro (@mO_g2) (And.intro (@mO_g3) (And.intro (@mO_g4) (And.intro (@mO_g21) (And.intro (@mO_g5) (And.intro (@mO_g9) (And.intro (@mO_g13) (And.intro (@mO_g17) (And.intro (@mO_g22) (And.intro (@mO_p0) (And.intro (@mO_p1) (And.intro (@mO_p2) (And.intro (@mO_p4) (And.intro (@mO_p21) (And.intro (@mO_p3) (And.intro (@mO_q5) (And.intro (@mO_q9) (And.intro (@mO_q13) (And.intro (@mO_q17) (And.intro (@mO_q22) (And.intro (@mO_pAll) (And.intro (@mO_alloc) (And.intro (@mO_allocD) (And.intro (@mO_def) (And.intro (@mO_eq) (@mO_ne))))))))))))))))))))))))))))))))))))
end Go.B.YteigefgobkdmgaaDoor
