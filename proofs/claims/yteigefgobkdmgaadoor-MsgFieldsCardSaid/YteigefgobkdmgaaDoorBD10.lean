import Derived.Test.YteigefgobkdmgaaDoorBD9
/- A message's bytes, as the code tells them. -/
namespace Go.B.YteigefgobkdmgaaDoor
open Go Go.B Go.Proofs
set_option maxRecDepth 100000
set_option maxHeartbeats 16000000
set_option linter.unusedSimpArgs false
set_option linter.unusedVariables false
/-- Which cells a kind's parts are. -/
def slots (k : Int) : List Nat := if k = 1 then [1, 2, 3, 4] else if k = 2 then [1, 2, 5, 6, 7, 8, 9, 10, 11, 12] else if k = 3 then [1] else if k = 4 then [1, 2, 5, 6, 7, 8, 9, 10, 11, 12, 13, 14, 15, 16, 17, 18, 19, 20, 21, 22, 23, 24, 25] else if k = 5 then [1, 2, 4, 5, 6, 7, 8] else if k = 6 then [1, 2] else if k = 7 then [1, 2] else []
def Msg.text (m : Msg) (j : Nat) : ByteArray := if j = 3 then m.pan else txt (m.c j)
def Msg.texts (m : Msg) : List ByteArray := kindS (m.c 0) :: (slots (m.c 0)).map m.text
def Msg.bytes (m : Msg) : List UInt8 := jn (m.texts.map U)
structure Msg.wf (m : Msg) : Prop where
  pan : m.pan.size ≤ maxLen
  term : 0 ≤ m.c 1 ∧ m.c 1 < 65536
  stan : 0 ≤ m.c 2 ∧ m.c 2 < 4294967296
/-- What a message's bytes are, or that it is refused. -/
def PutR (m : Msg) (H : Heap) (v : Value) (H' : Heap) : Prop :=
  (m.right = false → v = .tuple #[.slice none 0 0, .int .i64 27]) ∧ (m.right = true → ∃ i, H.next ≤ i ∧ v = .tuple #[.slice (some ⟨i, 0, none⟩) m.bytes.length capU, .int .i64 0] ∧ H'.get i = some (.cells (bytesV m.bytes) 5 false)) ∧ Same H H' []
theorem within_iff {most : Int} {n : N4} : n.within most = true ↔ (0 ≤ n.a ∧ n.a ≤ most) ∧ (0 ≤ n.b ∧ n.b ≤ most) ∧ (0 ≤ n.c ∧ n.c ≤ most) ∧ (0 ≤ n.d ∧ n.d ≤ most) := by unfold N4.within; simp
theorem right_n4 {m : Msg} (h : m.right = true) {i : Nat} (hi : i < 5) : (m.n4 (grp i)).wf := by
  have h5 := ((right_iff m).mp h).2.2.2.2 i hi
  have hm : mostG i ≤ 2147483647 := by unfold mostG; split <;> omega
  obtain ⟨a, b, c, d⟩ := within_iff.mp h5
  unfold N4.wf i64
  omega
theorem digs_plain {s : ByteArray} (h : digs s = true) : (28 : UInt8) ∉ U s := fun hm => by
  have := List.all_eq_true.mp h _ hm
  exact absurd this (by decide)
theorem kindS_plain (k : Int) : (28 : UInt8) ∉ U (kindS k) := by
  show (28 : UInt8) ∉ kindL k
  unfold kindL
  repeat' split
  all_goals decide
theorem itoa_plain (v : Int) : (28 : UInt8) ∉ U (txt v) := by
  show (28 : UInt8) ∉ Lib.itoa v
  unfold Lib.itoa
  split
  · intro h
    rcases List.mem_cons.mp h with h | h
    · exact absurd h (by decide)
    · exact dec_plain _ h
  · exact dec_plain _
theorem itoa_len {v : Int} (h : i64 v) : (U (txt v)).length ≤ 20 := by
  show (Lib.itoa v).length ≤ 20
  obtain ⟨h0, h1⟩ := h
  have h : ∀ n : Nat, n ≤ 9223372036854775808 → (Lib.decDigits n).length ≤ 19 := fun n hn => dec_len_le 19 n (by decide) (by omega)
  unfold Lib.itoa
  split
  · rw [List.length_cons]; have := h v.natAbs (by omega); omega
  · have := h v.toNat (by omega); omega
theorem jn_len (L : List (List UInt8)) (b : Nat) (h : ∀ a ∈ L, a.length ≤ b) : (jn L).length ≤ L.length * (b + 1) := by
  induction L with
  | nil => simp [jn]
  | cons x r ih =>
    cases r with
    | nil => have := h x (by simp); simp [jn]; omega
    | cons y r =>
      rw [jn_cons2, List.length_append, List.length_cons]
      have h1 := h x (by simp)
      have h2 := ih (fun a ha => h a (by simp at ha ⊢; exact .inr ha))
      rw [List.length_cons, Nat.succ_mul]
      omega
theorem slots_length (k : Int) : (slots k).length ≤ 23 := by
  unfold slots
  repeat' split
  all_goals decide
theorem right_i64 {m : Msg} (h : m.right = true) (hw : m.wf) {j : Nat} (hj : j < 26) (h3 : j ≠ 3) : i64 (m.c j) := by
  have hr := (right_iff m).mp h
  have h0 := right_n4 h (i := 0) (by decide)
  have h1 := right_n4 h (i := 1) (by decide)
  have h2 := right_n4 h (i := 2) (by decide)
  have h3' := right_n4 h (i := 3) (by decide)
  have h4 := right_n4 h (i := 4) (by decide)
  obtain ⟨a0, b0, c0, d0⟩ := h0
  obtain ⟨a1, b1, c1, d1⟩ := h1
  obtain ⟨a2, b2, c2, d2⟩ := h2
  obtain ⟨a3, b3, c3, d3⟩ := h3'
  obtain ⟨a4, b4, c4, d4⟩ := h4
  have k0 : i64 (m.c 0) := by unfold i64; omega
  have k1 : i64 (m.c 1) := by have := hw.term; unfold i64; omega
  have k2 : i64 (m.c 2) := by have := hw.stan; unfold i64; omega
  have k4 : i64 (m.c 4) := by unfold i64; omega
  have k21 : i64 (m.c 21) := by unfold i64; omega
  have : j = 0 ∨ j = 1 ∨ j = 2 ∨ j = 4 ∨ j = 5 ∨ j = 6 ∨ j = 7 ∨ j = 8 ∨ j = 9 ∨ j = 10 ∨ j = 11 ∨ j = 12 ∨ j = 13 ∨ j = 14 ∨ j = 15 ∨ j = 16 ∨ j = 17 ∨ j = 18 ∨ j = 19 ∨ j = 20 ∨ j = 21 ∨ j = 22 ∨ j = 23 ∨ j = 24 ∨ j = 25 := by omega
  rcases this with rfl | rfl | rfl | rfl | rfl | rfl | rfl | rfl | rfl | rfl | rfl | rfl | rfl | rfl | rfl | rfl | rfl | rfl | rfl | rfl | rfl | rfl | rfl | rfl | rfl <;> assumption
theorem slots_lt (k : Int) : ∀ j ∈ slots k, j < 26 := by
  unfold slots
  repeat' split
  all_goals decide
/-- What is asked of the parts. -/
theorem texts_ok {m : Msg} (h : m.right = true) (hw : m.wf) : (∀ s ∈ m.texts, (28 : UInt8) ∉ U s) ∧ m.texts.length ≤ 1000 ∧ (jn (m.texts.map U)).length ≤ 100000 := by
  have hr := (right_iff m).mp h
  have hpan : (28 : UInt8) ∉ U m.pan ∧ (U m.pan).length ≤ 20 := by
    rcases hr.2.2.2.1 with ⟨_, hp⟩ | ⟨_, hp⟩
    · unfold panOk at hp
      simp only [Bool.and_eq_true, decide_eq_true_eq] at hp
      refine ⟨digs_plain hp.2.2, ?_⟩
      rw [← U_size]; omega
    · rw [hp]; simp [U_S]
  have hlen : m.texts.length ≤ 24 := by
    unfold Msg.texts
    rw [List.length_cons, List.length_map]
    have := slots_length (m.c 0)
    omega
  refine ⟨?_, by omega, ?_⟩
  · intro s hs
    unfold Msg.texts at hs
    rcases List.mem_cons.mp hs with rfl | hs
    · exact kindS_plain _
    · obtain ⟨j, hj, rfl⟩ := List.mem_map.mp hs
      unfold Msg.text
      split
      · exact hpan.1
      · exact itoa_plain _
  · have := jn_len (m.texts.map U) 20 (by
      intro a ha
      obtain ⟨s, hs, rfl⟩ := List.mem_map.mp ha
      unfold Msg.texts at hs
      rcases List.mem_cons.mp hs with rfl | hs
      · show (kindL _).length ≤ 20
        unfold kindL
        repeat' split
        all_goals decide
      · obtain ⟨j, hj, rfl⟩ := List.mem_map.mp hs
        unfold Msg.text
        split
        · exact hpan.2
        · rename_i h3
          exact itoa_len (right_i64 h hw (slots_lt _ j hj) h3))
    rw [List.length_map] at this
    have h24 := Nat.mul_le_mul_right (20 + 1) hlen
    omega
end Go.B.YteigefgobkdmgaaDoor
