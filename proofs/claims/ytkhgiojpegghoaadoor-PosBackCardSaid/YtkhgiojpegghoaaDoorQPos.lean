import Derived.Test.YtkhgiojpegghoaaDoorQRefDig
import Derived.Test.YtkhgiojpegghoaaDoorQUnframe
import Derived.Test.YtkhgiojpegghoaaDoorPAllx2
import Derived.Test.YtkhgiojpegghoaaDoorPAllx2
import Derived.Test.YtkhgiojpegghoaaDoorPAllx3
import Derived.Test.YtkhgiojpegghoaaDoorPAllx3
import Derived.Test.YtkhgiojpegghoaaDoorPAllx3
import Derived.Test.YtkhgiojpegghoaaDoorPAllx4
import Derived.Test.YtkhgiojpegghoaaDoorPAllx5
import Derived.Test.YtkhgiojpegghoaaDoorPAllx6
import Derived.Test.YtkhgiojpegghoaaDoorPAllx7
import Derived.Test.YtkhgiojpegghoaaDoorPAllx5
/- Shops' requests: what the program's and the reference's functions compute, in plain lists. -/
namespace Go.Proofs.YtkhgiojpegghoaaDoor.Q
open Go.RowKit Go.Proofs.YtkhgiojpegghoaaDoorW.PrintWords Go.Proofs.YtkhgiojpegghoaaDoorW.PrintMore Go.Proofs.YtkhgiojpegghoaaDoor.PAll
set_option linter.unusedVariables false
set_option linter.unusedSimpArgs false

abbrev ints (l : List UInt8) : List Int := l.map fun c => (c.toNat : Int)
theorem str_ints (l : List UInt8) : strOfNums (ints l) = S l := by
  unfold strOfNums
  rw [List.map_map]
  have : ((fun n : Int => UInt8.ofNat n.toNat) ∘ fun c : UInt8 => (c.toNat : Int)) = id := funext fun c => by simp
  rw [this, List.map_id]
theorem bytes_S (l : List UInt8) : bytesOf (S l) = ints l := by simp [bytesOf]
theorem ints_of {l : List Int} (h : ∀ c ∈ l, U8 c) : ∃ X : List UInt8, l = ints X := by
  refine ⟨l.map fun n => UInt8.ofNat n.toNat, ?_⟩
  unfold ints
  rw [List.map_map]
  refine (List.map_id l).symm.trans (List.map_congr_left fun c hc => ?_)
  have := h c hc
  unfold U8 at this
  simp only [Function.comp, id, UInt8.toNat_ofNat']
  omega
theorem ints_u8 (X : List UInt8) : ∀ c ∈ ints X, U8 c := by
  intro c hc
  obtain ⟨x, _, rfl⟩ := List.mem_map.1 hc
  unfold U8
  have := x.toNat_lt
  omega

/-! ### what un tells of any text -/
theorem un_mem {P : Int → Prop} : ∀ (l : List Int) (cur : Option (List Int)) (n : Nat), (∀ c ∈ l, P c) → (∀ x, cur = some x → ∀ c ∈ x, P c) → ∀ c ∈ (un l cur n).1, P c
  | [], cur, n, _, _, c, hc => by simp [un] at hc
  | a :: t, cur, n, hl, hx, c, hc => by
    have ht : ∀ c ∈ t, P c := fun c hc => hl c (by simp [hc])
    have hn : ∀ x : List Int, (none : Option (List Int)) = some x → ∀ c ∈ x, P c := fun x h => by cases h
    unfold un at hc
    split at hc
    · exact un_mem t (some []) (n + 1) ht (fun x h => by cases h; intro c hc; cases hc) c hc
    · split at hc
      · split at hc
        · exact un_mem t none (n + 1) ht hn c hc
        · rename_i x
          split at hc
          · exact hx x rfl c hc
          · exact un_mem t none (n + 1) ht hn c hc
      · refine un_mem t _ (n + 1) ht (fun x h => ?_) c hc
        cases cur with
        | none => cases h
        | some y =>
          cases h
          intro c hc
          rw [List.mem_append, List.mem_singleton] at hc
          rcases hc with hc | rfl
          · exact hx y rfl c hc
          · exact hl c (by simp)
theorem un_len : ∀ (l : List Int) (cur : Option (List Int)) (n : Nat), (un l cur n).1.length ≤ 500
  | [], cur, n => by simp [un]
  | a :: t, cur, n => by
    unfold un
    split
    · exact un_len t _ _
    · split
      · split
        · exact un_len t _ _
        · split
          · rename_i h; exact h.1
          · exact un_len t _ _
      · exact un_len t _ _
theorem un_none : ∀ (l : List Int) (cur : Option (List Int)) (n : Nat), (un l cur n).2.2 = false → (un l cur n).2.1 = 0
  | [], cur, n, _ => by simp [un]
  | a :: t, cur, n, h => by
    unfold un at h ⊢
    split at h
    · rename_i h1; rw [if_pos h1]; exact un_none t _ _ h
    · rename_i h1
      rw [if_neg h1]
      split at h
      · rename_i h2
        rw [if_pos h2]
        split at h
        · exact un_none t _ _ h
        · rename_i x
          split at h
          · cases h
          · rename_i h3
            simp only [if_neg h3]
            exact un_none t _ _ h
      · rename_i h2; rw [if_neg h2]; exact un_none t _ _ h

/-! ### may a request be? -/
theorem frame_digits_l0 (l : List UInt8) (hl : l.length ≤ 140737488355328) (d : Nat) : ∀ i : Nat, l.length - i = d → i ≤ l.length → Ev (fun k => frame_Digits.l0 k (S l) (l.length : Int) (i : Int)) (decide (AllDig (l.drop i))) := by
  induction d with
  | zero =>
    intro i hd hi
    have e : l.drop i = [] := List.drop_eq_nil_of_le (by omega)
    rw [e]
    exact Ev.step (f := fun _ => some true) (fun k => by simp only [frame_Digits.l0]; rw [if_neg (by omega)]) (Ev.now _)
  | succ d ih =>
    intro i hd hi
    have hlt : i < l.length := by omega
    rw [List.drop_eq_getElem_cons hlt]
    refine Ev.step (f := fun k => if (l[i].toNat : Int) < 48 then some false else if (l[i].toNat : Int) > 57 then some false else frame_Digits.l0 k (S l) (l.length : Int) ((i + 1 : Nat) : Int)) (fun k => ?_) ?_
    · simp only [frame_Digits.l0]
      rw [if_pos (by omega), if_pos (by omega), if_pos (by rw [S_size]; omega), bt_lt hlt, wrap_succ hlt hl]
    by_cases h : IsDig l[i]
    · have h' := h
      unfold IsDig at h'
      rw [show decide (AllDig (l[i] :: l.drop (i + 1))) = decide (AllDig (l.drop (i + 1))) from by rw [decide_eq_decide, AllDig.cons]; simp [h]]
      exact Ev.ite_neg (by omega) (Ev.ite_neg (by omega) (ih (i + 1) (by omega) (by omega)))
    · rw [show decide (AllDig (l[i] :: l.drop (i + 1))) = false from by rw [decide_eq_false_iff_not, AllDig.cons]; exact fun h' => h h'.1]
      unfold IsDig at h
      by_cases h1 : (l[i].toNat : Int) < 48
      · exact Ev.ite_pos h1 (Ev.now _)
      · exact Ev.ite_neg h1 (Ev.ite_pos (by omega) (Ev.now _))
theorem frame_digits (l : List UInt8) (hl : l.length ≤ 140737488355328) : Ev (fun k => frame_Digits.f k (S l)) (decide (AllDig l)) := by
  unfold frame_Digits.f
  rw [S_size]
  exact frame_digits_l0 l hl _ 0 rfl (by omega)
def RightP (s : Int) (p : List UInt8) (a : Int) : Prop := s ≤ 999999 ∧ 1 ≤ p.length ∧ p.length ≤ 19 ∧ AllDig p ∧ 1 ≤ a ∧ a ≤ 1000000
instance (s : Int) (p : List UInt8) (a : Int) : Decidable (RightP s p a) := by unfold RightP; infer_instance
theorem pos_right (t s : Int) (p : List UInt8) (a : Int) (hp : p.length ≤ 140737488355328) : Ev (fun k => pos_Right.f k t s (S p) a) (decide (RightP s p a)) := by
  unfold pos_Right.f
  rw [S_size]
  by_cases h1 : s ≤ 999999
  case neg => rw [decide_eq_false (fun h : RightP s p a => h1 h.1)]; exact Ev.ite_neg h1 (Ev.now _)
  refine Ev.ite_pos h1 ?_
  by_cases h2 : 1 ≤ p.length
  case neg => rw [decide_eq_false (fun h : RightP s p a => h2 h.2.1)]; exact Ev.ite_neg (by omega) (Ev.now _)
  refine Ev.ite_pos (by omega) ?_
  by_cases h3 : p.length ≤ 19
  case neg => rw [decide_eq_false (fun h : RightP s p a => h3 h.2.2.1)]; exact Ev.ite_neg (by omega) (Ev.now _)
  refine Ev.ite_pos (by omega) ?_
  refine Ev.bind (frame_digits p hp) ?_
  by_cases h4 : AllDig p
  case neg => rw [decide_eq_false (fun h : RightP s p a => h4 h.2.2.2.1)]; exact Ev.ite_neg (by simpa using h4) (Ev.now _)
  refine Ev.ite_pos (by simpa using h4) ?_
  by_cases h5 : a ≥ 1
  case neg => rw [decide_eq_false (fun h : RightP s p a => h5 h.2.2.2.2.1)]; exact Ev.ite_neg h5 (Ev.now _)
  refine Ev.ite_pos h5 ?_
  rw [show decide (RightP s p a) = decide (a ≤ 1000000) from by rw [decide_eq_decide]; exact ⟨fun h => h.2.2.2.2.2, fun h => ⟨h1, h2, h3, h4, h5, h⟩⟩]
  exact Ev.now _
theorem ref_pan (p : List UInt8) (hp : p.length ≤ 140737488355328) : Ev (fun k => guichetref1_Pan.f k (S p)) (decide (1 ≤ p.length ∧ p.length ≤ 19 ∧ AllDig p)) := by
  unfold guichetref1_Pan.f
  rw [S_size]
  by_cases h2 : 1 ≤ p.length
  case neg => rw [decide_eq_false (fun h : 1 ≤ p.length ∧ p.length ≤ 19 ∧ AllDig p => h2 h.1)]; exact Ev.ite_neg (by omega) (Ev.now _)
  refine Ev.ite_pos (by omega) ?_
  by_cases h3 : p.length ≤ 19
  case neg => rw [decide_eq_false (fun h : 1 ≤ p.length ∧ p.length ≤ 19 ∧ AllDig p => h3 h.2.1)]; exact Ev.ite_neg (by omega) (Ev.now _)
  refine Ev.ite_pos (by omega) ?_
  refine Ev.bind (ref_alldigits p hp) ?_
  rw [show decide (1 ≤ p.length ∧ p.length ≤ 19 ∧ AllDig p) = decide (AllDig p) from by rw [decide_eq_decide]; exact ⟨fun h => h.2.2, fun h => ⟨h2, h3, h⟩⟩]
  exact Ev.now _
theorem ref_right (t s : Int) (p : List UInt8) (a : Int) (hp : p.length ≤ 140737488355328) : Ev (fun k => guichetref12_PosRight.f k t s (S p) a) (decide (RightP s p a)) := by
  unfold guichetref12_PosRight.f
  by_cases h1 : s ≤ 999999
  case neg => rw [decide_eq_false (fun h : RightP s p a => h1 h.1)]; exact Ev.ite_neg h1 (Ev.now _)
  refine Ev.ite_pos h1 ?_
  refine Ev.bind (ref_pan p hp) ?_
  by_cases h2 : 1 ≤ p.length ∧ p.length ≤ 19 ∧ AllDig p
  case neg => rw [decide_eq_false (fun h : RightP s p a => h2 ⟨h.2.1, h.2.2.1, h.2.2.2.1⟩)]; exact Ev.ite_neg (by simpa using h2) (Ev.now _)
  refine Ev.ite_pos (by simpa using h2) ?_
  by_cases h5 : a ≥ 1
  case neg => rw [decide_eq_false (fun h : RightP s p a => h5 h.2.2.2.2.1)]; exact Ev.ite_neg h5 (Ev.now _)
  refine Ev.ite_pos h5 ?_
  rw [show decide (RightP s p a) = decide (a ≤ 1000000) from by rw [decide_eq_decide]; exact ⟨fun h => h.2.2.2.2.2, fun h => ⟨h1, h2.1, h2.2.1, h2.2.2, h5, h⟩⟩]
  exact Ev.now _

/-! ### its text -/
def textP (t s : Nat) (p : List UInt8) (a : Nat) : List UInt8 := 80 :: (digN 5 t ++ digN 6 s ++ digN 12 a ++ p)
theorem textP_len (t s : Nat) (p : List UInt8) (a : Nat) : (textP t s p a).length = 24 + p.length := by simp [textP, digN_length]; omega
theorem wr64 {n : Nat} (h : n ≤ 1000000) : wrap64 (n : Int) = (n : Int) ∧ (Lit.int .i64 (n : Int)).wf = true := ⟨by unfold wrap64; omega, by simp [Lit.wf, IntKind.min, IntKind.max, IntKind.bits, IntKind.signed]; omega⟩
theorem digR_ok {n m : Nat} (h1 : 1 ≤ m) (h2 : m ≤ 18) (h : n < 10 ^ m) : digR (n : Int) (m : Int) = (S (digN m n), true) := by rw [digR_nat n m h1 h2, if_pos h]
theorem text_join (t s : Nat) (p : List UInt8) (a : Nat) : (⟨#[80]⟩ : ByteArray) ++ S (digN 5 t) ++ S (digN 6 s) ++ S (digN 12 a) ++ S p = S (textP t s p a) := by
  have e : (⟨#[80]⟩ : ByteArray) = S [80] := rfl
  rw [e, S_append, S_append, S_append, S_append]
  congr 2
theorem pos_text_eq {t s a : Nat} {p : List UInt8} (ht : t ≤ 65535) (hs : s ≤ 999999) (ha : a ≤ 1000000) (hp : p.length ≤ 19) : pos_text.f (t : Int) (s : Int) (S p) (a : Int) = some (S (textP t s p a)) := by
  have e : (⟨#[80]⟩ : ByteArray) = S [80] := rfl
  unfold pos_text.f
  rw [(wr64 (show t ≤ 1000000 by omega)).1, (wr64 (show s ≤ 1000000 by omega)).1, bcd_Digits_eq _ _ (wr64 (show t ≤ 1000000 by omega)).2, bcd_Digits_eq _ _ (wr64 (show s ≤ 1000000 by omega)).2, bcd_Digits_eq _ _ (wr64 ha).2]
  rw [show digR (t : Int) 5 = (S (digN 5 t), true) from digR_ok (m := 5) (by decide) (by decide) (Nat.lt_of_le_of_lt ht (by decide)), show digR (s : Int) 6 = (S (digN 6 s), true) from digR_ok (m := 6) (by decide) (by decide) (Nat.lt_of_le_of_lt hs (by decide)), show digR (a : Int) 12 = (S (digN 12 a), true) from digR_ok (m := 12) (by decide) (by decide) (Nat.lt_of_le_of_lt ha (by decide))]
  simp only [Option.bind_some]
  rw [text_join]
  rw [e, S_append, S_append, S_append]
  rw [if_pos (by simp only [S_size, digN_length]; omega), if_pos (by simp only [S_size, List.length_append, digN_length, List.length_singleton]; omega), if_pos (by simp only [S_size, List.length_append, digN_length, List.length_singleton]; omega), if_pos (by simp only [S_size, List.length_append, digN_length, List.length_singleton]; omega)]
theorem nat_of {n : Int} (h : 0 ≤ n) : ∃ m : Nat, n = (m : Int) := Int.eq_ofNat_of_zero_le h
def frameP (t s : Nat) (p : List UInt8) (a : Nat) : List Int := frame (ints (textP t s p a))
theorem dig_ne {c : UInt8} (h : IsDig c) : (c.toNat : Int) ≠ 2 ∧ (c.toNat : Int) ≠ 3 := by unfold IsDig at h; omega
theorem textP_fits {t s a : Nat} {p : List UInt8} (hp : p.length ≤ 19) (hd : AllDig p) : Fits (ints (textP t s p a)) := by
  have h : ∀ c ∈ textP t s p a, (c.toNat : Int) ≠ 2 ∧ (c.toNat : Int) ≠ 3 := by
    intro c hc
    unfold textP at hc
    simp only [List.mem_cons, List.mem_append] at hc
    rcases hc with rfl | ((hc | hc) | hc) | hc
    · decide
    · exact dig_ne (digN_dig _ _ _ hc)
    · exact dig_ne (digN_dig _ _ _ hc)
    · exact dig_ne (digN_dig _ _ _ hc)
    · exact dig_ne (hd c hc)
  refine ⟨⟨fun hm => ?_, fun hm => ?_⟩, by rw [List.length_map, textP_len]; omega⟩
  · obtain ⟨c, hc, e⟩ := List.mem_map.1 hm
    exact (h c hc).1 e
  · obtain ⟨c, hc, e⟩ := List.mem_map.1 hm
    exact (h c hc).2 e
theorem pos_put {t : Nat} {s a : Int} {p : List UInt8} (ht : t ≤ 65535) (hs : 0 ≤ s) (hp : p.length ≤ 140737488355328) : Ev (fun k => pos_Put.f k (t : Int) s (S p) a) (if RightP s p a then (frameP t s.toNat p a.toNat, 0) else ([], 27)) := by
  unfold pos_Put.f
  refine Ev.bind (pos_right (t : Int) s p a hp) ?_
  by_cases h : RightP s p a
  · rw [if_pos h]
    refine Ev.ite_pos (by simpa using h) ?_
    obtain ⟨s, rfl⟩ := nat_of hs
    obtain ⟨a, rfl⟩ := nat_of (show 0 ≤ a by have := h.2.2.2.2.1; omega)
    have h1 := h.1
    have h2 := h.2.2.2.2.2
    refine Ev.const_bind (pos_text_eq ht (by omega) (by omega) h.2.2.1) ?_
    refine Ev.const_bind (a := ints (textP t s p a)) (by unfold convBytes.f; rw [S_size, textP_len, if_pos (by have := h.2.2.1; omega), bytes_S]) ?_
    refine Ev.bind (wire_frame _ (by rw [List.length_map, textP_len]; have := h.2.2.1; omega)) ?_
    rw [show frameR (ints (textP t s p a)) = (frame (ints (textP t s p a)), true) from if_pos (textP_fits h.2.2.1 h.2.2.2.1)]
    exact Ev.now _
  · rw [if_neg h]
    exact Ev.ite_neg (by simpa using h) (Ev.now _)
theorem ref_put {t : Nat} {s a : Int} {p : List UInt8} (ht : t ≤ 65535) (hs : 0 ≤ s) (hp : p.length ≤ 140737488355328) : Ev (fun k => guichetref12_PosPut.f k (t : Int) s (S p) a) (if RightP s p a then (frameP t s.toNat p a.toNat, 0) else ([], 27)) := by
  unfold guichetref12_PosPut.f
  refine Ev.bind (ref_right (t : Int) s p a hp) ?_
  by_cases h : RightP s p a
  · rw [if_pos h]
    refine Ev.ite_pos (by simpa using h) ?_
    obtain ⟨s, rfl⟩ := nat_of hs
    obtain ⟨a, rfl⟩ := nat_of (show 0 ≤ a by have := h.2.2.2.2.1; omega)
    have h1 := h.1
    have h2 := h.2.2.2.2.2
    have h3 := h.2.2.1
    rw [(wr64 (show t ≤ 1000000 by omega)).1, (wr64 (show s ≤ 1000000 by omega)).1]
    refine Ev.bind (ref_digits _ _ (wr64 (show t ≤ 1000000 by omega)).2) ?_
    refine Ev.bind (ref_digits _ _ (wr64 (show s ≤ 1000000 by omega)).2) ?_
    refine Ev.bind (ref_digits _ _ (wr64 (show a ≤ 1000000 by omega)).2) ?_
    rw [show digR (t : Int) 5 = (S (digN 5 t), true) from digR_ok (m := 5) (by decide) (by decide) (Nat.lt_of_le_of_lt ht (by decide)), show digR (s : Int) 6 = (S (digN 6 s), true) from digR_ok (m := 6) (by decide) (by decide) (Nat.lt_of_le_of_lt (show s ≤ 999999 by omega) (by decide)), show digR (a : Int) 12 = (S (digN 12 a), true) from digR_ok (m := 12) (by decide) (by decide) (Nat.lt_of_le_of_lt (show a ≤ 1000000 by omega) (by decide))]
    dsimp only
    have e : (⟨#[80]⟩ : ByteArray) = S [80] := rfl
    rw [text_join, e, S_append, S_append, S_append]
    refine Ev.ite_pos (by simp only [S_size, digN_length]; omega) (Ev.ite_pos (by simp only [S_size, List.length_append, digN_length, List.length_singleton]; omega) (Ev.ite_pos (by simp only [S_size, List.length_append, digN_length, List.length_singleton]; omega) (Ev.ite_pos (by simp only [S_size, List.length_append, digN_length, List.length_singleton]; omega) ?_)))
    refine Ev.const_bind (a := ints (textP t s p a)) (by unfold convBytes.f; rw [S_size, textP_len, if_pos (by omega), bytes_S]) ?_
    refine Ev.bind (ref_frame _) ?_
    rw [show frameR (ints (textP t s p a)) = (frame (ints (textP t s p a)), true) from if_pos (textP_fits h.2.2.1 h.2.2.2.1)]
    exact Ev.now _
  · rw [if_neg h]
    exact Ev.ite_neg (by simpa using h) (Ev.now _)

/-! ### reading -/
def numB (l : List UInt8) : Int := match Go.Lib.parseIntB 64 l with | .ok v => v | _ => 0
theorem pos_number_eq (l : List UInt8) (h : l.length ≤ 1000) : pos_number.f (S l) = some (numB l) := by
  unfold pos_number.f
  rw [S_size, if_pos (by omega)]
  rfl
theorem numB_dig {l : List UInt8} (h0 : 1 ≤ l.length) (h1 : l.length ≤ 18) (hd : AllDig l) : numB l = (val l : Int) := by
  unfold numB
  rw [parse_digits (fun h => by rw [h] at h0; simp at h0) hd (Nat.lt_trans (val_18 h1 hd) (by decide))]
abbrev pT (X : List UInt8) := (X.take 6).drop 1
abbrev pS (X : List UInt8) := (X.take 12).drop 6
abbrev pA (X : List UInt8) := (X.take 24).drop 12
abbrev pP (X : List UInt8) := X.drop 24
def GoodP (X : List UInt8) : Prop := X.head? = some 80 ∧ AllDig (pT X) ∧ AllDig (pS X) ∧ AllDig (pA X) ∧ val (pT X) ≤ 65535 ∧ RightP (val (pS X) : Int) (pP X) (val (pA X) : Int)
instance (X : List UInt8) : Decidable (GoodP X) := by unfold GoodP; infer_instance
abbrev Out := Int × Int × ByteArray × Int × Int × Int
def readP (X : List UInt8) (n : Int) : Out := if GoodP X then ((val (pT X) : Int), (val (pS X) : Int), S (pP X), (val (pA X) : Int), n, 0) else (0, 0, S [], 0, n, 23)
theorem lens {X : List UInt8} (h : 24 ≤ X.length) : (pT X).length = 5 ∧ (pS X).length = 6 ∧ (pA X).length = 12 ∧ (pP X).length = X.length - 24 := by
  refine ⟨?_, ?_, ?_, ?_⟩ <;> simp <;> omega
theorem cut_X {X : List UInt8} (h : 24 ≤ X.length) : X = X.take 1 ++ pT X ++ pS X ++ pA X ++ pP X := by
  have h1 : X.take 1 ++ pT X = X.take 6 := by rw [show X.take 1 = (X.take 6).take 1 from by rw [List.take_take]; rfl]; exact List.take_append_drop _ _
  have h2 : X.take 6 ++ pS X = X.take 12 := by rw [show X.take 6 = (X.take 12).take 6 from by rw [List.take_take]; rfl]; exact List.take_append_drop _ _
  have h3 : X.take 12 ++ pA X = X.take 24 := by rw [show X.take 12 = (X.take 24).take 12 from by rw [List.take_take]; rfl]; exact List.take_append_drop _ _
  rw [h1, h2, h3]
  exact (List.take_append_drop _ _).symm
theorem text_parts (t s : Nat) (p : List UInt8) (a : Nat) : (textP t s p a).head? = some 80 ∧ pT (textP t s p a) = digN 5 t ∧ pS (textP t s p a) = digN 6 s ∧ pA (textP t s p a) = digN 12 a ∧ pP (textP t s p a) = p := by
  have h5 := digN_length 5 t
  have h6 := digN_length 6 s
  have h12 := digN_length 12 a
  refine ⟨rfl, ?_, ?_, ?_, ?_⟩
  · show (List.take 6 (textP t s p a)).drop 1 = _
    unfold textP
    simp [List.take_append, List.drop_append, h5, h6, h12]
  · show (List.take 12 (textP t s p a)).drop 6 = _
    unfold textP
    simp [List.take_append, List.drop_append, h5, h6, h12]
  · show (List.take 24 (textP t s p a)).drop 12 = _
    unfold textP
    simp [List.take_append, List.drop_append, h5, h6, h12]
  · show (textP t s p a).drop 24 = _
    unfold textP
    simp [List.drop_append, h5, h6, h12]
    rw [List.drop_eq_nil_of_le (show (digN 5 t).length ≤ 23 by omega), List.drop_eq_nil_of_le (show (digN 6 s).length ≤ 18 by omega)]
    simp
theorem good_text {X : List UInt8} (h : 24 ≤ X.length) (hg : GoodP X) : textP (val (pT X)) (val (pS X)) (pP X) (val (pA X)) = X := by
  obtain ⟨h5, h6, h12, _⟩ := lens h
  obtain ⟨g1, g2, g3, g4, _, _⟩ := hg
  have hc := cut_X h
  rw [show X.take 1 = [80] from by cases X with | nil => simp at h | cons c r => simp at g1; simp [g1]] at hc
  unfold textP
  rw [digN_val 5 _ h5 g2, digN_val 6 _ h6 g3, digN_val 12 _ h12 g4]
  refine Eq.trans ?_ hc.symm
  simp
theorem text_good {t s a : Nat} {p : List UInt8} (ht : t ≤ 65535) (hr : RightP (s : Int) p (a : Int)) : GoodP (textP t s p a) ∧ val (pT (textP t s p a)) = t ∧ val (pS (textP t s p a)) = s ∧ val (pA (textP t s p a)) = a ∧ pP (textP t s p a) = p := by
  obtain ⟨e0, e1, e2, e3, e4⟩ := text_parts t s p a
  have hs : (s : Int) ≤ 999999 := hr.1
  have ha : (a : Int) ≤ 1000000 := hr.2.2.2.2.2
  have v1 : val (digN 5 t) = t := val_digN_lt (Nat.lt_of_le_of_lt ht (by decide))
  have v2 : val (digN 6 s) = s := val_digN_lt (Nat.lt_of_le_of_lt (show s ≤ 999999 by omega) (by decide))
  have v3 : val (digN 12 a) = a := val_digN_lt (Nat.lt_of_le_of_lt (show a ≤ 1000000 by omega) (by decide))
  refine ⟨⟨e0, by rw [e1]; exact digN_dig _ _, by rw [e2]; exact digN_dig _ _, by rw [e3]; exact digN_dig _ _, by rw [e1, v1]; exact ht, by rw [e2, e3, e4, v2, v3]; exact hr⟩, by rw [e1, v1], by rw [e2, v2], by rw [e3, v3], e4⟩
theorem u16_id {n : Int} (h0 : 0 ≤ n) (h1 : n ≤ 65535) : IntKind.u16.wrap n = n := by rw [IntKind.wrap_u16]; omega
theorem u16_rng (n : Int) : 0 ≤ IntKind.u16.wrap n ∧ IntKind.u16.wrap n ≤ 65535 := by rw [IntKind.wrap_u16]; omega
theorem val_6 {l : List UInt8} (h : l.length = 6) (hd : AllDig l) : val l ≤ 999999 := by
  have := val_lt 6 l h hd
  omega
/-- What the program makes of the bytes of a frame. -/
theorem pos_read_j0 (X : List UInt8) (n : Int) (h : 24 ≤ X.length) (hl : X.length ≤ 500) : Ev (fun k => pos_Read.j0 k (ints X) n false) (readP X n) := by
  obtain ⟨l5, l6, l12, lp⟩ := lens h
  have m5 : ((X.take 6).drop 1).length = 5 := l5
  have m6 : ((X.take 12).drop 6).length = 6 := l6
  have m12 : ((X.take 24).drop 12).length = 12 := l12
  refine Ev.step (f := fun k => (pos_Right.f k (IntKind.u16.wrap (numB (pT X))) (numB (pS X) % 4294967296) (S (pP X)) (numB (pA X))).bind fun t => if t = true then (pos_text.f (IntKind.u16.wrap (numB (pT X))) (numB (pS X) % 4294967296) (S (pP X)) (numB (pA X))).bind fun t' => if t'.toList = (S X).toList then some (IntKind.u16.wrap (numB (pT X)), numB (pS X) % 4294967296, S (pP X), numB (pA X), n, 0) else some (0, 0, S [], 0, n, 23) else some (0, 0, S [], 0, n, 23)) (fun k => ?_) ?_
  · simp only [pos_Read.j0, Bool.false_eq_true, if_false, str_ints, S_size, S_extract, List.take_length]
    rw [if_pos (by decide), if_pos (by omega), pos_number_eq _ (by omega)]
    simp only [Option.bind_some]
    rw [if_pos (by decide), if_pos (by omega), pos_number_eq _ (by omega)]
    simp only [Option.bind_some]
    rw [if_pos (by decide), if_pos (by omega), pos_number_eq _ (by omega)]
    simp only [Option.bind_some]
  refine Ev.bind (pos_right _ _ _ _ (by omega)) ?_
  obtain ⟨t0, t1⟩ := u16_rng (numB (pT X))
  generalize ht : IntKind.u16.wrap (numB (pT X)) = t at t0 t1
  generalize hs : numB (pS X) % 4294967296 = s
  generalize ha : numB (pA X) = a
  have hno : ¬ GoodP X → ∀ y : Out, (if RightP s (pP X) a ∧ textP t.toNat s.toNat (pP X) a.toNat = X then y else (0, 0, S [], 0, n, 23)) = readP X n := fun hg y => by
    rw [readP, if_neg hg, if_neg]
    rintro ⟨hr, he⟩
    have hs0 : 0 ≤ s := by rw [← hs]; omega
    have ha0 : 0 ≤ a := by have := hr.2.2.2.2.1; omega
    refine hg ?_
    rw [← he]
    exact (text_good (by omega) (by rw [Int.toNat_of_nonneg hs0, Int.toNat_of_nonneg ha0]; exact hr)).1
  have hyes : GoodP X → t = (val (pT X) : Int) ∧ s = (val (pS X) : Int) ∧ a = (val (pA X) : Int) := fun hg => by
    obtain ⟨_, g2, g3, g4, g5, _⟩ := hg
    have v6 := val_6 l6 g3
    rw [← ht, ← hs, ← ha, numB_dig (by omega) (by omega) g2, numB_dig (by omega) (by omega) g3, numB_dig (by omega) (by omega) g4, u16_id (by omega) (by omega)]
    exact ⟨rfl, by omega, rfl⟩
  have hfin : (if RightP s (pP X) a ∧ textP t.toNat s.toNat (pP X) a.toNat = X then ((t, s, S (pP X), a, n, 0) : Out) else (0, 0, S [], 0, n, 23)) = readP X n := by
    by_cases hg : GoodP X
    · obtain ⟨rfl, rfl, rfl⟩ := hyes hg
      rw [if_pos ⟨hg.2.2.2.2.2, by simp only [Int.toNat_natCast]; exact good_text h hg⟩, readP, if_pos hg]
    · exact hno hg _
  rw [← hfin]
  have hs0 : 0 ≤ s := by rw [← hs]; omega
  clear hno hyes hfin ht hs ha
  by_cases hr : RightP s (pP X) a
  · refine Ev.ite_pos (by simpa using hr) ?_
    obtain ⟨t, rfl⟩ := nat_of t0
    obtain ⟨s, rfl⟩ := nat_of hs0
    obtain ⟨a, rfl⟩ := nat_of (show 0 ≤ a by have := hr.2.2.2.2.1; omega)
    have r1 := hr.1
    have r2 := hr.2.2.2.2.2
    refine Ev.const_bind (pos_text_eq (by omega) (by omega) (by omega) hr.2.2.1) ?_
    simp only [Int.toNat_natCast]
    rw [toList_S, toList_S]
    by_cases he : textP t s (pP X) a = X
    · rw [if_pos he, if_pos ⟨hr, he⟩]
      exact Ev.now _
    · rw [if_neg he, if_neg (fun h => he h.2)]
      exact Ev.now _
  · rw [if_neg (show ¬ (RightP s (pP X) a ∧ textP t.toNat s.toNat (pP X) a.toNat = X) from fun h => hr h.1)]
    exact Ev.ite_neg (by simpa using hr) (Ev.now _)
/-- The first frame's request. -/
def readR (l : List Int) : Out := if (un l none 0).2.2 = true then (if (un l none 0).1.length < 24 then (0, 0, S [], 0, (un l none 0).2.1, 23) else readP ((un l none 0).1.map fun n => UInt8.ofNat n.toNat) (un l none 0).2.1) else (0, 0, S [], 0, 0, 23)
theorem ints_back (X : List UInt8) : (ints X).map (fun n => UInt8.ofNat n.toNat) = X := by
  rw [List.map_map]
  have : ((fun n : Int => UInt8.ofNat n.toNat) ∘ fun c : UInt8 => (c.toNat : Int)) = id := funext fun c => by simp
  rw [this, List.map_id]
theorem pos_read (l : List Int) (hl : l.length ≤ 140737488350000) (hu : ∀ c ∈ l, U8 c) : Ev (fun k => pos_Read.f k l) (readR l) := by
  unfold pos_Read.f
  refine Ev.bind (wire_unframe l hl) ?_
  have hm := un_mem l none 0 hu (fun x h => by cases h)
  have h5 := un_len l none 0
  have h0 := un_none l none 0
  unfold readR
  generalize un l none 0 = r at hm h5 h0
  obtain ⟨x, n, ok⟩ := r
  dsimp only at hm h5 h0 ⊢
  have ht : Ev (fun k => pos_Read.j0 k x n true) (0, 0, S [], 0, n, 23) := Ev.step (f := fun _ => some (0, 0, S [], 0, n, 23)) (fun k => by simp only [pos_Read.j0, if_true]) (Ev.now _)
  cases ok with
  | true =>
    refine Ev.ite_pos rfl ?_
    rw [if_pos rfl]
    by_cases h : x.length < 24
    · rw [decide_eq_true (by omega), if_pos h]
      exact ht
    · rw [decide_eq_false (by omega), if_neg h]
      obtain ⟨X, rfl⟩ := ints_of hm
      rw [ints_back]
      rw [List.length_map] at h h5
      exact pos_read_j0 X n (by omega) h5
  | false =>
    rw [if_neg (by simp)]
    rw [h0 rfl] at ht
    refine Ev.ite_neg (by simp) ?_
    rw [h0 rfl]
    exact ht
theorem ref_read_j0 (X : List UInt8) (n : Int) (h : 25 ≤ X.length) (hl : X.length ≤ 500) (h80 : X.head? = some 80) : Ev (fun k => guichetref12_PosRead.j0 k (ints X) n false) (readP X n) := by
  obtain ⟨l5, l6, l12, lp⟩ := lens (show 24 ≤ X.length by omega)
  refine Ev.step (f := fun k => (guichetref1_Num.f k (S (pT X))).bind fun x => (guichetref1_Num.f k (S (pS X))).bind fun y => (guichetref1_Num.f k (S (pA X))).bind fun z => if x.2 = true then (if y.2 = true then (if z.2 = true then (if x.1 > 65535 then some (0, 0, S [], 0, n, 23) else (guichetref12_PosRight.f k (IntKind.u16.wrap x.1) (y.1 % 4294967296) (S (pP X)) z.1).bind fun t => if t = true then some (IntKind.u16.wrap x.1, y.1 % 4294967296, S (pP X), z.1, n, 0) else some (0, 0, S [], 0, n, 23)) else some (0, 0, S [], 0, n, 23)) else some (0, 0, S [], 0, n, 23)) else some (0, 0, S [], 0, n, 23)) (fun k => ?_) ?_
  · simp only [guichetref12_PosRead.j0, Bool.false_eq_true, if_false, Option.bind_some]
    rw [if_pos (by decide), if_pos (by rw [List.length_map]; omega)]
    simp only [← List.map_take, ← List.map_drop, str_ints, List.length_map]
    refine congrArg (Option.bind _) (funext fun x => ?_)
    rw [if_pos (by decide), if_pos (by omega)]
    refine congrArg (Option.bind _) (funext fun y => ?_)
    rw [if_pos (by decide), if_pos (by omega)]
  refine Ev.bind (ref_num _ (by omega)) (Ev.bind (ref_num _ (by omega)) (Ev.bind (ref_num _ (by omega)) ?_))
  have hn : ∀ {l : List UInt8}, 1 ≤ l.length → l.length ≤ 18 → numR l = if AllDig l then ((val l : Int), true) else (0, false) := fun h1 h2 => by
    unfold numR
    simp only [h1, h2, true_and]
  rw [hn (by omega) (by omega), hn (by omega) (by omega), hn (by omega) (by omega)]
  by_cases g1 : AllDig (pT X)
  case neg => rw [if_neg g1, readP, if_neg (show ¬ GoodP X from fun hg => g1 hg.2.1)]; exact Ev.ite_neg (by simp) (Ev.now _)
  rw [if_pos g1]
  refine Ev.ite_pos rfl ?_
  by_cases g2 : AllDig (pS X)
  case neg => rw [if_neg g2, readP, if_neg (show ¬ GoodP X from fun hg => g2 hg.2.2.1)]; exact Ev.ite_neg (by simp) (Ev.now _)
  rw [if_pos g2]
  refine Ev.ite_pos rfl ?_
  by_cases g3 : AllDig (pA X)
  case neg => rw [if_neg g3, readP, if_neg (show ¬ GoodP X from fun hg => g3 hg.2.2.2.1)]; exact Ev.ite_neg (by simp) (Ev.now _)
  rw [if_pos g3]
  refine Ev.ite_pos rfl ?_
  have v6 := val_6 l6 g2
  by_cases g4 : val (pT X) ≤ 65535
  case neg => rw [readP, if_neg (show ¬ GoodP X from fun hg => g4 hg.2.2.2.2.1)]; exact Ev.ite_pos (by dsimp only; omega) (Ev.now _)
  refine Ev.ite_neg (by dsimp only; omega) ?_
  dsimp only
  rw [u16_id (by omega) (by omega), show (val (pS X) : Int) % 4294967296 = (val (pS X) : Int) by omega]
  refine Ev.bind (ref_right _ _ _ _ (by omega)) ?_
  by_cases g5 : RightP (val (pS X) : Int) (pP X) (val (pA X) : Int)
  · rw [readP, if_pos (show GoodP X from ⟨h80, g1, g2, g3, g4, g5⟩)]
    exact Ev.ite_pos (by simpa using g5) (Ev.now _)
  · rw [readP, if_neg (show ¬ GoodP X from fun hg => g5 hg.2.2.2.2.2)]
    exact Ev.ite_neg (by simpa using g5) (Ev.now _)
theorem ref_read (l : List Int) (hl : l.length ≤ 140737488350000) (hu : ∀ c ∈ l, U8 c) : Ev (fun k => guichetref12_PosRead.f k l) (readR l) := by
  unfold guichetref12_PosRead.f
  refine Ev.bind (ref_unframe l hl) ?_
  have hm := un_mem l none 0 hu (fun x h => by cases h)
  have h5 := un_len l none 0
  unfold readR
  generalize un l none 0 = r at hm h5
  obtain ⟨x, n, ok⟩ := r
  dsimp only at hm h5 ⊢
  have ht : Ev (fun k => guichetref12_PosRead.j0 k x n true) (0, 0, S [], 0, n, 23) := Ev.step (f := fun _ => some (0, 0, S [], 0, n, 23)) (fun k => by simp only [guichetref12_PosRead.j0, if_true]) (Ev.now _)
  cases ok with
  | true =>
    refine Ev.ite_pos rfl ?_
    rw [if_pos rfl]
    by_cases h : x.length < 24
    · rw [if_pos h]
      exact Ev.ite_pos (by omega) ht
    rw [if_neg h]
    obtain ⟨X, rfl⟩ := ints_of hm
    rw [ints_back]
    rw [List.length_map] at h h5 ⊢
    by_cases h' : X.length < 25
    · have : ¬ GoodP X := fun hg => by have := hg.2.2.2.2.2.2.1; rw [(lens (show 24 ≤ X.length by omega)).2.2.2] at this; omega
      rw [readP, if_neg this]
      exact Ev.ite_pos (by omega) ht
    refine Ev.ite_neg (by omega) (Ev.ite_pos (by omega) ?_)
    cases X with
    | nil => simp at h
    | cons c r =>
      have hr0 : rd (ints (c :: r)) 0 = (c.toNat : Int) := rfl
      rw [hr0]
      by_cases hc : c = 80
      · subst hc
        exact ref_read_j0 _ n (by omega) h5 rfl
      · have hne : ((c.toNat : Int) != 80) = true := by
          rw [bne_iff_ne]
          intro h8
          exact hc (UInt8.toNat_inj.1 (by have : (80 : UInt8).toNat = 80 := rfl; omega))
        rw [hne, readP, if_neg (fun hg => hc (Option.some.inj hg.1))]
        exact ht
  | false =>
    rw [if_neg (by simp)]
    exact Ev.ite_neg (by simp) (Ev.now _)
/-- A request's frame, behind bytes that begin none, is read back. -/
theorem read_back {t s a : Nat} {p : List UInt8} (ahead more : List Int) (h2 : 2 ∉ ahead) (ht : t ≤ 65535) (hr : RightP (s : Int) p (a : Int)) :
    readR (ahead ++ (frameP t s p a ++ more)) = ((t : Int), (s : Int), S p, (a : Int), ((ahead.length + (frameP t s p a).length : Nat) : Int), 0) := by
  have hu : un (ahead ++ (frameP t s p a ++ more)) none 0 = (ints (textP t s p a), ((ahead.length + (frameP t s p a).length : Nat) : Int), true) := by
    rw [un_skip _ ahead 0 h2, frameP, un_frame _ more none _ (textP_fits hr.2.2.1 hr.2.2.2.1), Nat.zero_add]
  obtain ⟨hg, e1, e2, e3, e4⟩ := text_good ht hr
  unfold readR
  rw [hu]
  dsimp only
  rw [if_pos rfl, if_neg (by rw [List.length_map, textP_len]; omega), ints_back, readP, if_pos hg, e1, e2, e3, e4]

/-! ### accounts of a number -/
theorem pan_ev {a : Int} (h : 0 ≤ a) : ∃ p, guichetseat_Pan.f a = some (S p) ∧ 1 ≤ p.length ∧ p.length ≤ 19 ∧ AllDig p := by
  have ht : Int.tmod a 4 = a % 4 := Int.tmod_eq_emod_of_nonneg h
  unfold guichetseat_Pan.f
  rw [ht]
  have h4 : a % 4 = 0 ∨ a % 4 = 1 ∨ a % 4 = 2 ∨ a % 4 = 3 := by omega
  rcases h4 with e | e | e | e <;> rw [e]
  · exact ⟨[52, 48, 48, 48, 49, 50, 51, 52, 49, 50, 51, 52, 49, 50, 51, 52], by decide +kernel⟩
  · exact ⟨[53, 49], by decide +kernel⟩
  · exact ⟨[57], by decide +kernel⟩
  · exact ⟨[54, 48, 49, 49, 48, 48, 48, 57, 57, 48, 49, 51, 57, 52, 50, 52], by decide +kernel⟩
end Go.Proofs.YtkhgiojpegghoaaDoor.Q
