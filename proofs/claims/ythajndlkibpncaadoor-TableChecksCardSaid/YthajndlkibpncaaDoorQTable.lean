import Derived.Test.YthajndlkibpncaaDoorQRefDig
import Derived.Test.YthajndlkibpncaaDoorPAllx4
import Derived.Test.YthajndlkibpncaaDoorPAllx5
import Derived.Test.YthajndlkibpncaaDoorPAllx8
import Derived.Test.YthajndlkibpncaaDoorPAllx8
import Derived.Test.YthajndlkibpncaaDoorPAllx9
/- Tables' lines: what the program's and the reference's functions compute, in plain lists. -/
namespace Go.Proofs.YthajndlkibpncaaDoor.Q
open Go.RowKit Go.Proofs.YthajndlkibpncaaDoorW.PrintWords Go.Proofs.YthajndlkibpncaaDoorW.PrintMore Go.Proofs.YthajndlkibpncaaDoor.PAll
set_option linter.unusedVariables false
set_option linter.unusedSimpArgs false

def KindP (c : Int) : Prop := c = 65 ∨ c = 66 ∨ c = 68 ∨ c = 69 ∨ c = 73 ∨ c = 90
instance (c : Int) : Decidable (KindP c) := by unfold KindP; infer_instance
theorem is_kinds {c : Int} (h : U8 c) : table_is.f c (⟨#[65, 66, 68, 69, 73, 90]⟩ : ByteArray) = some (decide (KindP c)) := by
  obtain ⟨n, rfl⟩ := Int.eq_ofNat_of_zero_le h.1
  have hn : n < 256 := by have := h.2; omega
  have : ∀ m : Fin 256, table_is.f ((m.val : Nat) : Int) (⟨#[65, 66, 68, 69, 73, 90]⟩ : ByteArray) = some (decide (KindP ((m.val : Nat) : Int))) := by decide +kernel
  exact this ⟨n, hn⟩
def RowOK (ys : List Int) : Prop := ∀ y ∈ ys, 0 ≤ y ∧ y ≤ 999
instance (ys : List Int) : Decidable (RowOK ys) := by unfold RowOK; infer_instance
theorem RowOK.cons {y : Int} {l : List Int} : RowOK (y :: l) ↔ (0 ≤ y ∧ y ≤ 999) ∧ RowOK l := by unfold RowOK; simp
theorem right_l0 (ys : List Int) (hl : ys.length ≤ 10) (a b c d : Int) (hb : U8 b) (dd : Nat) : ∀ i : Nat, ys.length - i = dd → i ≤ ys.length → Ev (fun k => table_right.l0 k ys (ys.length : Int) (i : Int) a b c d) (decide (RowOK (ys.drop i) ∧ KindP b)) := by
  induction dd with
  | zero =>
    intro i hd hi
    obtain rfl : i = ys.length := by omega
    refine Ev.step (f := fun _ => some (decide (KindP b))) (fun k => ?_) ?_
    · simp only [table_right.l0]
      rw [if_neg (by omega), is_kinds hb]
      rfl
    · rw [show decide (RowOK (ys.drop ys.length) ∧ KindP b) = decide (KindP b) from by simp [RowOK]]
      exact Ev.now _
  | succ dd ih =>
    intro i hd hi
    have hlt : i < ys.length := by omega
    have hdr : ys.drop i = ys[i] :: ys.drop (i + 1) := List.drop_eq_getElem_cons hlt
    refine Ev.step (f := fun k => if ys[i] < 0 then some false else if ys[i] > 999 then some false else table_right.l0 k ys (ys.length : Int) ((i + 1 : Nat) : Int) a b c d) (fun k => ?_) ?_
    · simp only [table_right.l0]
      rw [if_pos (by omega), if_pos (by omega), if_pos (by omega), rd_lt hlt, wrap_succ hlt (by omega)]
    · rw [hdr]
      by_cases h1 : ys[i] < 0
      · refine Ev.ite_pos h1 ?_
        rw [decide_eq_false (fun h => by have := (RowOK.cons.mp h.1).1.1; omega)]
        exact Ev.now _
      · refine Ev.ite_neg h1 ?_
        by_cases h2 : ys[i] > 999
        · refine Ev.ite_pos h2 ?_
          rw [decide_eq_false (fun h => by have := (RowOK.cons.mp h.1).1.2; omega)]
          exact Ev.now _
        · refine Ev.ite_neg h2 ?_
          have := ih (i + 1) (by omega) (by omega)
          rw [show decide (RowOK (ys[i] :: ys.drop (i + 1)) ∧ KindP b) = decide (RowOK (ys.drop (i + 1)) ∧ KindP b) from decide_eq_decide.mpr ⟨fun h => ⟨(RowOK.cons.mp h.1).2, h.2⟩, fun h => ⟨RowOK.cons.mpr ⟨⟨by omega, by omega⟩, h.1⟩, h.2⟩⟩]
          exact this
def RightT (x : S34) : Prop := (0 ≤ x.f0 ∧ x.f0 ≤ 999) ∧ (0 ≤ x.f2 ∧ x.f2 ≤ 999) ∧ (0 ≤ x.f3 ∧ x.f3 ≤ 999) ∧ KindP x.f1
instance (x : S34) : Decidable (RightT x) := by unfold RightT; infer_instance
theorem right_ev (x : S34) (hb : U8 x.f1) : Ev (fun k => table_right.f k x.f0 x.f1 x.f2 x.f3) (decide (RightT x)) := by
  have h := right_l0 [x.f0, x.f2, x.f3] (by simp) x.f0 x.f1 x.f2 x.f3 hb _ 0 rfl (by omega)
  rw [show decide (RowOK (([x.f0, x.f2, x.f3] : List Int).drop 0) ∧ KindP x.f1) = decide (RightT x) from decide_eq_decide.mpr (by
    unfold RightT RowOK
    simp [and_assoc])] at h
  exact h
def lineL (x : S34) : List UInt8 := digN 3 x.f0.toNat ++ 32 :: UInt8.ofNat x.f1.toNat :: 32 :: (digN 3 x.f2.toNat ++ 32 :: digN 3 x.f3.toNat)
theorem lineL_len (x : S34) : (lineL x).length = 13 := by simp [lineL, digN_length]
theorem KindP.u8 {c : Int} (h : KindP c) : U8 c := by unfold KindP at h; unfold U8; omega
theorem str_one {c : Int} (h : U8 c) : strOfNums [c] = S [UInt8.ofNat c.toNat] := by
  obtain ⟨n, rfl⟩ := Int.eq_ofNat_of_zero_le h.1
  have hn : n < 256 := by have := h.2; omega
  have : ∀ m : Fin 256, strOfNums [((m.val : Nat) : Int)] = S [UInt8.ofNat ((m.val : Nat) : Int).toNat] := by decide +kernel
  exact this ⟨n, hn⟩
theorem digR_3 {v : Int} (h0 : 0 ≤ v) (h1 : v ≤ 999) : digR v 3 = (S (digN 3 v.toNat), true) := by
  obtain ⟨n, rfl⟩ := Int.eq_ofNat_of_zero_le h0
  have := digR_nat n 3 (by omega) (by omega)
  rw [if_pos (show n < 10 ^ 3 by omega)] at this
  exact this
theorem wf_i64 {v : Int} (h0 : 0 ≤ v) (h1 : v ≤ 999) : (Lit.int .i64 v).wf = true := by simp [Lit.wf, IntKind.min, IntKind.max, IntKind.bits, IntKind.signed]; omega
theorem line_eq (x : S34) (h : RightT x) : table_line.f x.f0 x.f1 x.f2 x.f3 = some (S (lineL x)) := by
  obtain ⟨⟨a0, a1⟩, ⟨b0, b1⟩, ⟨c0, c1⟩, hk⟩ := h
  have e3 := digN_length 3
  unfold table_line.f
  rw [bcd_Digits_eq _ _ (wf_i64 a0 a1), bcd_Digits_eq _ _ (wf_i64 b0 b1), bcd_Digits_eq _ _ (wf_i64 c0 c1), digR_3 a0 a1, digR_3 b0 b1, digR_3 c0 c1]
  simp only [Option.bind_some]
  rw [str_one hk.u8, show (⟨#[32]⟩ : ByteArray) = S [32] from rfl]
  simp only [S_append, S_size, List.length_append, e3, List.length_cons, List.length_nil]
  rw [if_pos (by decide), if_pos (by decide), if_pos (by decide), if_pos (by decide), if_pos (by decide), if_pos (by decide)]
  simp [lineL]
/-! ### reading -/
def numT (l : List UInt8) : Int := match Go.Lib.atoiAll l with | .ok v => v | _ => -1
theorem number_eq (l : List UInt8) (h : l.length ≤ 1000) : table_number.f (S l) = some (numT l) := by
  unfold table_number.f
  rw [S_size, if_pos (by omega)]
  rfl
theorem num3 {a b c : UInt8} (ha : IsDig a) (hb : IsDig b) (hc : IsDig c) : numT [a, b, c] = (val [a, b, c] : Int) := by
  unfold IsDig at ha hb hc
  unfold numT Go.Lib.atoiAll
  simp only []
  rw [if_neg (by omega)]
  unfold Go.Lib.parseMag
  rw [if_neg (by simp)]
  simp only [Go.Lib.parseUint10]
  rw [if_pos ha, if_neg (by omega), if_neg (by omega), if_pos hb, if_neg (by omega), if_neg (by omega), if_pos hc, if_neg (by omega), if_neg (by omega)]
  simp only []
  rw [if_neg (by omega), if_neg (by omega), if_neg (by omega)]
  simp [val]
theorem val3 {a b c : UInt8} (ha : IsDig a) (hb : IsDig b) (hc : IsDig c) : val [a, b, c] ≤ 999 ∧ digN 3 (val [a, b, c]) = [a, b, c] := by
  have hd : ∀ x ∈ [a, b, c], IsDig x := by simp [ha, hb, hc]
  have := val_lt 3 [a, b, c] rfl hd
  exact ⟨by omega, digN_val 3 [a, b, c] rfl hd⟩
def goodB : List UInt8 → Bool
  | [c0, c1, c2, c3, c4, c5, c6, c7, c8, c9, c10, c11, c12] => decide ((IsDig c0 ∧ IsDig c1 ∧ IsDig c2) ∧ c3 = 32 ∧ KindP (c4.toNat : Int) ∧ c5 = 32 ∧ (IsDig c6 ∧ IsDig c7 ∧ IsDig c8) ∧ c9 = 32 ∧ IsDig c10 ∧ IsDig c11 ∧ IsDig c12)
  | _ => false
def stB : List UInt8 → S34
  | [c0, c1, c2, c3, c4, c5, c6, c7, c8, c9, c10, c11, c12] => ⟨(val [c0, c1, c2] : Int), (c4.toNat : Int), (val [c6, c7, c8] : Int), (val [c10, c11, c12] : Int)⟩
  | _ => z34
theorem len13 {X : List UInt8} (h : X.length = 13) : ∃ c0 c1 c2 c3 c4 c5 c6 c7 c8 c9 c10 c11 c12, X = [c0, c1, c2, c3, c4, c5, c6, c7, c8, c9, c10, c11, c12] := by
  match X, h with
  | [c0, c1, c2, c3, c4, c5, c6, c7, c8, c9, c10, c11, c12], _ => exact ⟨c0, c1, c2, c3, c4, c5, c6, c7, c8, c9, c10, c11, c12, rfl⟩
theorem goodB_len {X : List UInt8} (h : goodB X = true) : X.length = 13 := by
  unfold goodB at h
  split at h
  · rfl
  · cases h
theorem u8_nat (c : UInt8) : U8 (c.toNat : Int) := by have := c.toNat_lt; unfold U8; omega
theorem ofNat_toNat8 (c : UInt8) : UInt8.ofNat ((c.toNat : Int)).toNat = c := by simp
theorem digN3 (n : Nat) : ∃ a b c, digN 3 n = [a, b, c] ∧ IsDig a ∧ IsDig b ∧ IsDig c := by
  have h := digN_length 3 n
  have hd := digN_dig 3 n
  match hq : digN 3 n, h with
  | [a, b, c], _ => exact ⟨a, b, c, rfl, hd a (by simp [hq]), hd b (by simp [hq]), hd c (by simp [hq])⟩
theorem read_ev (X : List UInt8) (hl : X.length ≤ 1000000) : ∃ r, Ev (fun k => table_read.f k (S X)) r ∧ (goodB X = true → r = ((stB X).f0, (stB X).f1, (stB X).f2, (stB X).f3, true)) ∧ (goodB X = false → r.2.2.2.2 = false) := by
  by_cases h13 : X.length = 13
  · obtain ⟨c0, c1, c2, c3, c4, c5, c6, c7, c8, c9, c10, c11, c12, rfl⟩ := len13 h13
    let x : S34 := ⟨numT [c0, c1, c2], (c4.toNat : Int), numT [c6, c7, c8], numT [c10, c11, c12]⟩
    have hr := right_ev x (u8_nat c4)
    have hg : goodB [c0, c1, c2, c3, c4, c5, c6, c7, c8, c9, c10, c11, c12] = true ↔ RightT x ∧ lineL x = [c0, c1, c2, c3, c4, c5, c6, c7, c8, c9, c10, c11, c12] := by
      simp only [goodB, decide_eq_true_eq]
      constructor
      · rintro ⟨⟨a, b, c⟩, rfl, hk, rfl, ⟨d, e, f⟩, rfl, g, h, i⟩
        have n1 := num3 a b c
        have n2 := num3 d e f
        have n3 := num3 g h i
        obtain ⟨v1, w1⟩ := val3 a b c
        obtain ⟨v2, w2⟩ := val3 d e f
        obtain ⟨v3, w3⟩ := val3 g h i
        refine ⟨⟨⟨by show 0 ≤ numT _; omega, by show numT _ ≤ 999; omega⟩, ⟨by show 0 ≤ numT _; omega, by show numT _ ≤ 999; omega⟩, ⟨by show 0 ≤ numT _; omega, by show numT _ ≤ 999; omega⟩, hk⟩, ?_⟩
        show digN 3 (numT _).toNat ++ 32 :: UInt8.ofNat ((c4.toNat : Int)).toNat :: 32 :: (digN 3 (numT _).toNat ++ 32 :: digN 3 (numT _).toNat) = _
        simp only [n1, n2, n3, Int.toNat_natCast, w1, w2, w3, UInt8.ofNat_toNat]
        rfl
      · rintro ⟨⟨_, _, _, hk⟩, he⟩
        obtain ⟨a1, a2, a3, e1, p1, p2, p3⟩ := digN3 x.f0.toNat
        obtain ⟨b1, b2, b3, e2, q1, q2, q3⟩ := digN3 x.f2.toNat
        obtain ⟨d1, d2, d3, e3, r1, r2, r3⟩ := digN3 x.f3.toNat
        unfold lineL at he
        rw [e1, e2, e3] at he
        simp only [List.cons_append, List.nil_append, List.cons.injEq, and_true] at he
        obtain ⟨rfl, rfl, rfl, rfl, _, rfl, rfl, rfl, rfl, rfl, rfl, rfl, rfl⟩ := he
        exact ⟨⟨p1, p2, p3⟩, rfl, hk, rfl, ⟨q1, q2, q3⟩, rfl, r1, r2, r3⟩
    refine ⟨if RightT x then (x.f0, x.f1, x.f2, x.f3, decide (lineL x = [c0, c1, c2, c3, c4, c5, c6, c7, c8, c9, c10, c11, c12])) else (x.f0, x.f1, x.f2, x.f3, false), ?_, fun h => ?_, fun h => ?_⟩
    · refine Ev.congr (f := fun k => (table_right.f k x.f0 x.f1 x.f2 x.f3).bind fun t => if t = true then (table_line.f x.f0 x.f1 x.f2 x.f3).bind fun u => some (x.f0, x.f1, x.f2, x.f3, (u.toList == (S [c0, c1, c2, c3, c4, c5, c6, c7, c8, c9, c10, c11, c12]).toList)) else some (x.f0, x.f1, x.f2, x.f3, false)) (fun k => ?_) ?_
      · have hz : (S [c0, c1, c2, c3, c4, c5, c6, c7, c8, c9, c10, c11, c12]).size = 13 := rfl
        unfold table_read.f
        simp only [hz]
        rw [if_pos (by decide), if_pos (by decide), if_pos (by decide), S_extract, number_eq _ (by simp), Option.bind_some, if_pos (by decide), if_pos (by decide), if_pos (by decide), S_extract, number_eq _ (by simp), Option.bind_some, if_pos (by decide), S_extract, number_eq _ (by simp), Option.bind_some]
        rfl
      · refine Ev.bind hr ?_
        by_cases hR : RightT x
        · rw [decide_eq_true hR, if_pos hR, line_eq x hR]
          refine Ev.ite_pos rfl ?_
          rw [show decide (lineL x = [c0, c1, c2, c3, c4, c5, c6, c7, c8, c9, c10, c11, c12]) = ((S (lineL x)).toList == (S [c0, c1, c2, c3, c4, c5, c6, c7, c8, c9, c10, c11, c12]).toList) from by rw [toList_S, toList_S]; exact (Bool.beq_eq_decide_eq _ _).symm]
          exact Ev.now _
        · rw [decide_eq_false hR, if_neg hR]
          exact Ev.ite_neg (by simp) (Ev.now _)
    · obtain ⟨hR, he⟩ := hg.mp h
      rw [if_pos hR, decide_eq_true he]
      simp only [goodB, decide_eq_true_eq] at h
      obtain ⟨⟨a, b, c⟩, _, _, _, ⟨d, e, f⟩, _, g, h, i⟩ := h
      show (numT _, _, numT _, numT _, true) = _
      rw [num3 a b c, num3 d e f, num3 g h i]
      rfl
    · have hn : ¬ (RightT x ∧ lineL x = _) := fun q => by rw [hg.mpr q] at h; cases h
      by_cases hR : RightT x
      · rw [if_pos hR]
        exact decide_eq_false (fun he => hn ⟨hR, he⟩)
      · rw [if_neg hR]
  · refine ⟨(0, 0, 0, 0, false), ?_, fun h => absurd (goodB_len h) h13, fun _ => rfl⟩
    refine Ev.step (f := fun _ => some (0, 0, 0, 0, false)) (fun k => ?_) (Ev.now _)
    unfold table_read.f
    rw [S_size, if_neg (by omega)]

/-! ### the reference's line -/
theorem ref_kind {c : Int} (h : U8 c) : Ev (fun k => guichetref12_kind.f k c) (decide (KindP c)) := by
  obtain ⟨n, rfl⟩ := Int.eq_ofNat_of_zero_le h.1
  have hn : n < 256 := by have := h.2; omega
  have : ∀ m : Fin 256, guichetref12_kind.f 9 ((m.val : Nat) : Int) = some (decide (KindP ((m.val : Nat) : Int))) := by decide +kernel
  exact Ev.of (fun k => guichetref12_kind.mono _ k) (this ⟨n, hn⟩)
def goodL (s : List UInt8) : Bool := goodB (s.take 13) && decide (s[13]? = some 10)
theorem len14 {s : List UInt8} (h : 14 ≤ s.length) : ∃ c0 c1 c2 c3 c4 c5 c6 c7 c8 c9 c10 c11 c12 c13 r, s = c0 :: c1 :: c2 :: c3 :: c4 :: c5 :: c6 :: c7 :: c8 :: c9 :: c10 :: c11 :: c12 :: c13 :: r := by
  match s, h with
  | c0 :: c1 :: c2 :: c3 :: c4 :: c5 :: c6 :: c7 :: c8 :: c9 :: c10 :: c11 :: c12 :: c13 :: r, _ => exact ⟨c0, c1, c2, c3, c4, c5, c6, c7, c8, c9, c10, c11, c12, c13, r, rfl⟩
theorem goodL_len {s : List UInt8} (h : goodL s = true) : 14 ≤ s.length ∧ goodB (s.take 13) = true ∧ s[13]? = some 10 := by
  unfold goodL at h
  rw [Bool.and_eq_true, decide_eq_true_eq] at h
  exact ⟨by have := (List.getElem?_eq_some_iff.mp h.2).1; omega, h⟩
theorem alld3 (a b c : UInt8) : AllDig [a, b, c] ↔ IsDig a ∧ IsDig b ∧ IsDig c := by unfold AllDig; simp
theorem numR3 (a b c : UInt8) : numR [a, b, c] = if IsDig a ∧ IsDig b ∧ IsDig c then ((val [a, b, c] : Int), true) else (0, false) := by
  unfold numR
  by_cases h : IsDig a ∧ IsDig b ∧ IsDig c
  · rw [if_pos h, if_pos ⟨by simp, by simp, (alld3 a b c).mpr h⟩]
  · rw [if_neg h, if_neg (fun q => h ((alld3 a b c).mp q.2.2))]
theorem nat8 (c : UInt8) (n : Nat) (hn : n < 256) : ((c.toNat : Int) = (n : Int)) ↔ c = UInt8.ofNat n := by
  constructor
  · intro h
    have : c.toNat = n := by omega
    rw [← this, UInt8.ofNat_toNat]
  · rintro rfl
    rw [UInt8.toNat_ofNat_of_lt' (by simpa using hn)]
theorem refline_ev (s : List UInt8) (hl : s.length ≤ 1000000) : ∃ r, Ev (fun k => guichetref12_line.f k (S s)) r ∧ (goodL s = true → r = ((stB (s.take 13)).f0, (stB (s.take 13)).f1, (stB (s.take 13)).f2, (stB (s.take 13)).f3, true)) ∧ (goodL s = false → r.2.2.2.2 = false) := by
  have hj0 : Ev (fun k => guichetref12_line.j0 k (S s) true) (0, 0, 0, 0, false) := Ev.step (f := fun _ => some (0, 0, 0, 0, false)) (fun k => by simp only [guichetref12_line.j0]; rfl) (Ev.now _)
  by_cases h14 : s.length < 14
  · refine ⟨(0, 0, 0, 0, false), ?_, fun h => absurd (goodL_len h).1 (by omega), fun _ => rfl⟩
    unfold guichetref12_line.f
    exact Ev.ite_pos (by rw [S_size]; omega) hj0
  · obtain ⟨c0, c1, c2, c3, c4, c5, c6, c7, c8, c9, c10, c11, c12, c13, r, rfl⟩ := len14 (s := s) (by omega)
    have hsz : ∀ n : Nat, n ≤ 14 → (n : Int) ≤ ((S (c0 :: c1 :: c2 :: c3 :: c4 :: c5 :: c6 :: c7 :: c8 :: c9 :: c10 :: c11 :: c12 :: c13 :: r)).size : Int) := by
      intro n hn
      rw [S_size]
      simp only [List.length_cons] at h14 ⊢
      omega
    have hg : goodL (c0 :: c1 :: c2 :: c3 :: c4 :: c5 :: c6 :: c7 :: c8 :: c9 :: c10 :: c11 :: c12 :: c13 :: r) = true ↔ (c3 = 32 ∧ c5 = 32 ∧ c9 = 32 ∧ c13 = 10 ∧ KindP (c4.toNat : Int)) ∧ (IsDig c0 ∧ IsDig c1 ∧ IsDig c2) ∧ (IsDig c6 ∧ IsDig c7 ∧ IsDig c8) ∧ IsDig c10 ∧ IsDig c11 ∧ IsDig c12 := by
      show ((decide _) && decide (some c13 = some 10)) = true ↔ _
      rw [Bool.and_eq_true, decide_eq_true_eq, decide_eq_true_eq, Option.some.injEq]
      constructor
      · rintro ⟨⟨a, b, c, d, e, f, g⟩, h⟩; exact ⟨⟨b, d, f, h, c⟩, a, e, g⟩
      · rintro ⟨⟨b, d, f, h, c⟩, a, e, g⟩; exact ⟨⟨a, b, c, d, e, f, g⟩, h⟩
    by_cases hh : c3 = 32 ∧ c5 = 32 ∧ c9 = 32 ∧ c13 = 10 ∧ KindP (c4.toNat : Int)
    · obtain ⟨rfl, rfl, rfl, rfl, hk⟩ := hh
      let q : S34 := stB [c0, c1, c2, 32, c4, 32, c6, c7, c8, 32, c10, c11, c12]
      refine ⟨if (numR [c0, c1, c2]).2 = true then (if (numR [c6, c7, c8]).2 = true then ((numR [c0, c1, c2]).1, (c4.toNat : Int), (numR [c6, c7, c8]).1, (numR [c10, c11, c12]).1, (numR [c10, c11, c12]).2) else ((numR [c0, c1, c2]).1, (c4.toNat : Int), (numR [c6, c7, c8]).1, (numR [c10, c11, c12]).1, false)) else ((numR [c0, c1, c2]).1, (c4.toNat : Int), (numR [c6, c7, c8]).1, (numR [c10, c11, c12]).1, false), ?_, fun h => ?_, fun h => ?_⟩
      · unfold guichetref12_line.f
        refine Ev.ite_neg (by have := hsz 14 (by omega); omega) ?_
        refine Ev.ite_pos (by have := hsz 14 (by omega); omega) (Ev.ite_pos rfl ?_)
        refine Ev.ite_pos (by have := hsz 14 (by omega); omega) (Ev.ite_pos rfl ?_)
        refine Ev.ite_pos (by have := hsz 14 (by omega); omega) (Ev.ite_pos rfl ?_)
        refine Ev.ite_pos (by have := hsz 14 (by omega); omega) (Ev.ite_pos rfl ?_)
        refine Ev.ite_pos (by have := hsz 14 (by omega); omega) ?_
        have hk1 := ref_kind (u8_nat c4)
        rw [decide_eq_true hk] at hk1
        refine Ev.bind hk1 ?_
        refine Ev.step (f := fun k => (guichetref1_Num.f k (S [c0, c1, c2])).bind fun t182 => (guichetref1_Num.f k (S [c6, c7, c8])).bind fun t184 => (guichetref1_Num.f k (S [c10, c11, c12])).bind fun t186 => if t182.2 = true then (if t184.2 = true then some (t182.1, (c4.toNat : Int), t184.1, t186.1, t186.2) else some (t182.1, (c4.toNat : Int), t184.1, t186.1, false)) else some (t182.1, (c4.toNat : Int), t184.1, t186.1, false)) (fun k => ?_) ?_
        · have e14 := hsz 14 (by omega)
          simp only [guichetref12_line.j0, Bool.not_true, Bool.false_eq_true, if_false]
          generalize (S (c0 :: c1 :: c2 :: 32 :: c4 :: 32 :: c6 :: c7 :: c8 :: 32 :: c10 :: c11 :: c12 :: 10 :: r)).size = zz at e14 ⊢
          have q3 : (3 : Int) ≤ (zz : Int) := by omega
          have q4 : (4 : Int) < (zz : Int) := by omega
          have q9 : (9 : Int) ≤ (zz : Int) := by omega
          have q13 : (13 : Int) ≤ (zz : Int) := by omega
          simp only [if_pos q3, if_pos q4, if_pos q9, if_pos q13, if_pos (show (0 : Int) ≤ 3 by decide), if_pos (show (6 : Int) ≤ 9 by decide), if_pos (show (10 : Int) ≤ 13 by decide), S_extract]
          rfl
        · refine Ev.bind (ref_num [c0, c1, c2] (by simp)) (Ev.bind (ref_num [c6, c7, c8] (by simp)) (Ev.bind (ref_num [c10, c11, c12] (by simp)) ?_))
          split
          · split
            · exact Ev.now _
            · exact Ev.now _
          · exact Ev.now _
      · obtain ⟨_, a, b, c⟩ := hg.mp h
        rw [numR3, numR3, numR3, if_pos a, if_pos b, if_pos c]
        rfl
      · rw [numR3, numR3, numR3]
        by_cases a : IsDig c0 ∧ IsDig c1 ∧ IsDig c2
        · by_cases b : IsDig c6 ∧ IsDig c7 ∧ IsDig c8
          · by_cases c : IsDig c10 ∧ IsDig c11 ∧ IsDig c12
            · rw [hg.mpr ⟨⟨rfl, rfl, rfl, rfl, hk⟩, a, b, c⟩] at h; cases h
            · rw [if_pos a, if_pos b, if_neg c]; rfl
          · rw [if_pos a, if_neg b]; rfl
        · rw [if_neg a]; rfl
    · refine ⟨(0, 0, 0, 0, false), ?_, fun h => absurd (hg.mp h).1 hh, fun _ => rfl⟩
      unfold guichetref12_line.f
      refine Ev.ite_neg (by have := hsz 14 (by omega); omega) ?_
      refine Ev.ite_pos (by have := hsz 14 (by omega); omega) ?_
      by_cases g3 : c3 = 32
      · refine Ev.ite_pos ((nat8 c3 32 (by omega)).mpr g3) (Ev.ite_pos (by have := hsz 14 (by omega); omega) ?_)
        by_cases g5 : c5 = 32
        · refine Ev.ite_pos ((nat8 c5 32 (by omega)).mpr g5) (Ev.ite_pos (by have := hsz 14 (by omega); omega) ?_)
          by_cases g9 : c9 = 32
          · refine Ev.ite_pos ((nat8 c9 32 (by omega)).mpr g9) (Ev.ite_pos (by have := hsz 14 (by omega); omega) ?_)
            by_cases g13 : c13 = 10
            · refine Ev.ite_pos ((nat8 c13 10 (by omega)).mpr g13) (Ev.ite_pos (by have := hsz 14 (by omega); omega) ?_)
              have hk1 := ref_kind (u8_nat c4)
              rw [decide_eq_false (fun h => hh ⟨g3, g5, g9, g13, h⟩)] at hk1
              exact Ev.bind hk1 hj0
            · exact Ev.ite_neg (fun h => g13 ((nat8 c13 10 (by omega)).mp h)) hj0
          · exact Ev.ite_neg (fun h => g9 ((nat8 c9 32 (by omega)).mp h)) hj0
        · exact Ev.ite_neg (fun h => g5 ((nat8 c5 32 (by omega)).mp h)) hj0
      · exact Ev.ite_neg (fun h => g3 ((nat8 c3 32 (by omega)).mp h)) hj0
end Go.Proofs.YthajndlkibpncaaDoor.Q
