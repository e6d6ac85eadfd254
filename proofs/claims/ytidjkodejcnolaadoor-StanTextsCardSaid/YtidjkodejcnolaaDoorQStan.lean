import Derived.Test.YtidjkodejcnolaaDoorQBcd
import Derived.Test.YtidjkodejcnolaaDoorPAllx3
import Derived.Test.YtidjkodejcnolaaDoorPAllx2
/- Keys: which is ahead, and their texts' order. -/
namespace Go.Proofs.YtidjkodejcnolaaDoor.Q
open Go.RowKit Go.Proofs.YtidjkodejcnolaaDoorW.PrintWords Go.Proofs.YtidjkodejcnolaaDoorW.PrintMore Go.Proofs.YtidjkodejcnolaaDoor.PAll
set_option linter.unusedVariables false

def compI (a b : Int) : Int := if a < b then -1 else if a > b then 1 else 0
theorem comp16 (a b : Int) : cmp_Compare_uint16.f a b = some (compI a b) := by
  unfold cmp_Compare_uint16.f cmp_isNaN_uint16.f compI
  simp only [Option.bind_some, bne_self_eq_false, Bool.false_eq_true, if_false]
  repeat' split
  all_goals rfl
theorem comp32 (a b : Int) : cmp_Compare_uint32.f a b = some (compI a b) := by
  unfold cmp_Compare_uint32.f cmp_isNaN_uint32.f compI
  simp only [Option.bind_some, bne_self_eq_false, Bool.false_eq_true, if_false]
  repeat' split
  all_goals rfl
theorem or_ev (x y : Int) : Ev (fun k => cmp_Or_int.f k [x, y]) (if x = 0 then y else x) := by
  refine ⟨3, fun k hk => ?_⟩
  obtain ⟨k, rfl⟩ : ∃ j, k = j + 3 := ⟨k - 3, by omega⟩
  unfold cmp_Or_int.f
  have r0 : rd [x, y] 0 = x := rfl
  have r1 : rd [x, y] 1 = y := rfl
  have w1 : wrap64 (0 + 1) = 1 := by decide +kernel
  have w2 : wrap64 (1 + 1) = 2 := by decide +kernel
  simp only [cmp_Or_int.l0, List.length_cons, List.length_nil, r0, r1, w1, w2]
  by_cases hx : x = 0
  · by_cases hy : y = 0
    · simp [hx, hy]
    · simp [hx, hy]
  · simp [hx]
theorem less_ev (a0 a1 b0 b1 : Int) : Ev (fun k => stan_Less.f k a0 a1 b0 b1) (decide (a0 < b0 ∨ a0 = b0 ∧ a1 < b1)) := by
  unfold stan_Less.f stan_Compare.f
  rw [comp16, comp32]
  simp only [Option.bind_some]
  refine Ev.bind (a := if compI a0 b0 = 0 then compI a1 b1 else compI a0 b0) (Ev.bind (or_ev _ _) (Ev.now _)) ?_
  rw [show decide ((if compI a0 b0 = 0 then compI a1 b1 else compI a0 b0) < 0) = decide (a0 < b0 ∨ a0 = b0 ∧ a1 < b1) from by
    rw [decide_eq_decide]
    unfold compI
    repeat' split
    all_goals omega]
  exact Ev.now _
def keyT (t s : Nat) : List UInt8 := 45 :: (digN 5 t ++ 45 :: digN 6 s)
theorem text_f {t s : Nat} (ht : t ≤ 65535) (hs : s ≤ 999999) : stan_Text.f (t : Int) (s : Int) = some (S (keyT t s)) := by
  have e : S [45] = (⟨#[45]⟩ : ByteArray) := rfl
  have w : ∀ n : Nat, n ≤ 999999 → wrap64 (n : Int) = (n : Int) ∧ (Lit.int .i64 (n : Int)).wf = true := fun n hn => ⟨by unfold wrap64; omega, by simp [Lit.wf, IntKind.min, IntKind.max, IntKind.bits, IntKind.signed]; omega⟩
  unfold stan_Text.f
  rw [(w t (by omega)).1, (w s hs).1, bcd_Digits_eq _ _ (w t (by omega)).2, bcd_Digits_eq _ _ (w s hs).2]
  rw [show digR (t : Int) 5 = (S (digN 5 t), true) from if_pos ⟨by omega, by decide, by decide, by rw [Int.toNat_natCast]; exact Nat.lt_of_le_of_lt ht (by decide)⟩]
  rw [show digR (s : Int) 6 = (S (digN 6 s), true) from if_pos ⟨by omega, by decide, by decide, by rw [Int.toNat_natCast]; exact Nat.lt_of_le_of_lt hs (by decide)⟩]
  simp only [Option.bind_some, if_true]
  rw [← e, S_append, S_append, S_append]
  rw [if_pos (by simp only [S_size, digN_length]; omega), if_pos (by simp only [S_size, List.length_append, digN_length, List.length_singleton]; omega), if_pos (by simp only [S_size, List.length_append, digN_length, List.length_singleton]; omega)]
  first | rfl | (congr 2; unfold keyT; simp)
theorem digN_front' : ∀ k n, digN (k + 1) n = dg (n / 10 ^ k) :: digN k n
  | 0, n => by simp [digN]
  | k + 1, n => by
    rw [digN, digN_front' k (n / 10), digN, Nat.div_div_eq_div_mul, Nat.pow_succ, Nat.mul_comm 10]
    rfl
theorem lex_arith (P u v p q : Nat) (hu : u < P) (hv : v < P) : (u + P * p < v + P * q ↔ p < q ∨ p = q ∧ u < v) ∧ (u + P * p = v + P * q ↔ p = q ∧ u = v) := by
  rcases Nat.lt_trichotomy p q with h | h | h
  · have := Nat.mul_le_mul_left P (show p + 1 ≤ q from h)
    rw [Nat.mul_add, Nat.mul_one] at this
    omega
  · subst h
    omega
  · have := Nat.mul_le_mul_left P (show q + 1 ≤ p from h)
    rw [Nat.mul_add, Nat.mul_one] at this
    omega
theorem less_digN (x y : List UInt8) : ∀ k a b, Op.bytesLess (digN k a ++ x) (digN k b ++ y) = (decide (a % 10 ^ k < b % 10 ^ k) || (decide (a % 10 ^ k = b % 10 ^ k) && Op.bytesLess x y))
  | 0, a, b => by simp [digN, Nat.mod_one]
  | k + 1, a, b => by
    have hP : 0 < 10 ^ k := Nat.pow_pos (by decide)
    obtain ⟨h1, h2⟩ := lex_arith (10 ^ k) (a % 10 ^ k) (b % 10 ^ k) (a / 10 ^ k % 10) (b / 10 ^ k % 10) (Nat.mod_lt _ hP) (Nat.mod_lt _ hP)
    rw [Nat.mod_pow_succ, Nat.mod_pow_succ, digN_front', digN_front']
    simp only [List.cons_append, Op.bytesLess, less_digN x y k a b]
    rw [show decide (a % 10 ^ k + 10 ^ k * (a / 10 ^ k % 10) < b % 10 ^ k + 10 ^ k * (b / 10 ^ k % 10)) = decide (a / 10 ^ k % 10 < b / 10 ^ k % 10 ∨ a / 10 ^ k % 10 = b / 10 ^ k % 10 ∧ a % 10 ^ k < b % 10 ^ k) from decide_eq_decide.2 h1]
    rw [show decide (a % 10 ^ k + 10 ^ k * (a / 10 ^ k % 10) = b % 10 ^ k + 10 ^ k * (b / 10 ^ k % 10)) = decide (a / 10 ^ k % 10 = b / 10 ^ k % 10 ∧ a % 10 ^ k = b % 10 ^ k) from decide_eq_decide.2 h2]
    have hd : ∀ m n : Nat, decide (dg m < dg n) = decide (m % 10 < n % 10) := fun m n => by
      rw [decide_eq_decide, UInt8.lt_iff_toNat_lt, dg_toNat, dg_toNat]
      omega
    have he : ∀ m n : Nat, (dg m == dg n) = decide (m % 10 = n % 10) := fun m n => by
      rw [Bool.eq_iff_iff, beq_iff_eq, decide_eq_true_iff, ← UInt8.toNat_inj, dg_toNat, dg_toNat]
      omega
    rw [hd, he]
    generalize a / 10 ^ k % 10 = p
    generalize b / 10 ^ k % 10 = q
    generalize a % 10 ^ k = u
    generalize b % 10 ^ k = v
    rw [Bool.eq_iff_iff]
    simp only [Bool.or_eq_true, Bool.and_eq_true, decide_eq_true_eq]
    constructor
    · rintro (h | ⟨h, h' | ⟨h', h''⟩⟩)
      · exact .inl (.inl h)
      · exact .inl (.inr ⟨h, h'⟩)
      · exact .inr ⟨⟨h, h'⟩, h''⟩
    · rintro ((h | ⟨h, h'⟩) | ⟨⟨h, h'⟩, h''⟩)
      · exact .inl h
      · exact .inr ⟨h, .inl h'⟩
      · exact .inr ⟨h, .inr ⟨h', h''⟩⟩
theorem less_key {t s t' s' : Nat} (ht : t ≤ 65535) (hs : s ≤ 999999) (ht' : t' ≤ 65535) (hs' : s' ≤ 999999) : Op.bytesLess (keyT t s) (keyT t' s') = decide (t < t' ∨ t = t' ∧ s < s') := by
  have hm : ∀ n : Nat, n ≤ 65535 → n % 10 ^ 5 = n := fun n hn => Nat.mod_eq_of_lt (Nat.lt_of_le_of_lt hn (by decide))
  have hm' : ∀ n : Nat, n ≤ 999999 → n % 10 ^ 6 = n := fun n hn => Nat.mod_eq_of_lt (Nat.lt_of_le_of_lt hn (by decide))
  have h6 := less_digN [] [] 6 s s'
  rw [List.append_nil, List.append_nil, hm' s hs, hm' s' hs'] at h6
  unfold keyT
  simp only [Op.bytesLess, less_digN, h6, hm t ht, hm t' ht']
  rw [Bool.eq_iff_iff]
  first | (simp; done) | (simp; omega)
end Go.Proofs.YtidjkodejcnolaaDoor.Q
