/- Numbers read and written, by the program and by its reference. -/
import Derived.Test.YtcldlekkbabpoaaDoorQBcdPack
import Derived.Test.YtcldlekkbabpoaaDoorQRefDigits
import Derived.Test.YtcldlekkbabpoaaDoorPAllx5
namespace Go.Proofs.YtcldlekkbabpoaaDoor.Pure
open Go.RowKit Go.Proofs.YtcldlekkbabpoaaDoorW.PrintWords Go.Proofs.YtcldlekkbabpoaaDoorW.PrintMore Go.Proofs.YtcldlekkbabpoaaDoor.PAll Go.Proofs.YtcldlekkbabpoaaDoor.Q
set_option linter.unusedVariables false

theorem shr_wf {x : Int} (s : Int) (h : (Lit.int .i64 x).wf = true) : (Lit.int .i64 (shr .i64 x s)).wf = true := by
  have hb : -9223372036854775808 ≤ x ∧ x ≤ 9223372036854775807 := by simpa [Lit.wf, IntKind.min, IntKind.max, IntKind.bits, IntKind.signed] using h
  have hd : ∀ n : Nat, -9223372036854775808 ≤ x / ((2 ^ n : Nat) : Int) ∧ x / ((2 ^ n : Nat) : Int) ≤ 9223372036854775807 := fun n => by
    have hp : 0 < 2 ^ n := Nat.pow_pos (by decide)
    generalize 2 ^ n = q at hp
    have hq : (1 : Int) ≤ (q : Int) := by omega
    constructor
    · exact Int.le_ediv_of_mul_le (by omega) (Int.le_trans (by omega) hb.1)
    · by_cases hx : 0 ≤ x
      · exact Int.le_trans (Int.ediv_le_self _ hx) hb.2
      · have := Int.ediv_neg_of_neg_of_pos (show x < 0 by omega) (show (0 : Int) < (q : Int) by omega)
        omega
  have h := hd (min s.toNat 64)
  have e : shr .i64 x s = x / ((2 ^ (min s.toNat 64) : Nat) : Int) := by
    unfold shr
    rw [Int.natCast_pow]
    rfl
  rw [e]
  generalize x / ((2 ^ (min s.toNat 64) : Nat) : Int) = z at h
  simpa [Lit.wf, IntKind.min, IntKind.max, IntKind.bits, IntKind.signed] using h
theorem numbers_l0 (a1 a2 a3 : Int) (P : List ByteArray) (hP : P.length ≤ 100) (hs : ∀ s ∈ P, s.size ≤ 1000) (hn : Ev (fun k => guichetlaw6_BcdNumbers.l0 k a1 a2 a3 P (P.length : Int) (P.length : Int)) true) (d : Nat) : ∀ i : Nat, P.length - i = d → i ≤ P.length → Ev (fun k => guichetlaw6_BcdNumbers.l0 k a1 a2 a3 P (P.length : Int) (i : Int)) true := by
  induction d with
  | zero =>
    intro i hd hi
    obtain rfl : i = P.length := by omega
    exact hn
  | succ d ih =>
    intro i hd hi
    have hlt : i < P.length := by omega
    have hr : rdOf ByteArray.empty P (i : Int) = S P[i].data.toList := by simp [rdOf, List.getD_eq_getElem?_getD, List.getElem?_eq_getElem hlt]
    have hsz : P[i].data.toList.length ≤ 1000 := by rw [data_length]; exact hs P[i] (List.getElem_mem hlt)
    generalize P[i].data.toList = l at hr hsz
    refine Ev.step (f := fun k => (bcd_Number.f k (S l)).bind fun a => (guichetref1_Num.f k (S l)).bind fun b => if a.1 = b.1 then (if (a.2 != b.2) = true then some false else guichetlaw6_BcdNumbers.l0 k a1 a2 a3 P (P.length : Int) ((i + 1 : Nat) : Int)) else some false) (fun k => ?_) ?_
    · simp only [guichetlaw6_BcdNumbers.l0]
      rw [if_pos (by omega), if_pos (by omega), if_pos (by omega), hr, wrap_succ hlt (by omega)]
    · refine Ev.bind (bcd_number l (by omega)) (Ev.bind (ref_num l (by omega)) (Ev.ite_pos rfl (Ev.ite_neg (by simp) (ih (i + 1) (by omega) (by omega)))))
theorem numbers_l2 (a1 a3 n : Int) (N : List Int) (i : Int) (V : List Int) (hV : V.length ≤ 100) (hw : ∀ v ∈ V, (Lit.int .i64 v).wf = true) (hn : Ev (fun k => guichetlaw6_BcdNumbers.l1 k a1 a3 N (N.length : Int) (wrap64 (i + 1))) true) (d : Nat) : ∀ j : Nat, V.length - j = d → j ≤ V.length → Ev (fun k => guichetlaw6_BcdNumbers.l2 k a1 a3 n N (N.length : Int) i V (V.length : Int) (j : Int)) true := by
  induction d with
  | zero =>
    intro j hd hj
    exact Ev.step (fun k => by simp only [guichetlaw6_BcdNumbers.l2]; rw [if_neg (by omega)]) hn
  | succ d ih =>
    intro j hd hj
    have hlt : j < V.length := by omega
    have hv := hw V[j] (List.getElem_mem hlt)
    have hr : rd V (j : Int) = V[j] := rd_lt hlt
    generalize V[j] = v at hv hr
    have hnext := ih (j + 1) (by omega) (by omega)
    refine Ev.step (f := fun k => (bcd_Digits.f v n).bind fun a => (guichetref1_Digits.f k v n).bind fun b => if a.1.toList = b.1.toList then (guichetlaw6_BcdNumbers.j3 k a1 a3 n v a.1 a.2 N (N.length : Int) i V (V.length : Int) (j : Int) (a.2 != b.2)) else (guichetlaw6_BcdNumbers.j3 k a1 a3 n v a.1 a.2 N (N.length : Int) i V (V.length : Int) (j : Int) true)) (fun k => ?_) ?_
    · simp only [guichetlaw6_BcdNumbers.l2]
      rw [if_pos (by omega), if_pos (by omega), if_pos (by omega), hr]
    refine Ev.const_bind (bcd_Digits_eq v n hv) (Ev.bind (ref_digits v n hv) (Ev.ite_pos rfl ?_))
    rw [bne_self_eq_false]
    by_cases h : 0 ≤ v ∧ 1 ≤ n ∧ n ≤ 18 ∧ v.toNat < 10 ^ n.toNat
    · have hN : numR (digN n.toNat v.toNat) = ((v.toNat : Int), true) := numR_digN (by have := h.2.1; clear h; omega) (by have := h.2.2.1; clear h; omega) h.2.2.2
      rw [show digR v n = (S (digN n.toNat v.toNat), true) from if_pos h]
      have h0 := h.1
      have h18 := h.2.2.1
      clear h
      have hnum := bcd_number (digN n.toNat v.toNat) (by rw [digN_length]; omega)
      rw [hN] at hnum
      refine Ev.step (f := fun k => (bcd_Number.f k (S (digN n.toNat v.toNat))).bind fun t => if true = true then (if t.2 = true then (if t.1 = v then guichetlaw6_BcdNumbers.l2 k a1 a3 n N (N.length : Int) i V (V.length : Int) ((j + 1 : Nat) : Int) else some false) else some false) else guichetlaw6_BcdNumbers.l2 k a1 a3 n N (N.length : Int) i V (V.length : Int) ((j + 1 : Nat) : Int)) (fun k => ?_) ?_
      · simp only [guichetlaw6_BcdNumbers.j3, Bool.false_eq_true, if_false]
        rw [wrap_succ hlt (by omega)]
      · exact Ev.bind hnum (Ev.ite_pos rfl (Ev.ite_pos rfl (Ev.ite_pos (by show (v.toNat : Int) = v; omega) hnext)))
    · rw [show digR v n = (S [], false) from if_neg h]
      clear h
      have hnum := bcd_number [] (by simp)
      refine Ev.step (f := fun k => (bcd_Number.f k (S [])).bind fun t => guichetlaw6_BcdNumbers.l2 k a1 a3 n N (N.length : Int) i V (V.length : Int) ((j + 1 : Nat) : Int)) (fun k => ?_) (Ev.bind hnum hnext)
      simp only [guichetlaw6_BcdNumbers.j3, Bool.false_eq_true, if_false]
      rw [wrap_succ hlt (by omega)]
theorem numbers_l1 (a1 a3 : Int) (hw : (Lit.int .i64 a1).wf = true) (h3 : 0 ≤ Go.bits .and .u8 a3 63) (N : List Int) (hN : N.length ≤ 100) (d : Nat) : ∀ i : Nat, N.length - i = d → i ≤ N.length → Ev (fun k => guichetlaw6_BcdNumbers.l1 k a1 a3 N (N.length : Int) (i : Int)) true := by
  induction d with
  | zero =>
    intro i hd hi
    exact Ev.step (f := fun _ => some true) (fun k => by simp only [guichetlaw6_BcdNumbers.l1]; rw [if_neg (by omega)]) (Ev.now _)
  | succ d ih =>
    intro i hd hi
    have hlt : i < N.length := by omega
    have hn := ih (i + 1) (by omega) (by omega)
    rw [← wrap_succ hlt (show N.length ≤ 140737488355328 by omega)] at hn
    have h2 := numbers_l2 a1 a3 (rd N (i : Int)) N (i : Int) [a1, shr .i64 a1 (Go.bits .and .u8 a3 63)] (by simp) (by
      intro v hv
      rcases List.mem_cons.1 hv with rfl | hv
      · exact hw
      · rw [List.mem_singleton.1 hv]
        exact shr_wf _ hw) hn _ 0 rfl (by simp)
    refine Ev.step (fun k => ?_) h2
    simp only [guichetlaw6_BcdNumbers.l1]
    rw [if_pos (by omega), if_pos (by omega), if_pos (by omega), if_pos h3]
    rfl
theorem BcdNumbers : guichetlaw6_BcdNumbers.Pure := by
  intro s a b c _ ha hb hc
  have hc' : 0 ≤ c ∧ c ≤ 255 := by simpa [Lit.wf, IntKind.min, IntKind.max, IntKind.bits, IntKind.signed] using hc
  obtain ⟨y, rfl⟩ := Int.eq_ofNat_of_zero_le hc'.1
  have h63 : 0 ≤ Go.bits .and .u8 (y : Int) 63 := by
    have : ∀ x : Fin 256, 0 ≤ Go.bits .and .u8 (x.val : Int) 63 := by decide +kernel
    exact this ⟨y, by omega⟩
  refine Ev.rounds (g := fun k => guichetlaw6_BcdNumbers.f k s a b (y : Int)) ?_
  unfold guichetlaw6_BcdNumbers.f
  refine Ev.bind known_true (Ev.ite_pos rfl ?_)
  by_cases h1 : (s.size : Int) > 60
  · exact Ev.ite_pos h1 (Ev.now _)
  refine Ev.ite_neg h1 ?_
  obtain ⟨u, hu, hu2⟩ : ∃ u : Nat, IntKind.u64.wrap a = (u : Int) ∧ u < 18446744073709551616 := by
    refine ⟨(a % 18446744073709551616).toNat, ?_, ?_⟩
    · rw [IntKind.wrap_u64]; omega
    · omega
  have ht : wrap64 (Int.tmod (y : Int) 22) = ((y % 22 : Nat) : Int) := by
    rw [Int.tmod_eq_emod_of_nonneg (by omega)]
    unfold wrap64
    omega
  rw [hu, ht]
  obtain ⟨l, hl, hl1, hl2⟩ := seat_digits u (y % 22) (by omega) hu2
  refine Ev.bind hl (Ev.some_bind ?_)
  refine numbers_l0 a b (y : Int) [s, S l] (by simp) (by
    intro t ht
    rcases List.mem_cons.1 ht with rfl | ht
    · omega
    · rw [List.mem_singleton.1 ht, S_size]; omega) ?_ _ 0 rfl (by simp)
  have h2 := numbers_l1 a (y : Int) ha h63 [b, Go.bits .and .i64 b 31] (by simp) _ 0 rfl (by simp)
  refine Ev.step (fun k => ?_) h2
  simp only [guichetlaw6_BcdNumbers.l0]
  rw [if_neg (by omega)]
  rfl
end Go.Proofs.YtcldlekkbabpoaaDoor.Pure
