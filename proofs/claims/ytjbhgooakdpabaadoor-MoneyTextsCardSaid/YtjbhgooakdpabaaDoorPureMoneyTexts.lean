import Derived.Test.YtjbhgooakdpabaaDoorQMoney3
import Derived.Test.YtjbhgooakdpabaaDoorPAllx5
/- MoneyTexts: the text of any amount, and which amount any text is. -/
namespace Go.Proofs.YtjbhgooakdpabaaDoor.Pure
open Go.RowKit Go.Proofs.YtjbhgooakdpabaaDoorW.PrintWords Go.Proofs.YtjbhgooakdpabaaDoorW.PrintMore Go.Proofs.YtjbhgooakdpabaaDoor.PAll Go.Proofs.YtjbhgooakdpabaaDoor.Q
set_option linter.unusedVariables false
open Go.Lib (decDigits)

abbrev ints (l : List UInt8) : List Int := l.map fun c => (c.toNat : Int)
theorem str_ints (l : List UInt8) : strOfNums (ints l) = S l := by
  unfold strOfNums
  rw [List.map_map]
  have : ((fun n : Int => UInt8.ofNat n.toNat) ∘ fun c : UInt8 => (c.toNat : Int)) = id := funext fun c => by simp
  rw [this, List.map_id]
theorem bytes_S (l : List UInt8) : bytesOf (S l) = ints l := by simp [bytesOf]
theorem ints_of {l : List Int} (h : ∀ c ∈ l, U8 c) : ∃ X : List UInt8, l = ints X := by
  refine ⟨l.map fun n => UInt8.ofNat n.toNat, ?_⟩
  unfold ints
  rw [List.map_map]
  refine (List.map_id l).symm.trans (List.map_congr_left fun c hc => ?_)
  have := h c hc
  unfold U8 at this
  simp only [Function.comp, id, UInt8.toNat_ofNat']
  omega
theorem ints_u8 (X : List UInt8) : ∀ c ∈ ints X, U8 c := by
  intro c hc
  obtain ⟨x, _, rfl⟩ := List.mem_map.1 hc
  unfold U8
  have := x.toNat_lt
  omega
theorem set_bytes (X : List UInt8) (j : Nat) (c : Int) (hc : U8 c) : ∃ Y : List UInt8, strOfNums ((ints X).set j c) = S Y ∧ Y.length = X.length := by
  obtain ⟨Y, hY⟩ := ints_of (l := (ints X).set j c) (fun x hx => by
    rcases List.mem_or_eq_of_mem_set hx with h | h
    · exact ints_u8 X x h
    · rw [h]; exact hc)
  refine ⟨Y, by rw [hY, str_ints], ?_⟩
  have := congrArg List.length hY
  simpa using this.symm
theorem field_eq {v : Int} (hw : (Lit.int .i64 v).wf = true) : money_Field.f v = some (digR v 12) := by
  unfold money_Field.f
  rw [bcd_Digits_eq v 12 hw]
  rfl
theorem wf_of {v : Int} (h : I64 v) : (Lit.int .i64 v).wf = true := by
  unfold I64 at h
  simp [Lit.wf, IntKind.min, IntKind.max, IntKind.bits, IntKind.signed]
  omega
theorem money_len {v : Int} (h : I64 v) : 4 ≤ (moneyT v).length ∧ (moneyT v).length ≤ 21 := by
  have hm : v.natAbs ≤ 9223372036854775808 := by unfold I64 at h; omega
  have := body_len hm
  unfold moneyT signT
  split <;> simp <;> omega
theorem rdOf_map (zs : List (List UInt8)) (j : Nat) (h : j < zs.length) : rdOf ByteArray.empty (zs.map S) (j : Int) = S zs[j] := by
  unfold rdOf
  rw [Int.toNat_natCast, List.getD_eq_getElem?_getD, List.getElem?_map, List.getElem?_eq_getElem h]
  rfl
section
variable (s : List UInt8) (m : Nat) (c : Int) (l : List Int) (n : Int)
theorem texts_l1 (i : Nat) (zs : List (List UInt8)) (hz : ∀ z ∈ zs, z.length ≤ 1000) (hn : zs.length ≤ 100) (hk : Ev (fun k => guichetlaw16_MoneyTexts.l0 k (S s) (m : Int) c l n (wrap64 ((i : Int) + 1))) true) (d : Nat) :
    ∀ j : Nat, zs.length - j = d → j ≤ zs.length → Ev (fun k => guichetlaw16_MoneyTexts.l1 k (S s) (m : Int) c l n (i : Int) (zs.map S) ((zs.map S).length : Int) (j : Int)) true := by
  induction d with
  | zero =>
    intro j h1 hj
    refine Ev.step (f := fun k => guichetlaw16_MoneyTexts.l0 k (S s) (m : Int) c l n (wrap64 ((i : Int) + 1))) (fun k => ?_) hk
    simp only [guichetlaw16_MoneyTexts.l1]
    rw [if_neg (by rw [List.length_map]; omega)]
  | succ d ih =>
    intro j h1 hj
    have hlt : j < zs.length := by omega
    have hzl := hz zs[j] (List.getElem_mem hlt)
    refine Ev.step (f := fun k => (guichetref12_MoneyParse.f k (S zs[j])).bind fun b => if (amountOf zs[j]).1 = b.1 then (if ((amountOf zs[j]).2 != b.2) = true then none else guichetlaw16_MoneyTexts.l1 k (S s) (m : Int) c l n (i : Int) (zs.map S) ((zs.map S).length : Int) ((j + 1 : Nat) : Int)) else none) (fun k => ?_) ?_
    · simp only [guichetlaw16_MoneyTexts.l1]
      rw [if_pos (by rw [List.length_map]; omega), if_pos (by omega), if_pos (by rw [List.length_map]; omega), rdOf_map zs j hlt, parse_amount _ hzl, wrap_succ hlt (by omega)]
      rfl
    · refine Ev.bind (ref_parse _ hzl) (Ev.ite_pos rfl (Ev.ite_neg (by rw [bne_self_eq_false]; simp) ?_))
      exact ih (j + 1) (by omega) (by omega)
theorem texts_j1 (hs : s.length ≤ 60) (hm : m ≤ 255) (hc : U8 c) (i : Nat) {v : Int} (hv : I64 v) (hk : Ev (fun k => guichetlaw16_MoneyTexts.l0 k (S s) (m : Int) c l n (wrap64 ((i : Int) + 1))) true) :
    Ev (fun k => guichetlaw16_MoneyTexts.j1 k (S s) (m : Int) c (S (moneyT v)) l n (i : Int) false) true := by
  obtain ⟨h4, h21⟩ := money_len hv
  generalize moneyT v = t at h4 h21
  obtain ⟨Y, hY, hYl⟩ := set_bytes t (m % t.length) c hc
  have hlen : (ints t).length = t.length := List.length_map _
  have hj : Int.tmod (wrap64 (m : Int)) (t.length : Int) = ((m % t.length : Nat) : Int) := by
    rw [show wrap64 (m : Int) = (m : Int) from by unfold wrap64; omega, Int.tmod_eq_emod_of_nonneg (by omega)]
    rfl
  have hjlt : m % t.length < t.length := Nat.mod_lt _ (by omega)
  have e48 : (⟨#[48]⟩ : ByteArray) = S [48] := rfl
  refine Ev.step (f := fun k => guichetlaw16_MoneyTexts.l1 k (S s) (m : Int) c l n (i : Int) ([s, Y, [48] ++ t, t ++ [48]].map S) (([s, Y, [48] ++ t, t ++ [48]].map S).length : Int) ((0 : Nat) : Int)) (fun k => ?_) ?_
  · simp only [guichetlaw16_MoneyTexts.j1]
    rw [if_neg (by simp), show convBytes.f (S t) = some (ints t) from by unfold convBytes.f; rw [if_pos (by rw [S_size]; omega), bytes_S]]
    simp only [Option.bind_some]
    rw [hlen, hj, if_neg (by omega), if_pos (by omega), if_pos (by omega), Int.toNat_natCast, hY, S_size, if_pos (by omega), if_pos (by omega), e48, S_append, S_append]
    rfl
  · refine texts_l1 s m c l n i _ (fun z hz => ?_) (by simp) hk _ 0 rfl (by simp)
    simp only [List.mem_cons, List.not_mem_nil, or_false] at hz
    rcases hz with rfl | rfl | rfl | rfl
    · omega
    · omega
    · rw [List.length_append, List.length_singleton]; omega
    · rw [List.length_append, List.length_singleton]; omega
end
theorem texts_l0 (s : List UInt8) (m : Nat) (c : Int) (hs : s.length ≤ 60) (hm : m ≤ 255) (hc : U8 c) (l : List Int) (hl : ∀ v ∈ l, I64 v) (hn : l.length ≤ 100) (d : Nat) :
    ∀ i : Nat, l.length - i = d → i ≤ l.length → Ev (fun k => guichetlaw16_MoneyTexts.l0 k (S s) (m : Int) c l (l.length : Int) (i : Int)) true := by
  induction d with
  | zero =>
    intro i h1 hi
    refine Ev.step (f := fun _ => some true) (fun k => ?_) (Ev.now _)
    simp only [guichetlaw16_MoneyTexts.l0]
    rw [if_neg (by omega)]
  | succ d ih =>
    intro i h1 hi
    have hlt : i < l.length := by omega
    have hv := hl l[i] (List.getElem_mem hlt)
    have hnext := ih (i + 1) (by omega) (by omega)
    generalize hvi : l[i] = v at hv
    refine Ev.step (f := fun k => (guichetref1_Digits.f k v 12).bind fun b => (guichetref12_MoneyText.f k v).bind fun t => if (S (moneyT v)).toList = t.toList then (if (digR v 12).1.toList = b.1.toList then guichetlaw16_MoneyTexts.j1 k (S s) (m : Int) c (S (moneyT v)) l (l.length : Int) (i : Int) ((digR v 12).2 != b.2) else guichetlaw16_MoneyTexts.j1 k (S s) (m : Int) c (S (moneyT v)) l (l.length : Int) (i : Int) true) else guichetlaw16_MoneyTexts.j1 k (S s) (m : Int) c (S (moneyT v)) l (l.length : Int) (i : Int) true) (fun k => ?_) ?_
    · simp only [guichetlaw16_MoneyTexts.l0]
      rw [if_pos (by omega), if_pos (by omega), if_pos (by omega), rd_lt hlt, hvi, text_eq hv]
      simp only [Option.bind_some]
      rw [parse_money hv]
      simp only [Option.bind_some]
      rw [field_eq (wf_of hv)]
      simp only [Option.bind_some, if_true]
    · refine Ev.bind (ref_digits v 12 (wf_of hv)) (Ev.bind (ref_text hv) (Ev.ite_pos rfl (Ev.ite_pos rfl ?_)))
      rw [bne_self_eq_false]
      refine texts_j1 s m c l _ hs hm hc i hv ?_
      rw [wrap_succ hlt (by omega)]
      exact hnext
theorem bits_nn : ∀ x : Fin 256, 0 ≤ Go.bits .and .u8 (x.val : Int) 63 := by decide +kernel
theorem shr_I64 {a : Int} (h : I64 a) (n : Int) : I64 (shr .i64 a n) := by
  have e : shr .i64 a n = a / 2 ^ min n.toNat 64 := rfl
  rw [e]
  unfold I64 at h ⊢
  have hd : (1 : Int) ≤ 2 ^ min n.toNat 64 := by
    have : (0 : Int) < 2 ^ min n.toNat 64 := Int.pow_pos (by decide)
    omega
  generalize (2 : Int) ^ min n.toNat 64 = d at hd
  constructor
  · rw [Int.le_ediv_iff_mul_le (by omega)]
    omega
  · have : a / d < 9223372036854775808 := by
      rw [Int.ediv_lt_iff_lt_mul (by omega)]
      omega
    omega
theorem MoneyTexts : guichetlaw16_MoneyTexts.Pure := by
  intro a0 a1 a2 a3 a4 w0 w1 w2 w3 w4
  have hb : I64 a0 := by unfold I64; simpa [Lit.wf, IntKind.min, IntKind.max, IntKind.bits, IntKind.signed] using w0
  have h2 := U8.of w2
  have h3 := U8.of w3
  have h4 := U8.of w4
  unfold U8 at h2 h3
  obtain ⟨x, rfl⟩ := Int.eq_ofNat_of_zero_le h2.1
  obtain ⟨m, rfl⟩ := Int.eq_ofNat_of_zero_le h3.1
  refine Ev.rounds (g := fun k => guichetlaw16_MoneyTexts.f k a0 a1 (x : Int) (m : Int) a4) ?_
  unfold guichetlaw16_MoneyTexts.f
  refine Ev.const_bind (show guichetlaw16_known.f = some true from rfl) (Ev.ite_pos rfl ?_)
  by_cases h : (a1.size : Int) > 60
  · exact Ev.ite_pos h (Ev.now _)
  refine Ev.ite_neg h (Ev.ite_pos (bits_nn ⟨x, by omega⟩) (Ev.some_bind ?_))
  have hl : ∀ v ∈ [a0, shr .i64 a0 (Go.bits .and .u8 (x : Int) 63), wrap64 (-(shr .i64 a0 (Go.bits .and .u8 (x : Int) 63))), (-9223372036854775808), 9223372036854775807], I64 v := by
    intro v hv
    simp only [List.mem_cons, List.not_mem_nil, or_false] at hv
    rcases hv with rfl | rfl | rfl | rfl | rfl
    · exact hb
    · exact shr_I64 hb _
    · exact i64_wrap _
    · unfold I64; omega
    · unfold I64; omega
  have := texts_l0 a1.data.toList m a4 (by rw [← size_list]; omega) (by omega) h4 _ hl (by simp) _ 0 rfl (by omega)
  rw [S_of] at this
  exact this
end Go.Proofs.YtjbhgooakdpabaaDoor.Pure
