-- written by xprint.py out of the translation. Not trusted: Lean checks it.
import Derived.Test.YtidjkodejcnolaaDoorPAllx0
import Derived.Test.YtidjkodejcnolaaDoorPAllx1
import Derived.Test.YtidjkodejcnolaaDoorPAllx2
namespace Go.Proofs.YtidjkodejcnolaaDoor.PAll
open Go.RowKit Go.Proofs.YtidjkodejcnolaaDoorW.PrintWords Go.Proofs.YtidjkodejcnolaaDoorW.PrintLast Go.Proofs.YtidjkodejcnolaaDoorW.PrintMore
attribute [local go_sem] max2_int min2_int max_two min_two max_three min_three max_four min_four   -- for this text's walks alone
set_option linter.unusedVariables false
set_option linter.unusedSimpArgs false

/-! ### guichetlaw10_StanLine: function 4 -/
/-- What plain Lean has to show: the order of the keys and of their texts. -/
def guichetlaw10_StanLine.Pure : Prop := ∀ (a0_0 : Int) (a0_1 : Int) (a1_0 : Int) (a1_1 : Int) (a2_0 : Int) (a2_1 : Int), (Lit.int .u16 a0_0).wf = true → (Lit.int .u32 a0_1).wf = true → (Lit.int .u16 a1_0).wf = true → (Lit.int .u32 a1_1).wf = true → (Lit.int .u16 a2_0).wf = true → (Lit.int .u32 a2_1).wf = true → ∃ k, guichetlaw10_known.f k = some true ∧ ∃ (L1 L2 L3 L4 : Bool) (ta tb : ByteArray), stan_Less.f k a0_0 (Int.tmod a0_1 1000000) a1_0 (Int.tmod a1_1 1000000) = some L1 ∧ stan_Less.f k a1_0 (Int.tmod a1_1 1000000) a2_0 (Int.tmod a2_1 1000000) = some L2 ∧ stan_Less.f k a0_0 (Int.tmod a0_1 1000000) a2_0 (Int.tmod a2_1 1000000) = some L3 ∧ stan_Less.f k a1_0 (Int.tmod a1_1 1000000) a0_0 (Int.tmod a0_1 1000000) = some L4 ∧ stan_Text.f a0_0 (Int.tmod a0_1 1000000) = some ta ∧ stan_Text.f a1_0 (Int.tmod a1_1 1000000) = some tb ∧ (L1 = true → L2 = true → L3 = true) ∧ Op.bytesLess ta.toList tb.toList = L1 ∧ (a0_0 == a1_0 && (Int.tmod a0_1 1000000) == (Int.tmod a1_1 1000000)) = !(L1 || L4)
attribute [local go_sem high] eqK25
set_option maxHeartbeats 16000000 in
set_option maxRecDepth 100000 in
theorem guichetlaw10_StanLine.walk (P : guichetlaw10_StanLine.Pure) (a0_0 : Int) (a0_1 : Int) (a1_0 : Int) (a1_1 : Int) (a2_0 : Int) (a2_1 : Int) (w : World) (hT : TAB w) (w0_0 : (Lit.int .u16 a0_0).wf = true) (w0_1 : (Lit.int .u32 a0_1).wf = true) (w1_0 : (Lit.int .u16 a1_0).wf = true) (w1_1 : (Lit.int .u32 a1_1).wf = true) (w2_0 : (Lit.int .u16 a2_0).wf = true) (w2_1 : (Lit.int .u32 a2_1).wf = true) :
  Calls Tryd.prog 4 #[.agg #[.int .u16 a0_0, .int .u32 a0_1], .agg #[.int .u16 a1_0, .int .u32 a1_1], .agg #[.int .u16 a2_0, .int .u32 a2_1]] w fun e w' => e = .returned (.bool true) ∧ Below w.heap.size w w' := by
 have hu25 := Tryd.underlying25
 obtain ⟨k, hk, L1, L2, L3, L4, ta, tb, h1, h2, h3, h4, h5, h6, himp, hS, hE⟩ := P a0_0 a0_1 a1_0 a1_1 a2_0 a2_1 w0_0 w0_1 w1_0 w1_1 w2_0 w2_1
 have HT := Aside0.mk hT
 have HKN := Aside0.mk hk
 have HL1 := Aside0.mk h1
 have HL2 := Aside0.mk h2
 have HL3 := Aside0.mk h3
 have HL4 := Aside0.mk h4
 have HXA := Aside0.mk h5
 have HXB := Aside0.mk h6
 have HIM := Aside0.mk himp
 have HS := Aside0.mk hS
 have HE := Aside0.mk hE
 clear hT hk h1 h2 h3 h4 h5 h6 himp hS hE
 have HB := Aside0.mk (Below.refl w.heap.size w)
 go_enter Tryd.func4, Tryd.ntmps4
 go_upto_region 3 with (first | ((with_reducible refine gate_dst (N := 3) rfl ?_); refine box_event ?hg (N := 3) ?hd (cs := #[.int .u16 a0_0, .int .u32 a0_1]) (t := 25) ?hr ?_; (case hd => rfl); (case hg => rfl); (case hr => first | (go_simp; done) | (go_simp; rfl)); intro g0 hgb wb0 hbox hb; have n1_ := Aside0.mk (below_step HB.out hb); have BK0 := Aside0.mk hbox; have GE0 := Aside0.mk (show w.heap.size ≤ g0 from by rw [hgb]; exact below_size HB.out); clear HB hb hgb hbox; have HB := n1_; clear n1_) | ((with_reducible refine gate_dst (N := 4) rfl ?_); refine box_event ?hg (N := 4) ?hd (cs := #[.int .u16 a1_0, .int .u32 a1_1]) (t := 25) ?hr ?_; (case hd => rfl); (case hg => rfl); (case hr => first | (go_simp; done) | (go_simp; rfl)); intro g1 hgb wb1 hbox hb; have n1_ := Aside0.mk (below_step HB.out hb); have BK1 := Aside0.mk hbox; have GE1 := Aside0.mk (show w.heap.size ≤ g1 from by rw [hgb]; exact below_size HB.out); have q0_ := Aside0.mk (blk_below BK0.out hb); have NE0_1 : g0 ≠ g1 := (by rw [hgb]; exact Nat.ne_of_lt (blk_lt BK0.out)); clear HB hb hgb hbox BK0; have HB := n1_; clear n1_; have BK0 := q0_; clear q0_) | ((with_reducible refine gate_dst (N := 5) rfl ?_); refine box_event ?hg (N := 5) ?hd (cs := #[.int .u16 a2_0, .int .u32 a2_1]) (t := 25) ?hr ?_; (case hd => rfl); (case hg => rfl); (case hr => first | (go_simp; done) | (go_simp; rfl)); intro g2 hgb wb2 hbox hb; have n1_ := Aside0.mk (below_step HB.out hb); have BK2 := Aside0.mk hbox; have GE2 := Aside0.mk (show w.heap.size ≤ g2 from by rw [hgb]; exact below_size HB.out); have q0_ := Aside0.mk (blk_below BK0.out hb); have NE0_2 : g0 ≠ g2 := (by rw [hgb]; exact Nat.ne_of_lt (blk_lt BK0.out)); have q1_ := Aside0.mk (blk_below BK1.out hb); have NE1_2 : g1 ≠ g2 := (by rw [hgb]; exact Nat.ne_of_lt (blk_lt BK1.out)); clear HB hb hgb hbox BK0 BK1; have HB := n1_; clear n1_; have BK0 := q0_; clear q0_; have BK1 := q1_; clear q1_) | (go_at_call 6; refine (guichetlaw10_known.calls k true _ (tab_at HT.out HB.out) HKN.out).mono ?_; rintro e w1 ⟨rfl, hb⟩; have n1_ : Aside0 (Below w.heap.size w w1) := ⟨by first | exact below_step HB.out hb | exact below_step (below_drew1 HB.out) hb⟩; have q0_ : Aside0 (w1.heap[g0]? = some (.cells #[.int .u16 a0_0, .int .u32 a0_1] 25 (0, 0))) := ⟨by first | exact blk_below BK0.out hb | exact blk_below (blk_drew BK0.out) hb⟩; have q1_ : Aside0 (w1.heap[g1]? = some (.cells #[.int .u16 a1_0, .int .u32 a1_1] 25 (0, 0))) := ⟨by first | exact blk_below BK1.out hb | exact blk_below (blk_drew BK1.out) hb⟩; have q2_ : Aside0 (w1.heap[g2]? = some (.cells #[.int .u16 a2_0, .int .u32 a2_1] 25 (0, 0))) := ⟨by first | exact blk_below BK2.out hb | exact blk_below (blk_drew BK2.out) hb⟩; clear HB BK0 BK1 BK2 hb; have HB := n1_; have BK0 := q0_; have BK1 := q1_; have BK2 := q2_; clear n1_ q0_ q1_ q2_; have hz0_0 : w1.cell? ⟨g0, 0, none⟩ = some (.int .u16 a0_0) := (blk_cell BK0.out 0).trans rfl; have hz0_1 : w1.cell? ⟨g0, 1, none⟩ = some (.int .u32 a0_1) := (blk_cell BK0.out 1).trans rfl; have hz1_0 : w1.cell? ⟨g1, 0, none⟩ = some (.int .u16 a1_0) := (blk_cell BK1.out 0).trans rfl; have hz1_1 : w1.cell? ⟨g1, 1, none⟩ = some (.int .u32 a1_1) := (blk_cell BK1.out 1).trans rfl; have hz2_0 : w1.cell? ⟨g2, 0, none⟩ = some (.int .u16 a2_0) := (blk_cell BK2.out 0).trans rfl; have hz2_1 : w1.cell? ⟨g2, 1, none⟩ = some (.int .u32 a2_1) := (blk_cell BK2.out 1).trans rfl; have hf0 := blk_frozen BK0.out 1; have hf1 := blk_frozen BK1.out 1; have hf2 := blk_frozen BK2.out 1))
 (try simp only [Act.put, List.setIfInBounds_toArray, List.set_cons_zero, List.set_cons_succ])
 have n01 := NE0_1.symm
 have n02 := NE0_2.symm
 have n12 := NE1_2.symm
 go_cut [9] (fun v9 wc => Aside0 (wc.heap[g0]? = some (.cells #[.int .u16 a0_0, .int .u32 (Int.tmod a0_1 1000000)] 25 (0, 0))) ∧ Aside0 (wc.heap[g1]? = some (.cells #[.int .u16 a1_0, .int .u32 (Int.tmod a1_1 1000000)] 25 (0, 0))) ∧ Aside0 (wc.heap[g2]? = some (.cells #[.int .u16 a2_0, .int .u32 (Int.tmod a2_1 1000000)] 25 (0, 0))) ∧ Aside0 (Below w.heap.size w wc))
 case first =>
  go_region_with (fail)
  all_goals go_wp2
  all_goals go_meet
  all_goals (case rel => exact ⟨⟨blk_drew (blk_far (p := ⟨g2, 1, none⟩) (blk_far (p := ⟨g1, 1, none⟩) (blk_put (cs := #[.int .u16 a0_0, .int .u32 a0_1]) (BK0.out) 1 (.int .u32 (Int.tmod a0_1 1000000)) rfl) (show g0 ≠ g1 from by assumption) (.int .u32 (Int.tmod a1_1 1000000))) (show g0 ≠ g2 from by assumption) (.int .u32 (Int.tmod a2_1 1000000)))⟩, ⟨blk_drew (blk_far (p := ⟨g2, 1, none⟩) (blk_put (cs := #[.int .u16 a1_0, .int .u32 a1_1]) (blk_far (p := ⟨g0, 1, none⟩) (BK1.out) (show g1 ≠ g0 from by assumption) (.int .u32 (Int.tmod a0_1 1000000))) 1 (.int .u32 (Int.tmod a1_1 1000000)) rfl) (show g1 ≠ g2 from by assumption) (.int .u32 (Int.tmod a2_1 1000000)))⟩, ⟨blk_drew (blk_put (cs := #[.int .u16 a2_0, .int .u32 a2_1]) (blk_far (p := ⟨g1, 1, none⟩) (blk_far (p := ⟨g0, 1, none⟩) (BK2.out) (show g2 ≠ g0 from by assumption) (.int .u32 (Int.tmod a0_1 1000000))) (show g2 ≠ g1 from by assumption) (.int .u32 (Int.tmod a1_1 1000000))) 1 (.int .u32 (Int.tmod a2_1 1000000)) rfl)⟩, ⟨below_drew1 (below_set (below_set (below_set HB.out GE0.out) GE1.out) GE2.out)⟩⟩)
 case rest =>
  clear BK0 BK1 BK2 HB
  try clear hz0_0 hz0_1 hz1_0 hz1_1 hz2_0 hz2_1 hf0 hf1 hf2
  obtain ⟨BK0, BK1, BK2, HB⟩ := hcut
  have hz0_0 : wc.cell? ⟨g0, 0, none⟩ = some (.int .u16 a0_0) := (blk_cell BK0.out 0).trans rfl
  have hz0_1 : wc.cell? ⟨g0, 1, none⟩ = some (.int .u32 (Int.tmod a0_1 1000000)) := (blk_cell BK0.out 1).trans rfl
  have hz1_0 : wc.cell? ⟨g1, 0, none⟩ = some (.int .u16 a1_0) := (blk_cell BK1.out 0).trans rfl
  have hz1_1 : wc.cell? ⟨g1, 1, none⟩ = some (.int .u32 (Int.tmod a1_1 1000000)) := (blk_cell BK1.out 1).trans rfl
  have hz2_0 : wc.cell? ⟨g2, 0, none⟩ = some (.int .u16 a2_0) := (blk_cell BK2.out 0).trans rfl
  have hz2_1 : wc.cell? ⟨g2, 1, none⟩ = some (.int .u32 (Int.tmod a2_1 1000000)) := (blk_cell BK2.out 1).trans rfl
  have hS := HS.out
  have hE := HE.out
  clear HS HE
  cases L1 with
  | true =>
   have hEf : (a0_0 == a1_0 && (Int.tmod a0_1 1000000) == (Int.tmod a1_1 1000000)) = false := by simpa using hE
   clear hE
   cases L2 with
   | true =>
    obtain rfl := HIM.out rfl rfl
    go_wp2_with (first | (go_at_call 11; (first | refine (stan_Less.calls k a0_0 (Int.tmod a0_1 1000000) a1_0 (Int.tmod a1_1 1000000) _ _ HL1.out).mono ?_ | refine (stan_Less.calls k a1_0 (Int.tmod a1_1 1000000) a2_0 (Int.tmod a2_1 1000000) _ _ HL2.out).mono ?_ | refine (stan_Less.calls k a0_0 (Int.tmod a0_1 1000000) a2_0 (Int.tmod a2_1 1000000) _ _ HL3.out).mono ?_ | refine (stan_Less.calls k a1_0 (Int.tmod a1_1 1000000) a0_0 (Int.tmod a0_1 1000000) _ _ HL4.out).mono ?_); rintro e w2 ⟨rfl, hb⟩; have n1_ : Aside0 (Below w.heap.size w w2) := ⟨by first | exact below_step HB.out hb | exact below_step (below_drew1 HB.out) hb⟩; have q0_ : Aside0 (w2.heap[g0]? = some (.cells #[.int .u16 a0_0, .int .u32 (Int.tmod a0_1 1000000)] 25 (0, 0))) := ⟨by first | exact blk_below BK0.out hb | exact blk_below (blk_drew BK0.out) hb⟩; have q1_ : Aside0 (w2.heap[g1]? = some (.cells #[.int .u16 a1_0, .int .u32 (Int.tmod a1_1 1000000)] 25 (0, 0))) := ⟨by first | exact blk_below BK1.out hb | exact blk_below (blk_drew BK1.out) hb⟩; have q2_ : Aside0 (w2.heap[g2]? = some (.cells #[.int .u16 a2_0, .int .u32 (Int.tmod a2_1 1000000)] 25 (0, 0))) := ⟨by first | exact blk_below BK2.out hb | exact blk_below (blk_drew BK2.out) hb⟩; clear HB BK0 BK1 BK2 hb; have HB := n1_; have BK0 := q0_; have BK1 := q1_; have BK2 := q2_; clear n1_ q0_ q1_ q2_; have hz0_0 : w2.cell? ⟨g0, 0, none⟩ = some (.int .u16 a0_0) := (blk_cell BK0.out 0).trans rfl; have hz0_1 : w2.cell? ⟨g0, 1, none⟩ = some (.int .u32 (Int.tmod a0_1 1000000)) := (blk_cell BK0.out 1).trans rfl; have hz1_0 : w2.cell? ⟨g1, 0, none⟩ = some (.int .u16 a1_0) := (blk_cell BK1.out 0).trans rfl; have hz1_1 : w2.cell? ⟨g1, 1, none⟩ = some (.int .u32 (Int.tmod a1_1 1000000)) := (blk_cell BK1.out 1).trans rfl; have hz2_0 : w2.cell? ⟨g2, 0, none⟩ = some (.int .u16 a2_0) := (blk_cell BK2.out 0).trans rfl; have hz2_1 : w2.cell? ⟨g2, 1, none⟩ = some (.int .u32 (Int.tmod a2_1 1000000)) := (blk_cell BK2.out 1).trans rfl))
    refine start_ (n := 24) (S := fun w' => w'.cell? ⟨g0, 0, none⟩ = some (.int .u16 a0_0) ∧ w'.cell? ⟨g0, 1, none⟩ = some (.int .u32 (Int.tmod a0_1 1000000)) ∧ w'.cell? ⟨g1, 0, none⟩ = some (.int .u16 a1_0) ∧ w'.cell? ⟨g1, 1, none⟩ = some (.int .u32 (Int.tmod a1_1 1000000)) ∧ w'.cell? ⟨g2, 0, none⟩ = some (.int .u16 a2_0) ∧ w'.cell? ⟨g2, 1, none⟩ = some (.int .u32 (Int.tmod a2_1 1000000))) (ds := []) #[false, false, false, false, false, false, false, false, false, false, false, false, false, false, false, false, false, false, false, false, false, false, false, false] (by kernel_rfl) rfl rfl ⟨hz0_0, hz0_1, hz1_0, hz1_1, hz2_0, hz2_1⟩ (fun hHeld => ?_)
    refine take_ (i := 0) (N := some 35) (v := ?_) (a' := ?_) #[true, false, false, false, false, false, false, false, false, false, false, false, false, false, false, false, false, false, false, false, false, false, false, false] rfl rfl (by kernel_rfl) (fun _ _ _ h => h) (Or.inl ⟨by rfl, ?_⟩) hHeld ?_ ?_
    rotate_left
    ·rintro w' ⟨s0, s1, s2, s3, s4, s5⟩
     go_simp
     with_reducible rfl
    rotate_left
    ·simp only [Act.put, List.setIfInBounds_toArray, List.set_cons_zero, List.set_cons_succ, i64_w, i32_w]
     rfl
    refine take_ (i := 1) (N := some 36) (v := ?_) (a' := ?_) #[true, true, false, false, false, false, false, false, false, false, false, false, false, false, false, false, false, false, false, false, false, false, false, false] rfl rfl (by kernel_rfl) (fun _ _ _ h => h) (Or.inl ⟨by rfl, ?_⟩) hHeld ?_ ?_
    rotate_left
    ·rintro w' ⟨s0, s1, s2, s3, s4, s5⟩
     go_simp
     with_reducible rfl
    rotate_left
    ·simp only [Act.put, List.setIfInBounds_toArray, List.set_cons_zero, List.set_cons_succ, i64_w, i32_w]
     rfl
    refine take_ (i := 3) (N := some 38) (v := ?_) (a' := ?_) #[true, true, false, true, false, false, false, false, false, false, false, false, false, false, false, false, false, false, false, false, false, false, false, false] rfl rfl (by kernel_rfl) (fun _ _ _ h => h) (Or.inl ⟨by rfl, ?_⟩) hHeld ?_ ?_
    rotate_left
    ·rintro w' ⟨s0, s1, s2, s3, s4, s5⟩
     go_simp
     with_reducible rfl
    rotate_left
    ·simp only [Act.put, List.setIfInBounds_toArray, List.set_cons_zero, List.set_cons_succ, i64_w, i32_w]
     rfl
    refine take_ (i := 5) (N := some 40) (v := ?_) (a' := ?_) #[true, true, false, true, false, true, false, false, false, false, false, false, false, false, false, false, false, false, false, false, false, false, false, false] rfl rfl (by kernel_rfl) (fun _ _ _ h => h) (Or.inl ⟨by rfl, ?_⟩) hHeld ?_ ?_
    rotate_left
    ·rintro w' ⟨s0, s1, s2, s3, s4, s5⟩
     go_simp
     with_reducible rfl
    rotate_left
    ·simp only [Act.put, List.setIfInBounds_toArray, List.set_cons_zero, List.set_cons_succ, i64_w, i32_w]
     rfl
    refine one_ (i := 2) (N := some 37) #[true, true, true, true, false, true, false, false, false, false, false, false, false, false, false, false, false, false, false, false, false, false, false, false] rfl rfl (by kernel_rfl) (by decide) (fun K hK => ?_)
    refine goes_ Tryd.func11 (by kernel_rfl) rfl #[.agg #[.int .u16 a0_0, .int .u32 (Int.tmod a0_1 1000000)], .agg #[.int .u16 a1_0, .int .u32 (Int.tmod a1_1 1000000)]] (by rfl) rfl rfl (by simp only [List.map_toArray, List.map_cons, List.map_nil]; rfl) ?_
    with_reducible refine (stan_Less.calls k a0_0 (Int.tmod a0_1 1000000) a1_0 (Int.tmod a1_1 1000000) true _ HL1.out).mono ?_
    rintro e w2 ⟨rfl, hb⟩
    refine ⟨_, rfl, ?_⟩
    have n1_ : Aside0 (Below w.heap.size w w2) := ⟨by first | exact below_step HB.out hb | exact below_step (below_drew1 HB.out) hb⟩
    have q0_ : Aside0 (w2.heap[g0]? = some (.cells #[.int .u16 a0_0, .int .u32 (Int.tmod a0_1 1000000)] 25 (0, 0))) := ⟨by first | exact blk_below BK0.out hb | exact blk_below (blk_drew BK0.out) hb⟩
    have q1_ : Aside0 (w2.heap[g1]? = some (.cells #[.int .u16 a1_0, .int .u32 (Int.tmod a1_1 1000000)] 25 (0, 0))) := ⟨by first | exact blk_below BK1.out hb | exact blk_below (blk_drew BK1.out) hb⟩
    have q2_ : Aside0 (w2.heap[g2]? = some (.cells #[.int .u16 a2_0, .int .u32 (Int.tmod a2_1 1000000)] 25 (0, 0))) := ⟨by first | exact blk_below BK2.out hb | exact blk_below (blk_drew BK2.out) hb⟩
    clear HB BK0 BK1 BK2 hb
    have HB := n1_
    have BK0 := q0_
    have BK1 := q1_
    have BK2 := q2_
    clear n1_ q0_ q1_ q2_
    have hz0_0 : w2.cell? ⟨g0, 0, none⟩ = some (.int .u16 a0_0) := (blk_cell BK0.out 0).trans rfl
    have hz0_1 : w2.cell? ⟨g0, 1, none⟩ = some (.int .u32 (Int.tmod a0_1 1000000)) := (blk_cell BK0.out 1).trans rfl
    have hz1_0 : w2.cell? ⟨g1, 0, none⟩ = some (.int .u16 a1_0) := (blk_cell BK1.out 0).trans rfl
    have hz1_1 : w2.cell? ⟨g1, 1, none⟩ = some (.int .u32 (Int.tmod a1_1 1000000)) := (blk_cell BK1.out 1).trans rfl
    have hz2_0 : w2.cell? ⟨g2, 0, none⟩ = some (.int .u16 a2_0) := (blk_cell BK2.out 0).trans rfl
    have hz2_1 : w2.cell? ⟨g2, 1, none⟩ = some (.int .u32 (Int.tmod a2_1 1000000)) := (blk_cell BK2.out 1).trans rfl
    refine hK.out _ _ ⟨hz0_0, hz0_1, hz1_0, hz1_1, hz2_0, hz2_1⟩ (fun hHeld => ?_)
    clear hK K
    refine norm_ (a' := ?_) ?_ ?_
    rotate_left
    ·show Act.put _ (some 37) _ = _
     simp only [Act.put, List.setIfInBounds_toArray, List.set_cons_zero, List.set_cons_succ, i64_w, i32_w]
     rfl
    refine one_ (i := 4) (N := some 39) #[true, true, true, true, true, true, false, false, false, false, false, false, false, false, false, false, false, false, false, false, false, false, false, false] rfl rfl (by kernel_rfl) (by decide) (fun K hK => ?_)
    refine goes_ Tryd.func7 (by kernel_rfl) rfl #[.agg #[.int .u16 a0_0, .int .u32 (Int.tmod a0_1 1000000)]] (by rfl) rfl rfl (by simp only [List.map_toArray, List.map_cons, List.map_nil]; rfl) ?_
    with_reducible refine (stan_Text.calls a0_0 (Int.tmod a0_1 1000000) _ _ (tab_at HT.out (by first | exact HB.out | exact below_drew1 HB.out)) HXA.out).mono ?_
    rintro e w2 ⟨rfl, hb⟩
    refine ⟨_, rfl, ?_⟩
    have n1_ : Aside0 (Below w.heap.size w w2) := ⟨by first | exact below_step HB.out hb | exact below_step (below_drew1 HB.out) hb⟩
    have q0_ : Aside0 (w2.heap[g0]? = some (.cells #[.int .u16 a0_0, .int .u32 (Int.tmod a0_1 1000000)] 25 (0, 0))) := ⟨by first | exact blk_below BK0.out hb | exact blk_below (blk_drew BK0.out) hb⟩
    have q1_ : Aside0 (w2.heap[g1]? = some (.cells #[.int .u16 a1_0, .int .u32 (Int.tmod a1_1 1000000)] 25 (0, 0))) := ⟨by first | exact blk_below BK1.out hb | exact blk_below (blk_drew BK1.out) hb⟩
    have q2_ : Aside0 (w2.heap[g2]? = some (.cells #[.int .u16 a2_0, .int .u32 (Int.tmod a2_1 1000000)] 25 (0, 0))) := ⟨by first | exact blk_below BK2.out hb | exact blk_below (blk_drew BK2.out) hb⟩
    clear HB BK0 BK1 BK2 hb
    have HB := n1_
    have BK0 := q0_
    have BK1 := q1_
    have BK2 := q2_
    clear n1_ q0_ q1_ q2_
    have hz0_0 : w2.cell? ⟨g0, 0, none⟩ = some (.int .u16 a0_0) := (blk_cell BK0.out 0).trans rfl
    have hz0_1 : w2.cell? ⟨g0, 1, none⟩ = some (.int .u32 (Int.tmod a0_1 1000000)) := (blk_cell BK0.out 1).trans rfl
    have hz1_0 : w2.cell? ⟨g1, 0, none⟩ = some (.int .u16 a1_0) := (blk_cell BK1.out 0).trans rfl
    have hz1_1 : w2.cell? ⟨g1, 1, none⟩ = some (.int .u32 (Int.tmod a1_1 1000000)) := (blk_cell BK1.out 1).trans rfl
    have hz2_0 : w2.cell? ⟨g2, 0, none⟩ = some (.int .u16 a2_0) := (blk_cell BK2.out 0).trans rfl
    have hz2_1 : w2.cell? ⟨g2, 1, none⟩ = some (.int .u32 (Int.tmod a2_1 1000000)) := (blk_cell BK2.out 1).trans rfl
    refine hK.out _ _ ⟨hz0_0, hz0_1, hz1_0, hz1_1, hz2_0, hz2_1⟩ (fun hHeld => ?_)
    clear hK K
    refine norm_ (a' := ?_) ?_ ?_
    rotate_left
    ·show Act.put _ (some 39) _ = _
     simp only [Act.put, List.setIfInBounds_toArray, List.set_cons_zero, List.set_cons_succ, i64_w, i32_w]
     rfl
    refine one_ (i := 6) (N := some 41) #[true, true, true, true, true, true, true, false, false, false, false, false, false, false, false, false, false, false, false, false, false, false, false, false] rfl rfl (by kernel_rfl) (by decide) (fun K hK => ?_)
    refine goes_ Tryd.func7 (by kernel_rfl) rfl #[.agg #[.int .u16 a1_0, .int .u32 (Int.tmod a1_1 1000000)]] (by rfl) rfl rfl (by simp only [List.map_toArray, List.map_cons, List.map_nil]; rfl) ?_
    with_reducible refine (stan_Text.calls a1_0 (Int.tmod a1_1 1000000) _ _ (tab_at HT.out (by first | exact HB.out | exact below_drew1 HB.out)) HXB.out).mono ?_
    rintro e w2 ⟨rfl, hb⟩
    refine ⟨_, rfl, ?_⟩
    have n1_ : Aside0 (Below w.heap.size w w2) := ⟨by first | exact below_step HB.out hb | exact below_step (below_drew1 HB.out) hb⟩
    have q0_ : Aside0 (w2.heap[g0]? = some (.cells #[.int .u16 a0_0, .int .u32 (Int.tmod a0_1 1000000)] 25 (0, 0))) := ⟨by first | exact blk_below BK0.out hb | exact blk_below (blk_drew BK0.out) hb⟩
    have q1_ : Aside0 (w2.heap[g1]? = some (.cells #[.int .u16 a1_0, .int .u32 (Int.tmod a1_1 1000000)] 25 (0, 0))) := ⟨by first | exact blk_below BK1.out hb | exact blk_below (blk_drew BK1.out) hb⟩
    have q2_ : Aside0 (w2.heap[g2]? = some (.cells #[.int .u16 a2_0, .int .u32 (Int.tmod a2_1 1000000)] 25 (0, 0))) := ⟨by first | exact blk_below BK2.out hb | exact blk_below (blk_drew BK2.out) hb⟩
    clear HB BK0 BK1 BK2 hb
    have HB := n1_
    have BK0 := q0_
    have BK1 := q1_
    have BK2 := q2_
    clear n1_ q0_ q1_ q2_
    have hz0_0 : w2.cell? ⟨g0, 0, none⟩ = some (.int .u16 a0_0) := (blk_cell BK0.out 0).trans rfl
    have hz0_1 : w2.cell? ⟨g0, 1, none⟩ = some (.int .u32 (Int.tmod a0_1 1000000)) := (blk_cell BK0.out 1).trans rfl
    have hz1_0 : w2.cell? ⟨g1, 0, none⟩ = some (.int .u16 a1_0) := (blk_cell BK1.out 0).trans rfl
    have hz1_1 : w2.cell? ⟨g1, 1, none⟩ = some (.int .u32 (Int.tmod a1_1 1000000)) := (blk_cell BK1.out 1).trans rfl
    have hz2_0 : w2.cell? ⟨g2, 0, none⟩ = some (.int .u16 a2_0) := (blk_cell BK2.out 0).trans rfl
    have hz2_1 : w2.cell? ⟨g2, 1, none⟩ = some (.int .u32 (Int.tmod a2_1 1000000)) := (blk_cell BK2.out 1).trans rfl
    refine hK.out _ _ ⟨hz0_0, hz0_1, hz1_0, hz1_1, hz2_0, hz2_1⟩ (fun hHeld => ?_)
    clear hK K
    refine norm_ (a' := ?_) ?_ ?_
    rotate_left
    ·show Act.put _ (some 41) _ = _
     simp only [Act.put, List.setIfInBounds_toArray, List.set_cons_zero, List.set_cons_succ, i64_w, i32_w]
     rfl
    refine pure_ (i := 7) (N := some 42) (v := ?_) (a' := ?_) #[true, true, true, true, true, true, true, true, false, false, false, false, false, false, false, false, false, false, false, false, false, false, false, false] rfl rfl (by kernel_rfl) (fun _ _ _ h => h) (Or.inl ⟨by rfl, ?_⟩) ?_ ?_
    rotate_left
    ·intro w'
     go_simp
     with_reducible rfl
    rotate_left
    ·simp only [Act.put, List.setIfInBounds_toArray, List.set_cons_zero, List.set_cons_succ, i64_w, i32_w]
     rfl
    refine pure_ (i := 8) (N := some 43) (v := ?_) (a' := ?_) #[true, true, true, true, true, true, true, true, true, false, false, false, false, false, false, false, false, false, false, false, false, false, false, false] rfl rfl (by kernel_rfl) (fun _ _ _ h => h) (Or.inl ⟨by rfl, ?_⟩) ?_ ?_
    rotate_left
    ·intro w'
     go_simp
     with_reducible rfl
    rotate_left
    ·simp only [Act.put, List.setIfInBounds_toArray, List.set_cons_zero, List.set_cons_succ, i64_w, i32_w]
     rfl
    refine pure_ (i := 9) (N := some 44) (v := ?_) (a' := ?_) #[true, true, true, true, true, true, true, true, true, true, false, false, false, false, false, false, false, false, false, false, false, false, false, false] rfl rfl (by kernel_rfl) (fun _ _ _ h => h) (Or.inl ⟨by rfl, ?_⟩) ?_ ?_
    rotate_left
    ·intro w'
     go_simp
     with_reducible rfl
    rotate_left
    ·simp only [Act.put, List.setIfInBounds_toArray, List.set_cons_zero, List.set_cons_succ, i64_w, i32_w]
     rfl
    refine take_ (i := 10) (N := some 45) (v := ?_) (a' := ?_) #[true, true, true, true, true, true, true, true, true, true, true, false, false, false, false, false, false, false, false, false, false, false, false, false] rfl rfl (by kernel_rfl) (fun _ _ _ h => h) (Or.inl ⟨by rfl, ?_⟩) hHeld ?_ ?_
    rotate_left
    ·rintro w' ⟨s0, s1, s2, s3, s4, s5⟩
     go_simp
     with_reducible rfl
    rotate_left
    ·simp only [Act.put, List.setIfInBounds_toArray, List.set_cons_zero, List.set_cons_succ, i64_w, i32_w]
     rfl
    refine take_ (i := 11) (N := some 46) (v := ?_) (a' := ?_) #[true, true, true, true, true, true, true, true, true, true, true, true, false, false, false, false, false, false, false, false, false, false, false, false] rfl rfl (by kernel_rfl) (fun _ _ _ h => h) (Or.inl ⟨by rfl, ?_⟩) hHeld ?_ ?_
    rotate_left
    ·rintro w' ⟨s0, s1, s2, s3, s4, s5⟩
     go_simp
     with_reducible rfl
    rotate_left
    ·simp only [Act.put, List.setIfInBounds_toArray, List.set_cons_zero, List.set_cons_succ, i64_w, i32_w]
     rfl
    refine take_ (i := 18) (N := some 53) (v := ?_) (a' := ?_) #[true, true, true, true, true, true, true, true, true, true, true, true, false, false, false, false, false, false, true, false, false, false, false, false] rfl rfl (by kernel_rfl) (fun _ _ _ h => h) (Or.inl ⟨by rfl, ?_⟩) hHeld ?_ ?_
    rotate_left
    ·rintro w' ⟨s0, s1, s2, s3, s4, s5⟩
     go_simp
     with_reducible rfl
    rotate_left
    ·simp only [Act.put, List.setIfInBounds_toArray, List.set_cons_zero, List.set_cons_succ, i64_w, i32_w]
     rfl
    refine take_ (i := 19) (N := some 54) (v := ?_) (a' := ?_) #[true, true, true, true, true, true, true, true, true, true, true, true, false, false, false, false, false, false, true, true, false, false, false, false] rfl rfl (by kernel_rfl) (fun _ _ _ h => h) (Or.inl ⟨by rfl, ?_⟩) hHeld ?_ ?_
    rotate_left
    ·rintro w' ⟨s0, s1, s2, s3, s4, s5⟩
     go_simp
     with_reducible rfl
    rotate_left
    ·simp only [Act.put, List.setIfInBounds_toArray, List.set_cons_zero, List.set_cons_succ, i64_w, i32_w]
     rfl
    refine pure_ (i := 20) (N := some 55) (v := ?_) (a' := ?_) #[true, true, true, true, true, true, true, true, true, true, true, true, false, false, false, false, false, false, true, true, true, false, false, false] rfl rfl (by kernel_rfl) (fun _ _ _ h => h) (Or.inl ⟨by rfl, ?_⟩) ?_ ?_
    rotate_left
    ·intro w'
     go_simp
     with_reducible rfl
    rotate_left
    ·simp only [Act.put, List.setIfInBounds_toArray, List.set_cons_zero, List.set_cons_succ, i64_w, i32_w]
     rfl
    refine one_ (i := 12) (N := some 47) #[true, true, true, true, true, true, true, true, true, true, true, true, true, false, false, false, false, false, true, true, true, false, false, false] rfl rfl (by kernel_rfl) (by decide) (fun K hK => ?_)
    refine goes_ Tryd.func11 (by kernel_rfl) rfl #[.agg #[.int .u16 a0_0, .int .u32 (Int.tmod a0_1 1000000)], .agg #[.int .u16 a1_0, .int .u32 (Int.tmod a1_1 1000000)]] (by rfl) rfl rfl (by simp only [List.map_toArray, List.map_cons, List.map_nil]; rfl) ?_
    with_reducible refine (stan_Less.calls k a0_0 (Int.tmod a0_1 1000000) a1_0 (Int.tmod a1_1 1000000) true _ HL1.out).mono ?_
    rintro e w2 ⟨rfl, hb⟩
    refine ⟨_, rfl, ?_⟩
    have n1_ : Aside0 (Below w.heap.size w w2) := ⟨by first | exact below_step HB.out hb | exact below_step (below_drew1 HB.out) hb⟩
    have q0_ : Aside0 (w2.heap[g0]? = some (.cells #[.int .u16 a0_0, .int .u32 (Int.tmod a0_1 1000000)] 25 (0, 0))) := ⟨by first | exact blk_below BK0.out hb | exact blk_below (blk_drew BK0.out) hb⟩
    have q1_ : Aside0 (w2.heap[g1]? = some (.cells #[.int .u16 a1_0, .int .u32 (Int.tmod a1_1 1000000)] 25 (0, 0))) := ⟨by first | exact blk_below BK1.out hb | exact blk_below (blk_drew BK1.out) hb⟩
    have q2_ : Aside0 (w2.heap[g2]? = some (.cells #[.int .u16 a2_0, .int .u32 (Int.tmod a2_1 1000000)] 25 (0, 0))) := ⟨by first | exact blk_below BK2.out hb | exact blk_below (blk_drew BK2.out) hb⟩
    clear HB BK0 BK1 BK2 hb
    have HB := n1_
    have BK0 := q0_
    have BK1 := q1_
    have BK2 := q2_
    clear n1_ q0_ q1_ q2_
    have hz0_0 : w2.cell? ⟨g0, 0, none⟩ = some (.int .u16 a0_0) := (blk_cell BK0.out 0).trans rfl
    have hz0_1 : w2.cell? ⟨g0, 1, none⟩ = some (.int .u32 (Int.tmod a0_1 1000000)) := (blk_cell BK0.out 1).trans rfl
    have hz1_0 : w2.cell? ⟨g1, 0, none⟩ = some (.int .u16 a1_0) := (blk_cell BK1.out 0).trans rfl
    have hz1_1 : w2.cell? ⟨g1, 1, none⟩ = some (.int .u32 (Int.tmod a1_1 1000000)) := (blk_cell BK1.out 1).trans rfl
    have hz2_0 : w2.cell? ⟨g2, 0, none⟩ = some (.int .u16 a2_0) := (blk_cell BK2.out 0).trans rfl
    have hz2_1 : w2.cell? ⟨g2, 1, none⟩ = some (.int .u32 (Int.tmod a2_1 1000000)) := (blk_cell BK2.out 1).trans rfl
    refine hK.out _ _ ⟨hz0_0, hz0_1, hz1_0, hz1_1, hz2_0, hz2_1⟩ (fun hHeld => ?_)
    clear hK K
    refine norm_ (a' := ?_) ?_ ?_
    rotate_left
    ·show Act.put _ (some 47) _ = _
     simp only [Act.put, List.setIfInBounds_toArray, List.set_cons_zero, List.set_cons_succ, i64_w, i32_w]
     rfl
    refine pure_ (i := 13) (N := some 48) (v := ?_) (a' := ?_) #[true, true, true, true, true, true, true, true, true, true, true, true, true, true, false, false, false, false, true, true, true, false, false, false] rfl rfl (by kernel_rfl) (fun _ _ _ h => h) (Or.inl ⟨by rfl, ?_⟩) ?_ ?_
    rotate_left
    ·intro w'
     go_simp
     with_reducible rfl
    rotate_left
    ·simp only [Act.put, List.setIfInBounds_toArray, List.set_cons_zero, List.set_cons_succ, i64_w, i32_w]
     rfl
    refine pure_ (i := 14) (N := some 49) (v := undef) (a' := ?_) #[true, true, true, true, true, true, true, true, true, true, true, true, true, true, true, false, false, false, true, true, true, false, false, false] rfl rfl (by kernel_rfl) (fun _ _ _ h => h) (Or.inr ⟨by rfl, rfl⟩) ?_ ?_
    rotate_left
    ·simp only [Act.put, List.setIfInBounds_toArray, List.set_cons_zero, List.set_cons_succ, i64_w, i32_w]
     rfl
    refine pure_ (i := 15) (N := some 50) (v := undef) (a' := ?_) #[true, true, true, true, true, true, true, true, true, true, true, true, true, true, true, true, false, false, true, true, true, false, false, false] rfl rfl (by kernel_rfl) (fun _ _ _ h => h) (Or.inr ⟨by rfl, rfl⟩) ?_ ?_
    rotate_left
    ·simp only [Act.put, List.setIfInBounds_toArray, List.set_cons_zero, List.set_cons_succ, i64_w, i32_w]
     rfl
    refine pure_ (i := 16) (N := some 51) (v := undef) (a' := ?_) #[true, true, true, true, true, true, true, true, true, true, true, true, true, true, true, true, true, false, true, true, true, false, false, false] rfl rfl (by kernel_rfl) (fun _ _ _ h => h) (Or.inr ⟨by rfl, rfl⟩) ?_ ?_
    rotate_left
    ·simp only [Act.put, List.setIfInBounds_toArray, List.set_cons_zero, List.set_cons_succ, i64_w, i32_w]
     rfl
    refine pure_ (i := 17) (N := some 52) (v := ?_) (a' := ?_) #[true, true, true, true, true, true, true, true, true, true, true, true, true, true, true, true, true, true, true, true, true, false, false, false] rfl rfl (by kernel_rfl) (fun _ _ _ h => h) (Or.inl ⟨by rfl, ?_⟩) ?_ ?_
    rotate_left
    ·intro w'
     go_simp
     with_reducible rfl
    rotate_left
    ·simp only [Act.put, List.setIfInBounds_toArray, List.set_cons_zero, List.set_cons_succ, i64_w, i32_w]
     rfl
    refine pure_ (i := 21) (N := some 56) (v := ?_) (a' := ?_) #[true, true, true, true, true, true, true, true, true, true, true, true, true, true, true, true, true, true, true, true, true, true, false, false] rfl rfl (by kernel_rfl) (fun _ _ _ h => h) (Or.inl ⟨by rfl, ?_⟩) ?_ ?_
    rotate_left
    ·intro w'
     go_simp
     with_reducible rfl
    rotate_left
    ·simp only [Act.put, List.setIfInBounds_toArray, List.set_cons_zero, List.set_cons_succ, i64_w, i32_w]
     rfl
    refine pure_ (i := 22) (N := some 57) (v := ?_) (a' := ?_) #[true, true, true, true, true, true, true, true, true, true, true, true, true, true, true, true, true, true, true, true, true, true, true, false] rfl rfl (by kernel_rfl) (fun _ _ _ h => h) (Or.inl ⟨by rfl, ?_⟩) ?_ ?_
    rotate_left
    ·intro w'
     go_simp
     with_reducible rfl
    rotate_left
    ·simp only [Act.put, List.setIfInBounds_toArray, List.set_cons_zero, List.set_cons_succ, i64_w, i32_w]
     rfl
    refine pure_ (i := 23) (N := some 6) (v := ?_) (a' := ?_) #[true, true, true, true, true, true, true, true, true, true, true, true, true, true, true, true, true, true, true, true, true, true, true, true] rfl rfl (by kernel_rfl) (fun _ _ _ h => h) (Or.inl ⟨by rfl, ?_⟩) ?_ ?_
    rotate_left
    ·intro w'
     go_simp
     with_reducible rfl
    rotate_left
    ·simp only [Act.put, List.setIfInBounds_toArray, List.set_cons_zero, List.set_cons_succ, i64_w, i32_w]
     rfl
    refine done_ (by kernel_rfl) ?_
    go_wp2
    go_ret
    exact ⟨rfl, by first | exact HB.out | exact below_drew1 HB.out | exact below_drew1 (below_drew1 HB.out)⟩
   | false =>
    go_wp2_with (first | (go_at_call 11; (first | refine (stan_Less.calls k a0_0 (Int.tmod a0_1 1000000) a1_0 (Int.tmod a1_1 1000000) _ _ HL1.out).mono ?_ | refine (stan_Less.calls k a1_0 (Int.tmod a1_1 1000000) a2_0 (Int.tmod a2_1 1000000) _ _ HL2.out).mono ?_ | refine (stan_Less.calls k a0_0 (Int.tmod a0_1 1000000) a2_0 (Int.tmod a2_1 1000000) _ _ HL3.out).mono ?_ | refine (stan_Less.calls k a1_0 (Int.tmod a1_1 1000000) a0_0 (Int.tmod a0_1 1000000) _ _ HL4.out).mono ?_); rintro e w2 ⟨rfl, hb⟩; have n1_ : Aside0 (Below w.heap.size w w2) := ⟨by first | exact below_step HB.out hb | exact below_step (below_drew1 HB.out) hb⟩; have q0_ : Aside0 (w2.heap[g0]? = some (.cells #[.int .u16 a0_0, .int .u32 (Int.tmod a0_1 1000000)] 25 (0, 0))) := ⟨by first | exact blk_below BK0.out hb | exact blk_below (blk_drew BK0.out) hb⟩; have q1_ : Aside0 (w2.heap[g1]? = some (.cells #[.int .u16 a1_0, .int .u32 (Int.tmod a1_1 1000000)] 25 (0, 0))) := ⟨by first | exact blk_below BK1.out hb | exact blk_below (blk_drew BK1.out) hb⟩; have q2_ : Aside0 (w2.heap[g2]? = some (.cells #[.int .u16 a2_0, .int .u32 (Int.tmod a2_1 1000000)] 25 (0, 0))) := ⟨by first | exact blk_below BK2.out hb | exact blk_below (blk_drew BK2.out) hb⟩; clear HB BK0 BK1 BK2 hb; have HB := n1_; have BK0 := q0_; have BK1 := q1_; have BK2 := q2_; clear n1_ q0_ q1_ q2_; have hz0_0 : w2.cell? ⟨g0, 0, none⟩ = some (.int .u16 a0_0) := (blk_cell BK0.out 0).trans rfl; have hz0_1 : w2.cell? ⟨g0, 1, none⟩ = some (.int .u32 (Int.tmod a0_1 1000000)) := (blk_cell BK0.out 1).trans rfl; have hz1_0 : w2.cell? ⟨g1, 0, none⟩ = some (.int .u16 a1_0) := (blk_cell BK1.out 0).trans rfl; have hz1_1 : w2.cell? ⟨g1, 1, none⟩ = some (.int .u32 (Int.tmod a1_1 1000000)) := (blk_cell BK1.out 1).trans rfl; have hz2_0 : w2.cell? ⟨g2, 0, none⟩ = some (.int .u16 a2_0) := (blk_cell BK2.out 0).trans rfl; have hz2_1 : w2.cell? ⟨g2, 1, none⟩ = some (.int .u32 (Int.tmod a2_1 1000000)) := (blk_cell BK2.out 1).trans rfl))
    refine start_ (n := 24) (S := fun w' => w'.cell? ⟨g0, 0, none⟩ = some (.int .u16 a0_0) ∧ w'.cell? ⟨g0, 1, none⟩ = some (.int .u32 (Int.tmod a0_1 1000000)) ∧ w'.cell? ⟨g1, 0, none⟩ = some (.int .u16 a1_0) ∧ w'.cell? ⟨g1, 1, none⟩ = some (.int .u32 (Int.tmod a1_1 1000000)) ∧ w'.cell? ⟨g2, 0, none⟩ = some (.int .u16 a2_0) ∧ w'.cell? ⟨g2, 1, none⟩ = some (.int .u32 (Int.tmod a2_1 1000000))) (ds := []) #[false, false, false, false, false, false, false, false, false, false, false, false, false, false, false, false, false, false, false, false, false, false, false, false] (by kernel_rfl) rfl rfl ⟨hz0_0, hz0_1, hz1_0, hz1_1, hz2_0, hz2_1⟩ (fun hHeld => ?_)
    refine take_ (i := 0) (N := some 35) (v := ?_) (a' := ?_) #[true, false, false, false, false, false, false, false, false, false, false, false, false, false, false, false, false, false, false, false, false, false, false, false] rfl rfl (by kernel_rfl) (fun _ _ _ h => h) (Or.inl ⟨by rfl, ?_⟩) hHeld ?_ ?_
    rotate_left
    ·rintro w' ⟨s0, s1, s2, s3, s4, s5⟩
     go_simp
     with_reducible rfl
    rotate_left
    ·simp only [Act.put, List.setIfInBounds_toArray, List.set_cons_zero, List.set_cons_succ, i64_w, i32_w]
     rfl
    refine take_ (i := 1) (N := some 36) (v := ?_) (a' := ?_) #[true, true, false, false, false, false, false, false, false, false, false, false, false, false, false, false, false, false, false, false, false, false, false, false] rfl rfl (by kernel_rfl) (fun _ _ _ h => h) (Or.inl ⟨by rfl, ?_⟩) hHeld ?_ ?_
    rotate_left
    ·rintro w' ⟨s0, s1, s2, s3, s4, s5⟩
     go_simp
     with_reducible rfl
    rotate_left
    ·simp only [Act.put, List.setIfInBounds_toArray, List.set_cons_zero, List.set_cons_succ, i64_w, i32_w]
     rfl
    refine take_ (i := 3) (N := some 38) (v := ?_) (a' := ?_) #[true, true, false, true, false, false, false, false, false, false, false, false, false, false, false, false, false, false, false, false, false, false, false, false] rfl rfl (by kernel_rfl) (fun _ _ _ h => h) (Or.inl ⟨by rfl, ?_⟩) hHeld ?_ ?_
    rotate_left
    ·rintro w' ⟨s0, s1, s2, s3, s4, s5⟩
     go_simp
     with_reducible rfl
    rotate_left
    ·simp only [Act.put, List.setIfInBounds_toArray, List.set_cons_zero, List.set_cons_succ, i64_w, i32_w]
     rfl
    refine take_ (i := 5) (N := some 40) (v := ?_) (a' := ?_) #[true, true, false, true, false, true, false, false, false, false, false, false, false, false, false, false, false, false, false, false, false, false, false, false] rfl rfl (by kernel_rfl) (fun _ _ _ h => h) (Or.inl ⟨by rfl, ?_⟩) hHeld ?_ ?_
    rotate_left
    ·rintro w' ⟨s0, s1, s2, s3, s4, s5⟩
     go_simp
     with_reducible rfl
    rotate_left
    ·simp only [Act.put, List.setIfInBounds_toArray, List.set_cons_zero, List.set_cons_succ, i64_w, i32_w]
     rfl
    refine one_ (i := 2) (N := some 37) #[true, true, true, true, false, true, false, false, false, false, false, false, false, false, false, false, false, false, false, false, false, false, false, false] rfl rfl (by kernel_rfl) (by decide) (fun K hK => ?_)
    refine goes_ Tryd.func11 (by kernel_rfl) rfl #[.agg #[.int .u16 a0_0, .int .u32 (Int.tmod a0_1 1000000)], .agg #[.int .u16 a1_0, .int .u32 (Int.tmod a1_1 1000000)]] (by rfl) rfl rfl (by simp only [List.map_toArray, List.map_cons, List.map_nil]; rfl) ?_
    with_reducible refine (stan_Less.calls k a0_0 (Int.tmod a0_1 1000000) a1_0 (Int.tmod a1_1 1000000) true _ HL1.out).mono ?_
    rintro e w2 ⟨rfl, hb⟩
    refine ⟨_, rfl, ?_⟩
    have n1_ : Aside0 (Below w.heap.size w w2) := ⟨by first | exact below_step HB.out hb | exact below_step (below_drew1 HB.out) hb⟩
    have q0_ : Aside0 (w2.heap[g0]? = some (.cells #[.int .u16 a0_0, .int .u32 (Int.tmod a0_1 1000000)] 25 (0, 0))) := ⟨by first | exact blk_below BK0.out hb | exact blk_below (blk_drew BK0.out) hb⟩
    have q1_ : Aside0 (w2.heap[g1]? = some (.cells #[.int .u16 a1_0, .int .u32 (Int.tmod a1_1 1000000)] 25 (0, 0))) := ⟨by first | exact blk_below BK1.out hb | exact blk_below (blk_drew BK1.out) hb⟩
    have q2_ : Aside0 (w2.heap[g2]? = some (.cells #[.int .u16 a2_0, .int .u32 (Int.tmod a2_1 1000000)] 25 (0, 0))) := ⟨by first | exact blk_below BK2.out hb | exact blk_below (blk_drew BK2.out) hb⟩
    clear HB BK0 BK1 BK2 hb
    have HB := n1_
    have BK0 := q0_
    have BK1 := q1_
    have BK2 := q2_
    clear n1_ q0_ q1_ q2_
    have hz0_0 : w2.cell? ⟨g0, 0, none⟩ = some (.int .u16 a0_0) := (blk_cell BK0.out 0).trans rfl
    have hz0_1 : w2.cell? ⟨g0, 1, none⟩ = some (.int .u32 (Int.tmod a0_1 1000000)) := (blk_cell BK0.out 1).trans rfl
    have hz1_0 : w2.cell? ⟨g1, 0, none⟩ = some (.int .u16 a1_0) := (blk_cell BK1.out 0).trans rfl
    have hz1_1 : w2.cell? ⟨g1, 1, none⟩ = some (.int .u32 (Int.tmod a1_1 1000000)) := (blk_cell BK1.out 1).trans rfl
    have hz2_0 : w2.cell? ⟨g2, 0, none⟩ = some (.int .u16 a2_0) := (blk_cell BK2.out 0).trans rfl
    have hz2_1 : w2.cell? ⟨g2, 1, none⟩ = some (.int .u32 (Int.tmod a2_1 1000000)) := (blk_cell BK2.out 1).trans rfl
    refine hK.out _ _ ⟨hz0_0, hz0_1, hz1_0, hz1_1, hz2_0, hz2_1⟩ (fun hHeld => ?_)
    clear hK K
    refine norm_ (a' := ?_) ?_ ?_
    rotate_left
    ·show Act.put _ (some 37) _ = _
     simp only [Act.put, List.setIfInBounds_toArray, List.set_cons_zero, List.set_cons_succ, i64_w, i32_w]
     rfl
    refine one_ (i := 4) (N := some 39) #[true, true, true, true, true, true, false, false, false, false, false, false, false, false, false, false, false, false, false, false, false, false, false, false] rfl rfl (by kernel_rfl) (by decide) (fun K hK => ?_)
    refine goes_ Tryd.func7 (by kernel_rfl) rfl #[.agg #[.int .u16 a0_0, .int .u32 (Int.tmod a0_1 1000000)]] (by rfl) rfl rfl (by simp only [List.map_toArray, List.map_cons, List.map_nil]; rfl) ?_
    with_reducible refine (stan_Text.calls a0_0 (Int.tmod a0_1 1000000) _ _ (tab_at HT.out (by first | exact HB.out | exact below_drew1 HB.out)) HXA.out).mono ?_
    rintro e w2 ⟨rfl, hb⟩
    refine ⟨_, rfl, ?_⟩
    have n1_ : Aside0 (Below w.heap.size w w2) := ⟨by first | exact below_step HB.out hb | exact below_step (below_drew1 HB.out) hb⟩
    have q0_ : Aside0 (w2.heap[g0]? = some (.cells #[.int .u16 a0_0, .int .u32 (Int.tmod a0_1 1000000)] 25 (0, 0))) := ⟨by first | exact blk_below BK0.out hb | exact blk_below (blk_drew BK0.out) hb⟩
    have q1_ : Aside0 (w2.heap[g1]? = some (.cells #[.int .u16 a1_0, .int .u32 (Int.tmod a1_1 1000000)] 25 (0, 0))) := ⟨by first | exact blk_below BK1.out hb | exact blk_below (blk_drew BK1.out) hb⟩
    have q2_ : Aside0 (w2.heap[g2]? = some (.cells #[.int .u16 a2_0, .int .u32 (Int.tmod a2_1 1000000)] 25 (0, 0))) := ⟨by first | exact blk_below BK2.out hb | exact blk_below (blk_drew BK2.out) hb⟩
    clear HB BK0 BK1 BK2 hb
    have HB := n1_
    have BK0 := q0_
    have BK1 := q1_
    have BK2 := q2_
    clear n1_ q0_ q1_ q2_
    have hz0_0 : w2.cell? ⟨g0, 0, none⟩ = some (.int .u16 a0_0) := (blk_cell BK0.out 0).trans rfl
    have hz0_1 : w2.cell? ⟨g0, 1, none⟩ = some (.int .u32 (Int.tmod a0_1 1000000)) := (blk_cell BK0.out 1).trans rfl
    have hz1_0 : w2.cell? ⟨g1, 0, none⟩ = some (.int .u16 a1_0) := (blk_cell BK1.out 0).trans rfl
    have hz1_1 : w2.cell? ⟨g1, 1, none⟩ = some (.int .u32 (Int.tmod a1_1 1000000)) := (blk_cell BK1.out 1).trans rfl
    have hz2_0 : w2.cell? ⟨g2, 0, none⟩ = some (.int .u16 a2_0) := (blk_cell BK2.out 0).trans rfl
    have hz2_1 : w2.cell? ⟨g2, 1, none⟩ = some (.int .u32 (Int.tmod a2_1 1000000)) := (blk_cell BK2.out 1).trans rfl
    refine hK.out _ _ ⟨hz0_0, hz0_1, hz1_0, hz1_1, hz2_0, hz2_1⟩ (fun hHeld => ?_)
    clear hK K
    refine norm_ (a' := ?_) ?_ ?_
    rotate_left
    ·show Act.put _ (some 39) _ = _
     simp only [Act.put, List.setIfInBounds_toArray, List.set_cons_zero, List.set_cons_succ, i64_w, i32_w]
     rfl
    refine one_ (i := 6) (N := some 41) #[true, true, true, true, true, true, true, false, false, false, false, false, false, false, false, false, false, false, false, false, false, false, false, false] rfl rfl (by kernel_rfl) (by decide) (fun K hK => ?_)
    refine goes_ Tryd.func7 (by kernel_rfl) rfl #[.agg #[.int .u16 a1_0, .int .u32 (Int.tmod a1_1 1000000)]] (by rfl) rfl rfl (by simp only [List.map_toArray, List.map_cons, List.map_nil]; rfl) ?_
    with_reducible refine (stan_Text.calls a1_0 (Int.tmod a1_1 1000000) _ _ (tab_at HT.out (by first | exact HB.out | exact below_drew1 HB.out)) HXB.out).mono ?_
    rintro e w2 ⟨rfl, hb⟩
    refine ⟨_, rfl, ?_⟩
    have n1_ : Aside0 (Below w.heap.size w w2) := ⟨by first | exact below_step HB.out hb | exact below_step (below_drew1 HB.out) hb⟩
    have q0_ : Aside0 (w2.heap[g0]? = some (.cells #[.int .u16 a0_0, .int .u32 (Int.tmod a0_1 1000000)] 25 (0, 0))) := ⟨by first | exact blk_below BK0.out hb | exact blk_below (blk_drew BK0.out) hb⟩
    have q1_ : Aside0 (w2.heap[g1]? = some (.cells #[.int .u16 a1_0, .int .u32 (Int.tmod a1_1 1000000)] 25 (0, 0))) := ⟨by first | exact blk_below BK1.out hb | exact blk_below (blk_drew BK1.out) hb⟩
    have q2_ : Aside0 (w2.heap[g2]? = some (.cells #[.int .u16 a2_0, .int .u32 (Int.tmod a2_1 1000000)] 25 (0, 0))) := ⟨by first | exact blk_below BK2.out hb | exact blk_below (blk_drew BK2.out) hb⟩
    clear HB BK0 BK1 BK2 hb
    have HB := n1_
    have BK0 := q0_
    have BK1 := q1_
    have BK2 := q2_
    clear n1_ q0_ q1_ q2_
    have hz0_0 : w2.cell? ⟨g0, 0, none⟩ = some (.int .u16 a0_0) := (blk_cell BK0.out 0).trans rfl
    have hz0_1 : w2.cell? ⟨g0, 1, none⟩ = some (.int .u32 (Int.tmod a0_1 1000000)) := (blk_cell BK0.out 1).trans rfl
    have hz1_0 : w2.cell? ⟨g1, 0, none⟩ = some (.int .u16 a1_0) := (blk_cell BK1.out 0).trans rfl
    have hz1_1 : w2.cell? ⟨g1, 1, none⟩ = some (.int .u32 (Int.tmod a1_1 1000000)) := (blk_cell BK1.out 1).trans rfl
    have hz2_0 : w2.cell? ⟨g2, 0, none⟩ = some (.int .u16 a2_0) := (blk_cell BK2.out 0).trans rfl
    have hz2_1 : w2.cell? ⟨g2, 1, none⟩ = some (.int .u32 (Int.tmod a2_1 1000000)) := (blk_cell BK2.out 1).trans rfl
    refine hK.out _ _ ⟨hz0_0, hz0_1, hz1_0, hz1_1, hz2_0, hz2_1⟩ (fun hHeld => ?_)
    clear hK K
    refine norm_ (a' := ?_) ?_ ?_
    rotate_left
    ·show Act.put _ (some 41) _ = _
     simp only [Act.put, List.setIfInBounds_toArray, List.set_cons_zero, List.set_cons_succ, i64_w, i32_w]
     rfl
    refine pure_ (i := 7) (N := some 42) (v := ?_) (a' := ?_) #[true, true, true, true, true, true, true, true, false, false, false, false, false, false, false, false, false, false, false, false, false, false, false, false] rfl rfl (by kernel_rfl) (fun _ _ _ h => h) (Or.inl ⟨by rfl, ?_⟩) ?_ ?_
    rotate_left
    ·intro w'
     go_simp
     with_reducible rfl
    rotate_left
    ·simp only [Act.put, List.setIfInBounds_toArray, List.set_cons_zero, List.set_cons_succ, i64_w, i32_w]
     rfl
    refine pure_ (i := 8) (N := some 43) (v := ?_) (a' := ?_) #[true, true, true, true, true, true, true, true, true, false, false, false, false, false, false, false, false, false, false, false, false, false, false, false] rfl rfl (by kernel_rfl) (fun _ _ _ h => h) (Or.inl ⟨by rfl, ?_⟩) ?_ ?_
    rotate_left
    ·intro w'
     go_simp
     with_reducible rfl
    rotate_left
    ·simp only [Act.put, List.setIfInBounds_toArray, List.set_cons_zero, List.set_cons_succ, i64_w, i32_w]
     rfl
    refine pure_ (i := 9) (N := some 44) (v := ?_) (a' := ?_) #[true, true, true, true, true, true, true, true, true, true, false, false, false, false, false, false, false, false, false, false, false, false, false, false] rfl rfl (by kernel_rfl) (fun _ _ _ h => h) (Or.inl ⟨by rfl, ?_⟩) ?_ ?_
    rotate_left
    ·intro w'
     go_simp
     with_reducible rfl
    rotate_left
    ·simp only [Act.put, List.setIfInBounds_toArray, List.set_cons_zero, List.set_cons_succ, i64_w, i32_w]
     rfl
    refine take_ (i := 10) (N := some 45) (v := ?_) (a' := ?_) #[true, true, true, true, true, true, true, true, true, true, true, false, false, false, false, false, false, false, false, false, false, false, false, false] rfl rfl (by kernel_rfl) (fun _ _ _ h => h) (Or.inl ⟨by rfl, ?_⟩) hHeld ?_ ?_
    rotate_left
    ·rintro w' ⟨s0, s1, s2, s3, s4, s5⟩
     go_simp
     with_reducible rfl
    rotate_left
    ·simp only [Act.put, List.setIfInBounds_toArray, List.set_cons_zero, List.set_cons_succ, i64_w, i32_w]
     rfl
    refine take_ (i := 11) (N := some 46) (v := ?_) (a' := ?_) #[true, true, true, true, true, true, true, true, true, true, true, true, false, false, false, false, false, false, false, false, false, false, false, false] rfl rfl (by kernel_rfl) (fun _ _ _ h => h) (Or.inl ⟨by rfl, ?_⟩) hHeld ?_ ?_
    rotate_left
    ·rintro w' ⟨s0, s1, s2, s3, s4, s5⟩
     go_simp
     with_reducible rfl
    rotate_left
    ·simp only [Act.put, List.setIfInBounds_toArray, List.set_cons_zero, List.set_cons_succ, i64_w, i32_w]
     rfl
    refine take_ (i := 18) (N := some 53) (v := ?_) (a' := ?_) #[true, true, true, true, true, true, true, true, true, true, true, true, false, false, false, false, false, false, true, false, false, false, false, false] rfl rfl (by kernel_rfl) (fun _ _ _ h => h) (Or.inl ⟨by rfl, ?_⟩) hHeld ?_ ?_
    rotate_left
    ·rintro w' ⟨s0, s1, s2, s3, s4, s5⟩
     go_simp
     with_reducible rfl
    rotate_left
    ·simp only [Act.put, List.setIfInBounds_toArray, List.set_cons_zero, List.set_cons_succ, i64_w, i32_w]
     rfl
    refine take_ (i := 19) (N := some 54) (v := ?_) (a' := ?_) #[true, true, true, true, true, true, true, true, true, true, true, true, false, false, false, false, false, false, true, true, false, false, false, false] rfl rfl (by kernel_rfl) (fun _ _ _ h => h) (Or.inl ⟨by rfl, ?_⟩) hHeld ?_ ?_
    rotate_left
    ·rintro w' ⟨s0, s1, s2, s3, s4, s5⟩
     go_simp
     with_reducible rfl
    rotate_left
    ·simp only [Act.put, List.setIfInBounds_toArray, List.set_cons_zero, List.set_cons_succ, i64_w, i32_w]
     rfl
    refine pure_ (i := 20) (N := some 55) (v := ?_) (a' := ?_) #[true, true, true, true, true, true, true, true, true, true, true, true, false, false, false, false, false, false, true, true, true, false, false, false] rfl rfl (by kernel_rfl) (fun _ _ _ h => h) (Or.inl ⟨by rfl, ?_⟩) ?_ ?_
    rotate_left
    ·intro w'
     go_simp
     with_reducible rfl
    rotate_left
    ·simp only [Act.put, List.setIfInBounds_toArray, List.set_cons_zero, List.set_cons_succ, i64_w, i32_w]
     rfl
    refine one_ (i := 12) (N := some 47) #[true, true, true, true, true, true, true, true, true, true, true, true, true, false, false, false, false, false, true, true, true, false, false, false] rfl rfl (by kernel_rfl) (by decide) (fun K hK => ?_)
    refine goes_ Tryd.func11 (by kernel_rfl) rfl #[.agg #[.int .u16 a0_0, .int .u32 (Int.tmod a0_1 1000000)], .agg #[.int .u16 a1_0, .int .u32 (Int.tmod a1_1 1000000)]] (by rfl) rfl rfl (by simp only [List.map_toArray, List.map_cons, List.map_nil]; rfl) ?_
    with_reducible refine (stan_Less.calls k a0_0 (Int.tmod a0_1 1000000) a1_0 (Int.tmod a1_1 1000000) true _ HL1.out).mono ?_
    rintro e w2 ⟨rfl, hb⟩
    refine ⟨_, rfl, ?_⟩
    have n1_ : Aside0 (Below w.heap.size w w2) := ⟨by first | exact below_step HB.out hb | exact below_step (below_drew1 HB.out) hb⟩
    have q0_ : Aside0 (w2.heap[g0]? = some (.cells #[.int .u16 a0_0, .int .u32 (Int.tmod a0_1 1000000)] 25 (0, 0))) := ⟨by first | exact blk_below BK0.out hb | exact blk_below (blk_drew BK0.out) hb⟩
    have q1_ : Aside0 (w2.heap[g1]? = some (.cells #[.int .u16 a1_0, .int .u32 (Int.tmod a1_1 1000000)] 25 (0, 0))) := ⟨by first | exact blk_below BK1.out hb | exact blk_below (blk_drew BK1.out) hb⟩
    have q2_ : Aside0 (w2.heap[g2]? = some (.cells #[.int .u16 a2_0, .int .u32 (Int.tmod a2_1 1000000)] 25 (0, 0))) := ⟨by first | exact blk_below BK2.out hb | exact blk_below (blk_drew BK2.out) hb⟩
    clear HB BK0 BK1 BK2 hb
    have HB := n1_
    have BK0 := q0_
    have BK1 := q1_
    have BK2 := q2_
    clear n1_ q0_ q1_ q2_
    have hz0_0 : w2.cell? ⟨g0, 0, none⟩ = some (.int .u16 a0_0) := (blk_cell BK0.out 0).trans rfl
    have hz0_1 : w2.cell? ⟨g0, 1, none⟩ = some (.int .u32 (Int.tmod a0_1 1000000)) := (blk_cell BK0.out 1).trans rfl
    have hz1_0 : w2.cell? ⟨g1, 0, none⟩ = some (.int .u16 a1_0) := (blk_cell BK1.out 0).trans rfl
    have hz1_1 : w2.cell? ⟨g1, 1, none⟩ = some (.int .u32 (Int.tmod a1_1 1000000)) := (blk_cell BK1.out 1).trans rfl
    have hz2_0 : w2.cell? ⟨g2, 0, none⟩ = some (.int .u16 a2_0) := (blk_cell BK2.out 0).trans rfl
    have hz2_1 : w2.cell? ⟨g2, 1, none⟩ = some (.int .u32 (Int.tmod a2_1 1000000)) := (blk_cell BK2.out 1).trans rfl
    refine hK.out _ _ ⟨hz0_0, hz0_1, hz1_0, hz1_1, hz2_0, hz2_1⟩ (fun hHeld => ?_)
    clear hK K
    refine norm_ (a' := ?_) ?_ ?_
    rotate_left
    ·show Act.put _ (some 47) _ = _
     simp only [Act.put, List.setIfInBounds_toArray, List.set_cons_zero, List.set_cons_succ, i64_w, i32_w]
     rfl
    refine pure_ (i := 13) (N := some 48) (v := ?_) (a' := ?_) #[true, true, true, true, true, true, true, true, true, true, true, true, true, true, false, false, false, false, true, true, true, false, false, false] rfl rfl (by kernel_rfl) (fun _ _ _ h => h) (Or.inl ⟨by rfl, ?_⟩) ?_ ?_
    rotate_left
    ·intro w'
     go_simp
     with_reducible rfl
    rotate_left
    ·simp only [Act.put, List.setIfInBounds_toArray, List.set_cons_zero, List.set_cons_succ, i64_w, i32_w]
     rfl
    refine pure_ (i := 14) (N := some 49) (v := undef) (a' := ?_) #[true, true, true, true, true, true, true, true, true, true, true, true, true, true, true, false, false, false, true, true, true, false, false, false] rfl rfl (by kernel_rfl) (fun _ _ _ h => h) (Or.inr ⟨by rfl, rfl⟩) ?_ ?_
    rotate_left
    ·simp only [Act.put, List.setIfInBounds_toArray, List.set_cons_zero, List.set_cons_succ, i64_w, i32_w]
     rfl
    refine pure_ (i := 15) (N := some 50) (v := undef) (a' := ?_) #[true, true, true, true, true, true, true, true, true, true, true, true, true, true, true, true, false, false, true, true, true, false, false, false] rfl rfl (by kernel_rfl) (fun _ _ _ h => h) (Or.inr ⟨by rfl, rfl⟩) ?_ ?_
    rotate_left
    ·simp only [Act.put, List.setIfInBounds_toArray, List.set_cons_zero, List.set_cons_succ, i64_w, i32_w]
     rfl
    refine pure_ (i := 16) (N := some 51) (v := undef) (a' := ?_) #[true, true, true, true, true, true, true, true, true, true, true, true, true, true, true, true, true, false, true, true, true, false, false, false] rfl rfl (by kernel_rfl) (fun _ _ _ h => h) (Or.inr ⟨by rfl, rfl⟩) ?_ ?_
    rotate_left
    ·simp only [Act.put, List.setIfInBounds_toArray, List.set_cons_zero, List.set_cons_succ, i64_w, i32_w]
     rfl
    refine pure_ (i := 17) (N := some 52) (v := ?_) (a' := ?_) #[true, true, true, true, true, true, true, true, true, true, true, true, true, true, true, true, true, true, true, true, true, false, false, false] rfl rfl (by kernel_rfl) (fun _ _ _ h => h) (Or.inl ⟨by rfl, ?_⟩) ?_ ?_
    rotate_left
    ·intro w'
     go_simp
     with_reducible rfl
    rotate_left
    ·simp only [Act.put, List.setIfInBounds_toArray, List.set_cons_zero, List.set_cons_succ, i64_w, i32_w]
     rfl
    refine pure_ (i := 21) (N := some 56) (v := ?_) (a' := ?_) #[true, true, true, true, true, true, true, true, true, true, true, true, true, true, true, true, true, true, true, true, true, true, false, false] rfl rfl (by kernel_rfl) (fun _ _ _ h => h) (Or.inl ⟨by rfl, ?_⟩) ?_ ?_
    rotate_left
    ·intro w'
     go_simp
     with_reducible rfl
    rotate_left
    ·simp only [Act.put, List.setIfInBounds_toArray, List.set_cons_zero, List.set_cons_succ, i64_w, i32_w]
     rfl
    refine pure_ (i := 22) (N := some 57) (v := ?_) (a' := ?_) #[true, true, true, true, true, true, true, true, true, true, true, true, true, true, true, true, true, true, true, true, true, true, true, false] rfl rfl (by kernel_rfl) (fun _ _ _ h => h) (Or.inl ⟨by rfl, ?_⟩) ?_ ?_
    rotate_left
    ·intro w'
     go_simp
     with_reducible rfl
    rotate_left
    ·simp only [Act.put, List.setIfInBounds_toArray, List.set_cons_zero, List.set_cons_succ, i64_w, i32_w]
     rfl
    refine pure_ (i := 23) (N := some 6) (v := ?_) (a' := ?_) #[true, true, true, true, true, true, true, true, true, true, true, true, true, true, true, true, true, true, true, true, true, true, true, true] rfl rfl (by kernel_rfl) (fun _ _ _ h => h) (Or.inl ⟨by rfl, ?_⟩) ?_ ?_
    rotate_left
    ·intro w'
     go_simp
     with_reducible rfl
    rotate_left
    ·simp only [Act.put, List.setIfInBounds_toArray, List.set_cons_zero, List.set_cons_succ, i64_w, i32_w]
     rfl
    refine done_ (by kernel_rfl) ?_
    go_wp2
    go_ret
    exact ⟨rfl, by first | exact HB.out | exact below_drew1 HB.out | exact below_drew1 (below_drew1 HB.out)⟩
  | false =>
   cases L4 with
   | true =>
    have hEf : (a0_0 == a1_0 && (Int.tmod a0_1 1000000) == (Int.tmod a1_1 1000000)) = false := by simpa using hE
    clear hE
    go_wp2_with (first | (go_at_call 11; (first | refine (stan_Less.calls k a0_0 (Int.tmod a0_1 1000000) a1_0 (Int.tmod a1_1 1000000) _ _ HL1.out).mono ?_ | refine (stan_Less.calls k a1_0 (Int.tmod a1_1 1000000) a2_0 (Int.tmod a2_1 1000000) _ _ HL2.out).mono ?_ | refine (stan_Less.calls k a0_0 (Int.tmod a0_1 1000000) a2_0 (Int.tmod a2_1 1000000) _ _ HL3.out).mono ?_ | refine (stan_Less.calls k a1_0 (Int.tmod a1_1 1000000) a0_0 (Int.tmod a0_1 1000000) _ _ HL4.out).mono ?_); rintro e w2 ⟨rfl, hb⟩; have n1_ : Aside0 (Below w.heap.size w w2) := ⟨by first | exact below_step HB.out hb | exact below_step (below_drew1 HB.out) hb⟩; have q0_ : Aside0 (w2.heap[g0]? = some (.cells #[.int .u16 a0_0, .int .u32 (Int.tmod a0_1 1000000)] 25 (0, 0))) := ⟨by first | exact blk_below BK0.out hb | exact blk_below (blk_drew BK0.out) hb⟩; have q1_ : Aside0 (w2.heap[g1]? = some (.cells #[.int .u16 a1_0, .int .u32 (Int.tmod a1_1 1000000)] 25 (0, 0))) := ⟨by first | exact blk_below BK1.out hb | exact blk_below (blk_drew BK1.out) hb⟩; have q2_ : Aside0 (w2.heap[g2]? = some (.cells #[.int .u16 a2_0, .int .u32 (Int.tmod a2_1 1000000)] 25 (0, 0))) := ⟨by first | exact blk_below BK2.out hb | exact blk_below (blk_drew BK2.out) hb⟩; clear HB BK0 BK1 BK2 hb; have HB := n1_; have BK0 := q0_; have BK1 := q1_; have BK2 := q2_; clear n1_ q0_ q1_ q2_; have hz0_0 : w2.cell? ⟨g0, 0, none⟩ = some (.int .u16 a0_0) := (blk_cell BK0.out 0).trans rfl; have hz0_1 : w2.cell? ⟨g0, 1, none⟩ = some (.int .u32 (Int.tmod a0_1 1000000)) := (blk_cell BK0.out 1).trans rfl; have hz1_0 : w2.cell? ⟨g1, 0, none⟩ = some (.int .u16 a1_0) := (blk_cell BK1.out 0).trans rfl; have hz1_1 : w2.cell? ⟨g1, 1, none⟩ = some (.int .u32 (Int.tmod a1_1 1000000)) := (blk_cell BK1.out 1).trans rfl; have hz2_0 : w2.cell? ⟨g2, 0, none⟩ = some (.int .u16 a2_0) := (blk_cell BK2.out 0).trans rfl; have hz2_1 : w2.cell? ⟨g2, 1, none⟩ = some (.int .u32 (Int.tmod a2_1 1000000)) := (blk_cell BK2.out 1).trans rfl))
    refine start_ (n := 24) (S := fun w' => w'.cell? ⟨g0, 0, none⟩ = some (.int .u16 a0_0) ∧ w'.cell? ⟨g0, 1, none⟩ = some (.int .u32 (Int.tmod a0_1 1000000)) ∧ w'.cell? ⟨g1, 0, none⟩ = some (.int .u16 a1_0) ∧ w'.cell? ⟨g1, 1, none⟩ = some (.int .u32 (Int.tmod a1_1 1000000)) ∧ w'.cell? ⟨g2, 0, none⟩ = some (.int .u16 a2_0) ∧ w'.cell? ⟨g2, 1, none⟩ = some (.int .u32 (Int.tmod a2_1 1000000))) (ds := []) #[false, false, false, false, false, false, false, false, false, false, false, false, false, false, false, false, false, false, false, false, false, false, false, false] (by kernel_rfl) rfl rfl ⟨hz0_0, hz0_1, hz1_0, hz1_1, hz2_0, hz2_1⟩ (fun hHeld => ?_)
    refine take_ (i := 0) (N := some 35) (v := ?_) (a' := ?_) #[true, false, false, false, false, false, false, false, false, false, false, false, false, false, false, false, false, false, false, false, false, false, false, false] rfl rfl (by kernel_rfl) (fun _ _ _ h => h) (Or.inl ⟨by rfl, ?_⟩) hHeld ?_ ?_
    rotate_left
    ·rintro w' ⟨s0, s1, s2, s3, s4, s5⟩
     go_simp
     with_reducible rfl
    rotate_left
    ·simp only [Act.put, List.setIfInBounds_toArray, List.set_cons_zero, List.set_cons_succ, i64_w, i32_w]
     rfl
    refine take_ (i := 1) (N := some 36) (v := ?_) (a' := ?_) #[true, true, false, false, false, false, false, false, false, false, false, false, false, false, false, false, false, false, false, false, false, false, false, false] rfl rfl (by kernel_rfl) (fun _ _ _ h => h) (Or.inl ⟨by rfl, ?_⟩) hHeld ?_ ?_
    rotate_left
    ·rintro w' ⟨s0, s1, s2, s3, s4, s5⟩
     go_simp
     with_reducible rfl
    rotate_left
    ·simp only [Act.put, List.setIfInBounds_toArray, List.set_cons_zero, List.set_cons_succ, i64_w, i32_w]
     rfl
    refine take_ (i := 3) (N := some 38) (v := ?_) (a' := ?_) #[true, true, false, true, false, false, false, false, false, false, false, false, false, false, false, false, false, false, false, false, false, false, false, false] rfl rfl (by kernel_rfl) (fun _ _ _ h => h) (Or.inl ⟨by rfl, ?_⟩) hHeld ?_ ?_
    rotate_left
    ·rintro w' ⟨s0, s1, s2, s3, s4, s5⟩
     go_simp
     with_reducible rfl
    rotate_left
    ·simp only [Act.put, List.setIfInBounds_toArray, List.set_cons_zero, List.set_cons_succ, i64_w, i32_w]
     rfl
    refine take_ (i := 5) (N := some 40) (v := ?_) (a' := ?_) #[true, true, false, true, false, true, false, false, false, false, false, false, false, false, false, false, false, false, false, false, false, false, false, false] rfl rfl (by kernel_rfl) (fun _ _ _ h => h) (Or.inl ⟨by rfl, ?_⟩) hHeld ?_ ?_
    rotate_left
    ·rintro w' ⟨s0, s1, s2, s3, s4, s5⟩
     go_simp
     with_reducible rfl
    rotate_left
    ·simp only [Act.put, List.setIfInBounds_toArray, List.set_cons_zero, List.set_cons_succ, i64_w, i32_w]
     rfl
    refine one_ (i := 2) (N := some 37) #[true, true, true, true, false, true, false, false, false, false, false, false, false, false, false, false, false, false, false, false, false, false, false, false] rfl rfl (by kernel_rfl) (by decide) (fun K hK => ?_)
    refine goes_ Tryd.func11 (by kernel_rfl) rfl #[.agg #[.int .u16 a0_0, .int .u32 (Int.tmod a0_1 1000000)], .agg #[.int .u16 a1_0, .int .u32 (Int.tmod a1_1 1000000)]] (by rfl) rfl rfl (by simp only [List.map_toArray, List.map_cons, List.map_nil]; rfl) ?_
    with_reducible refine (stan_Less.calls k a0_0 (Int.tmod a0_1 1000000) a1_0 (Int.tmod a1_1 1000000) false _ HL1.out).mono ?_
    rintro e w2 ⟨rfl, hb⟩
    refine ⟨_, rfl, ?_⟩
    have n1_ : Aside0 (Below w.heap.size w w2) := ⟨by first | exact below_step HB.out hb | exact below_step (below_drew1 HB.out) hb⟩
    have q0_ : Aside0 (w2.heap[g0]? = some (.cells #[.int .u16 a0_0, .int .u32 (Int.tmod a0_1 1000000)] 25 (0, 0))) := ⟨by first | exact blk_below BK0.out hb | exact blk_below (blk_drew BK0.out) hb⟩
    have q1_ : Aside0 (w2.heap[g1]? = some (.cells #[.int .u16 a1_0, .int .u32 (Int.tmod a1_1 1000000)] 25 (0, 0))) := ⟨by first | exact blk_below BK1.out hb | exact blk_below (blk_drew BK1.out) hb⟩
    have q2_ : Aside0 (w2.heap[g2]? = some (.cells #[.int .u16 a2_0, .int .u32 (Int.tmod a2_1 1000000)] 25 (0, 0))) := ⟨by first | exact blk_below BK2.out hb | exact blk_below (blk_drew BK2.out) hb⟩
    clear HB BK0 BK1 BK2 hb
    have HB := n1_
    have BK0 := q0_
    have BK1 := q1_
    have BK2 := q2_
    clear n1_ q0_ q1_ q2_
    have hz0_0 : w2.cell? ⟨g0, 0, none⟩ = some (.int .u16 a0_0) := (blk_cell BK0.out 0).trans rfl
    have hz0_1 : w2.cell? ⟨g0, 1, none⟩ = some (.int .u32 (Int.tmod a0_1 1000000)) := (blk_cell BK0.out 1).trans rfl
    have hz1_0 : w2.cell? ⟨g1, 0, none⟩ = some (.int .u16 a1_0) := (blk_cell BK1.out 0).trans rfl
    have hz1_1 : w2.cell? ⟨g1, 1, none⟩ = some (.int .u32 (Int.tmod a1_1 1000000)) := (blk_cell BK1.out 1).trans rfl
    have hz2_0 : w2.cell? ⟨g2, 0, none⟩ = some (.int .u16 a2_0) := (blk_cell BK2.out 0).trans rfl
    have hz2_1 : w2.cell? ⟨g2, 1, none⟩ = some (.int .u32 (Int.tmod a2_1 1000000)) := (blk_cell BK2.out 1).trans rfl
    refine hK.out _ _ ⟨hz0_0, hz0_1, hz1_0, hz1_1, hz2_0, hz2_1⟩ (fun hHeld => ?_)
    clear hK K
    refine norm_ (a' := ?_) ?_ ?_
    rotate_left
    ·show Act.put _ (some 37) _ = _
     simp only [Act.put, List.setIfInBounds_toArray, List.set_cons_zero, List.set_cons_succ, i64_w, i32_w]
     rfl
    refine one_ (i := 4) (N := some 39) #[true, true, true, true, true, true, false, false, false, false, false, false, false, false, false, false, false, false, false, false, false, false, false, false] rfl rfl (by kernel_rfl) (by decide) (fun K hK => ?_)
    refine goes_ Tryd.func7 (by kernel_rfl) rfl #[.agg #[.int .u16 a0_0, .int .u32 (Int.tmod a0_1 1000000)]] (by rfl) rfl rfl (by simp only [List.map_toArray, List.map_cons, List.map_nil]; rfl) ?_
    with_reducible refine (stan_Text.calls a0_0 (Int.tmod a0_1 1000000) _ _ (tab_at HT.out (by first | exact HB.out | exact below_drew1 HB.out)) HXA.out).mono ?_
    rintro e w2 ⟨rfl, hb⟩
    refine ⟨_, rfl, ?_⟩
    have n1_ : Aside0 (Below w.heap.size w w2) := ⟨by first | exact below_step HB.out hb | exact below_step (below_drew1 HB.out) hb⟩
    have q0_ : Aside0 (w2.heap[g0]? = some (.cells #[.int .u16 a0_0, .int .u32 (Int.tmod a0_1 1000000)] 25 (0, 0))) := ⟨by first | exact blk_below BK0.out hb | exact blk_below (blk_drew BK0.out) hb⟩
    have q1_ : Aside0 (w2.heap[g1]? = some (.cells #[.int .u16 a1_0, .int .u32 (Int.tmod a1_1 1000000)] 25 (0, 0))) := ⟨by first | exact blk_below BK1.out hb | exact blk_below (blk_drew BK1.out) hb⟩
    have q2_ : Aside0 (w2.heap[g2]? = some (.cells #[.int .u16 a2_0, .int .u32 (Int.tmod a2_1 1000000)] 25 (0, 0))) := ⟨by first | exact blk_below BK2.out hb | exact blk_below (blk_drew BK2.out) hb⟩
    clear HB BK0 BK1 BK2 hb
    have HB := n1_
    have BK0 := q0_
    have BK1 := q1_
    have BK2 := q2_
    clear n1_ q0_ q1_ q2_
    have hz0_0 : w2.cell? ⟨g0, 0, none⟩ = some (.int .u16 a0_0) := (blk_cell BK0.out 0).trans rfl
    have hz0_1 : w2.cell? ⟨g0, 1, none⟩ = some (.int .u32 (Int.tmod a0_1 1000000)) := (blk_cell BK0.out 1).trans rfl
    have hz1_0 : w2.cell? ⟨g1, 0, none⟩ = some (.int .u16 a1_0) := (blk_cell BK1.out 0).trans rfl
    have hz1_1 : w2.cell? ⟨g1, 1, none⟩ = some (.int .u32 (Int.tmod a1_1 1000000)) := (blk_cell BK1.out 1).trans rfl
    have hz2_0 : w2.cell? ⟨g2, 0, none⟩ = some (.int .u16 a2_0) := (blk_cell BK2.out 0).trans rfl
    have hz2_1 : w2.cell? ⟨g2, 1, none⟩ = some (.int .u32 (Int.tmod a2_1 1000000)) := (blk_cell BK2.out 1).trans rfl
    refine hK.out _ _ ⟨hz0_0, hz0_1, hz1_0, hz1_1, hz2_0, hz2_1⟩ (fun hHeld => ?_)
    clear hK K
    refine norm_ (a' := ?_) ?_ ?_
    rotate_left
    ·show Act.put _ (some 39) _ = _
     simp only [Act.put, List.setIfInBounds_toArray, List.set_cons_zero, List.set_cons_succ, i64_w, i32_w]
     rfl
    refine one_ (i := 6) (N := some 41) #[true, true, true, true, true, true, true, false, false, false, false, false, false, false, false, false, false, false, false, false, false, false, false, false] rfl rfl (by kernel_rfl) (by decide) (fun K hK => ?_)
    refine goes_ Tryd.func7 (by kernel_rfl) rfl #[.agg #[.int .u16 a1_0, .int .u32 (Int.tmod a1_1 1000000)]] (by rfl) rfl rfl (by simp only [List.map_toArray, List.map_cons, List.map_nil]; rfl) ?_
    with_reducible refine (stan_Text.calls a1_0 (Int.tmod a1_1 1000000) _ _ (tab_at HT.out (by first | exact HB.out | exact below_drew1 HB.out)) HXB.out).mono ?_
    rintro e w2 ⟨rfl, hb⟩
    refine ⟨_, rfl, ?_⟩
    have n1_ : Aside0 (Below w.heap.size w w2) := ⟨by first | exact below_step HB.out hb | exact below_step (below_drew1 HB.out) hb⟩
    have q0_ : Aside0 (w2.heap[g0]? = some (.cells #[.int .u16 a0_0, .int .u32 (Int.tmod a0_1 1000000)] 25 (0, 0))) := ⟨by first | exact blk_below BK0.out hb | exact blk_below (blk_drew BK0.out) hb⟩
    have q1_ : Aside0 (w2.heap[g1]? = some (.cells #[.int .u16 a1_0, .int .u32 (Int.tmod a1_1 1000000)] 25 (0, 0))) := ⟨by first | exact blk_below BK1.out hb | exact blk_below (blk_drew BK1.out) hb⟩
    have q2_ : Aside0 (w2.heap[g2]? = some (.cells #[.int .u16 a2_0, .int .u32 (Int.tmod a2_1 1000000)] 25 (0, 0))) := ⟨by first | exact blk_below BK2.out hb | exact blk_below (blk_drew BK2.out) hb⟩
    clear HB BK0 BK1 BK2 hb
    have HB := n1_
    have BK0 := q0_
    have BK1 := q1_
    have BK2 := q2_
    clear n1_ q0_ q1_ q2_
    have hz0_0 : w2.cell? ⟨g0, 0, none⟩ = some (.int .u16 a0_0) := (blk_cell BK0.out 0).trans rfl
    have hz0_1 : w2.cell? ⟨g0, 1, none⟩ = some (.int .u32 (Int.tmod a0_1 1000000)) := (blk_cell BK0.out 1).trans rfl
    have hz1_0 : w2.cell? ⟨g1, 0, none⟩ = some (.int .u16 a1_0) := (blk_cell BK1.out 0).trans rfl
    have hz1_1 : w2.cell? ⟨g1, 1, none⟩ = some (.int .u32 (Int.tmod a1_1 1000000)) := (blk_cell BK1.out 1).trans rfl
    have hz2_0 : w2.cell? ⟨g2, 0, none⟩ = some (.int .u16 a2_0) := (blk_cell BK2.out 0).trans rfl
    have hz2_1 : w2.cell? ⟨g2, 1, none⟩ = some (.int .u32 (Int.tmod a2_1 1000000)) := (blk_cell BK2.out 1).trans rfl
    refine hK.out _ _ ⟨hz0_0, hz0_1, hz1_0, hz1_1, hz2_0, hz2_1⟩ (fun hHeld => ?_)
    clear hK K
    refine norm_ (a' := ?_) ?_ ?_
    rotate_left
    ·show Act.put _ (some 41) _ = _
     simp only [Act.put, List.setIfInBounds_toArray, List.set_cons_zero, List.set_cons_succ, i64_w, i32_w]
     rfl
    refine pure_ (i := 7) (N := some 42) (v := ?_) (a' := ?_) #[true, true, true, true, true, true, true, true, false, false, false, false, false, false, false, false, false, false, false, false, false, false, false, false] rfl rfl (by kernel_rfl) (fun _ _ _ h => h) (Or.inl ⟨by rfl, ?_⟩) ?_ ?_
    rotate_left
    ·intro w'
     go_simp
     with_reducible rfl
    rotate_left
    ·simp only [Act.put, List.setIfInBounds_toArray, List.set_cons_zero, List.set_cons_succ, i64_w, i32_w]
     rfl
    refine pure_ (i := 8) (N := some 43) (v := ?_) (a' := ?_) #[true, true, true, true, true, true, true, true, true, false, false, false, false, false, false, false, false, false, false, false, false, false, false, false] rfl rfl (by kernel_rfl) (fun _ _ _ h => h) (Or.inl ⟨by rfl, ?_⟩) ?_ ?_
    rotate_left
    ·intro w'
     go_simp
     with_reducible rfl
    rotate_left
    ·simp only [Act.put, List.setIfInBounds_toArray, List.set_cons_zero, List.set_cons_succ, i64_w, i32_w]
     rfl
    refine pure_ (i := 9) (N := some 44) (v := ?_) (a' := ?_) #[true, true, true, true, true, true, true, true, true, true, false, false, false, false, false, false, false, false, false, false, false, false, false, false] rfl rfl (by kernel_rfl) (fun _ _ _ h => h) (Or.inl ⟨by rfl, ?_⟩) ?_ ?_
    rotate_left
    ·intro w'
     go_simp
     with_reducible rfl
    rotate_left
    ·simp only [Act.put, List.setIfInBounds_toArray, List.set_cons_zero, List.set_cons_succ, i64_w, i32_w]
     rfl
    refine take_ (i := 10) (N := some 45) (v := ?_) (a' := ?_) #[true, true, true, true, true, true, true, true, true, true, true, false, false, false, false, false, false, false, false, false, false, false, false, false] rfl rfl (by kernel_rfl) (fun _ _ _ h => h) (Or.inl ⟨by rfl, ?_⟩) hHeld ?_ ?_
    rotate_left
    ·rintro w' ⟨s0, s1, s2, s3, s4, s5⟩
     go_simp
     with_reducible rfl
    rotate_left
    ·simp only [Act.put, List.setIfInBounds_toArray, List.set_cons_zero, List.set_cons_succ, i64_w, i32_w]
     rfl
    refine take_ (i := 11) (N := some 46) (v := ?_) (a' := ?_) #[true, true, true, true, true, true, true, true, true, true, true, true, false, false, false, false, false, false, false, false, false, false, false, false] rfl rfl (by kernel_rfl) (fun _ _ _ h => h) (Or.inl ⟨by rfl, ?_⟩) hHeld ?_ ?_
    rotate_left
    ·rintro w' ⟨s0, s1, s2, s3, s4, s5⟩
     go_simp
     with_reducible rfl
    rotate_left
    ·simp only [Act.put, List.setIfInBounds_toArray, List.set_cons_zero, List.set_cons_succ, i64_w, i32_w]
     rfl
    refine take_ (i := 18) (N := some 53) (v := ?_) (a' := ?_) #[true, true, true, true, true, true, true, true, true, true, true, true, false, false, false, false, false, false, true, false, false, false, false, false] rfl rfl (by kernel_rfl) (fun _ _ _ h => h) (Or.inl ⟨by rfl, ?_⟩) hHeld ?_ ?_
    rotate_left
    ·rintro w' ⟨s0, s1, s2, s3, s4, s5⟩
     go_simp
     with_reducible rfl
    rotate_left
    ·simp only [Act.put, List.setIfInBounds_toArray, List.set_cons_zero, List.set_cons_succ, i64_w, i32_w]
     rfl
    refine take_ (i := 19) (N := some 54) (v := ?_) (a' := ?_) #[true, true, true, true, true, true, true, true, true, true, true, true, false, false, false, false, false, false, true, true, false, false, false, false] rfl rfl (by kernel_rfl) (fun _ _ _ h => h) (Or.inl ⟨by rfl, ?_⟩) hHeld ?_ ?_
    rotate_left
    ·rintro w' ⟨s0, s1, s2, s3, s4, s5⟩
     go_simp
     with_reducible rfl
    rotate_left
    ·simp only [Act.put, List.setIfInBounds_toArray, List.set_cons_zero, List.set_cons_succ, i64_w, i32_w]
     rfl
    refine pure_ (i := 20) (N := some 55) (v := ?_) (a' := ?_) #[true, true, true, true, true, true, true, true, true, true, true, true, false, false, false, false, false, false, true, true, true, false, false, false] rfl rfl (by kernel_rfl) (fun _ _ _ h => h) (Or.inl ⟨by rfl, ?_⟩) ?_ ?_
    rotate_left
    ·intro w'
     go_simp
     with_reducible rfl
    rotate_left
    ·simp only [Act.put, List.setIfInBounds_toArray, List.set_cons_zero, List.set_cons_succ, i64_w, i32_w]
     rfl
    refine one_ (i := 12) (N := some 47) #[true, true, true, true, true, true, true, true, true, true, true, true, true, false, false, false, false, false, true, true, true, false, false, false] rfl rfl (by kernel_rfl) (by decide) (fun K hK => ?_)
    refine goes_ Tryd.func11 (by kernel_rfl) rfl #[.agg #[.int .u16 a0_0, .int .u32 (Int.tmod a0_1 1000000)], .agg #[.int .u16 a1_0, .int .u32 (Int.tmod a1_1 1000000)]] (by rfl) rfl rfl (by simp only [List.map_toArray, List.map_cons, List.map_nil]; rfl) ?_
    with_reducible refine (stan_Less.calls k a0_0 (Int.tmod a0_1 1000000) a1_0 (Int.tmod a1_1 1000000) false _ HL1.out).mono ?_
    rintro e w2 ⟨rfl, hb⟩
    refine ⟨_, rfl, ?_⟩
    have n1_ : Aside0 (Below w.heap.size w w2) := ⟨by first | exact below_step HB.out hb | exact below_step (below_drew1 HB.out) hb⟩
    have q0_ : Aside0 (w2.heap[g0]? = some (.cells #[.int .u16 a0_0, .int .u32 (Int.tmod a0_1 1000000)] 25 (0, 0))) := ⟨by first | exact blk_below BK0.out hb | exact blk_below (blk_drew BK0.out) hb⟩
    have q1_ : Aside0 (w2.heap[g1]? = some (.cells #[.int .u16 a1_0, .int .u32 (Int.tmod a1_1 1000000)] 25 (0, 0))) := ⟨by first | exact blk_below BK1.out hb | exact blk_below (blk_drew BK1.out) hb⟩
    have q2_ : Aside0 (w2.heap[g2]? = some (.cells #[.int .u16 a2_0, .int .u32 (Int.tmod a2_1 1000000)] 25 (0, 0))) := ⟨by first | exact blk_below BK2.out hb | exact blk_below (blk_drew BK2.out) hb⟩
    clear HB BK0 BK1 BK2 hb
    have HB := n1_
    have BK0 := q0_
    have BK1 := q1_
    have BK2 := q2_
    clear n1_ q0_ q1_ q2_
    have hz0_0 : w2.cell? ⟨g0, 0, none⟩ = some (.int .u16 a0_0) := (blk_cell BK0.out 0).trans rfl
    have hz0_1 : w2.cell? ⟨g0, 1, none⟩ = some (.int .u32 (Int.tmod a0_1 1000000)) := (blk_cell BK0.out 1).trans rfl
    have hz1_0 : w2.cell? ⟨g1, 0, none⟩ = some (.int .u16 a1_0) := (blk_cell BK1.out 0).trans rfl
    have hz1_1 : w2.cell? ⟨g1, 1, none⟩ = some (.int .u32 (Int.tmod a1_1 1000000)) := (blk_cell BK1.out 1).trans rfl
    have hz2_0 : w2.cell? ⟨g2, 0, none⟩ = some (.int .u16 a2_0) := (blk_cell BK2.out 0).trans rfl
    have hz2_1 : w2.cell? ⟨g2, 1, none⟩ = some (.int .u32 (Int.tmod a2_1 1000000)) := (blk_cell BK2.out 1).trans rfl
    refine hK.out _ _ ⟨hz0_0, hz0_1, hz1_0, hz1_1, hz2_0, hz2_1⟩ (fun hHeld => ?_)
    clear hK K
    refine norm_ (a' := ?_) ?_ ?_
    rotate_left
    ·show Act.put _ (some 47) _ = _
     simp only [Act.put, List.setIfInBounds_toArray, List.set_cons_zero, List.set_cons_succ, i64_w, i32_w]
     rfl
    refine pure_ (i := 13) (N := some 48) (v := ?_) (a' := ?_) #[true, true, true, true, true, true, true, true, true, true, true, true, true, true, false, false, false, false, true, true, true, false, false, false] rfl rfl (by kernel_rfl) (fun _ _ _ h => h) (Or.inl ⟨by rfl, ?_⟩) ?_ ?_
    rotate_left
    ·intro w'
     go_simp
     with_reducible rfl
    rotate_left
    ·simp only [Act.put, List.setIfInBounds_toArray, List.set_cons_zero, List.set_cons_succ, i64_w, i32_w]
     rfl
    refine take_ (i := 14) (N := some 49) (v := ?_) (a' := ?_) #[true, true, true, true, true, true, true, true, true, true, true, true, true, true, true, false, false, false, true, true, true, false, false, false] rfl rfl (by kernel_rfl) (fun _ _ _ h => h) (Or.inl ⟨by rfl, ?_⟩) hHeld ?_ ?_
    rotate_left
    ·rintro w' ⟨s0, s1, s2, s3, s4, s5⟩
     go_simp
     with_reducible rfl
    rotate_left
    ·simp only [Act.put, List.setIfInBounds_toArray, List.set_cons_zero, List.set_cons_succ, i64_w, i32_w]
     rfl
    refine take_ (i := 15) (N := some 50) (v := ?_) (a' := ?_) #[true, true, true, true, true, true, true, true, true, true, true, true, true, true, true, true, false, false, true, true, true, false, false, false] rfl rfl (by kernel_rfl) (fun _ _ _ h => h) (Or.inl ⟨by rfl, ?_⟩) hHeld ?_ ?_
    rotate_left
    ·rintro w' ⟨s0, s1, s2, s3, s4, s5⟩
     go_simp
     with_reducible rfl
    rotate_left
    ·simp only [Act.put, List.setIfInBounds_toArray, List.set_cons_zero, List.set_cons_succ, i64_w, i32_w]
     rfl
    refine one_ (i := 16) (N := some 51) #[true, true, true, true, true, true, true, true, true, true, true, true, true, true, true, true, true, false, true, true, true, false, false, false] rfl rfl (by kernel_rfl) (by decide) (fun K hK => ?_)
    refine goes_ Tryd.func11 (by kernel_rfl) rfl #[.agg #[.int .u16 a1_0, .int .u32 (Int.tmod a1_1 1000000)], .agg #[.int .u16 a0_0, .int .u32 (Int.tmod a0_1 1000000)]] (by rfl) rfl rfl (by simp only [List.map_toArray, List.map_cons, List.map_nil]; rfl) ?_
    with_reducible refine (stan_Less.calls k a1_0 (Int.tmod a1_1 1000000) a0_0 (Int.tmod a0_1 1000000) true _ HL4.out).mono ?_
    rintro e w2 ⟨rfl, hb⟩
    refine ⟨_, rfl, ?_⟩
    have n1_ : Aside0 (Below w.heap.size w w2) := ⟨by first | exact below_step HB.out hb | exact below_step (below_drew1 HB.out) hb⟩
    have q0_ : Aside0 (w2.heap[g0]? = some (.cells #[.int .u16 a0_0, .int .u32 (Int.tmod a0_1 1000000)] 25 (0, 0))) := ⟨by first | exact blk_below BK0.out hb | exact blk_below (blk_drew BK0.out) hb⟩
    have q1_ : Aside0 (w2.heap[g1]? = some (.cells #[.int .u16 a1_0, .int .u32 (Int.tmod a1_1 1000000)] 25 (0, 0))) := ⟨by first | exact blk_below BK1.out hb | exact blk_below (blk_drew BK1.out) hb⟩
    have q2_ : Aside0 (w2.heap[g2]? = some (.cells #[.int .u16 a2_0, .int .u32 (Int.tmod a2_1 1000000)] 25 (0, 0))) := ⟨by first | exact blk_below BK2.out hb | exact blk_below (blk_drew BK2.out) hb⟩
    clear HB BK0 BK1 BK2 hb
    have HB := n1_
    have BK0 := q0_
    have BK1 := q1_
    have BK2 := q2_
    clear n1_ q0_ q1_ q2_
    have hz0_0 : w2.cell? ⟨g0, 0, none⟩ = some (.int .u16 a0_0) := (blk_cell BK0.out 0).trans rfl
    have hz0_1 : w2.cell? ⟨g0, 1, none⟩ = some (.int .u32 (Int.tmod a0_1 1000000)) := (blk_cell BK0.out 1).trans rfl
    have hz1_0 : w2.cell? ⟨g1, 0, none⟩ = some (.int .u16 a1_0) := (blk_cell BK1.out 0).trans rfl
    have hz1_1 : w2.cell? ⟨g1, 1, none⟩ = some (.int .u32 (Int.tmod a1_1 1000000)) := (blk_cell BK1.out 1).trans rfl
    have hz2_0 : w2.cell? ⟨g2, 0, none⟩ = some (.int .u16 a2_0) := (blk_cell BK2.out 0).trans rfl
    have hz2_1 : w2.cell? ⟨g2, 1, none⟩ = some (.int .u32 (Int.tmod a2_1 1000000)) := (blk_cell BK2.out 1).trans rfl
    refine hK.out _ _ ⟨hz0_0, hz0_1, hz1_0, hz1_1, hz2_0, hz2_1⟩ (fun hHeld => ?_)
    clear hK K
    refine norm_ (a' := ?_) ?_ ?_
    rotate_left
    ·show Act.put _ (some 51) _ = _
     simp only [Act.put, List.setIfInBounds_toArray, List.set_cons_zero, List.set_cons_succ, i64_w, i32_w]
     rfl
    refine pure_ (i := 17) (N := some 52) (v := ?_) (a' := ?_) #[true, true, true, true, true, true, true, true, true, true, true, true, true, true, true, true, true, true, true, true, true, false, false, false] rfl rfl (by kernel_rfl) (fun _ _ _ h => h) (Or.inl ⟨by rfl, ?_⟩) ?_ ?_
    rotate_left
    ·intro w'
     go_simp
     with_reducible rfl
    rotate_left
    ·simp only [Act.put, List.setIfInBounds_toArray, List.set_cons_zero, List.set_cons_succ, i64_w, i32_w]
     rfl
    refine pure_ (i := 21) (N := some 56) (v := ?_) (a' := ?_) #[true, true, true, true, true, true, true, true, true, true, true, true, true, true, true, true, true, true, true, true, true, true, false, false] rfl rfl (by kernel_rfl) (fun _ _ _ h => h) (Or.inl ⟨by rfl, ?_⟩) ?_ ?_
    rotate_left
    ·intro w'
     go_simp
     with_reducible rfl
    rotate_left
    ·simp only [Act.put, List.setIfInBounds_toArray, List.set_cons_zero, List.set_cons_succ, i64_w, i32_w]
     rfl
    refine pure_ (i := 22) (N := some 57) (v := ?_) (a' := ?_) #[true, true, true, true, true, true, true, true, true, true, true, true, true, true, true, true, true, true, true, true, true, true, true, false] rfl rfl (by kernel_rfl) (fun _ _ _ h => h) (Or.inl ⟨by rfl, ?_⟩) ?_ ?_
    rotate_left
    ·intro w'
     go_simp
     with_reducible rfl
    rotate_left
    ·simp only [Act.put, List.setIfInBounds_toArray, List.set_cons_zero, List.set_cons_succ, i64_w, i32_w]
     rfl
    refine pure_ (i := 23) (N := some 6) (v := ?_) (a' := ?_) #[true, true, true, true, true, true, true, true, true, true, true, true, true, true, true, true, true, true, true, true, true, true, true, true] rfl rfl (by kernel_rfl) (fun _ _ _ h => h) (Or.inl ⟨by rfl, ?_⟩) ?_ ?_
    rotate_left
    ·intro w'
     go_simp
     with_reducible rfl
    rotate_left
    ·simp only [Act.put, List.setIfInBounds_toArray, List.set_cons_zero, List.set_cons_succ, i64_w, i32_w]
     rfl
    refine done_ (by kernel_rfl) ?_
    go_wp2
    go_ret
    exact ⟨rfl, by first | exact HB.out | exact below_drew1 HB.out | exact below_drew1 (below_drew1 HB.out)⟩
   | false =>
    have hEf : (a0_0 == a1_0 && (Int.tmod a0_1 1000000) == (Int.tmod a1_1 1000000)) = true := by simpa using hE
    clear hE
    go_wp2_with (first | (go_at_call 11; (first | refine (stan_Less.calls k a0_0 (Int.tmod a0_1 1000000) a1_0 (Int.tmod a1_1 1000000) _ _ HL1.out).mono ?_ | refine (stan_Less.calls k a1_0 (Int.tmod a1_1 1000000) a2_0 (Int.tmod a2_1 1000000) _ _ HL2.out).mono ?_ | refine (stan_Less.calls k a0_0 (Int.tmod a0_1 1000000) a2_0 (Int.tmod a2_1 1000000) _ _ HL3.out).mono ?_ | refine (stan_Less.calls k a1_0 (Int.tmod a1_1 1000000) a0_0 (Int.tmod a0_1 1000000) _ _ HL4.out).mono ?_); rintro e w2 ⟨rfl, hb⟩; have n1_ : Aside0 (Below w.heap.size w w2) := ⟨by first | exact below_step HB.out hb | exact below_step (below_drew1 HB.out) hb⟩; have q0_ : Aside0 (w2.heap[g0]? = some (.cells #[.int .u16 a0_0, .int .u32 (Int.tmod a0_1 1000000)] 25 (0, 0))) := ⟨by first | exact blk_below BK0.out hb | exact blk_below (blk_drew BK0.out) hb⟩; have q1_ : Aside0 (w2.heap[g1]? = some (.cells #[.int .u16 a1_0, .int .u32 (Int.tmod a1_1 1000000)] 25 (0, 0))) := ⟨by first | exact blk_below BK1.out hb | exact blk_below (blk_drew BK1.out) hb⟩; have q2_ : Aside0 (w2.heap[g2]? = some (.cells #[.int .u16 a2_0, .int .u32 (Int.tmod a2_1 1000000)] 25 (0, 0))) := ⟨by first | exact blk_below BK2.out hb | exact blk_below (blk_drew BK2.out) hb⟩; clear HB BK0 BK1 BK2 hb; have HB := n1_; have BK0 := q0_; have BK1 := q1_; have BK2 := q2_; clear n1_ q0_ q1_ q2_; have hz0_0 : w2.cell? ⟨g0, 0, none⟩ = some (.int .u16 a0_0) := (blk_cell BK0.out 0).trans rfl; have hz0_1 : w2.cell? ⟨g0, 1, none⟩ = some (.int .u32 (Int.tmod a0_1 1000000)) := (blk_cell BK0.out 1).trans rfl; have hz1_0 : w2.cell? ⟨g1, 0, none⟩ = some (.int .u16 a1_0) := (blk_cell BK1.out 0).trans rfl; have hz1_1 : w2.cell? ⟨g1, 1, none⟩ = some (.int .u32 (Int.tmod a1_1 1000000)) := (blk_cell BK1.out 1).trans rfl; have hz2_0 : w2.cell? ⟨g2, 0, none⟩ = some (.int .u16 a2_0) := (blk_cell BK2.out 0).trans rfl; have hz2_1 : w2.cell? ⟨g2, 1, none⟩ = some (.int .u32 (Int.tmod a2_1 1000000)) := (blk_cell BK2.out 1).trans rfl))
    refine start_ (n := 24) (S := fun w' => w'.cell? ⟨g0, 0, none⟩ = some (.int .u16 a0_0) ∧ w'.cell? ⟨g0, 1, none⟩ = some (.int .u32 (Int.tmod a0_1 1000000)) ∧ w'.cell? ⟨g1, 0, none⟩ = some (.int .u16 a1_0) ∧ w'.cell? ⟨g1, 1, none⟩ = some (.int .u32 (Int.tmod a1_1 1000000)) ∧ w'.cell? ⟨g2, 0, none⟩ = some (.int .u16 a2_0) ∧ w'.cell? ⟨g2, 1, none⟩ = some (.int .u32 (Int.tmod a2_1 1000000))) (ds := []) #[false, false, false, false, false, false, false, false, false, false, false, false, false, false, false, false, false, false, false, false, false, false, false, false] (by kernel_rfl) rfl rfl ⟨hz0_0, hz0_1, hz1_0, hz1_1, hz2_0, hz2_1⟩ (fun hHeld => ?_)
    refine take_ (i := 0) (N := some 35) (v := ?_) (a' := ?_) #[true, false, false, false, false, false, false, false, false, false, false, false, false, false, false, false, false, false, false, false, false, false, false, false] rfl rfl (by kernel_rfl) (fun _ _ _ h => h) (Or.inl ⟨by rfl, ?_⟩) hHeld ?_ ?_
    rotate_left
    ·rintro w' ⟨s0, s1, s2, s3, s4, s5⟩
     go_simp
     with_reducible rfl
    rotate_left
    ·simp only [Act.put, List.setIfInBounds_toArray, List.set_cons_zero, List.set_cons_succ, i64_w, i32_w]
     rfl
    refine take_ (i := 1) (N := some 36) (v := ?_) (a' := ?_) #[true, true, false, false, false, false, false, false, false, false, false, false, false, false, false, false, false, false, false, false, false, false, false, false] rfl rfl (by kernel_rfl) (fun _ _ _ h => h) (Or.inl ⟨by rfl, ?_⟩) hHeld ?_ ?_
    rotate_left
    ·rintro w' ⟨s0, s1, s2, s3, s4, s5⟩
     go_simp
     with_reducible rfl
    rotate_left
    ·simp only [Act.put, List.setIfInBounds_toArray, List.set_cons_zero, List.set_cons_succ, i64_w, i32_w]
     rfl
    refine take_ (i := 3) (N := some 38) (v := ?_) (a' := ?_) #[true, true, false, true, false, false, false, false, false, false, false, false, false, false, false, false, false, false, false, false, false, false, false, false] rfl rfl (by kernel_rfl) (fun _ _ _ h => h) (Or.inl ⟨by rfl, ?_⟩) hHeld ?_ ?_
    rotate_left
    ·rintro w' ⟨s0, s1, s2, s3, s4, s5⟩
     go_simp
     with_reducible rfl
    rotate_left
    ·simp only [Act.put, List.setIfInBounds_toArray, List.set_cons_zero, List.set_cons_succ, i64_w, i32_w]
     rfl
    refine take_ (i := 5) (N := some 40) (v := ?_) (a' := ?_) #[true, true, false, true, false, true, false, false, false, false, false, false, false, false, false, false, false, false, false, false, false, false, false, false] rfl rfl (by kernel_rfl) (fun _ _ _ h => h) (Or.inl ⟨by rfl, ?_⟩) hHeld ?_ ?_
    rotate_left
    ·rintro w' ⟨s0, s1, s2, s3, s4, s5⟩
     go_simp
     with_reducible rfl
    rotate_left
    ·simp only [Act.put, List.setIfInBounds_toArray, List.set_cons_zero, List.set_cons_succ, i64_w, i32_w]
     rfl
    refine one_ (i := 2) (N := some 37) #[true, true, true, true, false, true, false, false, false, false, false, false, false, false, false, false, false, false, false, false, false, false, false, false] rfl rfl (by kernel_rfl) (by decide) (fun K hK => ?_)
    refine goes_ Tryd.func11 (by kernel_rfl) rfl #[.agg #[.int .u16 a0_0, .int .u32 (Int.tmod a0_1 1000000)], .agg #[.int .u16 a1_0, .int .u32 (Int.tmod a1_1 1000000)]] (by rfl) rfl rfl (by simp only [List.map_toArray, List.map_cons, List.map_nil]; rfl) ?_
    with_reducible refine (stan_Less.calls k a0_0 (Int.tmod a0_1 1000000) a1_0 (Int.tmod a1_1 1000000) false _ HL1.out).mono ?_
    rintro e w2 ⟨rfl, hb⟩
    refine ⟨_, rfl, ?_⟩
    have n1_ : Aside0 (Below w.heap.size w w2) := ⟨by first | exact below_step HB.out hb | exact below_step (below_drew1 HB.out) hb⟩
    have q0_ : Aside0 (w2.heap[g0]? = some (.cells #[.int .u16 a0_0, .int .u32 (Int.tmod a0_1 1000000)] 25 (0, 0))) := ⟨by first | exact blk_below BK0.out hb | exact blk_below (blk_drew BK0.out) hb⟩
    have q1_ : Aside0 (w2.heap[g1]? = some (.cells #[.int .u16 a1_0, .int .u32 (Int.tmod a1_1 1000000)] 25 (0, 0))) := ⟨by first | exact blk_below BK1.out hb | exact blk_below (blk_drew BK1.out) hb⟩
    have q2_ : Aside0 (w2.heap[g2]? = some (.cells #[.int .u16 a2_0, .int .u32 (Int.tmod a2_1 1000000)] 25 (0, 0))) := ⟨by first | exact blk_below BK2.out hb | exact blk_below (blk_drew BK2.out) hb⟩
    clear HB BK0 BK1 BK2 hb
    have HB := n1_
    have BK0 := q0_
    have BK1 := q1_
    have BK2 := q2_
    clear n1_ q0_ q1_ q2_
    have hz0_0 : w2.cell? ⟨g0, 0, none⟩ = some (.int .u16 a0_0) := (blk_cell BK0.out 0).trans rfl
    have hz0_1 : w2.cell? ⟨g0, 1, none⟩ = some (.int .u32 (Int.tmod a0_1 1000000)) := (blk_cell BK0.out 1).trans rfl
    have hz1_0 : w2.cell? ⟨g1, 0, none⟩ = some (.int .u16 a1_0) := (blk_cell BK1.out 0).trans rfl
    have hz1_1 : w2.cell? ⟨g1, 1, none⟩ = some (.int .u32 (Int.tmod a1_1 1000000)) := (blk_cell BK1.out 1).trans rfl
    have hz2_0 : w2.cell? ⟨g2, 0, none⟩ = some (.int .u16 a2_0) := (blk_cell BK2.out 0).trans rfl
    have hz2_1 : w2.cell? ⟨g2, 1, none⟩ = some (.int .u32 (Int.tmod a2_1 1000000)) := (blk_cell BK2.out 1).trans rfl
    refine hK.out _ _ ⟨hz0_0, hz0_1, hz1_0, hz1_1, hz2_0, hz2_1⟩ (fun hHeld => ?_)
    clear hK K
    refine norm_ (a' := ?_) ?_ ?_
    rotate_left
    ·show Act.put _ (some 37) _ = _
     simp only [Act.put, List.setIfInBounds_toArray, List.set_cons_zero, List.set_cons_succ, i64_w, i32_w]
     rfl
    refine one_ (i := 4) (N := some 39) #[true, true, true, true, true, true, false, false, false, false, false, false, false, false, false, false, false, false, false, false, false, false, false, false] rfl rfl (by kernel_rfl) (by decide) (fun K hK => ?_)
    refine goes_ Tryd.func7 (by kernel_rfl) rfl #[.agg #[.int .u16 a0_0, .int .u32 (Int.tmod a0_1 1000000)]] (by rfl) rfl rfl (by simp only [List.map_toArray, List.map_cons, List.map_nil]; rfl) ?_
    with_reducible refine (stan_Text.calls a0_0 (Int.tmod a0_1 1000000) _ _ (tab_at HT.out (by first | exact HB.out | exact below_drew1 HB.out)) HXA.out).mono ?_
    rintro e w2 ⟨rfl, hb⟩
    refine ⟨_, rfl, ?_⟩
    have n1_ : Aside0 (Below w.heap.size w w2) := ⟨by first | exact below_step HB.out hb | exact below_step (below_drew1 HB.out) hb⟩
    have q0_ : Aside0 (w2.heap[g0]? = some (.cells #[.int .u16 a0_0, .int .u32 (Int.tmod a0_1 1000000)] 25 (0, 0))) := ⟨by first | exact blk_below BK0.out hb | exact blk_below (blk_drew BK0.out) hb⟩
    have q1_ : Aside0 (w2.heap[g1]? = some (.cells #[.int .u16 a1_0, .int .u32 (Int.tmod a1_1 1000000)] 25 (0, 0))) := ⟨by first | exact blk_below BK1.out hb | exact blk_below (blk_drew BK1.out) hb⟩
    have q2_ : Aside0 (w2.heap[g2]? = some (.cells #[.int .u16 a2_0, .int .u32 (Int.tmod a2_1 1000000)] 25 (0, 0))) := ⟨by first | exact blk_below BK2.out hb | exact blk_below (blk_drew BK2.out) hb⟩
    clear HB BK0 BK1 BK2 hb
    have HB := n1_
    have BK0 := q0_
    have BK1 := q1_
    have BK2 := q2_
    clear n1_ q0_ q1_ q2_
    have hz0_0 : w2.cell? ⟨g0, 0, none⟩ = some (.int .u16 a0_0) := (blk_cell BK0.out 0).trans rfl
    have hz0_1 : w2.cell? ⟨g0, 1, none⟩ = some (.int .u32 (Int.tmod a0_1 1000000)) := (blk_cell BK0.out 1).trans rfl
    have hz1_0 : w2.cell? ⟨g1, 0, none⟩ = some (.int .u16 a1_0) := (blk_cell BK1.out 0).trans rfl
    have hz1_1 : w2.cell? ⟨g1, 1, none⟩ = some (.int .u32 (Int.tmod a1_1 1000000)) := (blk_cell BK1.out 1).trans rfl
    have hz2_0 : w2.cell? ⟨g2, 0, none⟩ = some (.int .u16 a2_0) := (blk_cell BK2.out 0).trans rfl
    have hz2_1 : w2.cell? ⟨g2, 1, none⟩ = some (.int .u32 (Int.tmod a2_1 1000000)) := (blk_cell BK2.out 1).trans rfl
    refine hK.out _ _ ⟨hz0_0, hz0_1, hz1_0, hz1_1, hz2_0, hz2_1⟩ (fun hHeld => ?_)
    clear hK K
    refine norm_ (a' := ?_) ?_ ?_
    rotate_left
    ·show Act.put _ (some 39) _ = _
     simp only [Act.put, List.setIfInBounds_toArray, List.set_cons_zero, List.set_cons_succ, i64_w, i32_w]
     rfl
    refine one_ (i := 6) (N := some 41) #[true, true, true, true, true, true, true, false, false, false, false, false, false, false, false, false, false, false, false, false, false, false, false, false] rfl rfl (by kernel_rfl) (by decide) (fun K hK => ?_)
    refine goes_ Tryd.func7 (by kernel_rfl) rfl #[.agg #[.int .u16 a1_0, .int .u32 (Int.tmod a1_1 1000000)]] (by rfl) rfl rfl (by simp only [List.map_toArray, List.map_cons, List.map_nil]; rfl) ?_
    with_reducible refine (stan_Text.calls a1_0 (Int.tmod a1_1 1000000) _ _ (tab_at HT.out (by first | exact HB.out | exact below_drew1 HB.out)) HXB.out).mono ?_
    rintro e w2 ⟨rfl, hb⟩
    refine ⟨_, rfl, ?_⟩
    have n1_ : Aside0 (Below w.heap.size w w2) := ⟨by first | exact below_step HB.out hb | exact below_step (below_drew1 HB.out) hb⟩
    have q0_ : Aside0 (w2.heap[g0]? = some (.cells #[.int .u16 a0_0, .int .u32 (Int.tmod a0_1 1000000)] 25 (0, 0))) := ⟨by first | exact blk_below BK0.out hb | exact blk_below (blk_drew BK0.out) hb⟩
    have q1_ : Aside0 (w2.heap[g1]? = some (.cells #[.int .u16 a1_0, .int .u32 (Int.tmod a1_1 1000000)] 25 (0, 0))) := ⟨by first | exact blk_below BK1.out hb | exact blk_below (blk_drew BK1.out) hb⟩
    have q2_ : Aside0 (w2.heap[g2]? = some (.cells #[.int .u16 a2_0, .int .u32 (Int.tmod a2_1 1000000)] 25 (0, 0))) := ⟨by first | exact blk_below BK2.out hb | exact blk_below (blk_drew BK2.out) hb⟩
    clear HB BK0 BK1 BK2 hb
    have HB := n1_
    have BK0 := q0_
    have BK1 := q1_
    have BK2 := q2_
    clear n1_ q0_ q1_ q2_
    have hz0_0 : w2.cell? ⟨g0, 0, none⟩ = some (.int .u16 a0_0) := (blk_cell BK0.out 0).trans rfl
    have hz0_1 : w2.cell? ⟨g0, 1, none⟩ = some (.int .u32 (Int.tmod a0_1 1000000)) := (blk_cell BK0.out 1).trans rfl
    have hz1_0 : w2.cell? ⟨g1, 0, none⟩ = some (.int .u16 a1_0) := (blk_cell BK1.out 0).trans rfl
    have hz1_1 : w2.cell? ⟨g1, 1, none⟩ = some (.int .u32 (Int.tmod a1_1 1000000)) := (blk_cell BK1.out 1).trans rfl
    have hz2_0 : w2.cell? ⟨g2, 0, none⟩ = some (.int .u16 a2_0) := (blk_cell BK2.out 0).trans rfl
    have hz2_1 : w2.cell? ⟨g2, 1, none⟩ = some (.int .u32 (Int.tmod a2_1 1000000)) := (blk_cell BK2.out 1).trans rfl
    refine hK.out _ _ ⟨hz0_0, hz0_1, hz1_0, hz1_1, hz2_0, hz2_1⟩ (fun hHeld => ?_)
    clear hK K
    refine norm_ (a' := ?_) ?_ ?_
    rotate_left
    ·show Act.put _ (some 41) _ = _
     simp only [Act.put, List.setIfInBounds_toArray, List.set_cons_zero, List.set_cons_succ, i64_w, i32_w]
     rfl
    refine pure_ (i := 7) (N := some 42) (v := ?_) (a' := ?_) #[true, true, true, true, true, true, true, true, false, false, false, false, false, false, false, false, false, false, false, false, false, false, false, false] rfl rfl (by kernel_rfl) (fun _ _ _ h => h) (Or.inl ⟨by rfl, ?_⟩) ?_ ?_
    rotate_left
    ·intro w'
     go_simp
     with_reducible rfl
    rotate_left
    ·simp only [Act.put, List.setIfInBounds_toArray, List.set_cons_zero, List.set_cons_succ, i64_w, i32_w]
     rfl
    refine pure_ (i := 8) (N := some 43) (v := ?_) (a' := ?_) #[true, true, true, true, true, true, true, true, true, false, false, false, false, false, false, false, false, false, false, false, false, false, false, false] rfl rfl (by kernel_rfl) (fun _ _ _ h => h) (Or.inl ⟨by rfl, ?_⟩) ?_ ?_
    rotate_left
    ·intro w'
     go_simp
     with_reducible rfl
    rotate_left
    ·simp only [Act.put, List.setIfInBounds_toArray, List.set_cons_zero, List.set_cons_succ, i64_w, i32_w]
     rfl
    refine pure_ (i := 9) (N := some 44) (v := ?_) (a' := ?_) #[true, true, true, true, true, true, true, true, true, true, false, false, false, false, false, false, false, false, false, false, false, false, false, false] rfl rfl (by kernel_rfl) (fun _ _ _ h => h) (Or.inl ⟨by rfl, ?_⟩) ?_ ?_
    rotate_left
    ·intro w'
     go_simp
     with_reducible rfl
    rotate_left
    ·simp only [Act.put, List.setIfInBounds_toArray, List.set_cons_zero, List.set_cons_succ, i64_w, i32_w]
     rfl
    refine take_ (i := 10) (N := some 45) (v := ?_) (a' := ?_) #[true, true, true, true, true, true, true, true, true, true, true, false, false, false, false, false, false, false, false, false, false, false, false, false] rfl rfl (by kernel_rfl) (fun _ _ _ h => h) (Or.inl ⟨by rfl, ?_⟩) hHeld ?_ ?_
    rotate_left
    ·rintro w' ⟨s0, s1, s2, s3, s4, s5⟩
     go_simp
     with_reducible rfl
    rotate_left
    ·simp only [Act.put, List.setIfInBounds_toArray, List.set_cons_zero, List.set_cons_succ, i64_w, i32_w]
     rfl
    refine take_ (i := 11) (N := some 46) (v := ?_) (a' := ?_) #[true, true, true, true, true, true, true, true, true, true, true, true, false, false, false, false, false, false, false, false, false, false, false, false] rfl rfl (by kernel_rfl) (fun _ _ _ h => h) (Or.inl ⟨by rfl, ?_⟩) hHeld ?_ ?_
    rotate_left
    ·rintro w' ⟨s0, s1, s2, s3, s4, s5⟩
     go_simp
     with_reducible rfl
    rotate_left
    ·simp only [Act.put, List.setIfInBounds_toArray, List.set_cons_zero, List.set_cons_succ, i64_w, i32_w]
     rfl
    refine take_ (i := 18) (N := some 53) (v := ?_) (a' := ?_) #[true, true, true, true, true, true, true, true, true, true, true, true, false, false, false, false, false, false, true, false, false, false, false, false] rfl rfl (by kernel_rfl) (fun _ _ _ h => h) (Or.inl ⟨by rfl, ?_⟩) hHeld ?_ ?_
    rotate_left
    ·rintro w' ⟨s0, s1, s2, s3, s4, s5⟩
     go_simp
     with_reducible rfl
    rotate_left
    ·simp only [Act.put, List.setIfInBounds_toArray, List.set_cons_zero, List.set_cons_succ, i64_w, i32_w]
     rfl
    refine take_ (i := 19) (N := some 54) (v := ?_) (a' := ?_) #[true, true, true, true, true, true, true, true, true, true, true, true, false, false, false, false, false, false, true, true, false, false, false, false] rfl rfl (by kernel_rfl) (fun _ _ _ h => h) (Or.inl ⟨by rfl, ?_⟩) hHeld ?_ ?_
    rotate_left
    ·rintro w' ⟨s0, s1, s2, s3, s4, s5⟩
     go_simp
     with_reducible rfl
    rotate_left
    ·simp only [Act.put, List.setIfInBounds_toArray, List.set_cons_zero, List.set_cons_succ, i64_w, i32_w]
     rfl
    refine pure_ (i := 20) (N := some 55) (v := ?_) (a' := ?_) #[true, true, true, true, true, true, true, true, true, true, true, true, false, false, false, false, false, false, true, true, true, false, false, false] rfl rfl (by kernel_rfl) (fun _ _ _ h => h) (Or.inl ⟨by rfl, ?_⟩) ?_ ?_
    rotate_left
    ·intro w'
     go_simp
     with_reducible rfl
    rotate_left
    ·simp only [Act.put, List.setIfInBounds_toArray, List.set_cons_zero, List.set_cons_succ, i64_w, i32_w]
     rfl
    refine one_ (i := 12) (N := some 47) #[true, true, true, true, true, true, true, true, true, true, true, true, true, false, false, false, false, false, true, true, true, false, false, false] rfl rfl (by kernel_rfl) (by decide) (fun K hK => ?_)
    refine goes_ Tryd.func11 (by kernel_rfl) rfl #[.agg #[.int .u16 a0_0, .int .u32 (Int.tmod a0_1 1000000)], .agg #[.int .u16 a1_0, .int .u32 (Int.tmod a1_1 1000000)]] (by rfl) rfl rfl (by simp only [List.map_toArray, List.map_cons, List.map_nil]; rfl) ?_
    with_reducible refine (stan_Less.calls k a0_0 (Int.tmod a0_1 1000000) a1_0 (Int.tmod a1_1 1000000) false _ HL1.out).mono ?_
    rintro e w2 ⟨rfl, hb⟩
    refine ⟨_, rfl, ?_⟩
    have n1_ : Aside0 (Below w.heap.size w w2) := ⟨by first | exact below_step HB.out hb | exact below_step (below_drew1 HB.out) hb⟩
    have q0_ : Aside0 (w2.heap[g0]? = some (.cells #[.int .u16 a0_0, .int .u32 (Int.tmod a0_1 1000000)] 25 (0, 0))) := ⟨by first | exact blk_below BK0.out hb | exact blk_below (blk_drew BK0.out) hb⟩
    have q1_ : Aside0 (w2.heap[g1]? = some (.cells #[.int .u16 a1_0, .int .u32 (Int.tmod a1_1 1000000)] 25 (0, 0))) := ⟨by first | exact blk_below BK1.out hb | exact blk_below (blk_drew BK1.out) hb⟩
    have q2_ : Aside0 (w2.heap[g2]? = some (.cells #[.int .u16 a2_0, .int .u32 (Int.tmod a2_1 1000000)] 25 (0, 0))) := ⟨by first | exact blk_below BK2.out hb | exact blk_below (blk_drew BK2.out) hb⟩
    clear HB BK0 BK1 BK2 hb
    have HB := n1_
    have BK0 := q0_
    have BK1 := q1_
    have BK2 := q2_
    clear n1_ q0_ q1_ q2_
    have hz0_0 : w2.cell? ⟨g0, 0, none⟩ = some (.int .u16 a0_0) := (blk_cell BK0.out 0).trans rfl
    have hz0_1 : w2.cell? ⟨g0, 1, none⟩ = some (.int .u32 (Int.tmod a0_1 1000000)) := (blk_cell BK0.out 1).trans rfl
    have hz1_0 : w2.cell? ⟨g1, 0, none⟩ = some (.int .u16 a1_0) := (blk_cell BK1.out 0).trans rfl
    have hz1_1 : w2.cell? ⟨g1, 1, none⟩ = some (.int .u32 (Int.tmod a1_1 1000000)) := (blk_cell BK1.out 1).trans rfl
    have hz2_0 : w2.cell? ⟨g2, 0, none⟩ = some (.int .u16 a2_0) := (blk_cell BK2.out 0).trans rfl
    have hz2_1 : w2.cell? ⟨g2, 1, none⟩ = some (.int .u32 (Int.tmod a2_1 1000000)) := (blk_cell BK2.out 1).trans rfl
    refine hK.out _ _ ⟨hz0_0, hz0_1, hz1_0, hz1_1, hz2_0, hz2_1⟩ (fun hHeld => ?_)
    clear hK K
    refine norm_ (a' := ?_) ?_ ?_
    rotate_left
    ·show Act.put _ (some 47) _ = _
     simp only [Act.put, List.setIfInBounds_toArray, List.set_cons_zero, List.set_cons_succ, i64_w, i32_w]
     rfl
    refine pure_ (i := 13) (N := some 48) (v := ?_) (a' := ?_) #[true, true, true, true, true, true, true, true, true, true, true, true, true, true, false, false, false, false, true, true, true, false, false, false] rfl rfl (by kernel_rfl) (fun _ _ _ h => h) (Or.inl ⟨by rfl, ?_⟩) ?_ ?_
    rotate_left
    ·intro w'
     go_simp
     with_reducible rfl
    rotate_left
    ·simp only [Act.put, List.setIfInBounds_toArray, List.set_cons_zero, List.set_cons_succ, i64_w, i32_w]
     rfl
    refine take_ (i := 14) (N := some 49) (v := ?_) (a' := ?_) #[true, true, true, true, true, true, true, true, true, true, true, true, true, true, true, false, false, false, true, true, true, false, false, false] rfl rfl (by kernel_rfl) (fun _ _ _ h => h) (Or.inl ⟨by rfl, ?_⟩) hHeld ?_ ?_
    rotate_left
    ·rintro w' ⟨s0, s1, s2, s3, s4, s5⟩
     go_simp
     with_reducible rfl
    rotate_left
    ·simp only [Act.put, List.setIfInBounds_toArray, List.set_cons_zero, List.set_cons_succ, i64_w, i32_w]
     rfl
    refine take_ (i := 15) (N := some 50) (v := ?_) (a' := ?_) #[true, true, true, true, true, true, true, true, true, true, true, true, true, true, true, true, false, false, true, true, true, false, false, false] rfl rfl (by kernel_rfl) (fun _ _ _ h => h) (Or.inl ⟨by rfl, ?_⟩) hHeld ?_ ?_
    rotate_left
    ·rintro w' ⟨s0, s1, s2, s3, s4, s5⟩
     go_simp
     with_reducible rfl
    rotate_left
    ·simp only [Act.put, List.setIfInBounds_toArray, List.set_cons_zero, List.set_cons_succ, i64_w, i32_w]
     rfl
    refine one_ (i := 16) (N := some 51) #[true, true, true, true, true, true, true, true, true, true, true, true, true, true, true, true, true, false, true, true, true, false, false, false] rfl rfl (by kernel_rfl) (by decide) (fun K hK => ?_)
    refine goes_ Tryd.func11 (by kernel_rfl) rfl #[.agg #[.int .u16 a1_0, .int .u32 (Int.tmod a1_1 1000000)], .agg #[.int .u16 a0_0, .int .u32 (Int.tmod a0_1 1000000)]] (by rfl) rfl rfl (by simp only [List.map_toArray, List.map_cons, List.map_nil]; rfl) ?_
    with_reducible refine (stan_Less.calls k a1_0 (Int.tmod a1_1 1000000) a0_0 (Int.tmod a0_1 1000000) false _ HL4.out).mono ?_
    rintro e w2 ⟨rfl, hb⟩
    refine ⟨_, rfl, ?_⟩
    have n1_ : Aside0 (Below w.heap.size w w2) := ⟨by first | exact below_step HB.out hb | exact below_step (below_drew1 HB.out) hb⟩
    have q0_ : Aside0 (w2.heap[g0]? = some (.cells #[.int .u16 a0_0, .int .u32 (Int.tmod a0_1 1000000)] 25 (0, 0))) := ⟨by first | exact blk_below BK0.out hb | exact blk_below (blk_drew BK0.out) hb⟩
    have q1_ : Aside0 (w2.heap[g1]? = some (.cells #[.int .u16 a1_0, .int .u32 (Int.tmod a1_1 1000000)] 25 (0, 0))) := ⟨by first | exact blk_below BK1.out hb | exact blk_below (blk_drew BK1.out) hb⟩
    have q2_ : Aside0 (w2.heap[g2]? = some (.cells #[.int .u16 a2_0, .int .u32 (Int.tmod a2_1 1000000)] 25 (0, 0))) := ⟨by first | exact blk_below BK2.out hb | exact blk_below (blk_drew BK2.out) hb⟩
    clear HB BK0 BK1 BK2 hb
    have HB := n1_
    have BK0 := q0_
    have BK1 := q1_
    have BK2 := q2_
    clear n1_ q0_ q1_ q2_
    have hz0_0 : w2.cell? ⟨g0, 0, none⟩ = some (.int .u16 a0_0) := (blk_cell BK0.out 0).trans rfl
    have hz0_1 : w2.cell? ⟨g0, 1, none⟩ = some (.int .u32 (Int.tmod a0_1 1000000)) := (blk_cell BK0.out 1).trans rfl
    have hz1_0 : w2.cell? ⟨g1, 0, none⟩ = some (.int .u16 a1_0) := (blk_cell BK1.out 0).trans rfl
    have hz1_1 : w2.cell? ⟨g1, 1, none⟩ = some (.int .u32 (Int.tmod a1_1 1000000)) := (blk_cell BK1.out 1).trans rfl
    have hz2_0 : w2.cell? ⟨g2, 0, none⟩ = some (.int .u16 a2_0) := (blk_cell BK2.out 0).trans rfl
    have hz2_1 : w2.cell? ⟨g2, 1, none⟩ = some (.int .u32 (Int.tmod a2_1 1000000)) := (blk_cell BK2.out 1).trans rfl
    refine hK.out _ _ ⟨hz0_0, hz0_1, hz1_0, hz1_1, hz2_0, hz2_1⟩ (fun hHeld => ?_)
    clear hK K
    refine norm_ (a' := ?_) ?_ ?_
    rotate_left
    ·show Act.put _ (some 51) _ = _
     simp only [Act.put, List.setIfInBounds_toArray, List.set_cons_zero, List.set_cons_succ, i64_w, i32_w]
     rfl
    refine pure_ (i := 17) (N := some 52) (v := ?_) (a' := ?_) #[true, true, true, true, true, true, true, true, true, true, true, true, true, true, true, true, true, true, true, true, true, false, false, false] rfl rfl (by kernel_rfl) (fun _ _ _ h => h) (Or.inl ⟨by rfl, ?_⟩) ?_ ?_
    rotate_left
    ·intro w'
     go_simp
     with_reducible rfl
    rotate_left
    ·simp only [Act.put, List.setIfInBounds_toArray, List.set_cons_zero, List.set_cons_succ, i64_w, i32_w]
     rfl
    refine pure_ (i := 21) (N := some 56) (v := ?_) (a' := ?_) #[true, true, true, true, true, true, true, true, true, true, true, true, true, true, true, true, true, true, true, true, true, true, false, false] rfl rfl (by kernel_rfl) (fun _ _ _ h => h) (Or.inl ⟨by rfl, ?_⟩) ?_ ?_
    rotate_left
    ·intro w'
     go_simp
     with_reducible rfl
    rotate_left
    ·simp only [Act.put, List.setIfInBounds_toArray, List.set_cons_zero, List.set_cons_succ, i64_w, i32_w]
     rfl
    refine pure_ (i := 22) (N := some 57) (v := ?_) (a' := ?_) #[true, true, true, true, true, true, true, true, true, true, true, true, true, true, true, true, true, true, true, true, true, true, true, false] rfl rfl (by kernel_rfl) (fun _ _ _ h => h) (Or.inl ⟨by rfl, ?_⟩) ?_ ?_
    rotate_left
    ·intro w'
     go_simp
     with_reducible rfl
    rotate_left
    ·simp only [Act.put, List.setIfInBounds_toArray, List.set_cons_zero, List.set_cons_succ, i64_w, i32_w]
     rfl
    refine pure_ (i := 23) (N := some 6) (v := ?_) (a' := ?_) #[true, true, true, true, true, true, true, true, true, true, true, true, true, true, true, true, true, true, true, true, true, true, true, true] rfl rfl (by kernel_rfl) (fun _ _ _ h => h) (Or.inl ⟨by rfl, ?_⟩) ?_ ?_
    rotate_left
    ·intro w'
     go_simp
     with_reducible rfl
    rotate_left
    ·simp only [Act.put, List.setIfInBounds_toArray, List.set_cons_zero, List.set_cons_succ, i64_w, i32_w]
     rfl
    refine done_ (by kernel_rfl) ?_
    go_wp2
    go_ret
    exact ⟨rfl, by first | exact HB.out | exact below_drew1 HB.out | exact below_drew1 (below_drew1 HB.out)⟩

end Go.Proofs.YtidjkodejcnolaaDoor.PAll
