-- written by xprint.py out of the translation. Not trusted: Lean checks it.
import Derived.Test.YthajndlkibpncaaDoorPAllx0
import Derived.Test.YthajndlkibpncaaDoorPAllx2
import Derived.Test.YthajndlkibpncaaDoorPAllx5
import Derived.Test.YthajndlkibpncaaDoorPAllx6
import Derived.Test.YthajndlkibpncaaDoorPAllx12
namespace Go.Proofs.YthajndlkibpncaaDoor.PAll
open Go.RowKit Go.Proofs.YthajndlkibpncaaDoorW.PrintWords Go.Proofs.YthajndlkibpncaaDoorW.PrintLast Go.Proofs.YthajndlkibpncaaDoorW.PrintMore
attribute [local go_sem] max2_int min2_int max_two min_two max_three min_three max_four min_four   -- for this text's walks alone
set_option linter.unusedVariables false
set_option linter.unusedSimpArgs false

/-! ### guichetlaw14_TableChecks: function 3 -/
section
theorem eqK34 (d : Nat) (w : World) (x0 y0 x1 y1 x2 y2 x3 y3 : Int) :
  (Op.equalIn (d + 2) 34 (.agg #[.int .i64 x0, .int .u8 x1, .int .i64 x2, .int .i64 x3]) (.agg #[.int .i64 y0, .int .u8 y1, .int .i64 y2, .int .i64 y3])).run Tryd.prog w = .ok (x0 == y0 && (x1 == y1 && (x2 == y2 && (x3 == y3)))) w := by
 refine eqA_of Tryd.underlying34 (by kernel_rfl) ?_
 refine eqf_cons (by rfl) (by go_simp; rfl) (by go_simp; rfl) (by go_simp) ?_
 refine eqf_cons (by rfl) (by go_simp; rfl) (by go_simp; rfl) (by go_simp) ?_
 refine eqf_cons (by rfl) (by go_simp; rfl) (by go_simp; rfl) (by go_simp) ?_
 exact eqf_last (by rfl) (by go_simp; rfl) (by go_simp; rfl) (by go_simp)
end
def GoodT (k : Nat) (x : List S34) (n : Int) : Prop := ∃ a b c d e, table_Find.f k x n = some (a, b, c, d, e) ∧ guichetref12_Find.f k x n = some (a, b, c, d, e)
def GoodC (k : Nat) (x : List S34) (n : Int) : Prop := (∃ r1 r2, table_Check.f k x = some (r1, r2) ∧ guichetref12_Check.f k x = some (r1, r2)) ∧ GoodT k x n ∧ GoodT k x (Go.bits .and .i64 n 15)
/-- THE ONE PURE STATEMENT of the law. -/
def guichetlaw14_TableChecks.Pure : Prop := ∀ (l0 : List (S34)) (l1 : List (S52)) (a2 : Int) (a3 : Int), l0.length ≤ maxLen → (∀ x ∈ l0, (Lit.int .i64 x.f0).wf = true ∧ (Lit.int .u8 x.f1).wf = true ∧ (Lit.int .i64 x.f2).wf = true ∧ (Lit.int .i64 x.f3).wf = true) → l1.length ≤ maxLen → (∀ x ∈ l1, (Lit.int .u8 x.f0).wf = true ∧ (Lit.int .u8 x.f1).wf = true ∧ (Lit.int .u8 x.f2).wf = true ∧ (Lit.int .u8 x.f3).wf = true) → (Lit.int .u8 a2).wf = true → (Lit.int .i64 a3).wf = true → ∃ k, guichetlaw14_known.f k = some true ∧ (l0.length ≤ 40 → l1.length ≤ 40 → ∃ m, guichetseat_Table.f k l1 a2 = some m ∧ GoodC k l0 a3 ∧ GoodC k m a3)
attribute [local go_sem high] eqK34
set_option maxHeartbeats 8000000 in
set_option maxRecDepth 100000 in
theorem guichetlaw14_TableChecks.walk (P : guichetlaw14_TableChecks.Pure) (a0 : Option Addr) (cap0 : Nat) (l0 : List (S34)) (a1 : Option Addr) (cap1 : Nat) (l1 : List (S52)) (a2 : Int) (a3 : Int) (w : World) (hT : TAB w) (hr0 : Kd.C k34 w a0 l0.length l0) (hc0 : l0.length ≤ cap0) (hm0 : l0.length ≤ maxLen) (hw0 : ∀ x ∈ l0, (Lit.int .i64 x.f0).wf = true ∧ (Lit.int .u8 x.f1).wf = true ∧ (Lit.int .i64 x.f2).wf = true ∧ (Lit.int .i64 x.f3).wf = true) (hr1 : Kd.C k52 w a1 l1.length l1) (hc1 : l1.length ≤ cap1) (hm1 : l1.length ≤ maxLen) (hw1 : ∀ x ∈ l1, (Lit.int .u8 x.f0).wf = true ∧ (Lit.int .u8 x.f1).wf = true ∧ (Lit.int .u8 x.f2).wf = true ∧ (Lit.int .u8 x.f3).wf = true) (w2 : (Lit.int .u8 a2).wf = true) (w3 : (Lit.int .i64 a3).wf = true) :
  Calls Tryd.prog 3 #[.slice a0 l0.length cap0, .slice a1 l1.length cap1, .int .u8 a2, .int .i64 a3] w fun e w' => e = .returned (.bool true) ∧ Below w.heap.size w w' := by
 obtain ⟨k, hK, hG⟩ := P l0 l1 a2 a3 hm0 hw0 hm1 hw1 w2 w3
 clear hm0 hw0 hm1 hw1 w2 w3 P
 have hu34 := Tryd.underlying34
 have HT := Aside0.mk hT
 have HR0 := Aside0.mk hr0
 have HC0 := Aside0.mk hc0
 have HR1 := Aside0.mk hr1
 have HC1 := Aside0.mk hc1
 have HK := Aside0.mk hK
 have HB := Aside0.mk (Below.refl w.heap.size w)
 clear hT hr0 hc0 hr1 hc1 hK
 by_cases c1 : 40 < (l0.length : Int)
 ·have c1b : decide (40 < (l0.length : Int)) = true := decide_eq_true c1
  clear hG c1
  go_enter Tryd.func3, Tryd.ntmps3
  go_wp2_with (first | (go_at_call 7; (with_reducible refine (guichetlaw14_known.calls k true _ HT.out HK.out).mono ?_); rintro e w1 ⟨rfl, hb⟩; have n0_ := Aside0.mk (below_step HB.out hb); clear HB hb; have HB := n0_; clear n0_))
  go_ret
  exact ⟨rfl, HB.out⟩
 ·have c1b : decide (40 < (l0.length : Int)) = false := decide_eq_false c1
  by_cases c2 : 40 < (l1.length : Int)
  ·have c2b : decide (40 < (l1.length : Int)) = true := decide_eq_true c2
   clear hG c1 c2
   go_enter Tryd.func3, Tryd.ntmps3
   go_wp2_with (first | (go_at_call 7; (with_reducible refine (guichetlaw14_known.calls k true _ HT.out HK.out).mono ?_); rintro e w1 ⟨rfl, hb⟩; have n0_ := Aside0.mk (below_step HB.out hb); clear HB hb; have HB := n0_; clear n0_))
   go_ret
   exact ⟨rfl, HB.out⟩
  ·have c2b : decide (40 < (l1.length : Int)) = false := decide_eq_false c2
   obtain ⟨m, hTab, hG0, hGm⟩ := hG (by omega) (by omega)
   have HTab := Aside0.mk hTab
   have HGood : Aside0 (∀ x, x = l0 ∨ x = m → GoodC k x a3) := ⟨fun x hx => by rcases hx with rfl | rfl <;> assumption⟩
   clear hG c1 c2 hTab hG0 hGm
   go_enter Tryd.func3, Tryd.ntmps3
   go_wp2_with (first | (go_at_call 7; (with_reducible refine (guichetlaw14_known.calls k true _ HT.out HK.out).mono ?_); rintro e w1 ⟨rfl, hb⟩; have n0_ := Aside0.mk (below_step HB.out hb); clear HB hb; have HB := n0_; clear n0_) | (go_at_call 8; (with_reducible refine (guichetseat_Table.calls k _ _ l1 a2 m _ (Kd.C_below HR1.out HB.out) HC1.out HTab.out).mono ?_); rintro e w3 ⟨v0_, rfl, hr_, hb⟩; have n0_ := Aside0.mk (below_step HB.out hb); have n1_ := Aside0.mk (Kd.R_lower hr_ (below_size HB.out)); clear HB hb hr_; have HB := n0_; have HM := n1_; clear n0_ n1_; obtain ⟨A1, co1, e1_⟩ := Kd.R_slice HM.out; subst e1_))
   have HG := Aside0.mk (heap_alloc_new w3 (.cells #[.slice a0 l0.length cap0, .slice A1 m.length co1] 22 (0, 0)))
   have hb := below_alloc (Below.refl w3.heap.size w3) (.cells #[.slice a0 l0.length cap0, .slice A1 m.length co1] 22 (0, 0))
   have n0_ := Aside0.mk (below_step HB.out hb)
   have n1_ := Aside0.mk (Kd.R_below HM.out hb)
   clear HB HM hb
   have HB := n0_
   have HM := n1_
   clear n0_ n1_
   generalize (w3.alloc (.cells #[.slice a0 l0.length cap0, .slice A1 m.length co1] 22 (0, 0))) = w4 at HG HB HM ⊢
   generalize w3.heap.size = g at HG ⊢
   go_loopg [37] 2 (fun kq v37 w' => ∃ (i : Int), v37 = .int .i64 i ∧ Aside0 (0 ≤ i ∧ i + (kq : Int) = 2) ∧ Aside0 (Below w.heap.size w w') ∧ Aside0 (w'.heap[g]? = some (.cells #[.slice a0 l0.length cap0, .slice A1 m.length co1] 22 (0, 0))) ∧ Aside0 (Kd.R k34 34 w' w.heap.size (fun _ => True) (.slice A1 m.length co1) m))
   case atStart => exact ⟨0, rfl, ⟨by omega⟩, HB, HG, HM⟩
   case round =>
    clear HB HG HM
    obtain ⟨i, rfl, HI, HB, HG, HM⟩ := hrel
    cases gk with
    | zero =>
     have hi : i = 2 := by have := HI.out; omega
     subst hi
     go_wp2
     go_ret
     exact ⟨rfl, HB.out⟩
    | succ kk =>
     have hi0 := eq_true (show 0 ≤ i from HI.out.1)
     have hi1 := eq_true (show i < 2 from by have := HI.out; omega)
     have d0 : decide (i < 2) = true := decide_eq_true (by have := HI.out; omega)
     obtain ⟨A, c, x, hx, hC, hc, hGd⟩ : ∃ (A : Option Addr) (c : Nat) (x : List S34), wr.cell? ⟨g, i.toNat, none⟩ = some (.slice A x.length c) ∧ Kd.C k34 wr A x.length x ∧ x.length ≤ c ∧ GoodC k x a3 := by
      have hi : i = 0 ∨ i = 1 := by have := HI.out; omega
      rcases hi with rfl | rfl
      ·exact ⟨a0, cap0, l0, (blk_cell HG.out 0).trans rfl, Kd.C_below HR0.out HB.out, HC0.out, HGood.out l0 (.inl rfl)⟩
      ·exact ⟨A1, co1, m, (blk_cell HG.out 1).trans rfl, (Kd.R_reads' HM.out).2.2, (Kd.R_reads' HM.out).2.1, HGood.out m (.inr rfl)⟩
     obtain ⟨⟨r1, r2, hP, hQ⟩, hF0, hF1⟩ := hGd
     have HP := Aside0.mk hP
     have HQ := Aside0.mk hQ
     have HX := Aside0.mk hC
     have HXC := Aside0.mk hc
     have HF : Aside0 (∀ n, n = a3 ∨ n = Go.bits .and .i64 a3 15 → GoodT k x n) := ⟨fun n hn => by rcases hn with rfl | rfl <;> assumption⟩
     clear hP hQ hC hc hF0 hF1
     go_wp2_with (first | (go_at_call 9; (with_reducible refine (table_Check.calls k _ _ x r1 r2 _ HX.out HXC.out HP.out).mono ?_); rintro e w5 ⟨rfl, hb⟩; have n0_ := Aside0.mk (below_step HB.out hb); have n1_ := Aside0.mk (Kd.C_below HX.out hb); have n2_ := Aside0.mk (blk_below HG.out hb); have n3_ := Aside0.mk (Kd.R_below HM.out hb); clear HB HX HG HM; have HB := n0_; have HX := n1_; have HG := n2_; have HM := n3_; clear n0_ n1_ n2_ n3_; clear hb) | (go_at_call 10; (with_reducible refine (guichetref12_Check.calls k _ _ x r1 r2 _ HX.out HXC.out HQ.out).mono ?_); rintro e w6 ⟨rfl, hb⟩; have n0_ := Aside0.mk (below_step HB.out hb); have n1_ := Aside0.mk (Kd.C_below HX.out hb); have n2_ := Aside0.mk (blk_below HG.out hb); have n3_ := Aside0.mk (Kd.R_below HM.out hb); clear HB HX HG HM; have HB := n0_; have HX := n1_; have HG := n2_; have HM := n3_; clear n0_ n1_ n2_ n3_; clear hb))
     have H2 := Aside0.mk (heap_alloc_new w6 (.cells #[.int .i64 a3, .int .i64 (Go.bits .and .i64 a3 15)] 3 (0, 0)))
     have hb := below_alloc (Below.refl w6.heap.size w6) (.cells #[.int .i64 a3, .int .i64 (Go.bits .and .i64 a3 15)] 3 (0, 0))
     have n0_ := Aside0.mk (below_step HB.out hb)
     have n1_ := Aside0.mk (Kd.C_below HX.out hb)
     have n2_ := Aside0.mk (blk_below HG.out hb)
     have n3_ := Aside0.mk (Kd.R_below HM.out hb)
     clear HB HX HG HM
     have HB := n0_
     have HX := n1_
     have HG := n2_
     have HM := n3_
     clear n0_ n1_ n2_ n3_
     clear hb hx
     generalize (w6.alloc (.cells #[.int .i64 a3, .int .i64 (Go.bits .and .i64 a3 15)] 3 (0, 0))) = w7 at H2 HB HX HG HM ⊢
     generalize w6.heap.size = g2 at H2 ⊢
     clear hi0 hi1 d0
     go_loopg [64] 2 (fun kq v64 w' => ∃ (j : Int), v64 = .int .i64 j ∧ Aside0 (0 ≤ j ∧ j + (kq : Int) = 2) ∧ Aside0 (Below w.heap.size w w') ∧ Aside0 (Kd.C k34 w' A x.length x) ∧ Aside0 (w'.heap[g]? = some (.cells #[.slice a0 l0.length cap0, .slice A1 m.length co1] 22 (0, 0))) ∧ Aside0 (w'.heap[g2]? = some (.cells #[.int .i64 a3, .int .i64 (Go.bits .and .i64 a3 15)] 3 (0, 0))) ∧ Aside0 (Kd.R k34 34 w' w.heap.size (fun _ => True) (.slice A1 m.length co1) m))
     case atStart => exact ⟨0, rfl, ⟨by omega⟩, HB, HX, HG, H2, HM⟩
     case round =>
      clear HB HX HG H2 HM
      obtain ⟨j, rfl, HJ, HB, HX, HG, H2, HM⟩ := hrel
      cases gk with
      | zero =>
       have hj : j = 2 := by have := HJ.out; omega
       subst hj
       go_wp2
       go_roundg kk
       case measure => omega
       case rel => exact ⟨i + 1, (by first | rfl | (simp; done) | (have := HI.out; rw [show IntKind.i64.wrap (i + 1) = i + 1 from by rw [IntKind.wrap_i64]; omega]) | (have := HI.out; simp; unfold wrap64; omega)), ⟨by have := HI.out; omega⟩, HB, HG, HM⟩
      | succ jj =>
       have hj0 := eq_true (show 0 ≤ j from HJ.out.1)
       have hj1 := eq_true (show j < 2 from by have := HJ.out; omega)
       have d1 : decide (j < 2) = true := decide_eq_true (by have := HJ.out; omega)
       obtain ⟨n, hx, hGn⟩ : ∃ n : Int, wr.cell? ⟨g2, j.toNat, none⟩ = some (.int .i64 n) ∧ GoodT k x n := by
        have hj : j = 0 ∨ j = 1 := by have := HJ.out; omega
        rcases hj with rfl | rfl
        ·exact ⟨a3, (blk_cell H2.out 0).trans rfl, HF.out a3 (.inl rfl)⟩
        ·exact ⟨_, (blk_cell H2.out 1).trans rfl, HF.out _ (.inr rfl)⟩
       obtain ⟨q0, q1, q2, q3, q4, fa, fb⟩ := hGn
       have FA := Aside0.mk fa
       have FB := Aside0.mk fb
       clear fa fb
       go_wp2_with (first | (go_at_call 11; (with_reducible refine (table_Find.calls k _ _ x n q0 q1 q2 q3 q4 _ HX.out HXC.out FA.out).mono ?_); rintro e w5 ⟨rfl, hb⟩; have n0_ := Aside0.mk (below_step HB.out hb); have n1_ := Aside0.mk (Kd.C_below HX.out hb); have n2_ := Aside0.mk (blk_below HG.out hb); have n3_ := Aside0.mk (blk_below H2.out hb); have n4_ := Aside0.mk (Kd.R_below HM.out hb); clear HB HX HG H2 HM; have HB := n0_; have HX := n1_; have HG := n2_; have H2 := n3_; have HM := n4_; clear n0_ n1_ n2_ n3_ n4_; clear hb) | ((with_reducible refine gate_dst (N := 17) rfl ?_); refine box_event ?hg (N := 17) ?hd (cs := #[.int .i64 0, .int .u8 0, .int .i64 0, .int .i64 0]) (t := 34) ?hr ?_; (case hd => rfl); (case hg => rfl); (case hr => first | (go_simp; done) | (go_simp; rfl)); intro g17 hg w6 hbox hb; have HCb := Aside0.mk hb; have BKb := Aside0.mk hbox; have GEb := Aside0.mk (show w5.heap.size ≤ g17 from by rw [hg]; exact Nat.le_refl _); have hz0 : w6.cell? ⟨g17, 0, none⟩ = some (.int .i64 0) := (blk_cell hbox 0).trans rfl; have hz1 : w6.cell? ⟨g17, 1, none⟩ = some (.int .u8 0) := (blk_cell hbox 1).trans rfl; have hz2 : w6.cell? ⟨g17, 2, none⟩ = some (.int .i64 0) := (blk_cell hbox 2).trans rfl; have hz3 : w6.cell? ⟨g17, 3, none⟩ = some (.int .i64 0) := (blk_cell hbox 3).trans rfl; have hf0 := blk_frozen hbox 0; have hf1 := blk_frozen hbox 1; have hf2 := blk_frozen hbox 2; have hf3 := blk_frozen hbox 3; clear hg hbox hb) | ((with_reducible refine gate_store (t := 34) (p := 17) rfl ?_); refine store_event (t := 34) (p := 17) (v := ?vo17) (w1 := ((((w6.setCell ⟨g17, 0, none⟩ (.int .i64 q0)).setCell ⟨g17, 1, none⟩ (.int .u8 q1)).setCell ⟨g17, 2, none⟩ (.int .i64 q2)).setCell ⟨g17, 3, none⟩ (.int .i64 q3))) ?hg ?ho ?hn ?hr ?_; (case ho => rfl); (case hg => rfl); (case hn => rfl); (case hr => first | (go_simp; done) | (go_simp; rfl)); intro w7 hw; have hq : Below w5.heap.size w5 w7 := (by rw [hw]; exact below_set (below_set (below_set (below_set HCb.out GEb.out) GEb.out) GEb.out) GEb.out); have hbk : w7.heap[g17]? = some (.cells #[.int .i64 q0, .int .u8 q1, .int .i64 q2, .int .i64 q3] 34 (0, 0)) := (by rw [hw]; refine blk_put (cs := #[.int .i64 q0, .int .u8 q1, .int .i64 q2, .int .i64 0]) ?_ 3 _ rfl; refine blk_put (cs := #[.int .i64 q0, .int .u8 q1, .int .i64 0, .int .i64 0]) ?_ 2 _ rfl; refine blk_put (cs := #[.int .i64 q0, .int .u8 0, .int .i64 0, .int .i64 0]) ?_ 1 _ rfl; refine blk_put (cs := #[.int .i64 0, .int .u8 0, .int .i64 0, .int .i64 0]) ?_ 0 _ rfl; exact BKb.out); clear hw HCb BKb GEb hz0 hz1 hz2 hz3 hf0 hf1 hf2 hf3; have n0_ := Aside0.mk (below_step HB.out hq); have n1_ := Aside0.mk (Kd.C_below HX.out hq); have n2_ := Aside0.mk (blk_below HG.out hq); have n3_ := Aside0.mk (blk_below H2.out hq); have n4_ := Aside0.mk (Kd.R_below HM.out hq); clear HB HX HG H2 HM; have HB := n0_; have HX := n1_; have HG := n2_; have H2 := n3_; have HM := n4_; clear n0_ n1_ n2_ n3_ n4_; have B17 := Aside0.mk hbk; clear hq hbk) | (go_at_call 12; (with_reducible refine (guichetref12_Find.calls k _ _ x n q0 q1 q2 q3 q4 _ HX.out HXC.out FB.out).mono ?_); rintro e w8 ⟨rfl, hb⟩; have n0_ := Aside0.mk (below_step HB.out hb); have n1_ := Aside0.mk (Kd.C_below HX.out hb); have n2_ := Aside0.mk (blk_below HG.out hb); have n3_ := Aside0.mk (blk_below H2.out hb); have n4_ := Aside0.mk (Kd.R_below HM.out hb); have n5_ := Aside0.mk (blk_below B17.out hb); clear HB HX HG H2 HM B17; have HB := n0_; have HX := n1_; have HG := n2_; have H2 := n3_; have HM := n4_; have B17 := n5_; clear n0_ n1_ n2_ n3_ n4_ n5_; clear hb) | ((with_reducible refine gate_dst (N := 19) rfl ?_); refine box_event ?hg (N := 19) ?hd (cs := #[.int .i64 0, .int .u8 0, .int .i64 0, .int .i64 0]) (t := 34) ?hr ?_; (case hd => rfl); (case hg => rfl); (case hr => first | (go_simp; done) | (go_simp; rfl)); intro g19 hg w9 hbox hb; have HCb := Aside0.mk hb; have BKb := Aside0.mk hbox; have GEb := Aside0.mk (show w8.heap.size ≤ g19 from by rw [hg]; exact Nat.le_refl _); have hz0 : w9.cell? ⟨g19, 0, none⟩ = some (.int .i64 0) := (blk_cell hbox 0).trans rfl; have hz1 : w9.cell? ⟨g19, 1, none⟩ = some (.int .u8 0) := (blk_cell hbox 1).trans rfl; have hz2 : w9.cell? ⟨g19, 2, none⟩ = some (.int .i64 0) := (blk_cell hbox 2).trans rfl; have hz3 : w9.cell? ⟨g19, 3, none⟩ = some (.int .i64 0) := (blk_cell hbox 3).trans rfl; have hf0 := blk_frozen hbox 0; have hf1 := blk_frozen hbox 1; have hf2 := blk_frozen hbox 2; have hf3 := blk_frozen hbox 3; clear hg hbox hb) | ((with_reducible refine gate_store (t := 34) (p := 19) rfl ?_); refine store_event (t := 34) (p := 19) (v := ?vo19) (w1 := ((((w9.setCell ⟨g19, 0, none⟩ (.int .i64 q0)).setCell ⟨g19, 1, none⟩ (.int .u8 q1)).setCell ⟨g19, 2, none⟩ (.int .i64 q2)).setCell ⟨g19, 3, none⟩ (.int .i64 q3))) ?hg ?ho ?hn ?hr ?_; (case ho => rfl); (case hg => rfl); (case hn => rfl); (case hr => first | (go_simp; done) | (go_simp; rfl)); intro wz hw; have hq : Below w8.heap.size w8 wz := (by rw [hw]; exact below_set (below_set (below_set (below_set HCb.out GEb.out) GEb.out) GEb.out) GEb.out); have hbk : wz.heap[g19]? = some (.cells #[.int .i64 q0, .int .u8 q1, .int .i64 q2, .int .i64 q3] 34 (0, 0)) := (by rw [hw]; refine blk_put (cs := #[.int .i64 q0, .int .u8 q1, .int .i64 q2, .int .i64 0]) ?_ 3 _ rfl; refine blk_put (cs := #[.int .i64 q0, .int .u8 q1, .int .i64 0, .int .i64 0]) ?_ 2 _ rfl; refine blk_put (cs := #[.int .i64 q0, .int .u8 0, .int .i64 0, .int .i64 0]) ?_ 1 _ rfl; refine blk_put (cs := #[.int .i64 0, .int .u8 0, .int .i64 0, .int .i64 0]) ?_ 0 _ rfl; exact BKb.out); clear hw HCb BKb GEb hz0 hz1 hz2 hz3 hf0 hf1 hf2 hf3; have n0_ := Aside0.mk (below_step HB.out hq); have n1_ := Aside0.mk (Kd.C_below HX.out hq); have n2_ := Aside0.mk (blk_below HG.out hq); have n3_ := Aside0.mk (blk_below H2.out hq); have n4_ := Aside0.mk (Kd.R_below HM.out hq); have n5_ := Aside0.mk (blk_below B17.out hq); clear HB HX HG H2 HM B17; have HB := n0_; have HX := n1_; have HG := n2_; have H2 := n3_; have HM := n4_; have B17 := n5_; clear n0_ n1_ n2_ n3_ n4_ n5_; have B19 := Aside0.mk hbk; have hu0 : wz.cell? ⟨g17, 0, none⟩ = some (.int .i64 q0) := (blk_cell B17.out 0).trans rfl; have hu1 : wz.cell? ⟨g17, 1, none⟩ = some (.int .u8 q1) := (blk_cell B17.out 1).trans rfl; have hu2 : wz.cell? ⟨g17, 2, none⟩ = some (.int .i64 q2) := (blk_cell B17.out 2).trans rfl; have hu3 : wz.cell? ⟨g17, 3, none⟩ = some (.int .i64 q3) := (blk_cell B17.out 3).trans rfl; have hv0 : wz.cell? ⟨g19, 0, none⟩ = some (.int .i64 q0) := (blk_cell B19.out 0).trans rfl; have hv1 : wz.cell? ⟨g19, 1, none⟩ = some (.int .u8 q1) := (blk_cell B19.out 1).trans rfl; have hv2 : wz.cell? ⟨g19, 2, none⟩ = some (.int .i64 q2) := (blk_cell B19.out 2).trans rfl; have hv3 : wz.cell? ⟨g19, 3, none⟩ = some (.int .i64 q3) := (blk_cell B19.out 3).trans rfl; clear hq hbk))
       go_roundg jj
       case measure => omega
       case rel => exact ⟨j + 1, (by first | rfl | (simp; done) | (have := HJ.out; rw [show IntKind.i64.wrap (j + 1) = j + 1 from by rw [IntKind.wrap_i64]; omega]) | (have := HJ.out; simp; unfold wrap64; omega)), ⟨by have := HJ.out; omega⟩, HB, HX, HG, H2, HM⟩


end Go.Proofs.YthajndlkibpncaaDoor.PAll
