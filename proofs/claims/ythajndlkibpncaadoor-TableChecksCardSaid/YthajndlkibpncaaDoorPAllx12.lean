-- written by xprint.py out of the translation. Not trusted: Lean checks it.
import Derived.Test.YthajndlkibpncaaDoorPAllx0
import Derived.Test.YthajndlkibpncaaDoorPAllx7
namespace Go.Proofs.YthajndlkibpncaaDoor.PAll
open Go.RowKit Go.Proofs.YthajndlkibpncaaDoorW.PrintWords Go.Proofs.YthajndlkibpncaaDoorW.PrintLast Go.Proofs.YthajndlkibpncaaDoorW.PrintMore
attribute [local go_sem] max2_int min2_int max_two min_two max_three min_three max_four min_four   -- for this text's walks alone
set_option linter.unusedVariables false
set_option linter.unusedSimpArgs false

/-! ### guichetref12_Find: function 12 -/
def guichetref12_Find.l0 : Nat → List (S34) → Int → Int → Option (Int × Int × Int × Int × Bool)
 | 0, _, _, _ => none
 | k + 1, x0, x1, x6 => if x6 < (x0.length : Int) then (if 0 ≤ x6 then (if ((rd_T34 x0 x6).f0) = x1 then (some ((rd_T34 x0 x6).f0, (rd_T34 x0 x6).f1, (rd_T34 x0 x6).f2, (rd_T34 x0 x6).f3, true)) else (guichetref12_Find.l0 k x0 x1 (wrap64 (x6 + 1)))) else (none)) else (some (0, 0, 0, 0, false))
def guichetref12_Find.f (k : Nat) (l0 : List (S34)) (a1 : Int) : Option (Int × Int × Int × Int × Bool) := guichetref12_Find.l0 k l0 a1 0
theorem guichetref12_Find.mono_l : ∀ k, (∀ y0 y1 y2, LeO (guichetref12_Find.l0 k y0 y1 y2) (guichetref12_Find.l0 (k + 1) y0 y1 y2))
 | 0 => fun _ _ _ r h => by simp [guichetref12_Find.l0] at h
 | k + 1 => by
  have ih0 := guichetref12_Find.mono_l k
  ·intro y0 y1 y2
   unfold guichetref12_Find.l0
   repeat' first
   | (with_reducible exact ih0 _ _ _)
   | (with_reducible exact LeO.refl _)
   | (with_reducible exact LeO.none _)
   | (with_reducible refine LeO.ite ?_ ?_)
   | (with_reducible refine LeO.bind ?_ (fun _ => ?_))
   | exact ih0 _ _ _
   | exact LeO.none _
   | refine LeO.ite ?_ ?_
   | refine LeO.bind ?_ (fun _ => ?_)
theorem guichetref12_Find.mono : ∀ a0 a1 k, LeO (guichetref12_Find.f k a0 a1) (guichetref12_Find.f (k + 1) a0 a1) := by
 intro a0 a1 k
 have ih0 := guichetref12_Find.mono_l k
 unfold guichetref12_Find.f
 repeat' first
   | (with_reducible exact ih0 _ _ _)
   | (with_reducible exact LeO.refl _)
   | (with_reducible exact LeO.none _)
   | (with_reducible refine LeO.ite ?_ ?_)
   | (with_reducible refine LeO.bind ?_ (fun _ => ?_))
   | exact ih0 _ _ _
   | exact LeO.none _
   | refine LeO.ite ?_ ?_
   | refine LeO.bind ?_ (fun _ => ?_)
set_option maxHeartbeats 8000000 in
set_option maxRecDepth 100000 in
theorem guichetref12_Find.calls (k : Nat) (A0 : Option Addr) (c0 : Nat) (l0 : List (S34)) (a1 : Int) (r1 : Int) (r2 : Int) (r3 : Int) (r4 : Int) (r5 : Bool) (w : World) (hr0 : Kd.C k34 w A0 l0.length l0) (hc0 : l0.length ≤ c0) (h : guichetref12_Find.f k l0 a1 = some (r1, r2, r3, r4, r5)) :
  Calls Tryd.prog 12 #[.slice A0 l0.length c0, .int .i64 a1] w fun e w' => e = .returned (.tuple #[.agg #[.int .i64 r1, .int .u8 r2, .int .i64 r3, .int .i64 r4], .bool r5]) ∧ Below w.heap.size w w' := by
 have hu34 := Tryd.underlying34
 have HR0 := Aside0.mk hr0
 have HC0 := Aside0.mk hc0
 clear hr0 hc0
 have HB := Aside0.mk (Below.refl w.heap.size w)
 have H : (guichetref12_Find.l0 k l0 a1 0) = some (r1, r2, r3, r4, r5) := h
 clear h
 have H' := Aside0.mk H
 clear H
 go_enter Tryd.func12, Tryd.ntmps12
 go_wp2_with (first | ((with_reducible refine gate_dst (N := 4) rfl ?_); refine box_event ?hg (N := 4) ?hd (cs := #[.int .i64 0, .int .u8 0, .int .i64 0, .int .i64 0]) (t := 34) ?hr ?_; (case hd => rfl); (case hg => rfl); (case hr => first | (go_simp; done) | (go_simp; rfl)); intro gb277 hg w3 hbox hb; have n0_ := Aside0.mk (below_step (by repeat (first | (with_reducible first | exact HB.out | apply below_alloc | apply pw_below_drewN | apply below_drew1) | exact HB.out)) hb); have n1_ := Aside0.mk (hbox); have n2_ := Aside0.mk ((by rw [hg]; exact (below_size (by repeat (first | (with_reducible first | exact HB.out | apply below_alloc | apply pw_below_drewN | apply below_drew1) | exact HB.out))) : w.heap.size ≤ gb277)); have n3_ := Aside0.mk ((by rw [hg]; exact (below_size (by repeat (first | (with_reducible first | exact HB.out | apply below_alloc | apply pw_below_drewN | apply below_drew1) | exact HB.out))) : w.heap.size ≤ gb277)); clear HB; have HB := n0_; have BK277 := n1_; have GW277 := n2_; have GE277 := n3_; clear n0_ n1_ n2_ n3_; clear hb hbox hg))
 go_loopg [6] k (fun kq v6 w' => ∃ (x6_1 : Int) (x278000_1 : Int) (x278001_1 : Int) (x278002_1 : Int) (x278003_1 : Int), v6 = .int .i64 x6_1 ∧ Aside0 (guichetref12_Find.l0 kq l0 a1 x6_1 = some (r1, r2, r3, r4, r5)) ∧ Aside0 (kq ≤ k) ∧ Aside0 (w'.heap[gb277]? = some (.cells #[.int .i64 x278000_1, .int .u8 x278001_1, .int .i64 x278002_1, .int .i64 x278003_1] 34 (0, 0))) ∧ Aside0 (Below w.heap.size w w'))
 case atStart => exact ⟨(0), (0), (0), (0), (0), (by first | rfl | (simp; done) | (simp [*]; done)), H', ⟨Nat.le_refl _⟩, ⟨by (with_reducible repeat (first | refine blk_drewN ?_ _ | refine blk_drew ?_ | refine blk_alloc ?_ _)); exact BK277.out⟩, ⟨by repeat (first | (with_reducible first | exact HB.out | apply below_alloc | apply pw_below_drewN | apply below_drew1 | refine below_set ?_ GE277.out) | exact HB.out)⟩⟩
 case round =>
  clear H'
  try clear c1
  try clear p2
  obtain ⟨x6_1, x278000_1, x278001_1, x278002_1, x278003_1, rfl, HA, HK1, BK277, HB⟩ := hrel
  cases gk with
  | zero => exact absurd HA.out (by simp [guichetref12_Find.l0])
  | succ k1 =>
   have H := HA.out
   clear HA
   simp only [guichetref12_Find.l0] at H
   by_cases c4 : x6_1 < (l0.length : Int)
   ·rw [if_pos c4] at H
    have c4b0 : decide (x6_1 < (l0.length : Int)) = true := decide_eq_true c4
    clear c4
    by_cases c5 : 0 ≤ x6_1
    ·rw [if_pos c5] at H
     have c5b0 : decide (0 ≤ x6_1) = true := decide_eq_true c5
     clear c5
     by_cases c6 : ((rd_T34 l0 x6_1).f0) = a1
     ·rw [if_pos c6] at H
      have c6b0 : (((rd_T34 l0 x6_1).f0) == a1) = true := beq_iff_eq.mpr c6
      have c6b1 : (((rd_T34 l0 x6_1).f0) != a1) = false := bne_eq_false_iff_eq.mpr c6
      clear c6
      simp only [Option.some.injEq, Prod.mk.injEq] at H
      obtain ⟨rfl, rfl, rfl, rfl, rfl⟩ := H
      have p278 : 0 ≤ (x6_1 : Int) := of_decide_eq_true (by first | (with_reducible assumption) | assumption)
      have q278 : x6_1 < (l0.length : Int) := of_decide_eq_true (by first | (with_reducible assumption) | assumption)
      obtain ⟨ad278, e278, hx278_0, hx278_1, hx278_2, hx278_3⟩ := at_T34 HR0.out x6_1 p278 q278
      cases e278
      replace hx278_0 := (HB.out.cell (World.block_lt_of_cell? w _ hx278_0)).trans hx278_0
      replace hx278_1 := (HB.out.cell (World.block_lt_of_cell? w _ hx278_1)).trans hx278_1
      replace hx278_2 := (HB.out.cell (World.block_lt_of_cell? w _ hx278_2)).trans hx278_2
      replace hx278_3 := (HB.out.cell (World.block_lt_of_cell? w _ hx278_3)).trans hx278_3
      replace p278 := eq_true p278
      replace q278 := eq_true q278
      have p279 : 0 ≤ (x6_1 : Int) := of_decide_eq_true (by first | (with_reducible assumption) | assumption)
      have q279 : x6_1 < (l0.length : Int) := of_decide_eq_true (by first | (with_reducible assumption) | assumption)
      obtain ⟨ad279, e279, hx279_0, hx279_1, hx279_2, hx279_3⟩ := at_T34 HR0.out x6_1 p279 q279
      obtain rfl : ad278 = ad279 := (by injection e279)
      replace hx279_0 := (HB.out.cell (World.block_lt_of_cell? w _ hx279_0)).trans hx279_0
      replace hx279_1 := (HB.out.cell (World.block_lt_of_cell? w _ hx279_1)).trans hx279_1
      replace hx279_2 := (HB.out.cell (World.block_lt_of_cell? w _ hx279_2)).trans hx279_2
      replace hx279_3 := (HB.out.cell (World.block_lt_of_cell? w _ hx279_3)).trans hx279_3
      replace p279 := eq_true p279
      replace q279 := eq_true q279
      have hcz7_0 : wr.cell? ⟨gb277, 0, none⟩ = some (.int .i64 x278000_1) := (blk_cell BK277.out 0).trans rfl
      have hcz7_1 : wr.cell? ⟨gb277, 1, none⟩ = some (.int .u8 x278001_1) := (blk_cell BK277.out 1).trans rfl
      have hcz7_2 : wr.cell? ⟨gb277, 2, none⟩ = some (.int .i64 x278002_1) := (blk_cell BK277.out 2).trans rfl
      have hcz7_3 : wr.cell? ⟨gb277, 3, none⟩ = some (.int .i64 x278003_1) := (blk_cell BK277.out 3).trans rfl
      have hfz7_0 := blk_frozen BK277.out 0
      have hfz7_1 := blk_frozen BK277.out 1
      have hfz7_2 := blk_frozen BK277.out 2
      have hfz7_3 := blk_frozen BK277.out 3
      go_wp2
      refine bodyPost_ret (results_ct rfl _ _ gb277 34 #[.int .i64 ((rd_T34 l0 x6_1).f0), .int .u8 ((rd_T34 l0 x6_1).f1), .int .i64 ((rd_T34 l0 x6_1).f2), .int .i64 ((rd_T34 l0 x6_1).f3)] (0, 0) _ rfl (by (with_reducible repeat (first | refine blk_drewN ?_ _ | refine blk_drew ?_ | refine blk_alloc ?_ _)); refine blk_put (cs := #[.int .i64 ((rd_T34 l0 x6_1).f0), .int .u8 ((rd_T34 l0 x6_1).f1), .int .i64 ((rd_T34 l0 x6_1).f2), .int .i64 x278003_1]) ?_ 3 _ rfl; (with_reducible repeat (first | refine blk_drewN ?_ _ | refine blk_drew ?_ | refine blk_alloc ?_ _)); refine blk_put (cs := #[.int .i64 ((rd_T34 l0 x6_1).f0), .int .u8 ((rd_T34 l0 x6_1).f1), .int .i64 x278002_1, .int .i64 x278003_1]) ?_ 2 _ rfl; (with_reducible repeat (first | refine blk_drewN ?_ _ | refine blk_drew ?_ | refine blk_alloc ?_ _)); refine blk_put (cs := #[.int .i64 ((rd_T34 l0 x6_1).f0), .int .u8 x278001_1, .int .i64 x278002_1, .int .i64 x278003_1]) ?_ 1 _ rfl; (with_reducible repeat (first | refine blk_drewN ?_ _ | refine blk_drew ?_ | refine blk_alloc ?_ _)); refine blk_put (cs := #[.int .i64 x278000_1, .int .u8 x278001_1, .int .i64 x278002_1, .int .i64 x278003_1]) ?_ 0 _ rfl; (with_reducible repeat (first | refine blk_drewN ?_ _ | refine blk_drew ?_ | refine blk_alloc ?_ _)); exact BK277.out) Tryd.underlying34 rfl (by kernel_rfl)) rfl ?_
      exact ⟨by first | rfl | (simp [errW_none, errW_some] <;> rfl) | (simp [*, errW_none, errW_some] <;> rfl), by repeat (first | (with_reducible first | exact HB.out | apply below_alloc | apply pw_below_drewN | apply below_drew1 | refine below_set ?_ GE277.out) | exact HB.out)⟩
     ·rw [if_neg c6] at H
      have c6b0 : (((rd_T34 l0 x6_1).f0) == a1) = false := beq_eq_false_iff_ne.mpr c6
      have c6b1 : (((rd_T34 l0 x6_1).f0) != a1) = true := bne_iff_ne.mpr c6
      have H' := Aside0.mk H
      clear H
      have p278 : 0 ≤ (x6_1 : Int) := of_decide_eq_true (by first | (with_reducible assumption) | assumption)
      have q278 : x6_1 < (l0.length : Int) := of_decide_eq_true (by first | (with_reducible assumption) | assumption)
      obtain ⟨ad278, e278, hx278_0, hx278_1, hx278_2, hx278_3⟩ := at_T34 HR0.out x6_1 p278 q278
      cases e278
      replace hx278_0 := (HB.out.cell (World.block_lt_of_cell? w _ hx278_0)).trans hx278_0
      replace hx278_1 := (HB.out.cell (World.block_lt_of_cell? w _ hx278_1)).trans hx278_1
      replace hx278_2 := (HB.out.cell (World.block_lt_of_cell? w _ hx278_2)).trans hx278_2
      replace hx278_3 := (HB.out.cell (World.block_lt_of_cell? w _ hx278_3)).trans hx278_3
      replace p278 := eq_true p278
      replace q278 := eq_true q278
      go_wp2
      go_roundg k1
      case measure => have := HK1.out; omega
      case rel => exact ⟨(wrap64 (x6_1 + 1)), (x278000_1), (x278001_1), (x278002_1), (x278003_1), (by first | rfl | (simp; done) | (simp [*]; done)), H', ⟨by have := HK1.out; omega⟩, ⟨by (with_reducible repeat (first | refine blk_drewN ?_ _ | refine blk_drew ?_ | refine blk_alloc ?_ _)); exact BK277.out⟩, ⟨by repeat (first | (with_reducible first | exact HB.out | apply below_alloc | apply pw_below_drewN | apply below_drew1 | refine below_set ?_ GE277.out) | exact HB.out)⟩⟩
    ·rw [if_neg c5] at H
     exact absurd H (by simp)
   ·rw [if_neg c4] at H
    have c4b0 : decide (x6_1 < (l0.length : Int)) = false := decide_eq_false c4
    clear c4
    simp only [Option.some.injEq, Prod.mk.injEq] at H
    obtain ⟨rfl, rfl, rfl, rfl, rfl⟩ := H
    have hcz8_0 : wr.cell? ⟨gb277, 0, none⟩ = some (.int .i64 x278000_1) := (blk_cell BK277.out 0).trans rfl
    have hcz8_1 : wr.cell? ⟨gb277, 1, none⟩ = some (.int .u8 x278001_1) := (blk_cell BK277.out 1).trans rfl
    have hcz8_2 : wr.cell? ⟨gb277, 2, none⟩ = some (.int .i64 x278002_1) := (blk_cell BK277.out 2).trans rfl
    have hcz8_3 : wr.cell? ⟨gb277, 3, none⟩ = some (.int .i64 x278003_1) := (blk_cell BK277.out 3).trans rfl
    have hfz8_0 := blk_frozen BK277.out 0
    have hfz8_1 := blk_frozen BK277.out 1
    have hfz8_2 := blk_frozen BK277.out 2
    have hfz8_3 := blk_frozen BK277.out 3
    go_wp2
    refine bodyPost_ret (results_ct rfl _ _ gb277 34 #[.int .i64 0, .int .u8 0, .int .i64 0, .int .i64 0] (0, 0) _ rfl (by (with_reducible repeat (first | refine blk_drewN ?_ _ | refine blk_drew ?_ | refine blk_alloc ?_ _)); refine blk_put (cs := #[.int .i64 0, .int .u8 0, .int .i64 0, .int .i64 x278003_1]) ?_ 3 _ rfl; (with_reducible repeat (first | refine blk_drewN ?_ _ | refine blk_drew ?_ | refine blk_alloc ?_ _)); refine blk_put (cs := #[.int .i64 0, .int .u8 0, .int .i64 x278002_1, .int .i64 x278003_1]) ?_ 2 _ rfl; (with_reducible repeat (first | refine blk_drewN ?_ _ | refine blk_drew ?_ | refine blk_alloc ?_ _)); refine blk_put (cs := #[.int .i64 0, .int .u8 x278001_1, .int .i64 x278002_1, .int .i64 x278003_1]) ?_ 1 _ rfl; (with_reducible repeat (first | refine blk_drewN ?_ _ | refine blk_drew ?_ | refine blk_alloc ?_ _)); refine blk_put (cs := #[.int .i64 x278000_1, .int .u8 x278001_1, .int .i64 x278002_1, .int .i64 x278003_1]) ?_ 0 _ rfl; (with_reducible repeat (first | refine blk_drewN ?_ _ | refine blk_drew ?_ | refine blk_alloc ?_ _)); exact BK277.out) Tryd.underlying34 rfl (by kernel_rfl)) rfl ?_
    exact ⟨by first | rfl | (simp [errW_none, errW_some] <;> rfl) | (simp [*, errW_none, errW_some] <;> rfl), by repeat (first | (with_reducible first | exact HB.out | apply below_alloc | apply pw_below_drewN | apply below_drew1 | refine below_set ?_ GE277.out) | exact HB.out)⟩

/-! ### guichetref12_two: function 20 -/
def guichetref12_two.f (k : Nat) (a0_0 : Int) (a0_1 : Int) (a0_2 : Int) (a0_3 : Int) : Option (Bool) := (guichetref12_has.f k (⟨#[66, 68, 69]⟩ : ByteArray) a0_1).bind fun t281 => (some t281)
theorem guichetref12_two.mono : ∀ a0 a1 a2 a3 k, LeO (guichetref12_two.f k a0 a1 a2 a3) (guichetref12_two.f (k + 1) a0 a1 a2 a3) := by
 intro a0 a1 a2 a3 k
 unfold guichetref12_two.f
 repeat' first
   | (with_reducible exact guichetref12_has.mono _ _ _)
   | (with_reducible exact LeO.refl _)
   | (with_reducible exact LeO.none _)
   | (with_reducible refine LeO.ite ?_ ?_)
   | (with_reducible refine LeO.bind ?_ (fun _ => ?_))
   | exact guichetref12_has.mono _ _ _
   | exact LeO.none _
   | refine LeO.ite ?_ ?_
   | refine LeO.bind ?_ (fun _ => ?_)
set_option maxHeartbeats 8000000 in
set_option maxRecDepth 100000 in
theorem guichetref12_two.calls (k : Nat) (a0_0 : Int) (a0_1 : Int) (a0_2 : Int) (a0_3 : Int) (r : Bool) (w : World) (h : guichetref12_two.f k a0_0 a0_1 a0_2 a0_3 = some r) :
  Calls Tryd.prog 20 #[.agg #[.int .i64 a0_0, .int .u8 a0_1, .int .i64 a0_2, .int .i64 a0_3]] w fun e w' => e = .returned (.bool r) ∧ Below w.heap.size w w' := by
 have hu34 := Tryd.underlying34
 have HB := Aside0.mk (Below.refl w.heap.size w)
 have H : ((guichetref12_has.f k (⟨#[66, 68, 69]⟩ : ByteArray) a0_1).bind fun t281 => (some t281)) = some r := h
 clear h
 replace H := Option.bind_eq_some_iff.mp H
 obtain ⟨t281, A20, H⟩ := H
 replace H : (some t281) = some r := H
 have A2 := Aside0.mk A20
 clear A20
 obtain rfl := Option.some.inj H
 go_enter Tryd.func20, Tryd.ntmps20
 go_wp2_with (first | ((with_reducible refine gate_dst (N := 1) rfl ?_); refine box_event ?hg (N := 1) ?hd (cs := #[.int .i64 a0_0, .int .u8 a0_1, .int .i64 a0_2, .int .i64 a0_3]) (t := 34) ?hr ?_; (case hd => rfl); (case hg => rfl); (case hr => first | (go_simp; done) | (go_simp; rfl)); intro gb280 hg w3 hbox hb; have n0_ := Aside0.mk (below_step (by repeat (first | (with_reducible first | exact HB.out | apply below_alloc | apply pw_below_drewN | apply below_drew1) | exact HB.out)) hb); have n1_ := Aside0.mk (hbox); have n2_ := Aside0.mk ((by rw [hg]; exact (below_size (by repeat (first | (with_reducible first | exact HB.out | apply below_alloc | apply pw_below_drewN | apply below_drew1) | exact HB.out))) : w.heap.size ≤ gb280)); have n3_ := Aside0.mk ((by rw [hg]; exact (below_size (by repeat (first | (with_reducible first | exact HB.out | apply below_alloc | apply pw_below_drewN | apply below_drew1) | exact HB.out))) : w.heap.size ≤ gb280)); clear HB; have HB := n0_; have BK280 := n1_; have GW280 := n2_; have GE280 := n3_; clear n0_ n1_ n2_ n3_; clear hb hbox hg; have hcz4_0 : w3.cell? ⟨gb280, 0, none⟩ = some (.int .i64 a0_0) := (blk_cell BK280.out 0).trans rfl; have hcz4_1 : w3.cell? ⟨gb280, 1, none⟩ = some (.int .u8 a0_1) := (blk_cell BK280.out 1).trans rfl; have hcz4_2 : w3.cell? ⟨gb280, 2, none⟩ = some (.int .i64 a0_2) := (blk_cell BK280.out 2).trans rfl; have hcz4_3 : w3.cell? ⟨gb280, 3, none⟩ = some (.int .i64 a0_3) := (blk_cell BK280.out 3).trans rfl; have hfz4_0 := blk_frozen BK280.out 0; have hfz4_1 := blk_frozen BK280.out 1; have hfz4_2 := blk_frozen BK280.out 2; have hfz4_3 := blk_frozen BK280.out 3) | ((with_reducible refine gate_callee (f := 31) rfl ?_); refine goesL_ (some 5) rfl rfl Tryd.func31 (by kernel_rfl) rfl #[.string (⟨#[66, 68, 69]⟩ : ByteArray), .int .u8 a0_1] rfl (by (try simp only [List.map_toArray, List.map_cons, List.map_nil]); first | done | rfl | (simp only [List.length_drop, List.length_take]; rfl) | (rw [hsame_])) ?_; (with_reducible refine (guichetref12_has.calls k (⟨#[66, 68, 69]⟩ : ByteArray) a0_1 t281 _ A2.out).mono ?_); rintro e w' ⟨rfl, ⟨nd, rfl⟩⟩; refine ⟨_, rfl, ?_⟩))
 go_ret
 exact ⟨by first | rfl | (simp [errW_none, errW_some] <;> rfl) | (simp [*, errW_none, errW_some] <;> rfl), by repeat (first | (with_reducible first | exact HB.out | apply below_alloc | apply pw_below_drewN | apply below_drew1 | refine below_set ?_ GE280.out) | exact HB.out)⟩

/-! ### guichetref12_Check: function 10 -/
/-! #### a map from integers to bools -/
section
open Go.Maps
def MB := Int → Bool
theorem law3b : Keyed Tryd.prog 3 := int_keyed Tryd.underlying3
theorem zero4 (w : World) : (zeroValue 4).run Tryd.prog w = .ok (.bool false) w := by kernel_rfl
def MB.on (M : MB) (k : Int) : MB := fun k' => if k' = k then true else M k'
theorem plainElem_bool_inv {H : Type} {P : Program} {e : TypeId} (he : P.underlying e = some .bool) {v : Value} {z : DataW H × List MemPlace} (h : plainElem P e v = some z) : ∃ a, v = .bool a ∧ z = (.lit (.bool a), []) := by
 unfold plainElem at h
 rw [he] at h
 cases v <;> simp at h
 subst h
 exact ⟨_, rfl, rfl⟩
/-- Block m of W is a map of at most n entries: M k at each key k. -/
def MapB (W : World) (m n : Nat) (M : MB) : Prop := ∃ D : DataW Unit, W.ownsMap Tryd.prog 3 (plainElem Tryd.prog 4) m n D ∧ Maps.IsMap D ∧ ∀ k, (Lit.int .i64 k).wf = true → D.atKey (.int .i64 k) (.lit (.bool false)) = .lit (.bool (M k))
theorem MapB.kept {W W' : World} {m n : Nat} {M : MB} (h : MapB W m n M) (he : W'.heap[m]? = W.heap[m]?) : MapB W' m n M := by
 obtain ⟨D, ⟨es, c, hb, r⟩, r2⟩ := h
 exact ⟨D, ⟨es, c, he.trans hb, r⟩, r2⟩
theorem MapB.lt {W : World} {m n : Nat} {M : MB} (h : MapB W m n M) : m < W.heap.size := by
 obtain ⟨D, h, _⟩ := h
 exact h.lt
theorem MapB.below {W W' : World} {m n : Nat} {M : MB} (h : MapB W m n M) (hb : Below W.heap.size W W') : MapB W' m n M := h.kept (hb.block m h.lt)
theorem MapB.mono {W : World} {m n n' : Nat} {M : MB} (h : MapB W m n M) (hn : n ≤ n') : MapB W m n' M := by
 obtain ⟨D, h3, h4⟩ := h
 exact ⟨D, h3.mono hn, h4⟩
theorem MapB.look {W : World} {m n : Nat} {M : MB} (h : MapB W m n M) {k : Int} (hk : (Lit.int .i64 k).wf = true) : (Instr.lookup 49 (.map (some m)) (.int .i64 k) false).run Tryd.prog W = .ok (.bool (M k)) W := by
 obtain ⟨D, h, _, hM⟩ := h
 obtain ⟨v, ps, hrun, hv⟩ := h.lookup law3b Tryd.underlying49 (zero4 _) (plainElem_bool Tryd.underlying4 false) (keyOf_int_mk Tryd.underlying3 hk)
 obtain ⟨c, rfl, hc⟩ := plainElem_bool_inv Tryd.underlying4 hv
 have e : D.atKey (.int .i64 k) (.lit (.bool false)) = .lit (.bool c) := congrArg Prod.fst hc
 rw [hM k hk] at e
 have e2 : M k = c := Lit.bool.inj (DataW.lit.inj e)
 rw [hrun, e2]
theorem MapB.upd {W : World} {m n : Nat} {M : MB} (h : MapB W m n M) (hn : n < maxLen) {k : Int} (hk : (Lit.int .i64 k).wf = true) : ∃ w', (Instr.mapUpdate 49 (.map (some m)) (.int .i64 k) (.bool true)).run Tryd.prog W = .ok () w' ∧ MapB w' m (n + 1) (M.on k) ∧ W.grownBy w' (some m) := by
 obtain ⟨D, h, hD, hM⟩ := h
 obtain ⟨w', hrun, h', hg⟩ := h.update law3b Tryd.underlying49 hn (keyOf_int_mk Tryd.underlying3 hk) (plainElem_bool Tryd.underlying4 true)
 refine ⟨w', hrun, ⟨_, h', hD.put _ _, fun k' hk' => ?_⟩, hg⟩
 unfold MB.on
 by_cases he : k' = k
 ·subst he
  rw [if_pos rfl, Maps.atKey_put_same hD (show WideAt.IsKeyLit (.int .i64 k') from trivial)]
 ·rw [if_neg he, Maps.atKey_put_other (by intro e; injection e with _ e; exact he e)]
  exact hM k' hk'
theorem MapB.made (W : World) : MapB (W.alloc (.map #[] 0)) W.heap.size 0 (fun _ => false) := ⟨_, World.ownsMap_made W Tryd.prog 3 _, Maps.isMap_empty, fun _ _ => rfl⟩
end
mutual
def guichetref12_Check.l0 : Nat → List S34 → Int → Option (Int × Int)
 | 0, _, _ => none
 | k + 1, l0, i => if i < (l0.length : Int) then (guichetref12_Check.l1 k l0 i 0) else (guichetref12_Check.l2 k l0 0)
def guichetref12_Check.l1 : Nat → List S34 → Int → Int → Option (Int × Int)
 | 0, _, _, _ => none
 | k + 1, l0, i, j => if j < i then (if 0 ≤ j then (if j < (l0.length : Int) then (if 0 ≤ i then (if i < (l0.length : Int) then (if (rd_T34 l0 j).f0 = (rd_T34 l0 i).f0 then (some (i, 31)) else (guichetref12_Check.l1 k l0 i (wrap64 (j + 1)))) else (none)) else (none)) else (none)) else (none)) else (guichetref12_Check.l0 k l0 (wrap64 (i + 1)))
def guichetref12_Check.l2 : Nat → List S34 → Int → Option (Int × Int)
 | 0, _, _ => none
 | k + 1, l0, i => if i < (l0.length : Int) then (if 0 ≤ i then ((guichetref12_Find.f k l0 ((rd_T34 l0 i).f2)).bind fun a => ((guichetref12_Find.f k l0 ((rd_T34 l0 i).f3)).bind fun b => (if (rd_T34 l0 i).f1 = 90 then ((guichetref12_two.f k ((rd_T34 l0 i).f0) ((rd_T34 l0 i).f1) ((rd_T34 l0 i).f2) ((rd_T34 l0 i).f3)).bind fun t => (if t = true then (if b.2.2.2.2 = true then (guichetref12_Check.l2 k l0 (wrap64 (i + 1))) else (some (i, 32))) else (guichetref12_Check.l2 k l0 (wrap64 (i + 1))))) else (if a.2.2.2.2 = true then ((guichetref12_two.f k ((rd_T34 l0 i).f0) ((rd_T34 l0 i).f1) ((rd_T34 l0 i).f2) ((rd_T34 l0 i).f3)).bind fun t => (if t = true then (if b.2.2.2.2 = true then (guichetref12_Check.l2 k l0 (wrap64 (i + 1))) else (some (i, 32))) else (guichetref12_Check.l2 k l0 (wrap64 (i + 1))))) else (some (i, 32)))))) else (none)) else (guichetref12_Check.l3 k l0 (fun _ => false) 0)
def guichetref12_Check.l3 : Nat → List S34 → MB → Int → Option (Int × Int)
 | 0, _, _, _ => none
 | k + 1, l0, M, again => if again ≤ (l0.length : Int) then (guichetref12_Check.l4 k l0 M again 0) else (guichetref12_Check.l5 k l0 M 0)
def guichetref12_Check.l4 : Nat → List S34 → MB → Int → Int → Option (Int × Int)
 | 0, _, _, _, _ => none
 | k + 1, l0, M, again, i => if i < (l0.length : Int) then (if 0 ≤ i then (if (Lit.int .i64 ((rd_T34 l0 i).f0)).wf = true then (if (rd_T34 l0 i).f1 = 90 then (guichetref12_Check.l4 k l0 (M.on ((rd_T34 l0 i).f0)) again (wrap64 (i + 1))) else (if (Lit.int .i64 ((rd_T34 l0 i).f2)).wf = true then (if M ((rd_T34 l0 i).f2) = true then (guichetref12_Check.l4 k l0 (M.on ((rd_T34 l0 i).f0)) again (wrap64 (i + 1))) else ((guichetref12_two.f k ((rd_T34 l0 i).f0) ((rd_T34 l0 i).f1) ((rd_T34 l0 i).f2) ((rd_T34 l0 i).f3)).bind fun t => (if t = true then (if (Lit.int .i64 ((rd_T34 l0 i).f3)).wf = true then (if M ((rd_T34 l0 i).f3) = true then (guichetref12_Check.l4 k l0 (M.on ((rd_T34 l0 i).f0)) again (wrap64 (i + 1))) else (guichetref12_Check.l4 k l0 M again (wrap64 (i + 1)))) else (none)) else (guichetref12_Check.l4 k l0 M again (wrap64 (i + 1)))))) else (none))) else (none)) else (none)) else (guichetref12_Check.l3 k l0 M (wrap64 (again + 1)))
def guichetref12_Check.l5 : Nat → List S34 → MB → Int → Option (Int × Int)
 | 0, _, _, _ => none
 | k + 1, l0, M, i => if i < (l0.length : Int) then (if 0 ≤ i then (if (Lit.int .i64 ((rd_T34 l0 i).f0)).wf = true then (if M ((rd_T34 l0 i).f0) = true then (guichetref12_Check.l5 k l0 M (wrap64 (i + 1))) else (some (i, 30))) else (none)) else (none)) else (some (0, 0))
end
def guichetref12_Check.f (k : Nat) (l0 : List S34) : Option (Int × Int) := if l0.length ≤ 1000000 then guichetref12_Check.l0 k l0 0 else none
theorem guichetref12_Check.mono_l : ∀ k, (∀ l0 i, LeO (guichetref12_Check.l0 k l0 i) (guichetref12_Check.l0 (k + 1) l0 i)) ∧ (∀ l0 i j, LeO (guichetref12_Check.l1 k l0 i j) (guichetref12_Check.l1 (k + 1) l0 i j)) ∧ (∀ l0 i, LeO (guichetref12_Check.l2 k l0 i) (guichetref12_Check.l2 (k + 1) l0 i)) ∧ (∀ l0 M a, LeO (guichetref12_Check.l3 k l0 M a) (guichetref12_Check.l3 (k + 1) l0 M a)) ∧ (∀ l0 M a i, LeO (guichetref12_Check.l4 k l0 M a i) (guichetref12_Check.l4 (k + 1) l0 M a i)) ∧ (∀ l0 M i, LeO (guichetref12_Check.l5 k l0 M i) (guichetref12_Check.l5 (k + 1) l0 M i)) := by
 intro k
 induction k with
 | zero => exact ⟨fun _ _ => by simp only [guichetref12_Check.l0]; exact LeO.none _, fun _ _ _ => by simp only [guichetref12_Check.l1]; exact LeO.none _, fun _ _ => by simp only [guichetref12_Check.l2]; exact LeO.none _, fun _ _ _ => by simp only [guichetref12_Check.l3]; exact LeO.none _, fun _ _ _ _ => by simp only [guichetref12_Check.l4]; exact LeO.none _, fun _ _ _ => by simp only [guichetref12_Check.l5]; exact LeO.none _⟩
 | succ k ih =>
  obtain ⟨h0, h1, h2, h3, h4, h5⟩ := ih
  refine ⟨fun l0 i => ?_, fun l0 i j => ?_, fun l0 i => ?_, fun l0 M a => ?_, fun l0 M a i => ?_, fun l0 M i => ?_⟩
  ·rw [guichetref12_Check.l0, guichetref12_Check.l0]
   repeat' first
    | (with_reducible exact h0 _ _)
    | (with_reducible exact h1 _ _ _)
    | (with_reducible exact h2 _ _)
    | (with_reducible exact h3 _ _ _)
    | (with_reducible exact h4 _ _ _ _)
    | (with_reducible exact h5 _ _ _)
    | (with_reducible exact guichetref12_Find.mono _ _ _)
    | (with_reducible exact guichetref12_two.mono _ _ _ _ _)
    | (with_reducible exact LeO.refl _)
    | (with_reducible exact LeO.none _)
    | (with_reducible refine LeO.ite ?_ ?_)
    | (with_reducible refine LeO.bind ?_ (fun _ => ?_))
    | exact h3 _ _ _
  ·rw [guichetref12_Check.l1, guichetref12_Check.l1]
   repeat' first
    | (with_reducible exact h0 _ _)
    | (with_reducible exact h1 _ _ _)
    | (with_reducible exact h2 _ _)
    | (with_reducible exact h3 _ _ _)
    | (with_reducible exact h4 _ _ _ _)
    | (with_reducible exact h5 _ _ _)
    | (with_reducible exact guichetref12_Find.mono _ _ _)
    | (with_reducible exact guichetref12_two.mono _ _ _ _ _)
    | (with_reducible exact LeO.refl _)
    | (with_reducible exact LeO.none _)
    | (with_reducible refine LeO.ite ?_ ?_)
    | (with_reducible refine LeO.bind ?_ (fun _ => ?_))
    | exact h3 _ _ _
  ·rw [guichetref12_Check.l2, guichetref12_Check.l2]
   repeat' first
    | (with_reducible exact h0 _ _)
    | (with_reducible exact h1 _ _ _)
    | (with_reducible exact h2 _ _)
    | (with_reducible exact h3 _ _ _)
    | (with_reducible exact h4 _ _ _ _)
    | (with_reducible exact h5 _ _ _)
    | (with_reducible exact guichetref12_Find.mono _ _ _)
    | (with_reducible exact guichetref12_two.mono _ _ _ _ _)
    | (with_reducible exact LeO.refl _)
    | (with_reducible exact LeO.none _)
    | (with_reducible refine LeO.ite ?_ ?_)
    | (with_reducible refine LeO.bind ?_ (fun _ => ?_))
    | exact h3 _ _ _
  ·rw [guichetref12_Check.l3, guichetref12_Check.l3]
   repeat' first
    | (with_reducible exact h0 _ _)
    | (with_reducible exact h1 _ _ _)
    | (with_reducible exact h2 _ _)
    | (with_reducible exact h3 _ _ _)
    | (with_reducible exact h4 _ _ _ _)
    | (with_reducible exact h5 _ _ _)
    | (with_reducible exact guichetref12_Find.mono _ _ _)
    | (with_reducible exact guichetref12_two.mono _ _ _ _ _)
    | (with_reducible exact LeO.refl _)
    | (with_reducible exact LeO.none _)
    | (with_reducible refine LeO.ite ?_ ?_)
    | (with_reducible refine LeO.bind ?_ (fun _ => ?_))
    | exact h3 _ _ _
  ·rw [guichetref12_Check.l4, guichetref12_Check.l4]
   repeat' first
    | (with_reducible exact h0 _ _)
    | (with_reducible exact h1 _ _ _)
    | (with_reducible exact h2 _ _)
    | (with_reducible exact h3 _ _ _)
    | (with_reducible exact h4 _ _ _ _)
    | (with_reducible exact h5 _ _ _)
    | (with_reducible exact guichetref12_Find.mono _ _ _)
    | (with_reducible exact guichetref12_two.mono _ _ _ _ _)
    | (with_reducible exact LeO.refl _)
    | (with_reducible exact LeO.none _)
    | (with_reducible refine LeO.ite ?_ ?_)
    | (with_reducible refine LeO.bind ?_ (fun _ => ?_))
    | exact h3 _ _ _
  ·rw [guichetref12_Check.l5, guichetref12_Check.l5]
   repeat' first
    | (with_reducible exact h0 _ _)
    | (with_reducible exact h1 _ _ _)
    | (with_reducible exact h2 _ _)
    | (with_reducible exact h3 _ _ _)
    | (with_reducible exact h4 _ _ _ _)
    | (with_reducible exact h5 _ _ _)
    | (with_reducible exact guichetref12_Find.mono _ _ _)
    | (with_reducible exact guichetref12_two.mono _ _ _ _ _)
    | (with_reducible exact LeO.refl _)
    | (with_reducible exact LeO.none _)
    | (with_reducible refine LeO.ite ?_ ?_)
    | (with_reducible refine LeO.bind ?_ (fun _ => ?_))
    | exact h3 _ _ _
theorem guichetref12_Check.mono : ∀ l0 k, LeO (guichetref12_Check.f k l0) (guichetref12_Check.f (k + 1) l0) := fun l0 k => by
 unfold guichetref12_Check.f
 refine LeO.ite ?_ (LeO.none _)
 exact (guichetref12_Check.mono_l k).1 _ _
set_option maxHeartbeats 8000000 in
set_option maxRecDepth 100000 in
theorem guichetref12_Check.calls (k : Nat) (A0 : Option Addr) (c0 : Nat) (l0 : List S34) (r1 : Int) (r2 : Int) (w : World) (hr0 : Kd.C k34 w A0 l0.length l0) (hc0 : l0.length ≤ c0) (h : guichetref12_Check.f k l0 = some (r1, r2)) :
  Calls Tryd.prog 10 #[.slice A0 l0.length c0] w fun e w' => e = .returned (.tuple #[.int .i64 r1, .int .i64 r2]) ∧ Below w.heap.size w w' := by
 have hu34 := Tryd.underlying34
 have HR0 := Aside0.mk hr0
 have HC0 := Aside0.mk hc0
 unfold guichetref12_Check.f at h
 split at h
 case isFalse => cases h
 rename_i hlb
 have HLB := Aside0.mk hlb
 clear hlb
 have H' := Aside0.mk (show guichetref12_Check.l0 k l0 0 = some (r1, r2) from h)
 have HLM := Aside0.mk (Kd.C_max hr0)
 clear hr0 hc0 h
 have hmk := fun (W : World) => run_makeMap (P := Tryd.prog) 49 W
 have HB := Aside0.mk (Below.refl w.heap.size w)
 go_enter Tryd.func10, Tryd.ntmps10
 go_wp2
 go_loopg [4] k (fun kq v4 w' => ∃ (i : Int), v4 = .int .i64 i ∧ Aside0 (guichetref12_Check.l0 kq l0 i = some (r1, r2)) ∧ Aside0 (kq ≤ k) ∧ Aside0 (Below w.heap.size w w'))
 case atStart => exact ⟨0, rfl, H', ⟨Nat.le_refl _⟩, HB⟩
 case round =>
  clear H' HB
  obtain ⟨i, rfl, HA, HK, HB⟩ := hrel
  cases gk with
  | zero => exact absurd HA.out (by simp [guichetref12_Check.l0])
  | succ k1 =>
   have H := HA.out
   clear HA
   simp only [guichetref12_Check.l0] at H
   by_cases c1 : i < (l0.length : Int)
   ·rw [if_pos c1] at H
    have c1b : decide (i < (l0.length : Int)) = true := decide_eq_true c1
    have H' := Aside0.mk H
    clear H c1
    go_wp2
    go_loopg [5] k1 (fun kq v5 w' => ∃ (j : Int), v5 = .int .i64 j ∧ Aside0 (guichetref12_Check.l1 kq l0 i j = some (r1, r2)) ∧ Aside0 (kq ≤ k1) ∧ Aside0 (Below w.heap.size w w'))
    case atStart => exact ⟨0, rfl, H', ⟨Nat.le_refl _⟩, HB⟩
    case round =>
     clear H' HB c1b
     obtain ⟨j, rfl, HA, HK2, HB⟩ := hrel
     cases gk with
     | zero => exact absurd HA.out (by simp [guichetref12_Check.l1])
     | succ k2 =>
      have H := HA.out
      clear HA
      simp only [guichetref12_Check.l1] at H
      by_cases d1 : j < i
      ·rw [if_pos d1] at H
       by_cases d2 : 0 ≤ j
       ·rw [if_pos d2] at H
        by_cases d3 : j < (l0.length : Int)
        ·rw [if_pos d3] at H
         by_cases d4 : 0 ≤ i
         ·rw [if_pos d4] at H
          by_cases d5 : i < (l0.length : Int)
          ·rw [if_pos d5] at H
           obtain ⟨adj, e_, hxj0, hxj1, hxj2, hxj3⟩ := at_T34 HR0.out j d2 d3
           cases e_
           replace hxj0 := (HB.out.cell (World.block_lt_of_cell? w _ hxj0)).trans hxj0
           replace hxj1 := (HB.out.cell (World.block_lt_of_cell? w _ hxj1)).trans hxj1
           replace hxj2 := (HB.out.cell (World.block_lt_of_cell? w _ hxj2)).trans hxj2
           replace hxj3 := (HB.out.cell (World.block_lt_of_cell? w _ hxj3)).trans hxj3
           obtain ⟨adi, e_, hxi0, hxi1, hxi2, hxi3⟩ := at_T34 HR0.out i d4 d5
           cases e_
           replace hxi0 := (HB.out.cell (World.block_lt_of_cell? w _ hxi0)).trans hxi0
           replace hxi1 := (HB.out.cell (World.block_lt_of_cell? w _ hxi1)).trans hxi1
           replace hxi2 := (HB.out.cell (World.block_lt_of_cell? w _ hxi2)).trans hxi2
           replace hxi3 := (HB.out.cell (World.block_lt_of_cell? w _ hxi3)).trans hxi3
           have d1b : decide (j < i) = true := decide_eq_true d1
           have d2e := eq_true d2
           have d3e := eq_true d3
           have d4e := eq_true d4
           have d5e := eq_true d5
           clear d1 d2 d3 d4 d5
           by_cases d6 : (rd_T34 l0 j).f0 = (rd_T34 l0 i).f0
           ·rw [if_pos d6] at H
            have d6b : ((rd_T34 l0 j).f0 == (rd_T34 l0 i).f0) = true := beq_iff_eq.mpr d6
            obtain ⟨rfl, rfl⟩ := Prod.mk.inj (Option.some.inj H)
            clear H d6
            go_wp2
            go_region_with (fail)
            all_goals go_wp2
            all_goals refine bodyPost_ret (results_tmp2 rfl _ _ _) rfl ?_
            all_goals exact ⟨rfl, by repeat (first | (with_reducible first | exact HB.out | apply below_alloc | apply pw_below_drewN | apply below_drew1) | exact HB.out)⟩
           ·rw [if_neg d6] at H
            have d6b : ((rd_T34 l0 j).f0 == (rd_T34 l0 i).f0) = false := beq_eq_false_iff_ne.mpr d6
            have H' := Aside0.mk H
            clear H d6
            go_wp2
            go_region_with (fail)
            all_goals go_wp2
            all_goals go_roundg k2
            all_goals first | (have := HK.out; have := HK2.out; omega) | exact ⟨wrap64 (j + 1), (by first | rfl | (simp; done) | (simp [*]; done)), H', ⟨by have := HK2.out; omega⟩, ⟨by repeat (first | (with_reducible first | exact HB.out | apply below_alloc | apply pw_below_drewN | apply below_drew1) | exact HB.out)⟩⟩
          ·rw [if_neg d5] at H; cases H
         ·rw [if_neg d4] at H; cases H
        ·rw [if_neg d3] at H; cases H
       ·rw [if_neg d2] at H; cases H
      ·rw [if_neg d1] at H
       have d1b : decide (j < i) = false := decide_eq_false d1
       have H' := Aside0.mk H
       clear H d1
       go_wp2
       go_roundg k2
       case measure => have := HK.out; have := HK2.out; omega
       case rel => exact ⟨wrap64 (i + 1), (by first | rfl | (simp; done) | (simp [*]; done)), H', ⟨by have := HK2.out; have := HK.out; omega⟩, HB⟩
   ·rw [if_neg c1] at H
    have c1b : decide (i < (l0.length : Int)) = false := decide_eq_false c1
    have H' := Aside0.mk H
    clear H c1
    go_wp2
    go_loopg [6] k1 (fun kq v6 w' => ∃ (i : Int), v6 = .int .i64 i ∧ Aside0 (guichetref12_Check.l2 kq l0 i = some (r1, r2)) ∧ Aside0 (kq ≤ k1) ∧ Aside0 (Below w.heap.size w w'))
    case atStart => exact ⟨0, rfl, H', ⟨Nat.le_refl _⟩, HB⟩
    case round =>
     clear H' HB c1b
     obtain ⟨i, rfl, HA, HK2, HB⟩ := hrel
     cases gk with
     | zero => exact absurd HA.out (by simp [guichetref12_Check.l2])
     | succ k2 =>
      have H := HA.out
      clear HA
      simp only [guichetref12_Check.l2] at H
      by_cases c1 : i < (l0.length : Int)
      ·rw [if_pos c1] at H
       by_cases c2 : 0 ≤ i
       ·rw [if_pos c2] at H
        obtain ⟨⟨a1, a2, a3, a4, a5⟩, A1, H⟩ := Option.bind_eq_some_iff.mp H
        obtain ⟨⟨b1, b2, b3, b4, b5⟩, A2, H⟩ := Option.bind_eq_some_iff.mp H
        have A1 := Aside0.mk A1
        have A2 := Aside0.mk A2
        obtain ⟨ad, e_, hx0, hx1, hx2, hx3⟩ := at_T34 HR0.out i c2 c1
        cases e_
        have HX0 := Aside0.mk hx0
        have HX1 := Aside0.mk hx1
        have HX2 := Aside0.mk hx2
        have HX3 := Aside0.mk hx3
        have hx0 := (HB.out.cell (World.block_lt_of_cell? w _ HX0.out)).trans HX0.out; have hx1 := (HB.out.cell (World.block_lt_of_cell? w _ HX1.out)).trans HX1.out; have hx2 := (HB.out.cell (World.block_lt_of_cell? w _ HX2.out)).trans HX2.out; have hx3 := (HB.out.cell (World.block_lt_of_cell? w _ HX3.out)).trans HX3.out
        have c1b : decide (i < (l0.length : Int)) = true := decide_eq_true c1
        have c1e := eq_true c1
        have c2e := eq_true c2
        clear c1 c2
        dsimp only at H
        by_cases c4 : (rd_T34 l0 i).f1 = 90
        ·rw [if_pos c4] at H
         have c4b0 : ((rd_T34 l0 i).f1 == 90) = true := beq_iff_eq.mpr c4
         have c4b1 : ((rd_T34 l0 i).f1 != 90) = false := by rw [bne, c4b0]; rfl
         clear c4
         obtain ⟨t, A3, H⟩ := Option.bind_eq_some_iff.mp H
         have A3 := Aside0.mk A3
         cases t with
         | false =>
          rw [if_neg (by simp)] at H
          have H' := Aside0.mk H
          clear H
          go_wp2_with (first | ((with_reducible refine gate_dst (N := 7) rfl ?_); refine box_event ?hg (N := 7) ?hd (cs := #[.int .i64 0, .int .u8 0, .int .i64 0, .int .i64 0]) (t := 34) ?hr ?_; (case hd => rfl); (case hg => rfl); (case hr => first | (go_simp; done) | (go_simp; rfl)); intro g7 hg w4 hbox hb; have BK := Aside0.mk hbox; have GE := Aside0.mk (show w.heap.size ≤ g7 from by rw [hg]; exact below_size HB.out); have n0_ := Aside0.mk (below_step HB.out hb); clear HB hb hg; have HB := n0_; clear n0_; have hz0 : w4.cell? ⟨g7, 0, none⟩ = some (.int .i64 0) := (blk_cell hbox 0).trans rfl; have hz1 : w4.cell? ⟨g7, 1, none⟩ = some (.int .u8 0) := (blk_cell hbox 1).trans rfl; have hz2 : w4.cell? ⟨g7, 2, none⟩ = some (.int .i64 0) := (blk_cell hbox 2).trans rfl; have hz3 : w4.cell? ⟨g7, 3, none⟩ = some (.int .i64 0) := (blk_cell hbox 3).trans rfl; have hf0 := blk_frozen hbox 0; have hf1 := blk_frozen hbox 1; have hf2 := blk_frozen hbox 2; have hf3 := blk_frozen hbox 3; clear hbox; clear hx0 hx1 hx2 hx3; have hx0 := (HB.out.cell (World.block_lt_of_cell? w _ HX0.out)).trans HX0.out; have hx1 := (HB.out.cell (World.block_lt_of_cell? w _ HX1.out)).trans HX1.out; have hx2 := (HB.out.cell (World.block_lt_of_cell? w _ HX2.out)).trans HX2.out; have hx3 := (HB.out.cell (World.block_lt_of_cell? w _ HX3.out)).trans HX3.out) | ((with_reducible refine gate_store (t := 34) (p := 7) rfl ?_); refine store_event (t := 34) (p := 7) (v := ?vr_1) (w1 := ((((w4.setCell ⟨g7, 0, none⟩ (.int .i64 a1)).setCell ⟨g7, 1, none⟩ (.int .u8 a2)).setCell ⟨g7, 2, none⟩ (.int .i64 a3)).setCell ⟨g7, 3, none⟩ (.int .i64 a4))) ?hg ?ho ?hn ?hr ?_; (case ho => rfl); (case hg => rfl); (case hn => rfl); (case hr => first | (go_simp; done) | (go_simp; rfl)); intro w5 hw; have n0_ : Aside0 (Below w.heap.size w w5) := ⟨by rw [hw]; exact below_set (below_set (below_set (below_set HB.out GE.out) GE.out) GE.out) GE.out⟩; clear HB hw BK GE hz0 hz1 hz2 hz3 hf0 hf1 hf2 hf3; have HB := n0_; clear n0_; clear hx0 hx1 hx2 hx3; have hx0 := (HB.out.cell (World.block_lt_of_cell? w _ HX0.out)).trans HX0.out; have hx1 := (HB.out.cell (World.block_lt_of_cell? w _ HX1.out)).trans HX1.out; have hx2 := (HB.out.cell (World.block_lt_of_cell? w _ HX2.out)).trans HX2.out; have hx3 := (HB.out.cell (World.block_lt_of_cell? w _ HX3.out)).trans HX3.out) | ((with_reducible refine gate_dst (N := 9) rfl ?_); refine box_event ?hg (N := 9) ?hd (cs := #[.int .i64 0, .int .u8 0, .int .i64 0, .int .i64 0]) (t := 34) ?hr ?_; (case hd => rfl); (case hg => rfl); (case hr => first | (go_simp; done) | (go_simp; rfl)); intro g9 hg w4 hbox hb; have BK := Aside0.mk hbox; have GE := Aside0.mk (show w.heap.size ≤ g9 from by rw [hg]; exact below_size HB.out); have n0_ := Aside0.mk (below_step HB.out hb); clear HB hb hg; have HB := n0_; clear n0_; have hz0 : w4.cell? ⟨g9, 0, none⟩ = some (.int .i64 0) := (blk_cell hbox 0).trans rfl; have hz1 : w4.cell? ⟨g9, 1, none⟩ = some (.int .u8 0) := (blk_cell hbox 1).trans rfl; have hz2 : w4.cell? ⟨g9, 2, none⟩ = some (.int .i64 0) := (blk_cell hbox 2).trans rfl; have hz3 : w4.cell? ⟨g9, 3, none⟩ = some (.int .i64 0) := (blk_cell hbox 3).trans rfl; have hf0 := blk_frozen hbox 0; have hf1 := blk_frozen hbox 1; have hf2 := blk_frozen hbox 2; have hf3 := blk_frozen hbox 3; clear hbox; clear hx0 hx1 hx2 hx3; have hx0 := (HB.out.cell (World.block_lt_of_cell? w _ HX0.out)).trans HX0.out; have hx1 := (HB.out.cell (World.block_lt_of_cell? w _ HX1.out)).trans HX1.out; have hx2 := (HB.out.cell (World.block_lt_of_cell? w _ HX2.out)).trans HX2.out; have hx3 := (HB.out.cell (World.block_lt_of_cell? w _ HX3.out)).trans HX3.out) | ((with_reducible refine gate_store (t := 34) (p := 9) rfl ?_); refine store_event (t := 34) (p := 9) (v := ?vr_2) (w1 := ((((w4.setCell ⟨g9, 0, none⟩ (.int .i64 b1)).setCell ⟨g9, 1, none⟩ (.int .u8 b2)).setCell ⟨g9, 2, none⟩ (.int .i64 b3)).setCell ⟨g9, 3, none⟩ (.int .i64 b4))) ?hg ?ho ?hn ?hr ?_; (case ho => rfl); (case hg => rfl); (case hn => rfl); (case hr => first | (go_simp; done) | (go_simp; rfl)); intro w5 hw; have n0_ : Aside0 (Below w.heap.size w w5) := ⟨by rw [hw]; exact below_set (below_set (below_set (below_set HB.out GE.out) GE.out) GE.out) GE.out⟩; clear HB hw BK GE hz0 hz1 hz2 hz3 hf0 hf1 hf2 hf3; have HB := n0_; clear n0_; clear hx0 hx1 hx2 hx3; have hx0 := (HB.out.cell (World.block_lt_of_cell? w _ HX0.out)).trans HX0.out; have hx1 := (HB.out.cell (World.block_lt_of_cell? w _ HX1.out)).trans HX1.out; have hx2 := (HB.out.cell (World.block_lt_of_cell? w _ HX2.out)).trans HX2.out; have hx3 := (HB.out.cell (World.block_lt_of_cell? w _ HX3.out)).trans HX3.out) | (go_at_call 12; (first | with_reducible refine (guichetref12_Find.calls k2 _ _ l0 _ _ _ _ _ _ _ (Kd.C_below HR0.out HB.out) HC0.out A1.out).mono ?_ | with_reducible refine (guichetref12_Find.calls k2 _ _ l0 _ _ _ _ _ _ _ (Kd.C_below HR0.out HB.out) HC0.out A2.out).mono ?_); rintro e w6 ⟨rfl, hb⟩; have n0_ := Aside0.mk (below_step HB.out hb); clear HB hb; have HB := n0_; clear n0_; clear hx0 hx1 hx2 hx3; have hx0 := (HB.out.cell (World.block_lt_of_cell? w _ HX0.out)).trans HX0.out; have hx1 := (HB.out.cell (World.block_lt_of_cell? w _ HX1.out)).trans HX1.out; have hx2 := (HB.out.cell (World.block_lt_of_cell? w _ HX2.out)).trans HX2.out; have hx3 := (HB.out.cell (World.block_lt_of_cell? w _ HX3.out)).trans HX3.out) | (go_at_call 20; refine (guichetref12_two.calls k2 _ _ _ _ _ _ A3.out).mono ?_; rintro e w7 ⟨rfl, hb⟩; have n0_ := Aside0.mk (below_step HB.out hb); clear HB hb; have HB := n0_; clear n0_; clear hx0 hx1 hx2 hx3; have hx0 := (HB.out.cell (World.block_lt_of_cell? w _ HX0.out)).trans HX0.out; have hx1 := (HB.out.cell (World.block_lt_of_cell? w _ HX1.out)).trans HX1.out; have hx2 := (HB.out.cell (World.block_lt_of_cell? w _ HX2.out)).trans HX2.out; have hx3 := (HB.out.cell (World.block_lt_of_cell? w _ HX3.out)).trans HX3.out))
          go_roundg k2
          case measure => have := HK.out; have := HK2.out; omega
          case rel => exact ⟨wrap64 (i + 1), (by first | rfl | (simp; done) | (simp [*]; done)), H', ⟨by have := HK2.out; omega⟩, HB⟩
         | true =>
          rw [if_pos rfl] at H
          cases b5 with
          | true =>
           rw [if_pos rfl] at H
           have H' := Aside0.mk H
           clear H
           go_wp2_with (first | ((with_reducible refine gate_dst (N := 7) rfl ?_); refine box_event ?hg (N := 7) ?hd (cs := #[.int .i64 0, .int .u8 0, .int .i64 0, .int .i64 0]) (t := 34) ?hr ?_; (case hd => rfl); (case hg => rfl); (case hr => first | (go_simp; done) | (go_simp; rfl)); intro g7 hg w4 hbox hb; have BK := Aside0.mk hbox; have GE := Aside0.mk (show w.heap.size ≤ g7 from by rw [hg]; exact below_size HB.out); have n0_ := Aside0.mk (below_step HB.out hb); clear HB hb hg; have HB := n0_; clear n0_; have hz0 : w4.cell? ⟨g7, 0, none⟩ = some (.int .i64 0) := (blk_cell hbox 0).trans rfl; have hz1 : w4.cell? ⟨g7, 1, none⟩ = some (.int .u8 0) := (blk_cell hbox 1).trans rfl; have hz2 : w4.cell? ⟨g7, 2, none⟩ = some (.int .i64 0) := (blk_cell hbox 2).trans rfl; have hz3 : w4.cell? ⟨g7, 3, none⟩ = some (.int .i64 0) := (blk_cell hbox 3).trans rfl; have hf0 := blk_frozen hbox 0; have hf1 := blk_frozen hbox 1; have hf2 := blk_frozen hbox 2; have hf3 := blk_frozen hbox 3; clear hbox; clear hx0 hx1 hx2 hx3; have hx0 := (HB.out.cell (World.block_lt_of_cell? w _ HX0.out)).trans HX0.out; have hx1 := (HB.out.cell (World.block_lt_of_cell? w _ HX1.out)).trans HX1.out; have hx2 := (HB.out.cell (World.block_lt_of_cell? w _ HX2.out)).trans HX2.out; have hx3 := (HB.out.cell (World.block_lt_of_cell? w _ HX3.out)).trans HX3.out) | ((with_reducible refine gate_store (t := 34) (p := 7) rfl ?_); refine store_event (t := 34) (p := 7) (v := ?vr_3) (w1 := ((((w4.setCell ⟨g7, 0, none⟩ (.int .i64 a1)).setCell ⟨g7, 1, none⟩ (.int .u8 a2)).setCell ⟨g7, 2, none⟩ (.int .i64 a3)).setCell ⟨g7, 3, none⟩ (.int .i64 a4))) ?hg ?ho ?hn ?hr ?_; (case ho => rfl); (case hg => rfl); (case hn => rfl); (case hr => first | (go_simp; done) | (go_simp; rfl)); intro w5 hw; have n0_ : Aside0 (Below w.heap.size w w5) := ⟨by rw [hw]; exact below_set (below_set (below_set (below_set HB.out GE.out) GE.out) GE.out) GE.out⟩; clear HB hw BK GE hz0 hz1 hz2 hz3 hf0 hf1 hf2 hf3; have HB := n0_; clear n0_; clear hx0 hx1 hx2 hx3; have hx0 := (HB.out.cell (World.block_lt_of_cell? w _ HX0.out)).trans HX0.out; have hx1 := (HB.out.cell (World.block_lt_of_cell? w _ HX1.out)).trans HX1.out; have hx2 := (HB.out.cell (World.block_lt_of_cell? w _ HX2.out)).trans HX2.out; have hx3 := (HB.out.cell (World.block_lt_of_cell? w _ HX3.out)).trans HX3.out) | ((with_reducible refine gate_dst (N := 9) rfl ?_); refine box_event ?hg (N := 9) ?hd (cs := #[.int .i64 0, .int .u8 0, .int .i64 0, .int .i64 0]) (t := 34) ?hr ?_; (case hd => rfl); (case hg => rfl); (case hr => first | (go_simp; done) | (go_simp; rfl)); intro g9 hg w4 hbox hb; have BK := Aside0.mk hbox; have GE := Aside0.mk (show w.heap.size ≤ g9 from by rw [hg]; exact below_size HB.out); have n0_ := Aside0.mk (below_step HB.out hb); clear HB hb hg; have HB := n0_; clear n0_; have hz0 : w4.cell? ⟨g9, 0, none⟩ = some (.int .i64 0) := (blk_cell hbox 0).trans rfl; have hz1 : w4.cell? ⟨g9, 1, none⟩ = some (.int .u8 0) := (blk_cell hbox 1).trans rfl; have hz2 : w4.cell? ⟨g9, 2, none⟩ = some (.int .i64 0) := (blk_cell hbox 2).trans rfl; have hz3 : w4.cell? ⟨g9, 3, none⟩ = some (.int .i64 0) := (blk_cell hbox 3).trans rfl; have hf0 := blk_frozen hbox 0; have hf1 := blk_frozen hbox 1; have hf2 := blk_frozen hbox 2; have hf3 := blk_frozen hbox 3; clear hbox; clear hx0 hx1 hx2 hx3; have hx0 := (HB.out.cell (World.block_lt_of_cell? w _ HX0.out)).trans HX0.out; have hx1 := (HB.out.cell (World.block_lt_of_cell? w _ HX1.out)).trans HX1.out; have hx2 := (HB.out.cell (World.block_lt_of_cell? w _ HX2.out)).trans HX2.out; have hx3 := (HB.out.cell (World.block_lt_of_cell? w _ HX3.out)).trans HX3.out) | ((with_reducible refine gate_store (t := 34) (p := 9) rfl ?_); refine store_event (t := 34) (p := 9) (v := ?vr_4) (w1 := ((((w4.setCell ⟨g9, 0, none⟩ (.int .i64 b1)).setCell ⟨g9, 1, none⟩ (.int .u8 b2)).setCell ⟨g9, 2, none⟩ (.int .i64 b3)).setCell ⟨g9, 3, none⟩ (.int .i64 b4))) ?hg ?ho ?hn ?hr ?_; (case ho => rfl); (case hg => rfl); (case hn => rfl); (case hr => first | (go_simp; done) | (go_simp; rfl)); intro w5 hw; have n0_ : Aside0 (Below w.heap.size w w5) := ⟨by rw [hw]; exact below_set (below_set (below_set (below_set HB.out GE.out) GE.out) GE.out) GE.out⟩; clear HB hw BK GE hz0 hz1 hz2 hz3 hf0 hf1 hf2 hf3; have HB := n0_; clear n0_; clear hx0 hx1 hx2 hx3; have hx0 := (HB.out.cell (World.block_lt_of_cell? w _ HX0.out)).trans HX0.out; have hx1 := (HB.out.cell (World.block_lt_of_cell? w _ HX1.out)).trans HX1.out; have hx2 := (HB.out.cell (World.block_lt_of_cell? w _ HX2.out)).trans HX2.out; have hx3 := (HB.out.cell (World.block_lt_of_cell? w _ HX3.out)).trans HX3.out) | (go_at_call 12; (first | with_reducible refine (guichetref12_Find.calls k2 _ _ l0 _ _ _ _ _ _ _ (Kd.C_below HR0.out HB.out) HC0.out A1.out).mono ?_ | with_reducible refine (guichetref12_Find.calls k2 _ _ l0 _ _ _ _ _ _ _ (Kd.C_below HR0.out HB.out) HC0.out A2.out).mono ?_); rintro e w6 ⟨rfl, hb⟩; have n0_ := Aside0.mk (below_step HB.out hb); clear HB hb; have HB := n0_; clear n0_; clear hx0 hx1 hx2 hx3; have hx0 := (HB.out.cell (World.block_lt_of_cell? w _ HX0.out)).trans HX0.out; have hx1 := (HB.out.cell (World.block_lt_of_cell? w _ HX1.out)).trans HX1.out; have hx2 := (HB.out.cell (World.block_lt_of_cell? w _ HX2.out)).trans HX2.out; have hx3 := (HB.out.cell (World.block_lt_of_cell? w _ HX3.out)).trans HX3.out) | (go_at_call 20; refine (guichetref12_two.calls k2 _ _ _ _ _ _ A3.out).mono ?_; rintro e w7 ⟨rfl, hb⟩; have n0_ := Aside0.mk (below_step HB.out hb); clear HB hb; have HB := n0_; clear n0_; clear hx0 hx1 hx2 hx3; have hx0 := (HB.out.cell (World.block_lt_of_cell? w _ HX0.out)).trans HX0.out; have hx1 := (HB.out.cell (World.block_lt_of_cell? w _ HX1.out)).trans HX1.out; have hx2 := (HB.out.cell (World.block_lt_of_cell? w _ HX2.out)).trans HX2.out; have hx3 := (HB.out.cell (World.block_lt_of_cell? w _ HX3.out)).trans HX3.out))
           go_roundg k2
           case measure => have := HK.out; have := HK2.out; omega
           case rel => exact ⟨wrap64 (i + 1), (by first | rfl | (simp; done) | (simp [*]; done)), H', ⟨by have := HK2.out; omega⟩, HB⟩
          | false =>
           rw [if_neg (by simp)] at H
           obtain ⟨rfl, rfl⟩ := Prod.mk.inj (Option.some.inj H)
           clear H
           go_wp2_with (first | ((with_reducible refine gate_dst (N := 7) rfl ?_); refine box_event ?hg (N := 7) ?hd (cs := #[.int .i64 0, .int .u8 0, .int .i64 0, .int .i64 0]) (t := 34) ?hr ?_; (case hd => rfl); (case hg => rfl); (case hr => first | (go_simp; done) | (go_simp; rfl)); intro g7 hg w4 hbox hb; have BK := Aside0.mk hbox; have GE := Aside0.mk (show w.heap.size ≤ g7 from by rw [hg]; exact below_size HB.out); have n0_ := Aside0.mk (below_step HB.out hb); clear HB hb hg; have HB := n0_; clear n0_; have hz0 : w4.cell? ⟨g7, 0, none⟩ = some (.int .i64 0) := (blk_cell hbox 0).trans rfl; have hz1 : w4.cell? ⟨g7, 1, none⟩ = some (.int .u8 0) := (blk_cell hbox 1).trans rfl; have hz2 : w4.cell? ⟨g7, 2, none⟩ = some (.int .i64 0) := (blk_cell hbox 2).trans rfl; have hz3 : w4.cell? ⟨g7, 3, none⟩ = some (.int .i64 0) := (blk_cell hbox 3).trans rfl; have hf0 := blk_frozen hbox 0; have hf1 := blk_frozen hbox 1; have hf2 := blk_frozen hbox 2; have hf3 := blk_frozen hbox 3; clear hbox; clear hx0 hx1 hx2 hx3; have hx0 := (HB.out.cell (World.block_lt_of_cell? w _ HX0.out)).trans HX0.out; have hx1 := (HB.out.cell (World.block_lt_of_cell? w _ HX1.out)).trans HX1.out; have hx2 := (HB.out.cell (World.block_lt_of_cell? w _ HX2.out)).trans HX2.out; have hx3 := (HB.out.cell (World.block_lt_of_cell? w _ HX3.out)).trans HX3.out) | ((with_reducible refine gate_store (t := 34) (p := 7) rfl ?_); refine store_event (t := 34) (p := 7) (v := ?vr_5) (w1 := ((((w4.setCell ⟨g7, 0, none⟩ (.int .i64 a1)).setCell ⟨g7, 1, none⟩ (.int .u8 a2)).setCell ⟨g7, 2, none⟩ (.int .i64 a3)).setCell ⟨g7, 3, none⟩ (.int .i64 a4))) ?hg ?ho ?hn ?hr ?_; (case ho => rfl); (case hg => rfl); (case hn => rfl); (case hr => first | (go_simp; done) | (go_simp; rfl)); intro w5 hw; have n0_ : Aside0 (Below w.heap.size w w5) := ⟨by rw [hw]; exact below_set (below_set (below_set (below_set HB.out GE.out) GE.out) GE.out) GE.out⟩; clear HB hw BK GE hz0 hz1 hz2 hz3 hf0 hf1 hf2 hf3; have HB := n0_; clear n0_; clear hx0 hx1 hx2 hx3; have hx0 := (HB.out.cell (World.block_lt_of_cell? w _ HX0.out)).trans HX0.out; have hx1 := (HB.out.cell (World.block_lt_of_cell? w _ HX1.out)).trans HX1.out; have hx2 := (HB.out.cell (World.block_lt_of_cell? w _ HX2.out)).trans HX2.out; have hx3 := (HB.out.cell (World.block_lt_of_cell? w _ HX3.out)).trans HX3.out) | ((with_reducible refine gate_dst (N := 9) rfl ?_); refine box_event ?hg (N := 9) ?hd (cs := #[.int .i64 0, .int .u8 0, .int .i64 0, .int .i64 0]) (t := 34) ?hr ?_; (case hd => rfl); (case hg => rfl); (case hr => first | (go_simp; done) | (go_simp; rfl)); intro g9 hg w4 hbox hb; have BK := Aside0.mk hbox; have GE := Aside0.mk (show w.heap.size ≤ g9 from by rw [hg]; exact below_size HB.out); have n0_ := Aside0.mk (below_step HB.out hb); clear HB hb hg; have HB := n0_; clear n0_; have hz0 : w4.cell? ⟨g9, 0, none⟩ = some (.int .i64 0) := (blk_cell hbox 0).trans rfl; have hz1 : w4.cell? ⟨g9, 1, none⟩ = some (.int .u8 0) := (blk_cell hbox 1).trans rfl; have hz2 : w4.cell? ⟨g9, 2, none⟩ = some (.int .i64 0) := (blk_cell hbox 2).trans rfl; have hz3 : w4.cell? ⟨g9, 3, none⟩ = some (.int .i64 0) := (blk_cell hbox 3).trans rfl; have hf0 := blk_frozen hbox 0; have hf1 := blk_frozen hbox 1; have hf2 := blk_frozen hbox 2; have hf3 := blk_frozen hbox 3; clear hbox; clear hx0 hx1 hx2 hx3; have hx0 := (HB.out.cell (World.block_lt_of_cell? w _ HX0.out)).trans HX0.out; have hx1 := (HB.out.cell (World.block_lt_of_cell? w _ HX1.out)).trans HX1.out; have hx2 := (HB.out.cell (World.block_lt_of_cell? w _ HX2.out)).trans HX2.out; have hx3 := (HB.out.cell (World.block_lt_of_cell? w _ HX3.out)).trans HX3.out) | ((with_reducible refine gate_store (t := 34) (p := 9) rfl ?_); refine store_event (t := 34) (p := 9) (v := ?vr_6) (w1 := ((((w4.setCell ⟨g9, 0, none⟩ (.int .i64 b1)).setCell ⟨g9, 1, none⟩ (.int .u8 b2)).setCell ⟨g9, 2, none⟩ (.int .i64 b3)).setCell ⟨g9, 3, none⟩ (.int .i64 b4))) ?hg ?ho ?hn ?hr ?_; (case ho => rfl); (case hg => rfl); (case hn => rfl); (case hr => first | (go_simp; done) | (go_simp; rfl)); intro w5 hw; have n0_ : Aside0 (Below w.heap.size w w5) := ⟨by rw [hw]; exact below_set (below_set (below_set (below_set HB.out GE.out) GE.out) GE.out) GE.out⟩; clear HB hw BK GE hz0 hz1 hz2 hz3 hf0 hf1 hf2 hf3; have HB := n0_; clear n0_; clear hx0 hx1 hx2 hx3; have hx0 := (HB.out.cell (World.block_lt_of_cell? w _ HX0.out)).trans HX0.out; have hx1 := (HB.out.cell (World.block_lt_of_cell? w _ HX1.out)).trans HX1.out; have hx2 := (HB.out.cell (World.block_lt_of_cell? w _ HX2.out)).trans HX2.out; have hx3 := (HB.out.cell (World.block_lt_of_cell? w _ HX3.out)).trans HX3.out) | (go_at_call 12; (first | with_reducible refine (guichetref12_Find.calls k2 _ _ l0 _ _ _ _ _ _ _ (Kd.C_below HR0.out HB.out) HC0.out A1.out).mono ?_ | with_reducible refine (guichetref12_Find.calls k2 _ _ l0 _ _ _ _ _ _ _ (Kd.C_below HR0.out HB.out) HC0.out A2.out).mono ?_); rintro e w6 ⟨rfl, hb⟩; have n0_ := Aside0.mk (below_step HB.out hb); clear HB hb; have HB := n0_; clear n0_; clear hx0 hx1 hx2 hx3; have hx0 := (HB.out.cell (World.block_lt_of_cell? w _ HX0.out)).trans HX0.out; have hx1 := (HB.out.cell (World.block_lt_of_cell? w _ HX1.out)).trans HX1.out; have hx2 := (HB.out.cell (World.block_lt_of_cell? w _ HX2.out)).trans HX2.out; have hx3 := (HB.out.cell (World.block_lt_of_cell? w _ HX3.out)).trans HX3.out) | (go_at_call 20; refine (guichetref12_two.calls k2 _ _ _ _ _ _ A3.out).mono ?_; rintro e w7 ⟨rfl, hb⟩; have n0_ := Aside0.mk (below_step HB.out hb); clear HB hb; have HB := n0_; clear n0_; clear hx0 hx1 hx2 hx3; have hx0 := (HB.out.cell (World.block_lt_of_cell? w _ HX0.out)).trans HX0.out; have hx1 := (HB.out.cell (World.block_lt_of_cell? w _ HX1.out)).trans HX1.out; have hx2 := (HB.out.cell (World.block_lt_of_cell? w _ HX2.out)).trans HX2.out; have hx3 := (HB.out.cell (World.block_lt_of_cell? w _ HX3.out)).trans HX3.out))
           refine bodyPost_ret (results_tmp2 rfl _ _ _) rfl ?_
           exact ⟨rfl, HB.out⟩
        ·rw [if_neg c4] at H
         have c4b0 : ((rd_T34 l0 i).f1 == 90) = false := beq_eq_false_iff_ne.mpr c4
         have c4b1 : ((rd_T34 l0 i).f1 != 90) = true := by rw [bne, c4b0]; rfl
         clear c4
         cases a5 with
         | false =>
          rw [if_neg (by simp)] at H
          obtain ⟨rfl, rfl⟩ := Prod.mk.inj (Option.some.inj H)
          clear H
          go_wp2_with (first | ((with_reducible refine gate_dst (N := 7) rfl ?_); refine box_event ?hg (N := 7) ?hd (cs := #[.int .i64 0, .int .u8 0, .int .i64 0, .int .i64 0]) (t := 34) ?hr ?_; (case hd => rfl); (case hg => rfl); (case hr => first | (go_simp; done) | (go_simp; rfl)); intro g7 hg w4 hbox hb; have BK := Aside0.mk hbox; have GE := Aside0.mk (show w.heap.size ≤ g7 from by rw [hg]; exact below_size HB.out); have n0_ := Aside0.mk (below_step HB.out hb); clear HB hb hg; have HB := n0_; clear n0_; have hz0 : w4.cell? ⟨g7, 0, none⟩ = some (.int .i64 0) := (blk_cell hbox 0).trans rfl; have hz1 : w4.cell? ⟨g7, 1, none⟩ = some (.int .u8 0) := (blk_cell hbox 1).trans rfl; have hz2 : w4.cell? ⟨g7, 2, none⟩ = some (.int .i64 0) := (blk_cell hbox 2).trans rfl; have hz3 : w4.cell? ⟨g7, 3, none⟩ = some (.int .i64 0) := (blk_cell hbox 3).trans rfl; have hf0 := blk_frozen hbox 0; have hf1 := blk_frozen hbox 1; have hf2 := blk_frozen hbox 2; have hf3 := blk_frozen hbox 3; clear hbox; clear hx0 hx1 hx2 hx3; have hx0 := (HB.out.cell (World.block_lt_of_cell? w _ HX0.out)).trans HX0.out; have hx1 := (HB.out.cell (World.block_lt_of_cell? w _ HX1.out)).trans HX1.out; have hx2 := (HB.out.cell (World.block_lt_of_cell? w _ HX2.out)).trans HX2.out; have hx3 := (HB.out.cell (World.block_lt_of_cell? w _ HX3.out)).trans HX3.out) | ((with_reducible refine gate_store (t := 34) (p := 7) rfl ?_); refine store_event (t := 34) (p := 7) (v := ?vr_7) (w1 := ((((w4.setCell ⟨g7, 0, none⟩ (.int .i64 a1)).setCell ⟨g7, 1, none⟩ (.int .u8 a2)).setCell ⟨g7, 2, none⟩ (.int .i64 a3)).setCell ⟨g7, 3, none⟩ (.int .i64 a4))) ?hg ?ho ?hn ?hr ?_; (case ho => rfl); (case hg => rfl); (case hn => rfl); (case hr => first | (go_simp; done) | (go_simp; rfl)); intro w5 hw; have n0_ : Aside0 (Below w.heap.size w w5) := ⟨by rw [hw]; exact below_set (below_set (below_set (below_set HB.out GE.out) GE.out) GE.out) GE.out⟩; clear HB hw BK GE hz0 hz1 hz2 hz3 hf0 hf1 hf2 hf3; have HB := n0_; clear n0_; clear hx0 hx1 hx2 hx3; have hx0 := (HB.out.cell (World.block_lt_of_cell? w _ HX0.out)).trans HX0.out; have hx1 := (HB.out.cell (World.block_lt_of_cell? w _ HX1.out)).trans HX1.out; have hx2 := (HB.out.cell (World.block_lt_of_cell? w _ HX2.out)).trans HX2.out; have hx3 := (HB.out.cell (World.block_lt_of_cell? w _ HX3.out)).trans HX3.out) | ((with_reducible refine gate_dst (N := 9) rfl ?_); refine box_event ?hg (N := 9) ?hd (cs := #[.int .i64 0, .int .u8 0, .int .i64 0, .int .i64 0]) (t := 34) ?hr ?_; (case hd => rfl); (case hg => rfl); (case hr => first | (go_simp; done) | (go_simp; rfl)); intro g9 hg w4 hbox hb; have BK := Aside0.mk hbox; have GE := Aside0.mk (show w.heap.size ≤ g9 from by rw [hg]; exact below_size HB.out); have n0_ := Aside0.mk (below_step HB.out hb); clear HB hb hg; have HB := n0_; clear n0_; have hz0 : w4.cell? ⟨g9, 0, none⟩ = some (.int .i64 0) := (blk_cell hbox 0).trans rfl; have hz1 : w4.cell? ⟨g9, 1, none⟩ = some (.int .u8 0) := (blk_cell hbox 1).trans rfl; have hz2 : w4.cell? ⟨g9, 2, none⟩ = some (.int .i64 0) := (blk_cell hbox 2).trans rfl; have hz3 : w4.cell? ⟨g9, 3, none⟩ = some (.int .i64 0) := (blk_cell hbox 3).trans rfl; have hf0 := blk_frozen hbox 0; have hf1 := blk_frozen hbox 1; have hf2 := blk_frozen hbox 2; have hf3 := blk_frozen hbox 3; clear hbox; clear hx0 hx1 hx2 hx3; have hx0 := (HB.out.cell (World.block_lt_of_cell? w _ HX0.out)).trans HX0.out; have hx1 := (HB.out.cell (World.block_lt_of_cell? w _ HX1.out)).trans HX1.out; have hx2 := (HB.out.cell (World.block_lt_of_cell? w _ HX2.out)).trans HX2.out; have hx3 := (HB.out.cell (World.block_lt_of_cell? w _ HX3.out)).trans HX3.out) | ((with_reducible refine gate_store (t := 34) (p := 9) rfl ?_); refine store_event (t := 34) (p := 9) (v := ?vr_8) (w1 := ((((w4.setCell ⟨g9, 0, none⟩ (.int .i64 b1)).setCell ⟨g9, 1, none⟩ (.int .u8 b2)).setCell ⟨g9, 2, none⟩ (.int .i64 b3)).setCell ⟨g9, 3, none⟩ (.int .i64 b4))) ?hg ?ho ?hn ?hr ?_; (case ho => rfl); (case hg => rfl); (case hn => rfl); (case hr => first | (go_simp; done) | (go_simp; rfl)); intro w5 hw; have n0_ : Aside0 (Below w.heap.size w w5) := ⟨by rw [hw]; exact below_set (below_set (below_set (below_set HB.out GE.out) GE.out) GE.out) GE.out⟩; clear HB hw BK GE hz0 hz1 hz2 hz3 hf0 hf1 hf2 hf3; have HB := n0_; clear n0_; clear hx0 hx1 hx2 hx3; have hx0 := (HB.out.cell (World.block_lt_of_cell? w _ HX0.out)).trans HX0.out; have hx1 := (HB.out.cell (World.block_lt_of_cell? w _ HX1.out)).trans HX1.out; have hx2 := (HB.out.cell (World.block_lt_of_cell? w _ HX2.out)).trans HX2.out; have hx3 := (HB.out.cell (World.block_lt_of_cell? w _ HX3.out)).trans HX3.out) | (go_at_call 12; (first | with_reducible refine (guichetref12_Find.calls k2 _ _ l0 _ _ _ _ _ _ _ (Kd.C_below HR0.out HB.out) HC0.out A1.out).mono ?_ | with_reducible refine (guichetref12_Find.calls k2 _ _ l0 _ _ _ _ _ _ _ (Kd.C_below HR0.out HB.out) HC0.out A2.out).mono ?_); rintro e w6 ⟨rfl, hb⟩; have n0_ := Aside0.mk (below_step HB.out hb); clear HB hb; have HB := n0_; clear n0_; clear hx0 hx1 hx2 hx3; have hx0 := (HB.out.cell (World.block_lt_of_cell? w _ HX0.out)).trans HX0.out; have hx1 := (HB.out.cell (World.block_lt_of_cell? w _ HX1.out)).trans HX1.out; have hx2 := (HB.out.cell (World.block_lt_of_cell? w _ HX2.out)).trans HX2.out; have hx3 := (HB.out.cell (World.block_lt_of_cell? w _ HX3.out)).trans HX3.out) | (go_at_call 20; refine (guichetref12_two.calls k2 _ _ _ _ _ _ A3.out).mono ?_; rintro e w7 ⟨rfl, hb⟩; have n0_ := Aside0.mk (below_step HB.out hb); clear HB hb; have HB := n0_; clear n0_; clear hx0 hx1 hx2 hx3; have hx0 := (HB.out.cell (World.block_lt_of_cell? w _ HX0.out)).trans HX0.out; have hx1 := (HB.out.cell (World.block_lt_of_cell? w _ HX1.out)).trans HX1.out; have hx2 := (HB.out.cell (World.block_lt_of_cell? w _ HX2.out)).trans HX2.out; have hx3 := (HB.out.cell (World.block_lt_of_cell? w _ HX3.out)).trans HX3.out))
          refine bodyPost_ret (results_tmp2 rfl _ _ _) rfl ?_
          exact ⟨rfl, HB.out⟩
         | true =>
          rw [if_pos rfl] at H
          obtain ⟨t, A3, H⟩ := Option.bind_eq_some_iff.mp H
          have A3 := Aside0.mk A3
          cases t with
          | false =>
           rw [if_neg (by simp)] at H
           have H' := Aside0.mk H
           clear H
           go_wp2_with (first | ((with_reducible refine gate_dst (N := 7) rfl ?_); refine box_event ?hg (N := 7) ?hd (cs := #[.int .i64 0, .int .u8 0, .int .i64 0, .int .i64 0]) (t := 34) ?hr ?_; (case hd => rfl); (case hg => rfl); (case hr => first | (go_simp; done) | (go_simp; rfl)); intro g7 hg w4 hbox hb; have BK := Aside0.mk hbox; have GE := Aside0.mk (show w.heap.size ≤ g7 from by rw [hg]; exact below_size HB.out); have n0_ := Aside0.mk (below_step HB.out hb); clear HB hb hg; have HB := n0_; clear n0_; have hz0 : w4.cell? ⟨g7, 0, none⟩ = some (.int .i64 0) := (blk_cell hbox 0).trans rfl; have hz1 : w4.cell? ⟨g7, 1, none⟩ = some (.int .u8 0) := (blk_cell hbox 1).trans rfl; have hz2 : w4.cell? ⟨g7, 2, none⟩ = some (.int .i64 0) := (blk_cell hbox 2).trans rfl; have hz3 : w4.cell? ⟨g7, 3, none⟩ = some (.int .i64 0) := (blk_cell hbox 3).trans rfl; have hf0 := blk_frozen hbox 0; have hf1 := blk_frozen hbox 1; have hf2 := blk_frozen hbox 2; have hf3 := blk_frozen hbox 3; clear hbox; clear hx0 hx1 hx2 hx3; have hx0 := (HB.out.cell (World.block_lt_of_cell? w _ HX0.out)).trans HX0.out; have hx1 := (HB.out.cell (World.block_lt_of_cell? w _ HX1.out)).trans HX1.out; have hx2 := (HB.out.cell (World.block_lt_of_cell? w _ HX2.out)).trans HX2.out; have hx3 := (HB.out.cell (World.block_lt_of_cell? w _ HX3.out)).trans HX3.out) | ((with_reducible refine gate_store (t := 34) (p := 7) rfl ?_); refine store_event (t := 34) (p := 7) (v := ?vr_9) (w1 := ((((w4.setCell ⟨g7, 0, none⟩ (.int .i64 a1)).setCell ⟨g7, 1, none⟩ (.int .u8 a2)).setCell ⟨g7, 2, none⟩ (.int .i64 a3)).setCell ⟨g7, 3, none⟩ (.int .i64 a4))) ?hg ?ho ?hn ?hr ?_; (case ho => rfl); (case hg => rfl); (case hn => rfl); (case hr => first | (go_simp; done) | (go_simp; rfl)); intro w5 hw; have n0_ : Aside0 (Below w.heap.size w w5) := ⟨by rw [hw]; exact below_set (below_set (below_set (below_set HB.out GE.out) GE.out) GE.out) GE.out⟩; clear HB hw BK GE hz0 hz1 hz2 hz3 hf0 hf1 hf2 hf3; have HB := n0_; clear n0_; clear hx0 hx1 hx2 hx3; have hx0 := (HB.out.cell (World.block_lt_of_cell? w _ HX0.out)).trans HX0.out; have hx1 := (HB.out.cell (World.block_lt_of_cell? w _ HX1.out)).trans HX1.out; have hx2 := (HB.out.cell (World.block_lt_of_cell? w _ HX2.out)).trans HX2.out; have hx3 := (HB.out.cell (World.block_lt_of_cell? w _ HX3.out)).trans HX3.out) | ((with_reducible refine gate_dst (N := 9) rfl ?_); refine box_event ?hg (N := 9) ?hd (cs := #[.int .i64 0, .int .u8 0, .int .i64 0, .int .i64 0]) (t := 34) ?hr ?_; (case hd => rfl); (case hg => rfl); (case hr => first | (go_simp; done) | (go_simp; rfl)); intro g9 hg w4 hbox hb; have BK := Aside0.mk hbox; have GE := Aside0.mk (show w.heap.size ≤ g9 from by rw [hg]; exact below_size HB.out); have n0_ := Aside0.mk (below_step HB.out hb); clear HB hb hg; have HB := n0_; clear n0_; have hz0 : w4.cell? ⟨g9, 0, none⟩ = some (.int .i64 0) := (blk_cell hbox 0).trans rfl; have hz1 : w4.cell? ⟨g9, 1, none⟩ = some (.int .u8 0) := (blk_cell hbox 1).trans rfl; have hz2 : w4.cell? ⟨g9, 2, none⟩ = some (.int .i64 0) := (blk_cell hbox 2).trans rfl; have hz3 : w4.cell? ⟨g9, 3, none⟩ = some (.int .i64 0) := (blk_cell hbox 3).trans rfl; have hf0 := blk_frozen hbox 0; have hf1 := blk_frozen hbox 1; have hf2 := blk_frozen hbox 2; have hf3 := blk_frozen hbox 3; clear hbox; clear hx0 hx1 hx2 hx3; have hx0 := (HB.out.cell (World.block_lt_of_cell? w _ HX0.out)).trans HX0.out; have hx1 := (HB.out.cell (World.block_lt_of_cell? w _ HX1.out)).trans HX1.out; have hx2 := (HB.out.cell (World.block_lt_of_cell? w _ HX2.out)).trans HX2.out; have hx3 := (HB.out.cell (World.block_lt_of_cell? w _ HX3.out)).trans HX3.out) | ((with_reducible refine gate_store (t := 34) (p := 9) rfl ?_); refine store_event (t := 34) (p := 9) (v := ?vr_10) (w1 := ((((w4.setCell ⟨g9, 0, none⟩ (.int .i64 b1)).setCell ⟨g9, 1, none⟩ (.int .u8 b2)).setCell ⟨g9, 2, none⟩ (.int .i64 b3)).setCell ⟨g9, 3, none⟩ (.int .i64 b4))) ?hg ?ho ?hn ?hr ?_; (case ho => rfl); (case hg => rfl); (case hn => rfl); (case hr => first | (go_simp; done) | (go_simp; rfl)); intro w5 hw; have n0_ : Aside0 (Below w.heap.size w w5) := ⟨by rw [hw]; exact below_set (below_set (below_set (below_set HB.out GE.out) GE.out) GE.out) GE.out⟩; clear HB hw BK GE hz0 hz1 hz2 hz3 hf0 hf1 hf2 hf3; have HB := n0_; clear n0_; clear hx0 hx1 hx2 hx3; have hx0 := (HB.out.cell (World.block_lt_of_cell? w _ HX0.out)).trans HX0.out; have hx1 := (HB.out.cell (World.block_lt_of_cell? w _ HX1.out)).trans HX1.out; have hx2 := (HB.out.cell (World.block_lt_of_cell? w _ HX2.out)).trans HX2.out; have hx3 := (HB.out.cell (World.block_lt_of_cell? w _ HX3.out)).trans HX3.out) | (go_at_call 12; (first | with_reducible refine (guichetref12_Find.calls k2 _ _ l0 _ _ _ _ _ _ _ (Kd.C_below HR0.out HB.out) HC0.out A1.out).mono ?_ | with_reducible refine (guichetref12_Find.calls k2 _ _ l0 _ _ _ _ _ _ _ (Kd.C_below HR0.out HB.out) HC0.out A2.out).mono ?_); rintro e w6 ⟨rfl, hb⟩; have n0_ := Aside0.mk (below_step HB.out hb); clear HB hb; have HB := n0_; clear n0_; clear hx0 hx1 hx2 hx3; have hx0 := (HB.out.cell (World.block_lt_of_cell? w _ HX0.out)).trans HX0.out; have hx1 := (HB.out.cell (World.block_lt_of_cell? w _ HX1.out)).trans HX1.out; have hx2 := (HB.out.cell (World.block_lt_of_cell? w _ HX2.out)).trans HX2.out; have hx3 := (HB.out.cell (World.block_lt_of_cell? w _ HX3.out)).trans HX3.out) | (go_at_call 20; refine (guichetref12_two.calls k2 _ _ _ _ _ _ A3.out).mono ?_; rintro e w7 ⟨rfl, hb⟩; have n0_ := Aside0.mk (below_step HB.out hb); clear HB hb; have HB := n0_; clear n0_; clear hx0 hx1 hx2 hx3; have hx0 := (HB.out.cell (World.block_lt_of_cell? w _ HX0.out)).trans HX0.out; have hx1 := (HB.out.cell (World.block_lt_of_cell? w _ HX1.out)).trans HX1.out; have hx2 := (HB.out.cell (World.block_lt_of_cell? w _ HX2.out)).trans HX2.out; have hx3 := (HB.out.cell (World.block_lt_of_cell? w _ HX3.out)).trans HX3.out))
           go_roundg k2
           case measure => have := HK.out; have := HK2.out; omega
           case rel => exact ⟨wrap64 (i + 1), (by first | rfl | (simp; done) | (simp [*]; done)), H', ⟨by have := HK2.out; omega⟩, HB⟩
          | true =>
           rw [if_pos rfl] at H
           cases b5 with
           | true =>
            rw [if_pos rfl] at H
            have H' := Aside0.mk H
            clear H
            go_wp2_with (first | ((with_reducible refine gate_dst (N := 7) rfl ?_); refine box_event ?hg (N := 7) ?hd (cs := #[.int .i64 0, .int .u8 0, .int .i64 0, .int .i64 0]) (t := 34) ?hr ?_; (case hd => rfl); (case hg => rfl); (case hr => first | (go_simp; done) | (go_simp; rfl)); intro g7 hg w4 hbox hb; have BK := Aside0.mk hbox; have GE := Aside0.mk (show w.heap.size ≤ g7 from by rw [hg]; exact below_size HB.out); have n0_ := Aside0.mk (below_step HB.out hb); clear HB hb hg; have HB := n0_; clear n0_; have hz0 : w4.cell? ⟨g7, 0, none⟩ = some (.int .i64 0) := (blk_cell hbox 0).trans rfl; have hz1 : w4.cell? ⟨g7, 1, none⟩ = some (.int .u8 0) := (blk_cell hbox 1).trans rfl; have hz2 : w4.cell? ⟨g7, 2, none⟩ = some (.int .i64 0) := (blk_cell hbox 2).trans rfl; have hz3 : w4.cell? ⟨g7, 3, none⟩ = some (.int .i64 0) := (blk_cell hbox 3).trans rfl; have hf0 := blk_frozen hbox 0; have hf1 := blk_frozen hbox 1; have hf2 := blk_frozen hbox 2; have hf3 := blk_frozen hbox 3; clear hbox; clear hx0 hx1 hx2 hx3; have hx0 := (HB.out.cell (World.block_lt_of_cell? w _ HX0.out)).trans HX0.out; have hx1 := (HB.out.cell (World.block_lt_of_cell? w _ HX1.out)).trans HX1.out; have hx2 := (HB.out.cell (World.block_lt_of_cell? w _ HX2.out)).trans HX2.out; have hx3 := (HB.out.cell (World.block_lt_of_cell? w _ HX3.out)).trans HX3.out) | ((with_reducible refine gate_store (t := 34) (p := 7) rfl ?_); refine store_event (t := 34) (p := 7) (v := ?vr_11) (w1 := ((((w4.setCell ⟨g7, 0, none⟩ (.int .i64 a1)).setCell ⟨g7, 1, none⟩ (.int .u8 a2)).setCell ⟨g7, 2, none⟩ (.int .i64 a3)).setCell ⟨g7, 3, none⟩ (.int .i64 a4))) ?hg ?ho ?hn ?hr ?_; (case ho => rfl); (case hg => rfl); (case hn => rfl); (case hr => first | (go_simp; done) | (go_simp; rfl)); intro w5 hw; have n0_ : Aside0 (Below w.heap.size w w5) := ⟨by rw [hw]; exact below_set (below_set (below_set (below_set HB.out GE.out) GE.out) GE.out) GE.out⟩; clear HB hw BK GE hz0 hz1 hz2 hz3 hf0 hf1 hf2 hf3; have HB := n0_; clear n0_; clear hx0 hx1 hx2 hx3; have hx0 := (HB.out.cell (World.block_lt_of_cell? w _ HX0.out)).trans HX0.out; have hx1 := (HB.out.cell (World.block_lt_of_cell? w _ HX1.out)).trans HX1.out; have hx2 := (HB.out.cell (World.block_lt_of_cell? w _ HX2.out)).trans HX2.out; have hx3 := (HB.out.cell (World.block_lt_of_cell? w _ HX3.out)).trans HX3.out) | ((with_reducible refine gate_dst (N := 9) rfl ?_); refine box_event ?hg (N := 9) ?hd (cs := #[.int .i64 0, .int .u8 0, .int .i64 0, .int .i64 0]) (t := 34) ?hr ?_; (case hd => rfl); (case hg => rfl); (case hr => first | (go_simp; done) | (go_simp; rfl)); intro g9 hg w4 hbox hb; have BK := Aside0.mk hbox; have GE := Aside0.mk (show w.heap.size ≤ g9 from by rw [hg]; exact below_size HB.out); have n0_ := Aside0.mk (below_step HB.out hb); clear HB hb hg; have HB := n0_; clear n0_; have hz0 : w4.cell? ⟨g9, 0, none⟩ = some (.int .i64 0) := (blk_cell hbox 0).trans rfl; have hz1 : w4.cell? ⟨g9, 1, none⟩ = some (.int .u8 0) := (blk_cell hbox 1).trans rfl; have hz2 : w4.cell? ⟨g9, 2, none⟩ = some (.int .i64 0) := (blk_cell hbox 2).trans rfl; have hz3 : w4.cell? ⟨g9, 3, none⟩ = some (.int .i64 0) := (blk_cell hbox 3).trans rfl; have hf0 := blk_frozen hbox 0; have hf1 := blk_frozen hbox 1; have hf2 := blk_frozen hbox 2; have hf3 := blk_frozen hbox 3; clear hbox; clear hx0 hx1 hx2 hx3; have hx0 := (HB.out.cell (World.block_lt_of_cell? w _ HX0.out)).trans HX0.out; have hx1 := (HB.out.cell (World.block_lt_of_cell? w _ HX1.out)).trans HX1.out; have hx2 := (HB.out.cell (World.block_lt_of_cell? w _ HX2.out)).trans HX2.out; have hx3 := (HB.out.cell (World.block_lt_of_cell? w _ HX3.out)).trans HX3.out) | ((with_reducible refine gate_store (t := 34) (p := 9) rfl ?_); refine store_event (t := 34) (p := 9) (v := ?vr_12) (w1 := ((((w4.setCell ⟨g9, 0, none⟩ (.int .i64 b1)).setCell ⟨g9, 1, none⟩ (.int .u8 b2)).setCell ⟨g9, 2, none⟩ (.int .i64 b3)).setCell ⟨g9, 3, none⟩ (.int .i64 b4))) ?hg ?ho ?hn ?hr ?_; (case ho => rfl); (case hg => rfl); (case hn => rfl); (case hr => first | (go_simp; done) | (go_simp; rfl)); intro w5 hw; have n0_ : Aside0 (Below w.heap.size w w5) := ⟨by rw [hw]; exact below_set (below_set (below_set (below_set HB.out GE.out) GE.out) GE.out) GE.out⟩; clear HB hw BK GE hz0 hz1 hz2 hz3 hf0 hf1 hf2 hf3; have HB := n0_; clear n0_; clear hx0 hx1 hx2 hx3; have hx0 := (HB.out.cell (World.block_lt_of_cell? w _ HX0.out)).trans HX0.out; have hx1 := (HB.out.cell (World.block_lt_of_cell? w _ HX1.out)).trans HX1.out; have hx2 := (HB.out.cell (World.block_lt_of_cell? w _ HX2.out)).trans HX2.out; have hx3 := (HB.out.cell (World.block_lt_of_cell? w _ HX3.out)).trans HX3.out) | (go_at_call 12; (first | with_reducible refine (guichetref12_Find.calls k2 _ _ l0 _ _ _ _ _ _ _ (Kd.C_below HR0.out HB.out) HC0.out A1.out).mono ?_ | with_reducible refine (guichetref12_Find.calls k2 _ _ l0 _ _ _ _ _ _ _ (Kd.C_below HR0.out HB.out) HC0.out A2.out).mono ?_); rintro e w6 ⟨rfl, hb⟩; have n0_ := Aside0.mk (below_step HB.out hb); clear HB hb; have HB := n0_; clear n0_; clear hx0 hx1 hx2 hx3; have hx0 := (HB.out.cell (World.block_lt_of_cell? w _ HX0.out)).trans HX0.out; have hx1 := (HB.out.cell (World.block_lt_of_cell? w _ HX1.out)).trans HX1.out; have hx2 := (HB.out.cell (World.block_lt_of_cell? w _ HX2.out)).trans HX2.out; have hx3 := (HB.out.cell (World.block_lt_of_cell? w _ HX3.out)).trans HX3.out) | (go_at_call 20; refine (guichetref12_two.calls k2 _ _ _ _ _ _ A3.out).mono ?_; rintro e w7 ⟨rfl, hb⟩; have n0_ := Aside0.mk (below_step HB.out hb); clear HB hb; have HB := n0_; clear n0_; clear hx0 hx1 hx2 hx3; have hx0 := (HB.out.cell (World.block_lt_of_cell? w _ HX0.out)).trans HX0.out; have hx1 := (HB.out.cell (World.block_lt_of_cell? w _ HX1.out)).trans HX1.out; have hx2 := (HB.out.cell (World.block_lt_of_cell? w _ HX2.out)).trans HX2.out; have hx3 := (HB.out.cell (World.block_lt_of_cell? w _ HX3.out)).trans HX3.out))
            go_roundg k2
            case measure => have := HK.out; have := HK2.out; omega
            case rel => exact ⟨wrap64 (i + 1), (by first | rfl | (simp; done) | (simp [*]; done)), H', ⟨by have := HK2.out; omega⟩, HB⟩
           | false =>
            rw [if_neg (by simp)] at H
            obtain ⟨rfl, rfl⟩ := Prod.mk.inj (Option.some.inj H)
            clear H
            go_wp2_with (first | ((with_reducible refine gate_dst (N := 7) rfl ?_); refine box_event ?hg (N := 7) ?hd (cs := #[.int .i64 0, .int .u8 0, .int .i64 0, .int .i64 0]) (t := 34) ?hr ?_; (case hd => rfl); (case hg => rfl); (case hr => first | (go_simp; done) | (go_simp; rfl)); intro g7 hg w4 hbox hb; have BK := Aside0.mk hbox; have GE := Aside0.mk (show w.heap.size ≤ g7 from by rw [hg]; exact below_size HB.out); have n0_ := Aside0.mk (below_step HB.out hb); clear HB hb hg; have HB := n0_; clear n0_; have hz0 : w4.cell? ⟨g7, 0, none⟩ = some (.int .i64 0) := (blk_cell hbox 0).trans rfl; have hz1 : w4.cell? ⟨g7, 1, none⟩ = some (.int .u8 0) := (blk_cell hbox 1).trans rfl; have hz2 : w4.cell? ⟨g7, 2, none⟩ = some (.int .i64 0) := (blk_cell hbox 2).trans rfl; have hz3 : w4.cell? ⟨g7, 3, none⟩ = some (.int .i64 0) := (blk_cell hbox 3).trans rfl; have hf0 := blk_frozen hbox 0; have hf1 := blk_frozen hbox 1; have hf2 := blk_frozen hbox 2; have hf3 := blk_frozen hbox 3; clear hbox; clear hx0 hx1 hx2 hx3; have hx0 := (HB.out.cell (World.block_lt_of_cell? w _ HX0.out)).trans HX0.out; have hx1 := (HB.out.cell (World.block_lt_of_cell? w _ HX1.out)).trans HX1.out; have hx2 := (HB.out.cell (World.block_lt_of_cell? w _ HX2.out)).trans HX2.out; have hx3 := (HB.out.cell (World.block_lt_of_cell? w _ HX3.out)).trans HX3.out) | ((with_reducible refine gate_store (t := 34) (p := 7) rfl ?_); refine store_event (t := 34) (p := 7) (v := ?vr_13) (w1 := ((((w4.setCell ⟨g7, 0, none⟩ (.int .i64 a1)).setCell ⟨g7, 1, none⟩ (.int .u8 a2)).setCell ⟨g7, 2, none⟩ (.int .i64 a3)).setCell ⟨g7, 3, none⟩ (.int .i64 a4))) ?hg ?ho ?hn ?hr ?_; (case ho => rfl); (case hg => rfl); (case hn => rfl); (case hr => first | (go_simp; done) | (go_simp; rfl)); intro w5 hw; have n0_ : Aside0 (Below w.heap.size w w5) := ⟨by rw [hw]; exact below_set (below_set (below_set (below_set HB.out GE.out) GE.out) GE.out) GE.out⟩; clear HB hw BK GE hz0 hz1 hz2 hz3 hf0 hf1 hf2 hf3; have HB := n0_; clear n0_; clear hx0 hx1 hx2 hx3; have hx0 := (HB.out.cell (World.block_lt_of_cell? w _ HX0.out)).trans HX0.out; have hx1 := (HB.out.cell (World.block_lt_of_cell? w _ HX1.out)).trans HX1.out; have hx2 := (HB.out.cell (World.block_lt_of_cell? w _ HX2.out)).trans HX2.out; have hx3 := (HB.out.cell (World.block_lt_of_cell? w _ HX3.out)).trans HX3.out) | ((with_reducible refine gate_dst (N := 9) rfl ?_); refine box_event ?hg (N := 9) ?hd (cs := #[.int .i64 0, .int .u8 0, .int .i64 0, .int .i64 0]) (t := 34) ?hr ?_; (case hd => rfl); (case hg => rfl); (case hr => first | (go_simp; done) | (go_simp; rfl)); intro g9 hg w4 hbox hb; have BK := Aside0.mk hbox; have GE := Aside0.mk (show w.heap.size ≤ g9 from by rw [hg]; exact below_size HB.out); have n0_ := Aside0.mk (below_step HB.out hb); clear HB hb hg; have HB := n0_; clear n0_; have hz0 : w4.cell? ⟨g9, 0, none⟩ = some (.int .i64 0) := (blk_cell hbox 0).trans rfl; have hz1 : w4.cell? ⟨g9, 1, none⟩ = some (.int .u8 0) := (blk_cell hbox 1).trans rfl; have hz2 : w4.cell? ⟨g9, 2, none⟩ = some (.int .i64 0) := (blk_cell hbox 2).trans rfl; have hz3 : w4.cell? ⟨g9, 3, none⟩ = some (.int .i64 0) := (blk_cell hbox 3).trans rfl; have hf0 := blk_frozen hbox 0; have hf1 := blk_frozen hbox 1; have hf2 := blk_frozen hbox 2; have hf3 := blk_frozen hbox 3; clear hbox; clear hx0 hx1 hx2 hx3; have hx0 := (HB.out.cell (World.block_lt_of_cell? w _ HX0.out)).trans HX0.out; have hx1 := (HB.out.cell (World.block_lt_of_cell? w _ HX1.out)).trans HX1.out; have hx2 := (HB.out.cell (World.block_lt_of_cell? w _ HX2.out)).trans HX2.out; have hx3 := (HB.out.cell (World.block_lt_of_cell? w _ HX3.out)).trans HX3.out) | ((with_reducible refine gate_store (t := 34) (p := 9) rfl ?_); refine store_event (t := 34) (p := 9) (v := ?vr_14) (w1 := ((((w4.setCell ⟨g9, 0, none⟩ (.int .i64 b1)).setCell ⟨g9, 1, none⟩ (.int .u8 b2)).setCell ⟨g9, 2, none⟩ (.int .i64 b3)).setCell ⟨g9, 3, none⟩ (.int .i64 b4))) ?hg ?ho ?hn ?hr ?_; (case ho => rfl); (case hg => rfl); (case hn => rfl); (case hr => first | (go_simp; done) | (go_simp; rfl)); intro w5 hw; have n0_ : Aside0 (Below w.heap.size w w5) := ⟨by rw [hw]; exact below_set (below_set (below_set (below_set HB.out GE.out) GE.out) GE.out) GE.out⟩; clear HB hw BK GE hz0 hz1 hz2 hz3 hf0 hf1 hf2 hf3; have HB := n0_; clear n0_; clear hx0 hx1 hx2 hx3; have hx0 := (HB.out.cell (World.block_lt_of_cell? w _ HX0.out)).trans HX0.out; have hx1 := (HB.out.cell (World.block_lt_of_cell? w _ HX1.out)).trans HX1.out; have hx2 := (HB.out.cell (World.block_lt_of_cell? w _ HX2.out)).trans HX2.out; have hx3 := (HB.out.cell (World.block_lt_of_cell? w _ HX3.out)).trans HX3.out) | (go_at_call 12; (first | with_reducible refine (guichetref12_Find.calls k2 _ _ l0 _ _ _ _ _ _ _ (Kd.C_below HR0.out HB.out) HC0.out A1.out).mono ?_ | with_reducible refine (guichetref12_Find.calls k2 _ _ l0 _ _ _ _ _ _ _ (Kd.C_below HR0.out HB.out) HC0.out A2.out).mono ?_); rintro e w6 ⟨rfl, hb⟩; have n0_ := Aside0.mk (below_step HB.out hb); clear HB hb; have HB := n0_; clear n0_; clear hx0 hx1 hx2 hx3; have hx0 := (HB.out.cell (World.block_lt_of_cell? w _ HX0.out)).trans HX0.out; have hx1 := (HB.out.cell (World.block_lt_of_cell? w _ HX1.out)).trans HX1.out; have hx2 := (HB.out.cell (World.block_lt_of_cell? w _ HX2.out)).trans HX2.out; have hx3 := (HB.out.cell (World.block_lt_of_cell? w _ HX3.out)).trans HX3.out) | (go_at_call 20; refine (guichetref12_two.calls k2 _ _ _ _ _ _ A3.out).mono ?_; rintro e w7 ⟨rfl, hb⟩; have n0_ := Aside0.mk (below_step HB.out hb); clear HB hb; have HB := n0_; clear n0_; clear hx0 hx1 hx2 hx3; have hx0 := (HB.out.cell (World.block_lt_of_cell? w _ HX0.out)).trans HX0.out; have hx1 := (HB.out.cell (World.block_lt_of_cell? w _ HX1.out)).trans HX1.out; have hx2 := (HB.out.cell (World.block_lt_of_cell? w _ HX2.out)).trans HX2.out; have hx3 := (HB.out.cell (World.block_lt_of_cell? w _ HX3.out)).trans HX3.out))
            refine bodyPost_ret (results_tmp2 rfl _ _ _) rfl ?_
            exact ⟨rfl, HB.out⟩
       ·rw [if_neg c2] at H; cases H
      ·rw [if_neg c1] at H
       have c1b : decide (i < (l0.length : Int)) = false := decide_eq_false c1
       have H' := Aside0.mk H
       clear H c1
       go_wp2
       have HM := Aside0.mk (MapB.made wr)
       have HGM := Aside0.mk (below_size HB.out)
       have n0_ := Aside0.mk (below_alloc HB.out (.map #[] 0))
       clear HB c1b
       have HB := n0_
       clear n0_
       generalize wr.heap.size = m at HM HGM ⊢
       go_loopg [12] k2 (fun kq v12 w' => ∃ (a : Int) (M : MB) (n : Nat), v12 = .int .i64 a ∧ Aside0 (guichetref12_Check.l3 kq l0 M a = some (r1, r2)) ∧ Aside0 (kq ≤ k2) ∧ Aside0 (MapB w' m n M) ∧ Aside0 (0 ≤ a ∧ (n : Int) ≤ a * 1000000) ∧ Aside0 (Below w.heap.size w w'))
       case atStart => exact ⟨0, _, 0, rfl, H', ⟨Nat.le_refl _⟩, HM, ⟨by omega⟩, HB⟩
       case round =>
        clear H' HM HB
        obtain ⟨a, M, n, rfl, HA, HK3, HM, HN, HB⟩ := hrel
        cases gk with
        | zero => exact absurd HA.out (by simp [guichetref12_Check.l3])
        | succ k3 =>
         have H := HA.out
         clear HA
         simp only [guichetref12_Check.l3] at H
         by_cases c1 : a ≤ (l0.length : Int)
         ·rw [if_pos c1] at H
          have c1b : decide (a ≤ (l0.length : Int)) = true := decide_eq_true c1
          have H' := Aside0.mk H
          have HAA := Aside0.mk (And.intro HN.out.1 c1)
          clear H c1
          go_wp2
          clear c1b
          go_loopg [13] k3 (fun kq v13 w' => ∃ (i : Int) (M : MB) (n : Nat), v13 = .int .i64 i ∧ Aside0 (guichetref12_Check.l4 kq l0 M a i = some (r1, r2)) ∧ Aside0 (kq ≤ k3) ∧ Aside0 (MapB w' m n M) ∧ Aside0 (0 ≤ i ∧ i ≤ (l0.length : Int) ∧ (n : Int) ≤ a * 1000000 + i) ∧ Aside0 (Below w.heap.size w w'))
          case atStart => exact ⟨0, M, n, rfl, H', ⟨Nat.le_refl _⟩, HM, ⟨by have := HN.out; omega⟩, HB⟩
          case round =>
           clear H' HM HB HN
           obtain ⟨i, M, n, rfl, HA, HK4, HM, HN, HB⟩ := hrel
           cases gk with
           | zero => exact absurd HA.out (by simp [guichetref12_Check.l4])
           | succ k4 =>
            have H := HA.out
            clear HA
            simp only [guichetref12_Check.l4] at H
            by_cases c1 : i < (l0.length : Int)
            ·rw [if_pos c1] at H
             by_cases c2 : 0 ≤ i
             ·rw [if_pos c2] at H
              by_cases d1 : (Lit.int .i64 ((rd_T34 l0 i).f0)).wf = true
              ·rw [if_pos d1] at H
               obtain ⟨ad, e_, hx0, hx1, hx2, hx3⟩ := at_T34 HR0.out i c2 c1
               cases e_
               have c1b : decide (i < (l0.length : Int)) = true := decide_eq_true c1
               have c1a := Aside0.mk (And.intro c2 c1)
               have c1e := eq_true c1
               have c2e := eq_true c2
               replace hx0 := (HB.out.cell (World.block_lt_of_cell? w _ hx0)).trans hx0
               replace hx1 := (HB.out.cell (World.block_lt_of_cell? w _ hx1)).trans hx1
               replace hx2 := (HB.out.cell (World.block_lt_of_cell? w _ hx2)).trans hx2
               replace hx3 := (HB.out.cell (World.block_lt_of_cell? w _ hx3)).trans hx3
               clear c1 c2
               by_cases c4 : (rd_T34 l0 i).f1 = 90
               ·rw [if_pos c4] at H
                have c4b0 : ((rd_T34 l0 i).f1 == 90) = true := beq_iff_eq.mpr c4
                clear c4
                have H' := Aside0.mk H
                clear H
                go_wp2_with (first | ((with_reducible refine gate_dst (N := 14) rfl ?_); refine box_event ?hg (N := 14) ?hd (cs := #[.int .i64 0, .int .u8 0, .int .i64 0, .int .i64 0]) (t := 34) ?hr ?_; (case hd => rfl); (case hg => rfl); (case hr => first | (go_simp; done) | (go_simp; rfl)); intro g14 hg w4 hbox hb; have HC := Aside0.mk hb; have BK := Aside0.mk hbox; have GE := Aside0.mk (show wr.heap.size ≤ g14 from by rw [hg]; exact Nat.le_refl _); have hz0 : w4.cell? ⟨g14, 0, none⟩ = some (.int .i64 0) := (blk_cell hbox 0).trans rfl; have hz1 : w4.cell? ⟨g14, 1, none⟩ = some (.int .u8 0) := (blk_cell hbox 1).trans rfl; have hz2 : w4.cell? ⟨g14, 2, none⟩ = some (.int .i64 0) := (blk_cell hbox 2).trans rfl; have hz3 : w4.cell? ⟨g14, 3, none⟩ = some (.int .i64 0) := (blk_cell hbox 3).trans rfl; have hf0 := blk_frozen hbox 0; have hf1 := blk_frozen hbox 1; have hf2 := blk_frozen hbox 2; have hf3 := blk_frozen hbox 3; replace hx0 := (hb.cell (World.block_lt_of_cell? wr _ hx0)).trans hx0; replace hx1 := (hb.cell (World.block_lt_of_cell? wr _ hx1)).trans hx1; replace hx2 := (hb.cell (World.block_lt_of_cell? wr _ hx2)).trans hx2; replace hx3 := (hb.cell (World.block_lt_of_cell? wr _ hx3)).trans hx3; clear hg hbox hb) | ((with_reducible refine gate_store (t := 34) (p := 14) rfl ?_); refine store_event (t := 34) (p := 14) (v := ?vo1) (w1 := ((((w4.setCell ⟨g14, 0, none⟩ (.int .i64 ((rd_T34 l0 i).f0))).setCell ⟨g14, 1, none⟩ (.int .u8 ((rd_T34 l0 i).f1))).setCell ⟨g14, 2, none⟩ (.int .i64 ((rd_T34 l0 i).f2))).setCell ⟨g14, 3, none⟩ (.int .i64 ((rd_T34 l0 i).f3)))) ?hg ?ho ?hn ?hr ?_; (case ho => rfl); (case hg => rfl); (case hn => rfl); (case hr => first | (go_simp; done) | (go_simp; rfl)); intro w5 hw; have hq : Below wr.heap.size wr w5 := (by rw [hw]; exact below_set (below_set (below_set (below_set HC.out GE.out) GE.out) GE.out) GE.out); have hbk : w5.heap[g14]? = some (.cells #[.int .i64 ((rd_T34 l0 i).f0), .int .u8 ((rd_T34 l0 i).f1), .int .i64 ((rd_T34 l0 i).f2), .int .i64 ((rd_T34 l0 i).f3)] 34 (0, 0)) := (by rw [hw]; refine blk_put (cs := #[.int .i64 ((rd_T34 l0 i).f0), .int .u8 ((rd_T34 l0 i).f1), .int .i64 ((rd_T34 l0 i).f2), .int .i64 0]) ?_ 3 _ rfl; refine blk_put (cs := #[.int .i64 ((rd_T34 l0 i).f0), .int .u8 ((rd_T34 l0 i).f1), .int .i64 0, .int .i64 0]) ?_ 2 _ rfl; refine blk_put (cs := #[.int .i64 ((rd_T34 l0 i).f0), .int .u8 0, .int .i64 0, .int .i64 0]) ?_ 1 _ rfl; refine blk_put (cs := #[.int .i64 0, .int .u8 0, .int .i64 0, .int .i64 0]) ?_ 0 _ rfl; exact BK.out); clear hw HC BK hz0 hz1 hz2 hz3 hf0 hf1 hf2 hf3; have BK := Aside0.mk hbk; have hy0 : w5.cell? ⟨g14, 0, none⟩ = some (.int .i64 ((rd_T34 l0 i).f0)) := (blk_cell hbk 0).trans rfl; have hy1 : w5.cell? ⟨g14, 1, none⟩ = some (.int .u8 ((rd_T34 l0 i).f1)) := (blk_cell hbk 1).trans rfl; have hy2 : w5.cell? ⟨g14, 2, none⟩ = some (.int .i64 ((rd_T34 l0 i).f2)) := (blk_cell hbk 2).trans rfl; have hy3 : w5.cell? ⟨g14, 3, none⟩ = some (.int .i64 ((rd_T34 l0 i).f3)) := (blk_cell hbk 3).trans rfl; clear hx0 hx1 hx2 hx3; have n0_ := Aside0.mk (MapB.below HM.out hq); have n1_ := Aside0.mk (below_step HB.out hq); clear HM HB GE; have HM := n0_; have HB := n1_; clear n0_ n1_; obtain ⟨w6, hupd, hm6, hgr⟩ := MapB.upd HM.out (by have := HN.out; have := HAA.out; have := HLB.out; have := c1a.out; show n < 9223372036854775807; omega) d1; clear hq hbk))
                go_roundg k4
                case measure => have := HK.out; have := HK2.out; have := HK3.out; have := HK4.out; omega
                case rel => exact ⟨wrap64 (i + 1), _, n + 1, (by first | rfl | (simp; done) | (simp [*]; done)), H', ⟨by have := HK4.out; omega⟩, ⟨hm6⟩, ⟨by have := HN.out; have := HAA.out; have := HLB.out; have := c1a.out; unfold wrap64; omega⟩, ⟨HB.out.grown hgr (below_size HB.out) (fun k hk => by injection hk with hk; rw [← hk]; exact HGM.out)⟩⟩
               ·rw [if_neg c4] at H
                have c4b0 : ((rd_T34 l0 i).f1 == 90) = false := beq_eq_false_iff_ne.mpr c4
                clear c4
                by_cases d2 : (Lit.int .i64 ((rd_T34 l0 i).f2)).wf = true
                ·rw [if_pos d2] at H
                 by_cases d3 : M ((rd_T34 l0 i).f2) = true
                 ·rw [if_pos d3] at H
                  have H' := Aside0.mk H
                  clear H
                  go_wp2_with (first | ((with_reducible refine gate_dst (N := 14) rfl ?_); refine box_event ?hg (N := 14) ?hd (cs := #[.int .i64 0, .int .u8 0, .int .i64 0, .int .i64 0]) (t := 34) ?hr ?_; (case hd => rfl); (case hg => rfl); (case hr => first | (go_simp; done) | (go_simp; rfl)); intro g14 hg w4 hbox hb; have HC := Aside0.mk hb; have BK := Aside0.mk hbox; have GE := Aside0.mk (show wr.heap.size ≤ g14 from by rw [hg]; exact Nat.le_refl _); have hz0 : w4.cell? ⟨g14, 0, none⟩ = some (.int .i64 0) := (blk_cell hbox 0).trans rfl; have hz1 : w4.cell? ⟨g14, 1, none⟩ = some (.int .u8 0) := (blk_cell hbox 1).trans rfl; have hz2 : w4.cell? ⟨g14, 2, none⟩ = some (.int .i64 0) := (blk_cell hbox 2).trans rfl; have hz3 : w4.cell? ⟨g14, 3, none⟩ = some (.int .i64 0) := (blk_cell hbox 3).trans rfl; have hf0 := blk_frozen hbox 0; have hf1 := blk_frozen hbox 1; have hf2 := blk_frozen hbox 2; have hf3 := blk_frozen hbox 3; replace hx0 := (hb.cell (World.block_lt_of_cell? wr _ hx0)).trans hx0; replace hx1 := (hb.cell (World.block_lt_of_cell? wr _ hx1)).trans hx1; replace hx2 := (hb.cell (World.block_lt_of_cell? wr _ hx2)).trans hx2; replace hx3 := (hb.cell (World.block_lt_of_cell? wr _ hx3)).trans hx3; clear hg hbox hb) | ((with_reducible refine gate_store (t := 34) (p := 14) rfl ?_); refine store_event (t := 34) (p := 14) (v := ?vo2) (w1 := ((((w4.setCell ⟨g14, 0, none⟩ (.int .i64 ((rd_T34 l0 i).f0))).setCell ⟨g14, 1, none⟩ (.int .u8 ((rd_T34 l0 i).f1))).setCell ⟨g14, 2, none⟩ (.int .i64 ((rd_T34 l0 i).f2))).setCell ⟨g14, 3, none⟩ (.int .i64 ((rd_T34 l0 i).f3)))) ?hg ?ho ?hn ?hr ?_; (case ho => rfl); (case hg => rfl); (case hn => rfl); (case hr => first | (go_simp; done) | (go_simp; rfl)); intro w5 hw; have hq : Below wr.heap.size wr w5 := (by rw [hw]; exact below_set (below_set (below_set (below_set HC.out GE.out) GE.out) GE.out) GE.out); have hbk : w5.heap[g14]? = some (.cells #[.int .i64 ((rd_T34 l0 i).f0), .int .u8 ((rd_T34 l0 i).f1), .int .i64 ((rd_T34 l0 i).f2), .int .i64 ((rd_T34 l0 i).f3)] 34 (0, 0)) := (by rw [hw]; refine blk_put (cs := #[.int .i64 ((rd_T34 l0 i).f0), .int .u8 ((rd_T34 l0 i).f1), .int .i64 ((rd_T34 l0 i).f2), .int .i64 0]) ?_ 3 _ rfl; refine blk_put (cs := #[.int .i64 ((rd_T34 l0 i).f0), .int .u8 ((rd_T34 l0 i).f1), .int .i64 0, .int .i64 0]) ?_ 2 _ rfl; refine blk_put (cs := #[.int .i64 ((rd_T34 l0 i).f0), .int .u8 0, .int .i64 0, .int .i64 0]) ?_ 1 _ rfl; refine blk_put (cs := #[.int .i64 0, .int .u8 0, .int .i64 0, .int .i64 0]) ?_ 0 _ rfl; exact BK.out); clear hw HC BK hz0 hz1 hz2 hz3 hf0 hf1 hf2 hf3; have BK := Aside0.mk hbk; have hy0 : w5.cell? ⟨g14, 0, none⟩ = some (.int .i64 ((rd_T34 l0 i).f0)) := (blk_cell hbk 0).trans rfl; have hy1 : w5.cell? ⟨g14, 1, none⟩ = some (.int .u8 ((rd_T34 l0 i).f1)) := (blk_cell hbk 1).trans rfl; have hy2 : w5.cell? ⟨g14, 2, none⟩ = some (.int .i64 ((rd_T34 l0 i).f2)) := (blk_cell hbk 2).trans rfl; have hy3 : w5.cell? ⟨g14, 3, none⟩ = some (.int .i64 ((rd_T34 l0 i).f3)) := (blk_cell hbk 3).trans rfl; clear hx0 hx1 hx2 hx3; have n0_ := Aside0.mk (MapB.below HM.out hq); have n1_ := Aside0.mk (below_step HB.out hq); clear HM HB GE; have HM := n0_; have HB := n1_; clear n0_ n1_; have hrun := MapB.look HM.out d2; rw [d3] at hrun; obtain ⟨w6, hupd, hm6, hgr⟩ := MapB.upd HM.out (by have := HN.out; have := HAA.out; have := HLB.out; have := c1a.out; show n < 9223372036854775807; omega) d1; clear hq hbk))
                  go_roundg k4
                  case measure => have := HK.out; have := HK2.out; have := HK3.out; have := HK4.out; omega
                  case rel => exact ⟨wrap64 (i + 1), _, n + 1, (by first | rfl | (simp; done) | (simp [*]; done)), H', ⟨by have := HK4.out; omega⟩, ⟨hm6⟩, ⟨by have := HN.out; have := HAA.out; have := HLB.out; have := c1a.out; unfold wrap64; omega⟩, ⟨HB.out.grown hgr (below_size HB.out) (fun k hk => by injection hk with hk; rw [← hk]; exact HGM.out)⟩⟩
                 ·rw [if_neg d3] at H
                  replace d3 : M ((rd_T34 l0 i).f2) = false := Bool.eq_false_iff.mpr d3
                  obtain ⟨t, A3, H⟩ := Option.bind_eq_some_iff.mp H
                  have A3 := Aside0.mk A3
                  cases t with
                  | false =>
                   rw [if_neg (by simp)] at H
                   have H' := Aside0.mk H
                   clear H
                   go_wp2_with (first | ((with_reducible refine gate_dst (N := 14) rfl ?_); refine box_event ?hg (N := 14) ?hd (cs := #[.int .i64 0, .int .u8 0, .int .i64 0, .int .i64 0]) (t := 34) ?hr ?_; (case hd => rfl); (case hg => rfl); (case hr => first | (go_simp; done) | (go_simp; rfl)); intro g14 hg w4 hbox hb; have HC := Aside0.mk hb; have BK := Aside0.mk hbox; have GE := Aside0.mk (show wr.heap.size ≤ g14 from by rw [hg]; exact Nat.le_refl _); have hz0 : w4.cell? ⟨g14, 0, none⟩ = some (.int .i64 0) := (blk_cell hbox 0).trans rfl; have hz1 : w4.cell? ⟨g14, 1, none⟩ = some (.int .u8 0) := (blk_cell hbox 1).trans rfl; have hz2 : w4.cell? ⟨g14, 2, none⟩ = some (.int .i64 0) := (blk_cell hbox 2).trans rfl; have hz3 : w4.cell? ⟨g14, 3, none⟩ = some (.int .i64 0) := (blk_cell hbox 3).trans rfl; have hf0 := blk_frozen hbox 0; have hf1 := blk_frozen hbox 1; have hf2 := blk_frozen hbox 2; have hf3 := blk_frozen hbox 3; replace hx0 := (hb.cell (World.block_lt_of_cell? wr _ hx0)).trans hx0; replace hx1 := (hb.cell (World.block_lt_of_cell? wr _ hx1)).trans hx1; replace hx2 := (hb.cell (World.block_lt_of_cell? wr _ hx2)).trans hx2; replace hx3 := (hb.cell (World.block_lt_of_cell? wr _ hx3)).trans hx3; clear hg hbox hb) | ((with_reducible refine gate_store (t := 34) (p := 14) rfl ?_); refine store_event (t := 34) (p := 14) (v := ?vo3) (w1 := ((((w4.setCell ⟨g14, 0, none⟩ (.int .i64 ((rd_T34 l0 i).f0))).setCell ⟨g14, 1, none⟩ (.int .u8 ((rd_T34 l0 i).f1))).setCell ⟨g14, 2, none⟩ (.int .i64 ((rd_T34 l0 i).f2))).setCell ⟨g14, 3, none⟩ (.int .i64 ((rd_T34 l0 i).f3)))) ?hg ?ho ?hn ?hr ?_; (case ho => rfl); (case hg => rfl); (case hn => rfl); (case hr => first | (go_simp; done) | (go_simp; rfl)); intro w5 hw; have hq : Below wr.heap.size wr w5 := (by rw [hw]; exact below_set (below_set (below_set (below_set HC.out GE.out) GE.out) GE.out) GE.out); have hbk : w5.heap[g14]? = some (.cells #[.int .i64 ((rd_T34 l0 i).f0), .int .u8 ((rd_T34 l0 i).f1), .int .i64 ((rd_T34 l0 i).f2), .int .i64 ((rd_T34 l0 i).f3)] 34 (0, 0)) := (by rw [hw]; refine blk_put (cs := #[.int .i64 ((rd_T34 l0 i).f0), .int .u8 ((rd_T34 l0 i).f1), .int .i64 ((rd_T34 l0 i).f2), .int .i64 0]) ?_ 3 _ rfl; refine blk_put (cs := #[.int .i64 ((rd_T34 l0 i).f0), .int .u8 ((rd_T34 l0 i).f1), .int .i64 0, .int .i64 0]) ?_ 2 _ rfl; refine blk_put (cs := #[.int .i64 ((rd_T34 l0 i).f0), .int .u8 0, .int .i64 0, .int .i64 0]) ?_ 1 _ rfl; refine blk_put (cs := #[.int .i64 0, .int .u8 0, .int .i64 0, .int .i64 0]) ?_ 0 _ rfl; exact BK.out); clear hw HC BK hz0 hz1 hz2 hz3 hf0 hf1 hf2 hf3; have BK := Aside0.mk hbk; have hy0 : w5.cell? ⟨g14, 0, none⟩ = some (.int .i64 ((rd_T34 l0 i).f0)) := (blk_cell hbk 0).trans rfl; have hy1 : w5.cell? ⟨g14, 1, none⟩ = some (.int .u8 ((rd_T34 l0 i).f1)) := (blk_cell hbk 1).trans rfl; have hy2 : w5.cell? ⟨g14, 2, none⟩ = some (.int .i64 ((rd_T34 l0 i).f2)) := (blk_cell hbk 2).trans rfl; have hy3 : w5.cell? ⟨g14, 3, none⟩ = some (.int .i64 ((rd_T34 l0 i).f3)) := (blk_cell hbk 3).trans rfl; clear hx0 hx1 hx2 hx3; have n0_ := Aside0.mk (MapB.below HM.out hq); have n1_ := Aside0.mk (below_step HB.out hq); clear HM HB GE; have HM := n0_; have HB := n1_; clear n0_ n1_; have hrun := MapB.look HM.out d2; rw [d3] at hrun; clear hq hbk) | (go_at_call 20; refine (guichetref12_two.calls k4 _ _ _ _ _ _ A3.out).mono ?_; rintro e w7 ⟨rfl, hb⟩; have n0_ := Aside0.mk (MapB.below HM.out hb); have n1_ := Aside0.mk (below_step HB.out hb); clear HM HB hb; have HM := n0_; have HB := n1_; clear n0_ n1_))
                   go_roundg k4
                   case measure => have := HK.out; have := HK2.out; have := HK3.out; have := HK4.out; omega
                   case rel => exact ⟨wrap64 (i + 1), M, n, (by first | rfl | (simp; done) | (simp [*]; done)), H', ⟨by have := HK4.out; omega⟩, HM, ⟨by have := HN.out; have := HAA.out; have := HLB.out; have := c1a.out; unfold wrap64; omega⟩, HB⟩
                  | true =>
                   rw [if_pos rfl] at H
                   by_cases d4 : (Lit.int .i64 ((rd_T34 l0 i).f3)).wf = true
                   ·rw [if_pos d4] at H
                    by_cases d5 : M ((rd_T34 l0 i).f3) = true
                    ·rw [if_pos d5] at H
                     have H' := Aside0.mk H
                     clear H
                     go_wp2_with (first | ((with_reducible refine gate_dst (N := 14) rfl ?_); refine box_event ?hg (N := 14) ?hd (cs := #[.int .i64 0, .int .u8 0, .int .i64 0, .int .i64 0]) (t := 34) ?hr ?_; (case hd => rfl); (case hg => rfl); (case hr => first | (go_simp; done) | (go_simp; rfl)); intro g14 hg w4 hbox hb; have HC := Aside0.mk hb; have BK := Aside0.mk hbox; have GE := Aside0.mk (show wr.heap.size ≤ g14 from by rw [hg]; exact Nat.le_refl _); have hz0 : w4.cell? ⟨g14, 0, none⟩ = some (.int .i64 0) := (blk_cell hbox 0).trans rfl; have hz1 : w4.cell? ⟨g14, 1, none⟩ = some (.int .u8 0) := (blk_cell hbox 1).trans rfl; have hz2 : w4.cell? ⟨g14, 2, none⟩ = some (.int .i64 0) := (blk_cell hbox 2).trans rfl; have hz3 : w4.cell? ⟨g14, 3, none⟩ = some (.int .i64 0) := (blk_cell hbox 3).trans rfl; have hf0 := blk_frozen hbox 0; have hf1 := blk_frozen hbox 1; have hf2 := blk_frozen hbox 2; have hf3 := blk_frozen hbox 3; replace hx0 := (hb.cell (World.block_lt_of_cell? wr _ hx0)).trans hx0; replace hx1 := (hb.cell (World.block_lt_of_cell? wr _ hx1)).trans hx1; replace hx2 := (hb.cell (World.block_lt_of_cell? wr _ hx2)).trans hx2; replace hx3 := (hb.cell (World.block_lt_of_cell? wr _ hx3)).trans hx3; clear hg hbox hb) | ((with_reducible refine gate_store (t := 34) (p := 14) rfl ?_); refine store_event (t := 34) (p := 14) (v := ?vo4) (w1 := ((((w4.setCell ⟨g14, 0, none⟩ (.int .i64 ((rd_T34 l0 i).f0))).setCell ⟨g14, 1, none⟩ (.int .u8 ((rd_T34 l0 i).f1))).setCell ⟨g14, 2, none⟩ (.int .i64 ((rd_T34 l0 i).f2))).setCell ⟨g14, 3, none⟩ (.int .i64 ((rd_T34 l0 i).f3)))) ?hg ?ho ?hn ?hr ?_; (case ho => rfl); (case hg => rfl); (case hn => rfl); (case hr => first | (go_simp; done) | (go_simp; rfl)); intro w5 hw; have hq : Below wr.heap.size wr w5 := (by rw [hw]; exact below_set (below_set (below_set (below_set HC.out GE.out) GE.out) GE.out) GE.out); have hbk : w5.heap[g14]? = some (.cells #[.int .i64 ((rd_T34 l0 i).f0), .int .u8 ((rd_T34 l0 i).f1), .int .i64 ((rd_T34 l0 i).f2), .int .i64 ((rd_T34 l0 i).f3)] 34 (0, 0)) := (by rw [hw]; refine blk_put (cs := #[.int .i64 ((rd_T34 l0 i).f0), .int .u8 ((rd_T34 l0 i).f1), .int .i64 ((rd_T34 l0 i).f2), .int .i64 0]) ?_ 3 _ rfl; refine blk_put (cs := #[.int .i64 ((rd_T34 l0 i).f0), .int .u8 ((rd_T34 l0 i).f1), .int .i64 0, .int .i64 0]) ?_ 2 _ rfl; refine blk_put (cs := #[.int .i64 ((rd_T34 l0 i).f0), .int .u8 0, .int .i64 0, .int .i64 0]) ?_ 1 _ rfl; refine blk_put (cs := #[.int .i64 0, .int .u8 0, .int .i64 0, .int .i64 0]) ?_ 0 _ rfl; exact BK.out); clear hw HC BK hz0 hz1 hz2 hz3 hf0 hf1 hf2 hf3; have BK := Aside0.mk hbk; have hy0 : w5.cell? ⟨g14, 0, none⟩ = some (.int .i64 ((rd_T34 l0 i).f0)) := (blk_cell hbk 0).trans rfl; have hy1 : w5.cell? ⟨g14, 1, none⟩ = some (.int .u8 ((rd_T34 l0 i).f1)) := (blk_cell hbk 1).trans rfl; have hy2 : w5.cell? ⟨g14, 2, none⟩ = some (.int .i64 ((rd_T34 l0 i).f2)) := (blk_cell hbk 2).trans rfl; have hy3 : w5.cell? ⟨g14, 3, none⟩ = some (.int .i64 ((rd_T34 l0 i).f3)) := (blk_cell hbk 3).trans rfl; clear hx0 hx1 hx2 hx3; have n0_ := Aside0.mk (MapB.below HM.out hq); have n1_ := Aside0.mk (below_step HB.out hq); clear HM HB GE; have HM := n0_; have HB := n1_; clear n0_ n1_; have hrun := MapB.look HM.out d2; rw [d3] at hrun; clear hq hbk) | (go_at_call 20; refine (guichetref12_two.calls k4 _ _ _ _ _ _ A3.out).mono ?_; rintro e w7 ⟨rfl, hb⟩; have n0_ := Aside0.mk (MapB.below HM.out hb); have n1_ := Aside0.mk (below_step HB.out hb); have n2_ := Aside0.mk (blk_below BK.out hb); clear HM HB BK hb; have HM := n0_; have HB := n1_; have BK := n2_; clear n0_ n1_ n2_; have hv0 : w7.cell? ⟨g14, 0, none⟩ = some (.int .i64 ((rd_T34 l0 i).f0)) := (blk_cell BK.out 0).trans rfl; have hv1 : w7.cell? ⟨g14, 1, none⟩ = some (.int .u8 ((rd_T34 l0 i).f1)) := (blk_cell BK.out 1).trans rfl; have hv2 : w7.cell? ⟨g14, 2, none⟩ = some (.int .i64 ((rd_T34 l0 i).f2)) := (blk_cell BK.out 2).trans rfl; have hv3 : w7.cell? ⟨g14, 3, none⟩ = some (.int .i64 ((rd_T34 l0 i).f3)) := (blk_cell BK.out 3).trans rfl; have hrun3 := MapB.look HM.out d4; rw [d5] at hrun3; obtain ⟨w6, hupd, hm6, hgr⟩ := MapB.upd HM.out (by have := HN.out; have := HAA.out; have := HLB.out; have := c1a.out; show n < 9223372036854775807; omega) d1))
                     go_roundg k4
                     case measure => have := HK.out; have := HK2.out; have := HK3.out; have := HK4.out; omega
                     case rel => exact ⟨wrap64 (i + 1), _, n + 1, (by first | rfl | (simp; done) | (simp [*]; done)), H', ⟨by have := HK4.out; omega⟩, ⟨hm6⟩, ⟨by have := HN.out; have := HAA.out; have := HLB.out; have := c1a.out; unfold wrap64; omega⟩, ⟨HB.out.grown hgr (below_size HB.out) (fun k hk => by injection hk with hk; rw [← hk]; exact HGM.out)⟩⟩
                    ·rw [if_neg d5] at H
                     replace d5 : M ((rd_T34 l0 i).f3) = false := Bool.eq_false_iff.mpr d5
                     have H' := Aside0.mk H
                     clear H
                     go_wp2_with (first | ((with_reducible refine gate_dst (N := 14) rfl ?_); refine box_event ?hg (N := 14) ?hd (cs := #[.int .i64 0, .int .u8 0, .int .i64 0, .int .i64 0]) (t := 34) ?hr ?_; (case hd => rfl); (case hg => rfl); (case hr => first | (go_simp; done) | (go_simp; rfl)); intro g14 hg w4 hbox hb; have HC := Aside0.mk hb; have BK := Aside0.mk hbox; have GE := Aside0.mk (show wr.heap.size ≤ g14 from by rw [hg]; exact Nat.le_refl _); have hz0 : w4.cell? ⟨g14, 0, none⟩ = some (.int .i64 0) := (blk_cell hbox 0).trans rfl; have hz1 : w4.cell? ⟨g14, 1, none⟩ = some (.int .u8 0) := (blk_cell hbox 1).trans rfl; have hz2 : w4.cell? ⟨g14, 2, none⟩ = some (.int .i64 0) := (blk_cell hbox 2).trans rfl; have hz3 : w4.cell? ⟨g14, 3, none⟩ = some (.int .i64 0) := (blk_cell hbox 3).trans rfl; have hf0 := blk_frozen hbox 0; have hf1 := blk_frozen hbox 1; have hf2 := blk_frozen hbox 2; have hf3 := blk_frozen hbox 3; replace hx0 := (hb.cell (World.block_lt_of_cell? wr _ hx0)).trans hx0; replace hx1 := (hb.cell (World.block_lt_of_cell? wr _ hx1)).trans hx1; replace hx2 := (hb.cell (World.block_lt_of_cell? wr _ hx2)).trans hx2; replace hx3 := (hb.cell (World.block_lt_of_cell? wr _ hx3)).trans hx3; clear hg hbox hb) | ((with_reducible refine gate_store (t := 34) (p := 14) rfl ?_); refine store_event (t := 34) (p := 14) (v := ?vo5) (w1 := ((((w4.setCell ⟨g14, 0, none⟩ (.int .i64 ((rd_T34 l0 i).f0))).setCell ⟨g14, 1, none⟩ (.int .u8 ((rd_T34 l0 i).f1))).setCell ⟨g14, 2, none⟩ (.int .i64 ((rd_T34 l0 i).f2))).setCell ⟨g14, 3, none⟩ (.int .i64 ((rd_T34 l0 i).f3)))) ?hg ?ho ?hn ?hr ?_; (case ho => rfl); (case hg => rfl); (case hn => rfl); (case hr => first | (go_simp; done) | (go_simp; rfl)); intro w5 hw; have hq : Below wr.heap.size wr w5 := (by rw [hw]; exact below_set (below_set (below_set (below_set HC.out GE.out) GE.out) GE.out) GE.out); have hbk : w5.heap[g14]? = some (.cells #[.int .i64 ((rd_T34 l0 i).f0), .int .u8 ((rd_T34 l0 i).f1), .int .i64 ((rd_T34 l0 i).f2), .int .i64 ((rd_T34 l0 i).f3)] 34 (0, 0)) := (by rw [hw]; refine blk_put (cs := #[.int .i64 ((rd_T34 l0 i).f0), .int .u8 ((rd_T34 l0 i).f1), .int .i64 ((rd_T34 l0 i).f2), .int .i64 0]) ?_ 3 _ rfl; refine blk_put (cs := #[.int .i64 ((rd_T34 l0 i).f0), .int .u8 ((rd_T34 l0 i).f1), .int .i64 0, .int .i64 0]) ?_ 2 _ rfl; refine blk_put (cs := #[.int .i64 ((rd_T34 l0 i).f0), .int .u8 0, .int .i64 0, .int .i64 0]) ?_ 1 _ rfl; refine blk_put (cs := #[.int .i64 0, .int .u8 0, .int .i64 0, .int .i64 0]) ?_ 0 _ rfl; exact BK.out); clear hw HC BK hz0 hz1 hz2 hz3 hf0 hf1 hf2 hf3; have BK := Aside0.mk hbk; have hy0 : w5.cell? ⟨g14, 0, none⟩ = some (.int .i64 ((rd_T34 l0 i).f0)) := (blk_cell hbk 0).trans rfl; have hy1 : w5.cell? ⟨g14, 1, none⟩ = some (.int .u8 ((rd_T34 l0 i).f1)) := (blk_cell hbk 1).trans rfl; have hy2 : w5.cell? ⟨g14, 2, none⟩ = some (.int .i64 ((rd_T34 l0 i).f2)) := (blk_cell hbk 2).trans rfl; have hy3 : w5.cell? ⟨g14, 3, none⟩ = some (.int .i64 ((rd_T34 l0 i).f3)) := (blk_cell hbk 3).trans rfl; clear hx0 hx1 hx2 hx3; have n0_ := Aside0.mk (MapB.below HM.out hq); have n1_ := Aside0.mk (below_step HB.out hq); clear HM HB GE; have HM := n0_; have HB := n1_; clear n0_ n1_; have hrun := MapB.look HM.out d2; rw [d3] at hrun; clear hq hbk) | (go_at_call 20; refine (guichetref12_two.calls k4 _ _ _ _ _ _ A3.out).mono ?_; rintro e w7 ⟨rfl, hb⟩; have n0_ := Aside0.mk (MapB.below HM.out hb); have n1_ := Aside0.mk (below_step HB.out hb); have n2_ := Aside0.mk (blk_below BK.out hb); clear HM HB BK hb; have HM := n0_; have HB := n1_; have BK := n2_; clear n0_ n1_ n2_; have hv0 : w7.cell? ⟨g14, 0, none⟩ = some (.int .i64 ((rd_T34 l0 i).f0)) := (blk_cell BK.out 0).trans rfl; have hv1 : w7.cell? ⟨g14, 1, none⟩ = some (.int .u8 ((rd_T34 l0 i).f1)) := (blk_cell BK.out 1).trans rfl; have hv2 : w7.cell? ⟨g14, 2, none⟩ = some (.int .i64 ((rd_T34 l0 i).f2)) := (blk_cell BK.out 2).trans rfl; have hv3 : w7.cell? ⟨g14, 3, none⟩ = some (.int .i64 ((rd_T34 l0 i).f3)) := (blk_cell BK.out 3).trans rfl; have hrun3 := MapB.look HM.out d4; rw [d5] at hrun3))
                     go_roundg k4
                     case measure => have := HK.out; have := HK2.out; have := HK3.out; have := HK4.out; omega
                     case rel => exact ⟨wrap64 (i + 1), M, n, (by first | rfl | (simp; done) | (simp [*]; done)), H', ⟨by have := HK4.out; omega⟩, HM, ⟨by have := HN.out; have := HAA.out; have := HLB.out; have := c1a.out; unfold wrap64; omega⟩, HB⟩
                   ·rw [if_neg d4] at H; cases H
                ·rw [if_neg d2] at H; cases H
              ·rw [if_neg d1] at H; cases H
             ·rw [if_neg c2] at H; cases H
            ·rw [if_neg c1] at H
             have c1b : decide (i < (l0.length : Int)) = false := decide_eq_false c1
             have H' := Aside0.mk H
             clear H c1
             go_wp2
             go_roundg k4
             case measure => have := HK.out; have := HK2.out; have := HK3.out; have := HK4.out; omega
             case rel => exact ⟨wrap64 (a + 1), M, n, (by first | rfl | (simp; done) | (simp [*]; done)), H', ⟨by have := HK4.out; have := HK3.out; omega⟩, HM, ⟨by have := HN.out; have := HAA.out; have := HLB.out; unfold wrap64; omega⟩, HB⟩
         ·rw [if_neg c1] at H
          have c1b : decide (a ≤ (l0.length : Int)) = false := decide_eq_false c1
          have H' := Aside0.mk H
          clear H c1
          go_wp2
          clear c1b
          go_loopg [15] k3 (fun kq v15 w' => ∃ (i : Int), v15 = .int .i64 i ∧ Aside0 (guichetref12_Check.l5 kq l0 M i = some (r1, r2)) ∧ Aside0 (kq ≤ k3) ∧ Aside0 (MapB w' m n M) ∧ Aside0 (Below w.heap.size w w'))
          case atStart => exact ⟨0, rfl, H', ⟨Nat.le_refl _⟩, HM, HB⟩
          case round =>
           clear H' HM HB HN
           obtain ⟨i, rfl, HA, HK4, HM, HB⟩ := hrel
           cases gk with
           | zero => exact absurd HA.out (by simp [guichetref12_Check.l5])
           | succ k4 =>
            have H := HA.out
            clear HA
            simp only [guichetref12_Check.l5] at H
            by_cases c1 : i < (l0.length : Int)
            ·rw [if_pos c1] at H
             by_cases c2 : 0 ≤ i
             ·rw [if_pos c2] at H
              by_cases d1 : (Lit.int .i64 ((rd_T34 l0 i).f0)).wf = true
              ·rw [if_pos d1] at H
               obtain ⟨ad, e_, hx0, hx1, hx2, hx3⟩ := at_T34 HR0.out i c2 c1
               cases e_
               have c1b : decide (i < (l0.length : Int)) = true := decide_eq_true c1
               have c1a := Aside0.mk (And.intro c2 c1)
               have c1e := eq_true c1
               have c2e := eq_true c2
               replace hx0 := (HB.out.cell (World.block_lt_of_cell? w _ hx0)).trans hx0
               replace hx1 := (HB.out.cell (World.block_lt_of_cell? w _ hx1)).trans hx1
               replace hx2 := (HB.out.cell (World.block_lt_of_cell? w _ hx2)).trans hx2
               replace hx3 := (HB.out.cell (World.block_lt_of_cell? w _ hx3)).trans hx3
               clear c1 c2
               have hrun := MapB.look HM.out d1
               by_cases d3 : M ((rd_T34 l0 i).f0) = true
               ·rw [if_pos d3] at H
                rw [d3] at hrun
                have H' := Aside0.mk H
                clear H
                go_wp2
                go_roundg k4
                case measure => have := HK.out; have := HK2.out; have := HK3.out; have := HK4.out; omega
                case rel => exact ⟨wrap64 (i + 1), (by first | rfl | (simp; done) | (simp [*]; done)), H', ⟨by have := HK4.out; omega⟩, HM, HB⟩
               ·rw [if_neg d3] at H
                replace d3 : M ((rd_T34 l0 i).f0) = false := Bool.eq_false_iff.mpr d3
                rw [d3] at hrun
                obtain ⟨rfl, rfl⟩ := Prod.mk.inj (Option.some.inj H)
                clear H
                go_wp2
                refine bodyPost_ret (results_tmp2 rfl _ _ _) rfl ?_
                exact ⟨rfl, HB.out⟩
              ·rw [if_neg d1] at H; cases H
             ·rw [if_neg c2] at H; cases H
            ·rw [if_neg c1] at H
             have c1b : decide (i < (l0.length : Int)) = false := decide_eq_false c1
             obtain ⟨rfl, rfl⟩ := Prod.mk.inj (Option.some.inj H)
             clear H c1
             go_wp2
             refine bodyPost_ret (results_tmp2 rfl _ _ _) rfl ?_
             exact ⟨rfl, HB.out⟩


end Go.Proofs.YthajndlkibpncaaDoor.PAll
