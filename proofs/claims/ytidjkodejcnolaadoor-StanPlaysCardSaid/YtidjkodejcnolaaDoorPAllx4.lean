-- written by xprint.py out of the translation. Not trusted: Lean checks it.
import Derived.Test.YtidjkodejcnolaaDoorPAllx0
import Derived.Test.YtidjkodejcnolaaDoorPAllx2
namespace Go.Proofs.YtidjkodejcnolaaDoor.PAll
open Go.RowKit Go.Proofs.YtidjkodejcnolaaDoorW.PrintWords Go.Proofs.YtidjkodejcnolaaDoorW.PrintLast Go.Proofs.YtidjkodejcnolaaDoorW.PrintMore
attribute [local go_sem] max2_int min2_int max_two min_two max_three min_three max_four min_four   -- for this text's walks alone
set_option linter.unusedVariables false
set_option linter.unusedSimpArgs false

/-! ### guichetlaw10_StanPlays: function 5 -/
/-! #### package stan's book: what was seen is noted -/
section
def sawM (M : Int → Int) (t s : Int) : Int → Int := if s ≤ 999999 ∧ M t < s then updM M t s else M
theorem IsBook.mono {W : World} {g m n n' : Nat} {M : Int → Int} (h : IsBook W g m n M) (hn : n ≤ n') : IsBook W g m n' M := by
 obtain ⟨h1, h2, D, h3, h4⟩ := h
 exact ⟨h1, h2, D, h3.mono hn, h4⟩
theorem MapN.mono {W : World} {m n n' : Nat} {M : Int → Int} (h : MapN W m n M) (hn : n ≤ n') : MapN W m n' M := by
 obtain ⟨D, h3, h4⟩ := h
 exact ⟨D, h3.mono hn, h4⟩
set_option maxHeartbeats 8000000 in
set_option maxRecDepth 100000 in
theorem stan_Saw.calls (g m n : Nat) (M : Int → Int) (t s : Int) (w : World) (h : IsBook w g m n M) (hn : n < maxLen) (ht : (Lit.int .u16 t).wf = true) (hs : (Lit.int .u32 s).wf = true) : Calls Tryd.prog 15 #[.pointer (some ⟨g, 0, none⟩), .agg #[.int .u16 t, .int .u32 s]] w fun e w' => e = .returned (.tuple #[]) ∧ IsBook w' g m (n + 1) (sawM M t s) ∧ w.grownBy w' (some m) := by
 have hu52 := Tryd.underlying52
 have hu25 := Tryd.underlying25
 by_cases c1 : s ≤ 999999
 ·have c1b0 : decide (s ≤ 999999) = true := decide_eq_true c1
  by_cases c2 : M t < s
  ·have c2b0 : decide (M t < s) = true := decide_eq_true c2
   have hM : sawM M t s = updM M t s := if_pos ⟨c1, c2⟩
   rw [hM]
   clear hM c1 c2
   go_enter Tryd.func15, Tryd.ntmps15
   go_wp2_with (first | ((with_reducible refine gate_dst (N := 3) rfl ?_); refine box_event ?hg (N := 3) ?hd (cs := #[.int .u16 t, .int .u32 s]) (t := 25) ?hr ?_; (case hd => rfl); (case hg => rfl); (case hr => first | (go_simp; done) | (go_simp; rfl)); intro gb hgb w1 hbox hb; have hbm : gb ≠ m := (by rw [hgb]; exact Nat.ne_of_gt h.2.2.lt); clear hgb; have h1 := h.below hb; have hc : w1.cell? ⟨g, 0, none⟩ = some (.map (some m)) := (blk_cell h1.1 0).trans rfl; have hz0 : w1.cell? ⟨gb, 0, none⟩ = some (.int .u16 t) := (blk_cell hbox 0).trans rfl; have hz1 : w1.cell? ⟨gb, 1, none⟩ = some (.int .u32 s) := (blk_cell hbox 1).trans rfl; obtain ⟨hrun, hwm⟩ := MapN.look (W := w1.drew) h1.2.2 ht; obtain ⟨w2, hupd, hm2, hgr⟩ := MapN.upd (W := w1.drew.drew) h1.2.2 hn ht hs; have hgr1 : w1.grownBy w2 (some m) := ⟨hgr.os, hgr.tape, hgr.output, hgr.size, hgr.block⟩; have h2 := h1.turned hgr1 hm2; have hne := Aside0.mk (show gb ≠ m from hbm); have hbox2 : w2.heap[gb]? = some (.cells #[.int .u16 t, .int .u32 s] 25 (0, 0)) := (hgr1.block gb (blk_lt hbox) (fun e => hbm (Option.some.inj e))).trans hbox; have hc2 : w2.cell? ⟨g, 0, none⟩ = some (.map (some m)) := (blk_cell h2.1 0).trans rfl; have hy0 : w2.cell? ⟨gb, 0, none⟩ = some (.int .u16 t) := (blk_cell hbox2 0).trans rfl; have hy1 : w2.cell? ⟨gb, 1, none⟩ = some (.int .u32 s) := (blk_cell hbox2 1).trans rfl))
   go_region_held3 (fun w' => w'.cell? ⟨gb, 0, none⟩ = some (.int .u16 t) ∧ w'.cell? ⟨gb, 1, none⟩ = some (.int .u32 s) ∧ w'.cell? ⟨g, 0, none⟩ = some (.map (some m))) (go_keep) (fail)
   all_goals go_wp2
   all_goals go_region_held3 (fun w' => w'.cell? ⟨gb, 0, none⟩ = some (.int .u16 t) ∧ w'.cell? ⟨gb, 1, none⟩ = some (.int .u32 s) ∧ w'.cell? ⟨g, 0, none⟩ = some (.map (some m))) (go_keep) (fail)
   all_goals go_wp2
   all_goals first | go_end0 | ((try simp only [Exit.inBlock, Exit.then]); refine bodyPost_ret (results_none rfl _ _ _) rfl ?_)
   all_goals exact ⟨rfl, h2, ⟨hgr1.os.trans hb.os, hgr1.tape.trans hb.tape, hgr1.output.trans hb.output, Nat.le_trans hb.size hgr1.size, fun k hk hne => (hgr1.block k (Nat.lt_of_lt_of_le hk hb.size) hne).trans (hb.block k hk)⟩⟩
  ·have c2b0 : decide (M t < s) = false := decide_eq_false c2
   have hM : sawM M t s = M := if_neg (fun h_ => c2 h_.2)
   rw [hM]
   clear hM c1 c2
   go_enter Tryd.func15, Tryd.ntmps15
   go_wp2_with (first | ((with_reducible refine gate_dst (N := 3) rfl ?_); refine box_event ?hg (N := 3) ?hd (cs := #[.int .u16 t, .int .u32 s]) (t := 25) ?hr ?_; (case hd => rfl); (case hg => rfl); (case hr => first | (go_simp; done) | (go_simp; rfl)); intro gb hgb w1 hbox hb; have hbm : gb ≠ m := (by rw [hgb]; exact Nat.ne_of_gt h.2.2.lt); clear hgb; have h1 := h.below hb; have hc : w1.cell? ⟨g, 0, none⟩ = some (.map (some m)) := (blk_cell h1.1 0).trans rfl; have hz0 : w1.cell? ⟨gb, 0, none⟩ = some (.int .u16 t) := (blk_cell hbox 0).trans rfl; have hz1 : w1.cell? ⟨gb, 1, none⟩ = some (.int .u32 s) := (blk_cell hbox 1).trans rfl; obtain ⟨hrun, hwm⟩ := MapN.look (W := w1.drew) h1.2.2 ht))
   go_region_held3 (fun w' => w'.cell? ⟨gb, 0, none⟩ = some (.int .u16 t) ∧ w'.cell? ⟨gb, 1, none⟩ = some (.int .u32 s) ∧ w'.cell? ⟨g, 0, none⟩ = some (.map (some m))) (go_keep) (fail)
   all_goals go_wp2
   all_goals first | go_end0 | ((try simp only [Exit.inBlock, Exit.then]); refine bodyPost_ret (results_none rfl _ _ _) rfl ?_)
   all_goals exact ⟨rfl, h1.mono (Nat.le_succ n), ⟨hb.os, hb.tape, hb.output, hb.size, fun k hk _ => hb.block k hk⟩⟩
 ·have c1b0 : decide (s ≤ 999999) = false := decide_eq_false c1
  have hM : sawM M t s = M := if_neg (fun h_ => c1 h_.1)
  rw [hM]
  clear hM c1
  go_enter Tryd.func15, Tryd.ntmps15
  go_wp2_with (first | ((with_reducible refine gate_dst (N := 3) rfl ?_); refine box_event ?hg (N := 3) ?hd (cs := #[.int .u16 t, .int .u32 s]) (t := 25) ?hr ?_; (case hd => rfl); (case hg => rfl); (case hr => first | (go_simp; done) | (go_simp; rfl)); intro gb hgb w1 hbox hb; have hbm : gb ≠ m := (by rw [hgb]; exact Nat.ne_of_gt h.2.2.lt); clear hgb; have h1 := h.below hb; have hc : w1.cell? ⟨g, 0, none⟩ = some (.map (some m)) := (blk_cell h1.1 0).trans rfl; have hz0 : w1.cell? ⟨gb, 0, none⟩ = some (.int .u16 t) := (blk_cell hbox 0).trans rfl; have hz1 : w1.cell? ⟨gb, 1, none⟩ = some (.int .u32 s) := (blk_cell hbox 1).trans rfl; obtain ⟨hrun, hwm⟩ := MapN.look (W := w1.drew) h1.2.2 ht))
  refine start_ (n := 15) (S := fun w' => w'.cell? ⟨gb, 1, none⟩ = some (.int .u32 s)) (ds := []) #[false, false, false, false, false, false, false, false, false, false, false, false, false, false, false] (by kernel_rfl) rfl rfl (hz1) (fun hHeld => ?_)
  refine pure_ (i := 0) (N := some 4) (v := ?_) (a' := ?_) #[true, false, false, false, false, false, false, false, false, false, false, false, false, false, false] rfl rfl (by kernel_rfl) (fun _ _ _ h => h) (Or.inl ⟨by rfl, ?_⟩) ?_ ?_
  rotate_left
  ·intro w'
   go_simp
   with_reducible rfl
  rotate_left
  ·simp only [Act.put, List.setIfInBounds_toArray, List.set_cons_zero, List.set_cons_succ, i64_w, i32_w]
   rfl
  refine take_ (i := 1) (N := some 5) (v := ?_) (a' := ?_) #[true, true, false, false, false, false, false, false, false, false, false, false, false, false, false] rfl rfl (by kernel_rfl) (fun _ _ _ h => h) (Or.inl ⟨by rfl, ?_⟩) hHeld ?_ ?_
  rotate_left
  ·intro w' s0
   go_simp
   with_reducible rfl
  rotate_left
  ·simp only [Act.put, List.setIfInBounds_toArray, List.set_cons_zero, List.set_cons_succ, i64_w, i32_w]
   rfl
  refine pure_ (i := 2) (N := some 6) (v := ?_) (a' := ?_) #[true, true, true, false, false, false, false, false, false, false, false, false, false, false, false] rfl rfl (by kernel_rfl) (fun _ _ _ h => h) (Or.inl ⟨by rfl, ?_⟩) ?_ ?_
  rotate_left
  ·intro w'
   go_simp
   with_reducible rfl
  rotate_left
  ·simp only [Act.put, List.setIfInBounds_toArray, List.set_cons_zero, List.set_cons_succ, i64_w, i32_w]
   rfl
  refine pure_ (i := 3) (N := some 7) (v := ?_) (a' := ?_) #[true, true, true, true, false, false, false, false, false, false, false, false, false, false, false] rfl rfl (by kernel_rfl) (fun _ _ _ h => h) (Or.inl ⟨by rfl, ?_⟩) ?_ ?_
  rotate_left
  ·intro w'
   go_simp
   with_reducible rfl
  rotate_left
  ·simp only [Act.put, List.setIfInBounds_toArray, List.set_cons_zero, List.set_cons_succ, i64_w, i32_w]
   rfl
  refine pure_ (i := 4) (N := some 8) (v := undef) (a' := ?_) #[true, true, true, true, true, false, false, false, false, false, false, false, false, false, false] rfl rfl (by kernel_rfl) (fun _ _ _ h => h) (Or.inr ⟨by rfl, rfl⟩) ?_ ?_
  rotate_left
  ·simp only [Act.put, List.setIfInBounds_toArray, List.set_cons_zero, List.set_cons_succ, i64_w, i32_w]
   rfl
  refine pure_ (i := 5) (N := some 9) (v := undef) (a' := ?_) #[true, true, true, true, true, true, false, false, false, false, false, false, false, false, false] rfl rfl (by kernel_rfl) (fun _ _ _ h => h) (Or.inr ⟨by rfl, rfl⟩) ?_ ?_
  rotate_left
  ·simp only [Act.put, List.setIfInBounds_toArray, List.set_cons_zero, List.set_cons_succ, i64_w, i32_w]
   rfl
  refine pure_ (i := 6) (N := some 10) (v := undef) (a' := ?_) #[true, true, true, true, true, true, true, false, false, false, false, false, false, false, false] rfl rfl (by kernel_rfl) (fun _ _ _ h => h) (Or.inr ⟨by rfl, rfl⟩) ?_ ?_
  rotate_left
  ·simp only [Act.put, List.setIfInBounds_toArray, List.set_cons_zero, List.set_cons_succ, i64_w, i32_w]
   rfl
  refine pure_ (i := 7) (N := some 11) (v := undef) (a' := ?_) #[true, true, true, true, true, true, true, true, false, false, false, false, false, false, false] rfl rfl (by kernel_rfl) (fun _ _ _ h => h) (Or.inr ⟨by rfl, rfl⟩) ?_ ?_
  rotate_left
  ·simp only [Act.put, List.setIfInBounds_toArray, List.set_cons_zero, List.set_cons_succ, i64_w, i32_w]
   rfl
  refine pure_ (i := 8) (N := some 12) (v := undef) (a' := ?_) #[true, true, true, true, true, true, true, true, true, false, false, false, false, false, false] rfl rfl (by kernel_rfl) (fun _ _ _ h => h) (Or.inr ⟨by rfl, rfl⟩) ?_ ?_
  rotate_left
  ·simp only [Act.put, List.setIfInBounds_toArray, List.set_cons_zero, List.set_cons_succ, i64_w, i32_w]
   rfl
  refine pure_ (i := 9) (N := some 13) (v := undef) (a' := ?_) #[true, true, true, true, true, true, true, true, true, true, false, false, false, false, false] rfl rfl (by kernel_rfl) (fun _ _ _ h => h) (Or.inr ⟨by rfl, rfl⟩) ?_ ?_
  rotate_left
  ·simp only [Act.put, List.setIfInBounds_toArray, List.set_cons_zero, List.set_cons_succ, i64_w, i32_w]
   rfl
  refine pure_ (i := 10) (N := some 14) (v := undef) (a' := ?_) #[true, true, true, true, true, true, true, true, true, true, true, false, false, false, false] rfl rfl (by kernel_rfl) (fun _ _ _ h => h) (Or.inr ⟨by rfl, rfl⟩) ?_ ?_
  rotate_left
  ·simp only [Act.put, List.setIfInBounds_toArray, List.set_cons_zero, List.set_cons_succ, i64_w, i32_w]
   rfl
  refine pure_ (i := 11) (N := some 15) (v := undef) (a' := ?_) #[true, true, true, true, true, true, true, true, true, true, true, true, false, false, false] rfl rfl (by kernel_rfl) (fun _ _ _ h => h) (Or.inr ⟨by rfl, rfl⟩) ?_ ?_
  rotate_left
  ·simp only [Act.put, List.setIfInBounds_toArray, List.set_cons_zero, List.set_cons_succ, i64_w, i32_w]
   rfl
  refine pure_ (i := 12) (N := some 16) (v := undef) (a' := ?_) #[true, true, true, true, true, true, true, true, true, true, true, true, true, false, false] rfl rfl (by kernel_rfl) (fun _ _ _ h => h) (Or.inr ⟨by rfl, rfl⟩) ?_ ?_
  rotate_left
  ·simp only [Act.put, List.setIfInBounds_toArray, List.set_cons_zero, List.set_cons_succ, i64_w, i32_w]
   rfl
  refine pure_ (i := 13) (N := some 17) (v := undef) (a' := ?_) #[true, true, true, true, true, true, true, true, true, true, true, true, true, true, false] rfl rfl (by kernel_rfl) (fun _ _ _ h => h) (Or.inr ⟨by rfl, rfl⟩) ?_ ?_
  rotate_left
  ·simp only [Act.put, List.setIfInBounds_toArray, List.set_cons_zero, List.set_cons_succ, i64_w, i32_w]
   rfl
  refine pure_ (i := 14) (N := some 18) (v := ?_) (a' := ?_) #[true, true, true, true, true, true, true, true, true, true, true, true, true, true, true] rfl rfl (by kernel_rfl) (fun _ _ _ h => h) (Or.inl ⟨by rfl, ?_⟩) ?_ ?_
  rotate_left
  ·intro w'
   go_simp
   with_reducible rfl
  rotate_left
  ·simp only [Act.put, List.setIfInBounds_toArray, List.set_cons_zero, List.set_cons_succ, i64_w, i32_w]
   rfl
  refine done_ (by kernel_rfl) ?_
  all_goals go_wp2
  all_goals first | go_end0 | ((try simp only [Exit.inBlock, Exit.then]); refine bodyPost_ret (results_none rfl _ _ _) rfl ?_)
  all_goals exact ⟨rfl, h1.mono (Nat.le_succ n), ⟨hb.os, hb.tape, hb.output, hb.size, fun k hk _ => hb.block k hk⟩⟩
end
theorem updM_same (M : Int → Int) (t v : Int) : updM M t v t = v := if_pos rfl
theorem updM_twice (M : Int → Int) (t u v : Int) : updM (updM M t u) t v = updM M t v := by
 funext k
 unfold updM
 split <;> rfl
/-- All numbers are numbers. -/
def BD (M : Int → Int) : Prop := ∀ k, 0 ≤ M k ∧ M k ≤ 999999
theorem BD.upd {M : Int → Int} (h : BD M) {t v : Int} (h0 : 0 ≤ v) (h1 : v ≤ 999999) : BD (updM M t v) := fun k => by
 unfold updM
 split
 ·exact ⟨h0, h1⟩
 ·exact h k
theorem nxt_bd {v : Int} (h : 0 ≤ v) : 0 ≤ nxt v ∧ nxt v ≤ 999999 := by unfold nxt; omega
theorem wf16_rem {t : Int} (h : (Lit.int .u16 t).wf = true) : (Lit.int .u16 (Int.tmod t 3)).wf = true := by
 simp [Lit.wf, IntKind.min, IntKind.max, IntKind.bits, IntKind.signed] at h ⊢
 rw [Int.tmod_eq_emod_of_nonneg h.1]
 omega
theorem wf32_sub {s : Int} (h : (Lit.int .u32 s).wf = true) : (Lit.int .u32 (999999 - Int.tmod s 3)).wf = true ∧ IntKind.u32.wrap (999999 - Int.tmod s 3) = 999999 - Int.tmod s 3 := by
 simp [Lit.wf, IntKind.min, IntKind.max, IntKind.bits, IntKind.signed] at h ⊢
 rw [Int.tmod_eq_emod_of_nonneg h.1, IntKind.wrap_u32]
 omega
theorem wf32_of {v : Int} (h0 : 0 ≤ v) (h1 : v ≤ 1000000) : (Lit.int .u32 v).wf = true := by
 simp [Lit.wf, IntKind.min, IntKind.max, IntKind.bits, IntKind.signed]
 omega
theorem up_small {v : Int} (h0 : 0 ≤ v) (h1 : v + 1 ≤ 999999) : IntKind.u32.wrap (v + 1) = nxt v := by
 rw [IntKind.wrap_u32]
 unfold nxt
 omega
theorem up_big {v : Int} (h0 : v ≤ 999999) (h1 : ¬ v + 1 ≤ 999999) (h2 : 0 ≤ v) : IntKind.u32.wrap (v + 1) = 1000000 ∧ nxt v = 1 := by
 rw [IntKind.wrap_u32]
 unfold nxt
 omega
theorem heap_set3 (W : World) (gb : Nat) (u v x : Value) (k : Nat) (h : k ≠ gb) : (((W.setCell ⟨gb, 0, none⟩ u).setCell ⟨gb, 1, none⟩ v).setCell ⟨gb, 2, none⟩ x).heap[k]? = W.heap[k]? := (Below.heap_setCell _ ⟨gb, 2, none⟩ x k h).trans ((Below.heap_setCell _ ⟨gb, 1, none⟩ v k h).trans (Below.heap_setCell _ ⟨gb, 0, none⟩ u k h))
def guichetlaw10_StanPlays.Pure : Prop := ∃ k, guichetlaw10_known.f k = some true
attribute [local go_sem high] eqK25
set_option maxHeartbeats 16000000 in
set_option maxRecDepth 100000 in
theorem guichetlaw10_StanPlays.walk (P : guichetlaw10_StanPlays.Pure) (a0 : Option Addr) (cap0 : Nat) (l0 : List S41) (w : World) (hT : TAB w) (hr0 : Kd.C k41 w a0 l0.length l0) (hc0 : l0.length ≤ cap0) (hm0 : l0.length ≤ maxLen) (hw0 : ∀ x ∈ l0, (Lit.int .u8 x.f0).wf = true ∧ (Lit.int .u16 x.f1).wf = true ∧ (Lit.int .u32 x.f2).wf = true) :
  Calls Tryd.prog 5 #[.slice a0 l0.length cap0] w fun e w' => e = .returned (.bool true) ∧ Below w.heap.size w w' := by
 have hu41 := Tryd.underlying41
 have hu25 := Tryd.underlying25
 obtain ⟨k, hk⟩ := P
 have HT := Aside0.mk hT
 have HR0 := Aside0.mk hr0
 have HW0 := Aside0.mk hw0
 have HKN := Aside0.mk hk
 clear hT hr0 hw0 hk hm0
 have HB := Aside0.mk (Below.refl w.heap.size w)
 by_cases cl : 100 < (l0.length : Int)
 ·have clb : decide (100 < (l0.length : Int)) = true := decide_eq_true cl
  clear cl
  go_enter Tryd.func5, Tryd.ntmps5
  go_wp2_with (first | (go_at_call 6; refine (guichetlaw10_known.calls k true _ (tab_at HT.out HB.out) HKN.out).mono ?_; rintro e w1 ⟨rfl, hb⟩; have n1_ := Aside0.mk (below_step HB.out hb); clear HB hb; have HB := n1_; clear n1_))
  go_ret
  exact ⟨rfl, HB.out⟩
 have clb : decide (100 < (l0.length : Int)) = false := decide_eq_false cl
 have CL := Aside0.mk cl
 clear cl
 have hmk := fun (W : World) => run_makeMap (P := Tryd.prog) 39 W
 go_enter Tryd.func5, Tryd.ntmps5
 go_wp2_with (first
  | (go_at_call 6; refine (guichetlaw10_known.calls k true _ (tab_at HT.out HB.out) HKN.out).mono ?_; rintro e w1 ⟨rfl, hb⟩; have n1_ := Aside0.mk (below_step HB.out hb); clear HB hb; have HB := n1_; clear n1_)
  | (go_at_call 14; refine (stan_New.calls _).mono ?_; rintro e w2 ⟨g, m, rfl, hbk, hg1, hm1, hb⟩; have HK := Aside0.mk hbk; have n1_ := Aside0.mk (below_step HB.out hb); have HG := Aside0.mk (show w.heap.size ≤ g from Nat.le_trans (below_size HB.out) hg1); have HM := Aside0.mk (show w.heap.size ≤ m from Nat.le_trans (below_size HB.out) hm1); clear HB hbk hb hg1 hm1; have HB := n1_; clear n1_))
 clear hmk
 have HL : Aside0 (∃ ml : Nat, ml = w2.heap.size ∧ w.heap.size ≤ ml ∧ ml ≠ g ∧ ml ≠ m) := ⟨⟨_, rfl, below_size HB.out, Nat.ne_of_gt (blk_lt HK.out.1), Nat.ne_of_gt HK.out.2.2.lt⟩⟩
 obtain ⟨ml, hml, HLW, HLG, HLM⟩ := HL.out
 clear HL
 have n0_ := Aside0.mk (HK.out.below (below_alloc (Below.refl _ w2) (.map #[] 0)))
 have n1_ : Aside0 (MapN (w2.alloc (.map #[] 0)) ml 0 (fun _ => 0)) := ⟨by rw [hml]; exact MapN.made w2⟩
 have n2_ := Aside0.mk (below_alloc HB.out (.map #[] 0))
 rw [← hml]
 clear HK HB hml
 have HK := n0_
 have HL := n1_
 have HB := n2_
 clear n0_ n1_ n2_
 generalize w2.alloc (.map #[] 0) = ws at HK HL HB ⊢
 have HLW := Aside0.mk HLW
 have HLG := Aside0.mk HLG
 have HLM := Aside0.mk HLM
 go_loopg [5] (l0.length + 1) (fun kq v5 w' => ∃ i : Int, v5 = .int .i64 i ∧ Aside0 (0 ≤ i ∧ i + kq = l0.length + 1) ∧ Aside0 (kq ≤ l0.length + 1) ∧ Aside0 (∃ (M : Int → Int) (n : Nat), (n : Int) ≤ 2 * i ∧ IsBook w' g m n M ∧ MapN w' ml n M ∧ BD M) ∧ Aside0 (Below w.heap.size w w'))
 case atStart => exact ⟨0, rfl, ⟨by omega⟩, ⟨Nat.le_refl _⟩, ⟨(fun _ => 0), 0, by omega, HK.out, HL.out, fun _ => ⟨Int.le_refl 0, (by decide : (0 : Int) ≤ 999999)⟩⟩, HB⟩
 case round =>
  clear HK HL HB
  obtain ⟨i, rfl, HI, HK1, HMM, HB⟩ := hrel
  cases gk with
  | zero =>
   by_cases c4 : i < (l0.length : Int)
   ·exact absurd HI.out (by omega)
   ·have c4b : decide (i < (l0.length : Int)) = false := decide_eq_false c4
    clear c4
    go_wp2
    go_ret
    exact ⟨rfl, HB.out⟩
  | succ k1 =>
   by_cases c4 : i < (l0.length : Int)
   case neg =>
    have c4b : decide (i < (l0.length : Int)) = false := decide_eq_false c4
    clear c4
    go_wp2
    go_ret
    exact ⟨rfl, HB.out⟩
   have c4b : decide (i < (l0.length : Int)) = true := decide_eq_true c4
   obtain ⟨M, n, hn, hbk, hmn, hbd⟩ := HMM.out
   have hnm : n + 1 + 1 < maxLen := by have := HI.out; have := CL.out; unfold maxLen; omega
   have HK := Aside0.mk hbk
   have HL := Aside0.mk hmn
   have HD := Aside0.mk hbd
   have HN := Aside0.mk hn
   have HNM := Aside0.mk hnm
   clear hbk hmn hbd hn hnm HMM
   have p1 : 0 ≤ i := HI.out.1
   have hmem : rd_T41 l0 i ∈ l0 := by
    obtain ⟨j, rfl⟩ := Int.eq_ofNat_of_zero_le p1
    have hj : j < l0.length := by omega
    have : rd_T41 l0 (j : Int) = l0[j] := by simp [rd_T41, List.getD_eq_getElem?_getD, List.getElem?_eq_getElem hj]
    rw [this]
    exact List.getElem_mem hj
   obtain ⟨wf0, wf1, wf2⟩ := HW0.out _ hmem
   have WF1 := Aside0.mk wf1
   have WF2 := Aside0.mk wf2
   clear wf0 wf1 wf2 hmem
   obtain ⟨ad, ead, hx0, hx1, hx2⟩ := at_T41 HR0.out i p1 c4
   cases ead
   replace hx0 := pw_cell_below HB.out hx0
   replace hx1 := pw_cell_below HB.out hx1
   replace hx2 := pw_cell_below HB.out hx2
   have p1b := eq_true p1
   have q1b := eq_true c4
   clear c4 p1
   generalize rd_T41 l0 i = x at hx0 hx1 hx2 WF1 WF2
   obtain ⟨x0, x1, x2⟩ := x
   dsimp only at hx0 hx1 hx2 WF1 WF2
   by_cases c3 : 0 < Int.tmod i 3
   case pos =>
    have c3b : decide (0 < Int.tmod i 3) = true := decide_eq_true c3
    clear c3
    have HTW : Aside0 ((Lit.int .u16 (Int.tmod x1 3)).wf = true) := ⟨wf16_rem WF1.out⟩
    have HMT := Aside0.mk (HD.out (Int.tmod x1 3))
    by_cases c5 : Int.tmod x0 4 = 0
    case neg =>
     have c5b : (Int.tmod x0 4 == 0) = false := beq_eq_false_iff_ne.mpr c5
     clear c5
     by_cases c6 : M (Int.tmod x1 3) + 1 ≤ 999999
     case pos =>
      have hup := up_small HMT.out.1 c6
      have c7b : decide (999999 < nxt (M (Int.tmod x1 3))) = false := decide_eq_false (by have := (nxt_bd HMT.out.1).2; omega)
      clear c6
      go_wp2_with (first | ((with_reducible refine gate_dst (N := 6) rfl ?_); refine box_event ?hg (N := 6) ?hd (cs := #[.int .u8 0, .int .u16 0, .int .u32 0]) (t := 41) ?hr ?_; (case hd => rfl); (case hg => rfl); (case hr => first | (go_simp; done) | (go_simp; rfl)); intro gb hgb wa hbox hb; have n0_ := Aside0.mk (HK.out.below hb); have n1_ := Aside0.mk (HL.out.kept (hb.block ml HL.out.lt)); have n2_ := Aside0.mk (below_step HB.out hb); have BK := Aside0.mk hbox; have GE := Aside0.mk (show w.heap.size ≤ gb from by rw [hgb]; exact below_size HB.out); have hgg : g ≠ gb := (by rw [hgb]; exact Nat.ne_of_lt (blk_lt HK.out.1)); have hgm : m ≠ gb := (by rw [hgb]; exact Nat.ne_of_lt HK.out.2.2.lt); have hgl : ml ≠ gb := (by rw [hgb]; exact Nat.ne_of_lt HL.out.lt); clear HK HL HB hb hbox hgb; have HK := n0_; have HL := n1_; have HB := n2_; clear n0_ n1_ n2_; have hz0 : wa.cell? ⟨gb, 0, none⟩ = some (.int .u8 0) := (blk_cell BK.out 0).trans rfl; have hz1 : wa.cell? ⟨gb, 1, none⟩ = some (.int .u16 0) := (blk_cell BK.out 1).trans rfl; have hz2 : wa.cell? ⟨gb, 2, none⟩ = some (.int .u32 0) := (blk_cell BK.out 2).trans rfl; have hf0 := blk_frozen BK.out 0; have hf1 := blk_frozen BK.out 1; have hf2 := blk_frozen BK.out 2) | ((with_reducible refine gate_store (t := 41) (p := 6) rfl ?_); refine store_event (t := 41) (p := 6) (v := ?vo) (w1 := ((wa.setCell ⟨gb, 0, none⟩ (.int .u8 x0)).setCell ⟨gb, 1, none⟩ (.int .u16 x1)).setCell ⟨gb, 2, none⟩ (.int .u32 x2)) ?hg ?ho ?hn ?hr ?_; (case ho => rfl); (case hg => rfl); (case hn => rfl); (case hr => first | (go_simp; done) | (go_simp; rfl)); intro wb hw; have n0_ : Aside0 (IsBook wb g m n M) := ⟨by rw [hw]; exact HK.out.kept (heap_set3 wa gb _ _ _ g hgg) (heap_set3 wa gb _ _ _ m hgm)⟩; have n1_ : Aside0 (MapN wb ml n M) := ⟨by rw [hw]; exact HL.out.kept (heap_set3 wa gb _ _ _ ml hgl)⟩; have n2_ : Aside0 (Below w.heap.size w wb) := ⟨by rw [hw]; exact below_set (below_set (below_set HB.out GE.out) GE.out) GE.out⟩; have n3_ : Aside0 (wb.heap[gb]? = some (.cells #[.int .u8 x0, .int .u16 x1, .int .u32 x2] 41 (0, 0))) := ⟨by rw [hw]; exact blk_put (cs := #[.int .u8 x0, .int .u16 x1, .int .u32 0]) (blk_put (cs := #[.int .u8 x0, .int .u16 0, .int .u32 0]) (blk_put (cs := #[.int .u8 0, .int .u16 0, .int .u32 0]) BK.out 0 _ rfl) 1 _ rfl) 2 _ rfl⟩; clear HK HL HB BK hw hz0 hz1 hz2 hf0 hf1 hf2; have HK := n0_; have HL := n1_; have HB := n2_; have BK := n3_; clear n0_ n1_ n2_ n3_; have hz0 : wb.cell? ⟨gb, 0, none⟩ = some (.int .u8 x0) := (blk_cell BK.out 0).trans rfl; have hz1 : wb.cell? ⟨gb, 1, none⟩ = some (.int .u16 x1) := (blk_cell BK.out 1).trans rfl; have hz2 : wb.cell? ⟨gb, 2, none⟩ = some (.int .u32 x2) := (blk_cell BK.out 2).trans rfl; have hq1 := (MapN.look (W := wb) HL.out HTW.out).1; obtain ⟨wc, hupd, hmc, hgc⟩ := MapN.upd (W := wb) HL.out (Nat.lt_of_succ_lt (Nat.lt_of_succ_lt HNM.out)) HTW.out (v := nxt (M (Int.tmod x1 3))) (wf32_of (nxt_bd HMT.out.1).1 (by have := (nxt_bd HMT.out.1).2; omega)); have n0_ := Aside0.mk (HK.out.kept (hgc.block g (blk_lt HK.out.1) (fun e => HLG.out (Option.some.inj e).symm)) (hgc.block m HK.out.2.2.lt (fun e => HLM.out (Option.some.inj e).symm))); have n1_ := Aside0.mk hmc; have n2_ := Aside0.mk (HB.out.grown hgc (below_size HB.out) (fun k hk => by injection hk with hk; rw [← hk]; exact HLW.out)); clear HK HL HB BK hmc hgc; have HK := n0_; have HL := n1_; have HB := n2_; clear n0_ n1_ n2_; have hq2 := (MapN.look (W := wc) HL.out HTW.out).1; rw [updM_same] at hq2; have hq3 := (MapN.look (W := wc.drew) HL.out HTW.out).1; rw [updM_same] at hq3))
      go_region_with (first | (go_at_call 16; refine (stan_Next.calls g m n M (Int.tmod x1 3) _ ?hbk (Nat.lt_of_succ_lt (Nat.lt_of_succ_lt HNM.out)) HTW.out).mono ?_; (case hbk => exact HK.out); rintro e we ⟨rfl, hbk, hgr⟩; have n0_ := Aside0.mk (hbk.mono (Nat.le_succ (n + 1))); have n1_ := Aside0.mk ((MapN.kept (W := wc.drew) HL.out (hgr.block ml HL.out.lt (fun e => HLM.out (Option.some.inj e)))).mono (show n + 1 ≤ n + 1 + 1 by omega)); have n2_ := Aside0.mk (Below.grown (w := wc.drew) (below_drew1 HB.out) hgr (below_size (below_drew1 HB.out)) (fun k hk => by injection hk with hk; rw [← hk]; exact HM.out)); clear HK HL HB hbk hgr; have HK := n0_; have HL := n1_; have HB := n2_; clear n0_ n1_ n2_; have hq4 := (MapN.look (W := we) HL.out HTW.out).1; have hq5 := (MapN.look (W := we.drew) HL.out HTW.out).1; rw [updM_same] at hq4 hq5))
      all_goals go_wp2
      all_goals go_region_with (first | (go_at_call 17; refine (stan_Last.at (nxt (M (Int.tmod x1 3))) g m (n + 1 + 1) (updM M (Int.tmod x1 3) (nxt (M (Int.tmod x1 3)))) (Int.tmod x1 3) _ ?hbk HTW.out (updM_same _ _ _)).mono ?_; (case hbk => exact HK.out); rintro e wz ⟨rfl, rfl⟩))
      all_goals go_wp2
      all_goals go_roundg k1
      all_goals first | (have := HK1.out; omega) | (exact ⟨_, rfl, ⟨by have := HI.out; have := of_eq_true q1b; have := CL.out; unfold wrap64; omega⟩, ⟨by have := HK1.out; omega⟩, ⟨updM M (Int.tmod x1 3) (nxt (M (Int.tmod x1 3))), n + 1 + 1, by have := HN.out; have := HI.out; have := of_eq_true q1b; have := CL.out; unfold wrap64; omega, HK.out, HL.out, HD.out.upd (nxt_bd HMT.out.1).1 (nxt_bd HMT.out.1).2⟩, ⟨by first | exact HB.out | exact below_drew1 HB.out⟩⟩)
     case neg =>
      obtain ⟨hup, hn1⟩ := up_big HMT.out.2 c6 HMT.out.1
      clear c6
      go_wp2_with (first | ((with_reducible refine gate_dst (N := 6) rfl ?_); refine box_event ?hg (N := 6) ?hd (cs := #[.int .u8 0, .int .u16 0, .int .u32 0]) (t := 41) ?hr ?_; (case hd => rfl); (case hg => rfl); (case hr => first | (go_simp; done) | (go_simp; rfl)); intro gb hgb wa hbox hb; have n0_ := Aside0.mk (HK.out.below hb); have n1_ := Aside0.mk (HL.out.kept (hb.block ml HL.out.lt)); have n2_ := Aside0.mk (below_step HB.out hb); have BK := Aside0.mk hbox; have GE := Aside0.mk (show w.heap.size ≤ gb from by rw [hgb]; exact below_size HB.out); have hgg : g ≠ gb := (by rw [hgb]; exact Nat.ne_of_lt (blk_lt HK.out.1)); have hgm : m ≠ gb := (by rw [hgb]; exact Nat.ne_of_lt HK.out.2.2.lt); have hgl : ml ≠ gb := (by rw [hgb]; exact Nat.ne_of_lt HL.out.lt); clear HK HL HB hb hbox hgb; have HK := n0_; have HL := n1_; have HB := n2_; clear n0_ n1_ n2_; have hz0 : wa.cell? ⟨gb, 0, none⟩ = some (.int .u8 0) := (blk_cell BK.out 0).trans rfl; have hz1 : wa.cell? ⟨gb, 1, none⟩ = some (.int .u16 0) := (blk_cell BK.out 1).trans rfl; have hz2 : wa.cell? ⟨gb, 2, none⟩ = some (.int .u32 0) := (blk_cell BK.out 2).trans rfl; have hf0 := blk_frozen BK.out 0; have hf1 := blk_frozen BK.out 1; have hf2 := blk_frozen BK.out 2) | ((with_reducible refine gate_store (t := 41) (p := 6) rfl ?_); refine store_event (t := 41) (p := 6) (v := ?vo) (w1 := ((wa.setCell ⟨gb, 0, none⟩ (.int .u8 x0)).setCell ⟨gb, 1, none⟩ (.int .u16 x1)).setCell ⟨gb, 2, none⟩ (.int .u32 x2)) ?hg ?ho ?hn ?hr ?_; (case ho => rfl); (case hg => rfl); (case hn => rfl); (case hr => first | (go_simp; done) | (go_simp; rfl)); intro wb hw; have n0_ : Aside0 (IsBook wb g m n M) := ⟨by rw [hw]; exact HK.out.kept (heap_set3 wa gb _ _ _ g hgg) (heap_set3 wa gb _ _ _ m hgm)⟩; have n1_ : Aside0 (MapN wb ml n M) := ⟨by rw [hw]; exact HL.out.kept (heap_set3 wa gb _ _ _ ml hgl)⟩; have n2_ : Aside0 (Below w.heap.size w wb) := ⟨by rw [hw]; exact below_set (below_set (below_set HB.out GE.out) GE.out) GE.out⟩; have n3_ : Aside0 (wb.heap[gb]? = some (.cells #[.int .u8 x0, .int .u16 x1, .int .u32 x2] 41 (0, 0))) := ⟨by rw [hw]; exact blk_put (cs := #[.int .u8 x0, .int .u16 x1, .int .u32 0]) (blk_put (cs := #[.int .u8 x0, .int .u16 0, .int .u32 0]) (blk_put (cs := #[.int .u8 0, .int .u16 0, .int .u32 0]) BK.out 0 _ rfl) 1 _ rfl) 2 _ rfl⟩; clear HK HL HB BK hw hz0 hz1 hz2 hf0 hf1 hf2; have HK := n0_; have HL := n1_; have HB := n2_; have BK := n3_; clear n0_ n1_ n2_ n3_; have hz0 : wb.cell? ⟨gb, 0, none⟩ = some (.int .u8 x0) := (blk_cell BK.out 0).trans rfl; have hz1 : wb.cell? ⟨gb, 1, none⟩ = some (.int .u16 x1) := (blk_cell BK.out 1).trans rfl; have hz2 : wb.cell? ⟨gb, 2, none⟩ = some (.int .u32 x2) := (blk_cell BK.out 2).trans rfl; have hq1 := (MapN.look (W := wb) HL.out HTW.out).1; obtain ⟨wc, hupd, hmc, hgc⟩ := MapN.upd (W := wb) HL.out (Nat.lt_of_succ_lt (Nat.lt_of_succ_lt HNM.out)) HTW.out (v := 1000000) (by decide); have n0_ := Aside0.mk (HK.out.kept (hgc.block g (blk_lt HK.out.1) (fun e => HLG.out (Option.some.inj e).symm)) (hgc.block m HK.out.2.2.lt (fun e => HLM.out (Option.some.inj e).symm))); have n1_ := Aside0.mk hmc; have n2_ := Aside0.mk (HB.out.grown hgc (below_size HB.out) (fun k hk => by injection hk with hk; rw [← hk]; exact HLW.out)); clear HK HL HB BK hmc hgc; have HK := n0_; have HL := n1_; have HB := n2_; clear n0_ n1_ n2_; have hq2 := (MapN.look (W := wc) HL.out HTW.out).1; rw [updM_same] at hq2; obtain ⟨wd, hupd2, hmd, hgd⟩ := MapN.upd (W := wc) HL.out (Nat.lt_of_succ_lt HNM.out) HTW.out (v := 1) (by decide); rw [updM_twice] at hmd; have n0_ := Aside0.mk (HK.out.kept (hgd.block g (blk_lt HK.out.1) (fun e => HLG.out (Option.some.inj e).symm)) (hgd.block m HK.out.2.2.lt (fun e => HLM.out (Option.some.inj e).symm))); have n1_ := Aside0.mk hmd; have n2_ := Aside0.mk (HB.out.grown hgd (below_size HB.out) (fun k hk => by injection hk with hk; rw [← hk]; exact HLW.out)); clear HK HL HB hmd hgd; have HK := n0_; have HL := n1_; have HB := n2_; clear n0_ n1_ n2_; have hq3 := (MapN.look (W := wd.drew) HL.out HTW.out).1; rw [updM_same] at hq3))
      go_region_with (first | (go_at_call 16; refine (stan_Next.calls g m n M (Int.tmod x1 3) _ ?hbk (Nat.lt_of_succ_lt (Nat.lt_of_succ_lt HNM.out)) HTW.out).mono ?_; (case hbk => exact HK.out); rintro e we ⟨rfl, hbk, hgr⟩; have n0_ := Aside0.mk (hbk.mono (Nat.le_succ (n + 1))); have n1_ := Aside0.mk ((MapN.kept (W := wd.drew) HL.out (hgr.block ml HL.out.lt (fun e => HLM.out (Option.some.inj e)))).mono (show n + 1 + 1 ≤ n + 1 + 1 by omega)); have n2_ := Aside0.mk (Below.grown (w := wd.drew) (below_drew1 HB.out) hgr (below_size (below_drew1 HB.out)) (fun k hk => by injection hk with hk; rw [← hk]; exact HM.out)); clear HK HL HB hbk hgr; have HK := n0_; have HL := n1_; have HB := n2_; clear n0_ n1_ n2_; have hq4 := (MapN.look (W := we) HL.out HTW.out).1; have hq5 := (MapN.look (W := we.drew) HL.out HTW.out).1; rw [updM_same] at hq4 hq5; rw [hn1] at HK ⊢))
      all_goals go_wp2
      all_goals go_region_with (first | (go_at_call 17; refine (stan_Last.at (1) g m (n + 1 + 1) (updM M (Int.tmod x1 3) 1) (Int.tmod x1 3) _ ?hbk HTW.out (updM_same _ _ _)).mono ?_; (case hbk => exact HK.out); rintro e wz ⟨rfl, rfl⟩))
      all_goals go_wp2
      all_goals go_roundg k1
      all_goals first | (have := HK1.out; omega) | (exact ⟨_, rfl, ⟨by have := HI.out; have := of_eq_true q1b; have := CL.out; unfold wrap64; omega⟩, ⟨by have := HK1.out; omega⟩, ⟨updM M (Int.tmod x1 3) 1, n + 1 + 1, by have := HN.out; have := HI.out; have := of_eq_true q1b; have := CL.out; unfold wrap64; omega, HK.out, HL.out, HD.out.upd (by decide) (by decide)⟩, ⟨by first | exact HB.out | exact below_drew1 HB.out⟩⟩)
    case pos =>
     have c5b : (Int.tmod x0 4 == 0) = true := beq_iff_eq.mpr c5
     clear c5
     by_cases c8 : Int.tmod x0 8 = 0
     case pos =>
      have c8b : (Int.tmod x0 8 == 0) = true := beq_iff_eq.mpr c8
      clear c8
      obtain ⟨hsw, hsub⟩ := wf32_sub WF2.out
      have HSW := Aside0.mk hsw
      clear hsw
      by_cases c9 : M (Int.tmod x1 3) < (999999 - Int.tmod x2 3)
      case pos =>
       have c9b : decide (M (Int.tmod x1 3) < (999999 - Int.tmod x2 3)) = true := decide_eq_true c9
       by_cases cx : (999999 - Int.tmod x2 3) ≤ 999999
       case pos =>
        have cxb : decide ((999999 - Int.tmod x2 3) ≤ 999999) = true := decide_eq_true cx
        have hSM : sawM M (Int.tmod x1 3) (999999 - Int.tmod x2 3) = updM M (Int.tmod x1 3) (999999 - Int.tmod x2 3) := if_pos ⟨cx, c9⟩
        have HSM := Aside0.mk hSM
        clear hSM
        have HCX := Aside0.mk (show 0 ≤ (999999 - Int.tmod x2 3) ∧ (999999 - Int.tmod x2 3) ≤ 999999 from ⟨by have := HMT.out.1; omega, cx⟩)
        clear c9 cx
        go_wp2_with (first | ((with_reducible refine gate_dst (N := 6) rfl ?_); refine box_event ?hg (N := 6) ?hd (cs := #[.int .u8 0, .int .u16 0, .int .u32 0]) (t := 41) ?hr ?_; (case hd => rfl); (case hg => rfl); (case hr => first | (go_simp; done) | (go_simp; rfl)); intro gb hgb wa hbox hb; have n0_ := Aside0.mk (HK.out.below hb); have n1_ := Aside0.mk (HL.out.kept (hb.block ml HL.out.lt)); have n2_ := Aside0.mk (below_step HB.out hb); have BK := Aside0.mk hbox; have GE := Aside0.mk (show w.heap.size ≤ gb from by rw [hgb]; exact below_size HB.out); have hgg : g ≠ gb := (by rw [hgb]; exact Nat.ne_of_lt (blk_lt HK.out.1)); have hgm : m ≠ gb := (by rw [hgb]; exact Nat.ne_of_lt HK.out.2.2.lt); have hgl : ml ≠ gb := (by rw [hgb]; exact Nat.ne_of_lt HL.out.lt); clear HK HL HB hb hbox hgb; have HK := n0_; have HL := n1_; have HB := n2_; clear n0_ n1_ n2_; have hz0 : wa.cell? ⟨gb, 0, none⟩ = some (.int .u8 0) := (blk_cell BK.out 0).trans rfl; have hz1 : wa.cell? ⟨gb, 1, none⟩ = some (.int .u16 0) := (blk_cell BK.out 1).trans rfl; have hz2 : wa.cell? ⟨gb, 2, none⟩ = some (.int .u32 0) := (blk_cell BK.out 2).trans rfl; have hf0 := blk_frozen BK.out 0; have hf1 := blk_frozen BK.out 1; have hf2 := blk_frozen BK.out 2) | ((with_reducible refine gate_store (t := 41) (p := 6) rfl ?_); refine store_event (t := 41) (p := 6) (v := ?vo) (w1 := ((wa.setCell ⟨gb, 0, none⟩ (.int .u8 x0)).setCell ⟨gb, 1, none⟩ (.int .u16 x1)).setCell ⟨gb, 2, none⟩ (.int .u32 x2)) ?hg ?ho ?hn ?hr ?_; (case ho => rfl); (case hg => rfl); (case hn => rfl); (case hr => first | (go_simp; done) | (go_simp; rfl)); intro wb hw; have n0_ : Aside0 (IsBook wb g m n M) := ⟨by rw [hw]; exact HK.out.kept (heap_set3 wa gb _ _ _ g hgg) (heap_set3 wa gb _ _ _ m hgm)⟩; have n1_ : Aside0 (MapN wb ml n M) := ⟨by rw [hw]; exact HL.out.kept (heap_set3 wa gb _ _ _ ml hgl)⟩; have n2_ : Aside0 (Below w.heap.size w wb) := ⟨by rw [hw]; exact below_set (below_set (below_set HB.out GE.out) GE.out) GE.out⟩; have n3_ : Aside0 (wb.heap[gb]? = some (.cells #[.int .u8 x0, .int .u16 x1, .int .u32 x2] 41 (0, 0))) := ⟨by rw [hw]; exact blk_put (cs := #[.int .u8 x0, .int .u16 x1, .int .u32 0]) (blk_put (cs := #[.int .u8 x0, .int .u16 0, .int .u32 0]) (blk_put (cs := #[.int .u8 0, .int .u16 0, .int .u32 0]) BK.out 0 _ rfl) 1 _ rfl) 2 _ rfl⟩; clear HK HL HB BK hw hz0 hz1 hz2 hf0 hf1 hf2; have HK := n0_; have HL := n1_; have HB := n2_; have BK := n3_; clear n0_ n1_ n2_ n3_; have hz0 : wb.cell? ⟨gb, 0, none⟩ = some (.int .u8 x0) := (blk_cell BK.out 0).trans rfl; have hz1 : wb.cell? ⟨gb, 1, none⟩ = some (.int .u16 x1) := (blk_cell BK.out 1).trans rfl; have hz2 : wb.cell? ⟨gb, 2, none⟩ = some (.int .u32 x2) := (blk_cell BK.out 2).trans rfl) | (go_at_call 15; refine (stan_Saw.calls g m n M (Int.tmod x1 3) (999999 - Int.tmod x2 3) _ HK.out (Nat.lt_of_succ_lt (Nat.lt_of_succ_lt HNM.out)) HTW.out HSW.out).mono ?_; rintro e wc ⟨rfl, hbk, hgr⟩; rw [HSM.out] at hbk; have n0_ := Aside0.mk (hbk.mono (Nat.le_succ (n + 1))); have n1_ := Aside0.mk (HL.out.kept (hgr.block ml HL.out.lt (fun e => HLM.out (Option.some.inj e)))); have n2_ := Aside0.mk (HB.out.grown hgr (below_size HB.out) (fun k hk => by injection hk with hk; rw [← hk]; exact HM.out)); clear HK HL HB BK hbk hgr; have HK := n0_; have HL := n1_; have HB := n2_; clear n0_ n1_ n2_; have hq1 := (MapN.look (W := wc) HL.out HTW.out).1; obtain ⟨wd, hupd, hmc, hgc⟩ := MapN.upd (W := wc) HL.out (Nat.lt_of_succ_lt (Nat.lt_of_succ_lt HNM.out)) HTW.out (v := (999999 - Int.tmod x2 3)) HSW.out; have n0_ := Aside0.mk (HK.out.kept (hgc.block g (blk_lt HK.out.1) (fun e => HLG.out (Option.some.inj e).symm)) (hgc.block m HK.out.2.2.lt (fun e => HLM.out (Option.some.inj e).symm))); have n1_ := Aside0.mk (hmc.mono (Nat.le_succ (n + 1))); have n2_ := Aside0.mk (HB.out.grown hgc (below_size HB.out) (fun k hk => by injection hk with hk; rw [← hk]; exact HLW.out)); clear HK HL HB hmc hgc; have HK := n0_; have HL := n1_; have HB := n2_; clear n0_ n1_ n2_; have hq2 := (MapN.look (W := wd.drew) HL.out HTW.out).1))
        go_region_with (first | (go_at_call 17; refine (stan_Last.calls g m (n + 1 + 1) (updM M (Int.tmod x1 3) (999999 - Int.tmod x2 3)) (Int.tmod x1 3) _ ?hbk HTW.out).mono ?_; (case hbk => exact HK.out); rintro e wz ⟨rfl, rfl⟩))
        all_goals go_wp2
        all_goals go_roundg k1
        all_goals first | (have := HK1.out; omega) | (exact ⟨_, rfl, ⟨by have := HI.out; have := of_eq_true q1b; have := CL.out; unfold wrap64; omega⟩, ⟨by have := HK1.out; omega⟩, ⟨updM M (Int.tmod x1 3) (999999 - Int.tmod x2 3), n + 1 + 1, by have := HN.out; have := HI.out; have := of_eq_true q1b; have := CL.out; unfold wrap64; omega, HK.out, HL.out, HD.out.upd HCX.out.1 HCX.out.2⟩, ⟨by first | exact HB.out | exact below_drew1 HB.out⟩⟩)
       case neg =>
        have cxb : decide ((999999 - Int.tmod x2 3) ≤ 999999) = false := decide_eq_false cx
        have hSM : sawM M (Int.tmod x1 3) (999999 - Int.tmod x2 3) = M := if_neg (fun h_ => cx h_.1)
        have HSM := Aside0.mk hSM
        clear hSM
        clear c9 cx
        go_wp2_with (first | ((with_reducible refine gate_dst (N := 6) rfl ?_); refine box_event ?hg (N := 6) ?hd (cs := #[.int .u8 0, .int .u16 0, .int .u32 0]) (t := 41) ?hr ?_; (case hd => rfl); (case hg => rfl); (case hr => first | (go_simp; done) | (go_simp; rfl)); intro gb hgb wa hbox hb; have n0_ := Aside0.mk (HK.out.below hb); have n1_ := Aside0.mk (HL.out.kept (hb.block ml HL.out.lt)); have n2_ := Aside0.mk (below_step HB.out hb); have BK := Aside0.mk hbox; have GE := Aside0.mk (show w.heap.size ≤ gb from by rw [hgb]; exact below_size HB.out); have hgg : g ≠ gb := (by rw [hgb]; exact Nat.ne_of_lt (blk_lt HK.out.1)); have hgm : m ≠ gb := (by rw [hgb]; exact Nat.ne_of_lt HK.out.2.2.lt); have hgl : ml ≠ gb := (by rw [hgb]; exact Nat.ne_of_lt HL.out.lt); clear HK HL HB hb hbox hgb; have HK := n0_; have HL := n1_; have HB := n2_; clear n0_ n1_ n2_; have hz0 : wa.cell? ⟨gb, 0, none⟩ = some (.int .u8 0) := (blk_cell BK.out 0).trans rfl; have hz1 : wa.cell? ⟨gb, 1, none⟩ = some (.int .u16 0) := (blk_cell BK.out 1).trans rfl; have hz2 : wa.cell? ⟨gb, 2, none⟩ = some (.int .u32 0) := (blk_cell BK.out 2).trans rfl; have hf0 := blk_frozen BK.out 0; have hf1 := blk_frozen BK.out 1; have hf2 := blk_frozen BK.out 2) | ((with_reducible refine gate_store (t := 41) (p := 6) rfl ?_); refine store_event (t := 41) (p := 6) (v := ?vo) (w1 := ((wa.setCell ⟨gb, 0, none⟩ (.int .u8 x0)).setCell ⟨gb, 1, none⟩ (.int .u16 x1)).setCell ⟨gb, 2, none⟩ (.int .u32 x2)) ?hg ?ho ?hn ?hr ?_; (case ho => rfl); (case hg => rfl); (case hn => rfl); (case hr => first | (go_simp; done) | (go_simp; rfl)); intro wb hw; have n0_ : Aside0 (IsBook wb g m n M) := ⟨by rw [hw]; exact HK.out.kept (heap_set3 wa gb _ _ _ g hgg) (heap_set3 wa gb _ _ _ m hgm)⟩; have n1_ : Aside0 (MapN wb ml n M) := ⟨by rw [hw]; exact HL.out.kept (heap_set3 wa gb _ _ _ ml hgl)⟩; have n2_ : Aside0 (Below w.heap.size w wb) := ⟨by rw [hw]; exact below_set (below_set (below_set HB.out GE.out) GE.out) GE.out⟩; have n3_ : Aside0 (wb.heap[gb]? = some (.cells #[.int .u8 x0, .int .u16 x1, .int .u32 x2] 41 (0, 0))) := ⟨by rw [hw]; exact blk_put (cs := #[.int .u8 x0, .int .u16 x1, .int .u32 0]) (blk_put (cs := #[.int .u8 x0, .int .u16 0, .int .u32 0]) (blk_put (cs := #[.int .u8 0, .int .u16 0, .int .u32 0]) BK.out 0 _ rfl) 1 _ rfl) 2 _ rfl⟩; clear HK HL HB BK hw hz0 hz1 hz2 hf0 hf1 hf2; have HK := n0_; have HL := n1_; have HB := n2_; have BK := n3_; clear n0_ n1_ n2_ n3_; have hz0 : wb.cell? ⟨gb, 0, none⟩ = some (.int .u8 x0) := (blk_cell BK.out 0).trans rfl; have hz1 : wb.cell? ⟨gb, 1, none⟩ = some (.int .u16 x1) := (blk_cell BK.out 1).trans rfl; have hz2 : wb.cell? ⟨gb, 2, none⟩ = some (.int .u32 x2) := (blk_cell BK.out 2).trans rfl) | (go_at_call 15; refine (stan_Saw.calls g m n M (Int.tmod x1 3) (999999 - Int.tmod x2 3) _ HK.out (Nat.lt_of_succ_lt (Nat.lt_of_succ_lt HNM.out)) HTW.out HSW.out).mono ?_; rintro e wc ⟨rfl, hbk, hgr⟩; rw [HSM.out] at hbk; have n0_ := Aside0.mk (hbk.mono (Nat.le_succ (n + 1))); have n1_ := Aside0.mk (HL.out.kept (hgr.block ml HL.out.lt (fun e => HLM.out (Option.some.inj e)))); have n2_ := Aside0.mk (HB.out.grown hgr (below_size HB.out) (fun k hk => by injection hk with hk; rw [← hk]; exact HM.out)); clear HK HL HB BK hbk hgr; have HK := n0_; have HL := n1_; have HB := n2_; clear n0_ n1_ n2_; have hq1 := (MapN.look (W := wc) HL.out HTW.out).1; have n1_ := Aside0.mk (HL.out.mono (show n ≤ n + 1 + 1 by omega)); clear HL; have HL := n1_; clear n1_; have hq2 := (MapN.look (W := wc.drew) HL.out HTW.out).1))
        go_region_with (first | (go_at_call 17; refine (stan_Last.calls g m (n + 1 + 1) (M) (Int.tmod x1 3) _ ?hbk HTW.out).mono ?_; (case hbk => exact HK.out); rintro e wz ⟨rfl, rfl⟩))
        all_goals go_wp2
        all_goals go_roundg k1
        all_goals first | (have := HK1.out; omega) | (exact ⟨_, rfl, ⟨by have := HI.out; have := of_eq_true q1b; have := CL.out; unfold wrap64; omega⟩, ⟨by have := HK1.out; omega⟩, ⟨M, n + 1 + 1, by have := HN.out; have := HI.out; have := of_eq_true q1b; have := CL.out; unfold wrap64; omega, HK.out, HL.out, HD.out⟩, ⟨by first | exact HB.out | exact below_drew1 HB.out⟩⟩)
      case neg =>
       have c9b : decide (M (Int.tmod x1 3) < (999999 - Int.tmod x2 3)) = false := decide_eq_false c9
       have hSM : sawM M (Int.tmod x1 3) (999999 - Int.tmod x2 3) = M := if_neg (fun h_ => c9 h_.2)
       have HSM := Aside0.mk hSM
       clear hSM
       clear c9
       go_wp2_with (first | ((with_reducible refine gate_dst (N := 6) rfl ?_); refine box_event ?hg (N := 6) ?hd (cs := #[.int .u8 0, .int .u16 0, .int .u32 0]) (t := 41) ?hr ?_; (case hd => rfl); (case hg => rfl); (case hr => first | (go_simp; done) | (go_simp; rfl)); intro gb hgb wa hbox hb; have n0_ := Aside0.mk (HK.out.below hb); have n1_ := Aside0.mk (HL.out.kept (hb.block ml HL.out.lt)); have n2_ := Aside0.mk (below_step HB.out hb); have BK := Aside0.mk hbox; have GE := Aside0.mk (show w.heap.size ≤ gb from by rw [hgb]; exact below_size HB.out); have hgg : g ≠ gb := (by rw [hgb]; exact Nat.ne_of_lt (blk_lt HK.out.1)); have hgm : m ≠ gb := (by rw [hgb]; exact Nat.ne_of_lt HK.out.2.2.lt); have hgl : ml ≠ gb := (by rw [hgb]; exact Nat.ne_of_lt HL.out.lt); clear HK HL HB hb hbox hgb; have HK := n0_; have HL := n1_; have HB := n2_; clear n0_ n1_ n2_; have hz0 : wa.cell? ⟨gb, 0, none⟩ = some (.int .u8 0) := (blk_cell BK.out 0).trans rfl; have hz1 : wa.cell? ⟨gb, 1, none⟩ = some (.int .u16 0) := (blk_cell BK.out 1).trans rfl; have hz2 : wa.cell? ⟨gb, 2, none⟩ = some (.int .u32 0) := (blk_cell BK.out 2).trans rfl; have hf0 := blk_frozen BK.out 0; have hf1 := blk_frozen BK.out 1; have hf2 := blk_frozen BK.out 2) | ((with_reducible refine gate_store (t := 41) (p := 6) rfl ?_); refine store_event (t := 41) (p := 6) (v := ?vo) (w1 := ((wa.setCell ⟨gb, 0, none⟩ (.int .u8 x0)).setCell ⟨gb, 1, none⟩ (.int .u16 x1)).setCell ⟨gb, 2, none⟩ (.int .u32 x2)) ?hg ?ho ?hn ?hr ?_; (case ho => rfl); (case hg => rfl); (case hn => rfl); (case hr => first | (go_simp; done) | (go_simp; rfl)); intro wb hw; have n0_ : Aside0 (IsBook wb g m n M) := ⟨by rw [hw]; exact HK.out.kept (heap_set3 wa gb _ _ _ g hgg) (heap_set3 wa gb _ _ _ m hgm)⟩; have n1_ : Aside0 (MapN wb ml n M) := ⟨by rw [hw]; exact HL.out.kept (heap_set3 wa gb _ _ _ ml hgl)⟩; have n2_ : Aside0 (Below w.heap.size w wb) := ⟨by rw [hw]; exact below_set (below_set (below_set HB.out GE.out) GE.out) GE.out⟩; have n3_ : Aside0 (wb.heap[gb]? = some (.cells #[.int .u8 x0, .int .u16 x1, .int .u32 x2] 41 (0, 0))) := ⟨by rw [hw]; exact blk_put (cs := #[.int .u8 x0, .int .u16 x1, .int .u32 0]) (blk_put (cs := #[.int .u8 x0, .int .u16 0, .int .u32 0]) (blk_put (cs := #[.int .u8 0, .int .u16 0, .int .u32 0]) BK.out 0 _ rfl) 1 _ rfl) 2 _ rfl⟩; clear HK HL HB BK hw hz0 hz1 hz2 hf0 hf1 hf2; have HK := n0_; have HL := n1_; have HB := n2_; have BK := n3_; clear n0_ n1_ n2_ n3_; have hz0 : wb.cell? ⟨gb, 0, none⟩ = some (.int .u8 x0) := (blk_cell BK.out 0).trans rfl; have hz1 : wb.cell? ⟨gb, 1, none⟩ = some (.int .u16 x1) := (blk_cell BK.out 1).trans rfl; have hz2 : wb.cell? ⟨gb, 2, none⟩ = some (.int .u32 x2) := (blk_cell BK.out 2).trans rfl) | (go_at_call 15; refine (stan_Saw.calls g m n M (Int.tmod x1 3) (999999 - Int.tmod x2 3) _ HK.out (Nat.lt_of_succ_lt (Nat.lt_of_succ_lt HNM.out)) HTW.out HSW.out).mono ?_; rintro e wc ⟨rfl, hbk, hgr⟩; rw [HSM.out] at hbk; have n0_ := Aside0.mk (hbk.mono (Nat.le_succ (n + 1))); have n1_ := Aside0.mk (HL.out.kept (hgr.block ml HL.out.lt (fun e => HLM.out (Option.some.inj e)))); have n2_ := Aside0.mk (HB.out.grown hgr (below_size HB.out) (fun k hk => by injection hk with hk; rw [← hk]; exact HM.out)); clear HK HL HB BK hbk hgr; have HK := n0_; have HL := n1_; have HB := n2_; clear n0_ n1_ n2_; have hq1 := (MapN.look (W := wc) HL.out HTW.out).1; have n1_ := Aside0.mk (HL.out.mono (show n ≤ n + 1 + 1 by omega)); clear HL; have HL := n1_; clear n1_; have hq2 := (MapN.look (W := wc.drew) HL.out HTW.out).1))
       go_region_with (first | (go_at_call 17; refine (stan_Last.calls g m (n + 1 + 1) (M) (Int.tmod x1 3) _ ?hbk HTW.out).mono ?_; (case hbk => exact HK.out); rintro e wz ⟨rfl, rfl⟩))
       all_goals go_wp2
       all_goals go_roundg k1
       all_goals first | (have := HK1.out; omega) | (exact ⟨_, rfl, ⟨by have := HI.out; have := of_eq_true q1b; have := CL.out; unfold wrap64; omega⟩, ⟨by have := HK1.out; omega⟩, ⟨M, n + 1 + 1, by have := HN.out; have := HI.out; have := of_eq_true q1b; have := CL.out; unfold wrap64; omega, HK.out, HL.out, HD.out⟩, ⟨by first | exact HB.out | exact below_drew1 HB.out⟩⟩)
     case neg =>
      have c8b : (Int.tmod x0 8 == 0) = false := beq_eq_false_iff_ne.mpr c8
      clear c8
      have HSW := Aside0.mk WF2.out
      by_cases c9 : M (Int.tmod x1 3) < x2
      case pos =>
       have c9b : decide (M (Int.tmod x1 3) < x2) = true := decide_eq_true c9
       by_cases cx : x2 ≤ 999999
       case pos =>
        have cxb : decide (x2 ≤ 999999) = true := decide_eq_true cx
        have hSM : sawM M (Int.tmod x1 3) x2 = updM M (Int.tmod x1 3) x2 := if_pos ⟨cx, c9⟩
        have HSM := Aside0.mk hSM
        clear hSM
        have HCX := Aside0.mk (show 0 ≤ x2 ∧ x2 ≤ 999999 from ⟨by have := HMT.out.1; omega, cx⟩)
        clear c9 cx
        go_wp2_with (first | ((with_reducible refine gate_dst (N := 6) rfl ?_); refine box_event ?hg (N := 6) ?hd (cs := #[.int .u8 0, .int .u16 0, .int .u32 0]) (t := 41) ?hr ?_; (case hd => rfl); (case hg => rfl); (case hr => first | (go_simp; done) | (go_simp; rfl)); intro gb hgb wa hbox hb; have n0_ := Aside0.mk (HK.out.below hb); have n1_ := Aside0.mk (HL.out.kept (hb.block ml HL.out.lt)); have n2_ := Aside0.mk (below_step HB.out hb); have BK := Aside0.mk hbox; have GE := Aside0.mk (show w.heap.size ≤ gb from by rw [hgb]; exact below_size HB.out); have hgg : g ≠ gb := (by rw [hgb]; exact Nat.ne_of_lt (blk_lt HK.out.1)); have hgm : m ≠ gb := (by rw [hgb]; exact Nat.ne_of_lt HK.out.2.2.lt); have hgl : ml ≠ gb := (by rw [hgb]; exact Nat.ne_of_lt HL.out.lt); clear HK HL HB hb hbox hgb; have HK := n0_; have HL := n1_; have HB := n2_; clear n0_ n1_ n2_; have hz0 : wa.cell? ⟨gb, 0, none⟩ = some (.int .u8 0) := (blk_cell BK.out 0).trans rfl; have hz1 : wa.cell? ⟨gb, 1, none⟩ = some (.int .u16 0) := (blk_cell BK.out 1).trans rfl; have hz2 : wa.cell? ⟨gb, 2, none⟩ = some (.int .u32 0) := (blk_cell BK.out 2).trans rfl; have hf0 := blk_frozen BK.out 0; have hf1 := blk_frozen BK.out 1; have hf2 := blk_frozen BK.out 2) | ((with_reducible refine gate_store (t := 41) (p := 6) rfl ?_); refine store_event (t := 41) (p := 6) (v := ?vo) (w1 := ((wa.setCell ⟨gb, 0, none⟩ (.int .u8 x0)).setCell ⟨gb, 1, none⟩ (.int .u16 x1)).setCell ⟨gb, 2, none⟩ (.int .u32 x2)) ?hg ?ho ?hn ?hr ?_; (case ho => rfl); (case hg => rfl); (case hn => rfl); (case hr => first | (go_simp; done) | (go_simp; rfl)); intro wb hw; have n0_ : Aside0 (IsBook wb g m n M) := ⟨by rw [hw]; exact HK.out.kept (heap_set3 wa gb _ _ _ g hgg) (heap_set3 wa gb _ _ _ m hgm)⟩; have n1_ : Aside0 (MapN wb ml n M) := ⟨by rw [hw]; exact HL.out.kept (heap_set3 wa gb _ _ _ ml hgl)⟩; have n2_ : Aside0 (Below w.heap.size w wb) := ⟨by rw [hw]; exact below_set (below_set (below_set HB.out GE.out) GE.out) GE.out⟩; have n3_ : Aside0 (wb.heap[gb]? = some (.cells #[.int .u8 x0, .int .u16 x1, .int .u32 x2] 41 (0, 0))) := ⟨by rw [hw]; exact blk_put (cs := #[.int .u8 x0, .int .u16 x1, .int .u32 0]) (blk_put (cs := #[.int .u8 x0, .int .u16 0, .int .u32 0]) (blk_put (cs := #[.int .u8 0, .int .u16 0, .int .u32 0]) BK.out 0 _ rfl) 1 _ rfl) 2 _ rfl⟩; clear HK HL HB BK hw hz0 hz1 hz2 hf0 hf1 hf2; have HK := n0_; have HL := n1_; have HB := n2_; have BK := n3_; clear n0_ n1_ n2_ n3_; have hz0 : wb.cell? ⟨gb, 0, none⟩ = some (.int .u8 x0) := (blk_cell BK.out 0).trans rfl; have hz1 : wb.cell? ⟨gb, 1, none⟩ = some (.int .u16 x1) := (blk_cell BK.out 1).trans rfl; have hz2 : wb.cell? ⟨gb, 2, none⟩ = some (.int .u32 x2) := (blk_cell BK.out 2).trans rfl) | (go_at_call 15; refine (stan_Saw.calls g m n M (Int.tmod x1 3) x2 _ HK.out (Nat.lt_of_succ_lt (Nat.lt_of_succ_lt HNM.out)) HTW.out HSW.out).mono ?_; rintro e wc ⟨rfl, hbk, hgr⟩; rw [HSM.out] at hbk; have n0_ := Aside0.mk (hbk.mono (Nat.le_succ (n + 1))); have n1_ := Aside0.mk (HL.out.kept (hgr.block ml HL.out.lt (fun e => HLM.out (Option.some.inj e)))); have n2_ := Aside0.mk (HB.out.grown hgr (below_size HB.out) (fun k hk => by injection hk with hk; rw [← hk]; exact HM.out)); clear HK HL HB BK hbk hgr; have HK := n0_; have HL := n1_; have HB := n2_; clear n0_ n1_ n2_; have hq1 := (MapN.look (W := wc) HL.out HTW.out).1; obtain ⟨wd, hupd, hmc, hgc⟩ := MapN.upd (W := wc) HL.out (Nat.lt_of_succ_lt (Nat.lt_of_succ_lt HNM.out)) HTW.out (v := x2) HSW.out; have n0_ := Aside0.mk (HK.out.kept (hgc.block g (blk_lt HK.out.1) (fun e => HLG.out (Option.some.inj e).symm)) (hgc.block m HK.out.2.2.lt (fun e => HLM.out (Option.some.inj e).symm))); have n1_ := Aside0.mk (hmc.mono (Nat.le_succ (n + 1))); have n2_ := Aside0.mk (HB.out.grown hgc (below_size HB.out) (fun k hk => by injection hk with hk; rw [← hk]; exact HLW.out)); clear HK HL HB hmc hgc; have HK := n0_; have HL := n1_; have HB := n2_; clear n0_ n1_ n2_; have hq2 := (MapN.look (W := wd.drew) HL.out HTW.out).1))
        go_region_with (first | (go_at_call 17; refine (stan_Last.calls g m (n + 1 + 1) (updM M (Int.tmod x1 3) x2) (Int.tmod x1 3) _ ?hbk HTW.out).mono ?_; (case hbk => exact HK.out); rintro e wz ⟨rfl, rfl⟩))
        all_goals go_wp2
        all_goals go_roundg k1
        all_goals first | (have := HK1.out; omega) | (exact ⟨_, rfl, ⟨by have := HI.out; have := of_eq_true q1b; have := CL.out; unfold wrap64; omega⟩, ⟨by have := HK1.out; omega⟩, ⟨updM M (Int.tmod x1 3) x2, n + 1 + 1, by have := HN.out; have := HI.out; have := of_eq_true q1b; have := CL.out; unfold wrap64; omega, HK.out, HL.out, HD.out.upd HCX.out.1 HCX.out.2⟩, ⟨by first | exact HB.out | exact below_drew1 HB.out⟩⟩)
       case neg =>
        have cxb : decide (x2 ≤ 999999) = false := decide_eq_false cx
        have hSM : sawM M (Int.tmod x1 3) x2 = M := if_neg (fun h_ => cx h_.1)
        have HSM := Aside0.mk hSM
        clear hSM
        clear c9 cx
        go_wp2_with (first | ((with_reducible refine gate_dst (N := 6) rfl ?_); refine box_event ?hg (N := 6) ?hd (cs := #[.int .u8 0, .int .u16 0, .int .u32 0]) (t := 41) ?hr ?_; (case hd => rfl); (case hg => rfl); (case hr => first | (go_simp; done) | (go_simp; rfl)); intro gb hgb wa hbox hb; have n0_ := Aside0.mk (HK.out.below hb); have n1_ := Aside0.mk (HL.out.kept (hb.block ml HL.out.lt)); have n2_ := Aside0.mk (below_step HB.out hb); have BK := Aside0.mk hbox; have GE := Aside0.mk (show w.heap.size ≤ gb from by rw [hgb]; exact below_size HB.out); have hgg : g ≠ gb := (by rw [hgb]; exact Nat.ne_of_lt (blk_lt HK.out.1)); have hgm : m ≠ gb := (by rw [hgb]; exact Nat.ne_of_lt HK.out.2.2.lt); have hgl : ml ≠ gb := (by rw [hgb]; exact Nat.ne_of_lt HL.out.lt); clear HK HL HB hb hbox hgb; have HK := n0_; have HL := n1_; have HB := n2_; clear n0_ n1_ n2_; have hz0 : wa.cell? ⟨gb, 0, none⟩ = some (.int .u8 0) := (blk_cell BK.out 0).trans rfl; have hz1 : wa.cell? ⟨gb, 1, none⟩ = some (.int .u16 0) := (blk_cell BK.out 1).trans rfl; have hz2 : wa.cell? ⟨gb, 2, none⟩ = some (.int .u32 0) := (blk_cell BK.out 2).trans rfl; have hf0 := blk_frozen BK.out 0; have hf1 := blk_frozen BK.out 1; have hf2 := blk_frozen BK.out 2) | ((with_reducible refine gate_store (t := 41) (p := 6) rfl ?_); refine store_event (t := 41) (p := 6) (v := ?vo) (w1 := ((wa.setCell ⟨gb, 0, none⟩ (.int .u8 x0)).setCell ⟨gb, 1, none⟩ (.int .u16 x1)).setCell ⟨gb, 2, none⟩ (.int .u32 x2)) ?hg ?ho ?hn ?hr ?_; (case ho => rfl); (case hg => rfl); (case hn => rfl); (case hr => first | (go_simp; done) | (go_simp; rfl)); intro wb hw; have n0_ : Aside0 (IsBook wb g m n M) := ⟨by rw [hw]; exact HK.out.kept (heap_set3 wa gb _ _ _ g hgg) (heap_set3 wa gb _ _ _ m hgm)⟩; have n1_ : Aside0 (MapN wb ml n M) := ⟨by rw [hw]; exact HL.out.kept (heap_set3 wa gb _ _ _ ml hgl)⟩; have n2_ : Aside0 (Below w.heap.size w wb) := ⟨by rw [hw]; exact below_set (below_set (below_set HB.out GE.out) GE.out) GE.out⟩; have n3_ : Aside0 (wb.heap[gb]? = some (.cells #[.int .u8 x0, .int .u16 x1, .int .u32 x2] 41 (0, 0))) := ⟨by rw [hw]; exact blk_put (cs := #[.int .u8 x0, .int .u16 x1, .int .u32 0]) (blk_put (cs := #[.int .u8 x0, .int .u16 0, .int .u32 0]) (blk_put (cs := #[.int .u8 0, .int .u16 0, .int .u32 0]) BK.out 0 _ rfl) 1 _ rfl) 2 _ rfl⟩; clear HK HL HB BK hw hz0 hz1 hz2 hf0 hf1 hf2; have HK := n0_; have HL := n1_; have HB := n2_; have BK := n3_; clear n0_ n1_ n2_ n3_; have hz0 : wb.cell? ⟨gb, 0, none⟩ = some (.int .u8 x0) := (blk_cell BK.out 0).trans rfl; have hz1 : wb.cell? ⟨gb, 1, none⟩ = some (.int .u16 x1) := (blk_cell BK.out 1).trans rfl; have hz2 : wb.cell? ⟨gb, 2, none⟩ = some (.int .u32 x2) := (blk_cell BK.out 2).trans rfl) | (go_at_call 15; refine (stan_Saw.calls g m n M (Int.tmod x1 3) x2 _ HK.out (Nat.lt_of_succ_lt (Nat.lt_of_succ_lt HNM.out)) HTW.out HSW.out).mono ?_; rintro e wc ⟨rfl, hbk, hgr⟩; rw [HSM.out] at hbk; have n0_ := Aside0.mk (hbk.mono (Nat.le_succ (n + 1))); have n1_ := Aside0.mk (HL.out.kept (hgr.block ml HL.out.lt (fun e => HLM.out (Option.some.inj e)))); have n2_ := Aside0.mk (HB.out.grown hgr (below_size HB.out) (fun k hk => by injection hk with hk; rw [← hk]; exact HM.out)); clear HK HL HB BK hbk hgr; have HK := n0_; have HL := n1_; have HB := n2_; clear n0_ n1_ n2_; have hq1 := (MapN.look (W := wc) HL.out HTW.out).1; have n1_ := Aside0.mk (HL.out.mono (show n ≤ n + 1 + 1 by omega)); clear HL; have HL := n1_; clear n1_; have hq2 := (MapN.look (W := wc.drew) HL.out HTW.out).1))
        go_region_with (first | (go_at_call 17; refine (stan_Last.calls g m (n + 1 + 1) (M) (Int.tmod x1 3) _ ?hbk HTW.out).mono ?_; (case hbk => exact HK.out); rintro e wz ⟨rfl, rfl⟩))
        all_goals go_wp2
        all_goals go_roundg k1
        all_goals first | (have := HK1.out; omega) | (exact ⟨_, rfl, ⟨by have := HI.out; have := of_eq_true q1b; have := CL.out; unfold wrap64; omega⟩, ⟨by have := HK1.out; omega⟩, ⟨M, n + 1 + 1, by have := HN.out; have := HI.out; have := of_eq_true q1b; have := CL.out; unfold wrap64; omega, HK.out, HL.out, HD.out⟩, ⟨by first | exact HB.out | exact below_drew1 HB.out⟩⟩)
      case neg =>
       have c9b : decide (M (Int.tmod x1 3) < x2) = false := decide_eq_false c9
       have hSM : sawM M (Int.tmod x1 3) x2 = M := if_neg (fun h_ => c9 h_.2)
       have HSM := Aside0.mk hSM
       clear hSM
       clear c9
       go_wp2_with (first | ((with_reducible refine gate_dst (N := 6) rfl ?_); refine box_event ?hg (N := 6) ?hd (cs := #[.int .u8 0, .int .u16 0, .int .u32 0]) (t := 41) ?hr ?_; (case hd => rfl); (case hg => rfl); (case hr => first | (go_simp; done) | (go_simp; rfl)); intro gb hgb wa hbox hb; have n0_ := Aside0.mk (HK.out.below hb); have n1_ := Aside0.mk (HL.out.kept (hb.block ml HL.out.lt)); have n2_ := Aside0.mk (below_step HB.out hb); have BK := Aside0.mk hbox; have GE := Aside0.mk (show w.heap.size ≤ gb from by rw [hgb]; exact below_size HB.out); have hgg : g ≠ gb := (by rw [hgb]; exact Nat.ne_of_lt (blk_lt HK.out.1)); have hgm : m ≠ gb := (by rw [hgb]; exact Nat.ne_of_lt HK.out.2.2.lt); have hgl : ml ≠ gb := (by rw [hgb]; exact Nat.ne_of_lt HL.out.lt); clear HK HL HB hb hbox hgb; have HK := n0_; have HL := n1_; have HB := n2_; clear n0_ n1_ n2_; have hz0 : wa.cell? ⟨gb, 0, none⟩ = some (.int .u8 0) := (blk_cell BK.out 0).trans rfl; have hz1 : wa.cell? ⟨gb, 1, none⟩ = some (.int .u16 0) := (blk_cell BK.out 1).trans rfl; have hz2 : wa.cell? ⟨gb, 2, none⟩ = some (.int .u32 0) := (blk_cell BK.out 2).trans rfl; have hf0 := blk_frozen BK.out 0; have hf1 := blk_frozen BK.out 1; have hf2 := blk_frozen BK.out 2) | ((with_reducible refine gate_store (t := 41) (p := 6) rfl ?_); refine store_event (t := 41) (p := 6) (v := ?vo) (w1 := ((wa.setCell ⟨gb, 0, none⟩ (.int .u8 x0)).setCell ⟨gb, 1, none⟩ (.int .u16 x1)).setCell ⟨gb, 2, none⟩ (.int .u32 x2)) ?hg ?ho ?hn ?hr ?_; (case ho => rfl); (case hg => rfl); (case hn => rfl); (case hr => first | (go_simp; done) | (go_simp; rfl)); intro wb hw; have n0_ : Aside0 (IsBook wb g m n M) := ⟨by rw [hw]; exact HK.out.kept (heap_set3 wa gb _ _ _ g hgg) (heap_set3 wa gb _ _ _ m hgm)⟩; have n1_ : Aside0 (MapN wb ml n M) := ⟨by rw [hw]; exact HL.out.kept (heap_set3 wa gb _ _ _ ml hgl)⟩; have n2_ : Aside0 (Below w.heap.size w wb) := ⟨by rw [hw]; exact below_set (below_set (below_set HB.out GE.out) GE.out) GE.out⟩; have n3_ : Aside0 (wb.heap[gb]? = some (.cells #[.int .u8 x0, .int .u16 x1, .int .u32 x2] 41 (0, 0))) := ⟨by rw [hw]; exact blk_put (cs := #[.int .u8 x0, .int .u16 x1, .int .u32 0]) (blk_put (cs := #[.int .u8 x0, .int .u16 0, .int .u32 0]) (blk_put (cs := #[.int .u8 0, .int .u16 0, .int .u32 0]) BK.out 0 _ rfl) 1 _ rfl) 2 _ rfl⟩; clear HK HL HB BK hw hz0 hz1 hz2 hf0 hf1 hf2; have HK := n0_; have HL := n1_; have HB := n2_; have BK := n3_; clear n0_ n1_ n2_ n3_; have hz0 : wb.cell? ⟨gb, 0, none⟩ = some (.int .u8 x0) := (blk_cell BK.out 0).trans rfl; have hz1 : wb.cell? ⟨gb, 1, none⟩ = some (.int .u16 x1) := (blk_cell BK.out 1).trans rfl; have hz2 : wb.cell? ⟨gb, 2, none⟩ = some (.int .u32 x2) := (blk_cell BK.out 2).trans rfl) | (go_at_call 15; refine (stan_Saw.calls g m n M (Int.tmod x1 3) x2 _ HK.out (Nat.lt_of_succ_lt (Nat.lt_of_succ_lt HNM.out)) HTW.out HSW.out).mono ?_; rintro e wc ⟨rfl, hbk, hgr⟩; rw [HSM.out] at hbk; have n0_ := Aside0.mk (hbk.mono (Nat.le_succ (n + 1))); have n1_ := Aside0.mk (HL.out.kept (hgr.block ml HL.out.lt (fun e => HLM.out (Option.some.inj e)))); have n2_ := Aside0.mk (HB.out.grown hgr (below_size HB.out) (fun k hk => by injection hk with hk; rw [← hk]; exact HM.out)); clear HK HL HB BK hbk hgr; have HK := n0_; have HL := n1_; have HB := n2_; clear n0_ n1_ n2_; have hq1 := (MapN.look (W := wc) HL.out HTW.out).1; have n1_ := Aside0.mk (HL.out.mono (show n ≤ n + 1 + 1 by omega)); clear HL; have HL := n1_; clear n1_; have hq2 := (MapN.look (W := wc.drew) HL.out HTW.out).1))
       go_region_with (first | (go_at_call 17; refine (stan_Last.calls g m (n + 1 + 1) (M) (Int.tmod x1 3) _ ?hbk HTW.out).mono ?_; (case hbk => exact HK.out); rintro e wz ⟨rfl, rfl⟩))
       all_goals go_wp2
       all_goals go_roundg k1
       all_goals first | (have := HK1.out; omega) | (exact ⟨_, rfl, ⟨by have := HI.out; have := of_eq_true q1b; have := CL.out; unfold wrap64; omega⟩, ⟨by have := HK1.out; omega⟩, ⟨M, n + 1 + 1, by have := HN.out; have := HI.out; have := of_eq_true q1b; have := CL.out; unfold wrap64; omega, HK.out, HL.out, HD.out⟩, ⟨by first | exact HB.out | exact below_drew1 HB.out⟩⟩)
   case neg =>
    have c3b : decide (0 < Int.tmod i 3) = false := decide_eq_false c3
    clear c3
    have HTW : Aside0 ((Lit.int .u16 x1).wf = true) := ⟨WF1.out⟩
    have HMT := Aside0.mk (HD.out x1)
    by_cases c5 : Int.tmod x0 4 = 0
    case neg =>
     have c5b : (Int.tmod x0 4 == 0) = false := beq_eq_false_iff_ne.mpr c5
     clear c5
     by_cases c6 : M x1 + 1 ≤ 999999
     case pos =>
      have hup := up_small HMT.out.1 c6
      have c7b : decide (999999 < nxt (M x1)) = false := decide_eq_false (by have := (nxt_bd HMT.out.1).2; omega)
      clear c6
      go_wp2_with (first | ((with_reducible refine gate_dst (N := 6) rfl ?_); refine box_event ?hg (N := 6) ?hd (cs := #[.int .u8 0, .int .u16 0, .int .u32 0]) (t := 41) ?hr ?_; (case hd => rfl); (case hg => rfl); (case hr => first | (go_simp; done) | (go_simp; rfl)); intro gb hgb wa hbox hb; have n0_ := Aside0.mk (HK.out.below hb); have n1_ := Aside0.mk (HL.out.kept (hb.block ml HL.out.lt)); have n2_ := Aside0.mk (below_step HB.out hb); have BK := Aside0.mk hbox; have GE := Aside0.mk (show w.heap.size ≤ gb from by rw [hgb]; exact below_size HB.out); have hgg : g ≠ gb := (by rw [hgb]; exact Nat.ne_of_lt (blk_lt HK.out.1)); have hgm : m ≠ gb := (by rw [hgb]; exact Nat.ne_of_lt HK.out.2.2.lt); have hgl : ml ≠ gb := (by rw [hgb]; exact Nat.ne_of_lt HL.out.lt); clear HK HL HB hb hbox hgb; have HK := n0_; have HL := n1_; have HB := n2_; clear n0_ n1_ n2_; have hz0 : wa.cell? ⟨gb, 0, none⟩ = some (.int .u8 0) := (blk_cell BK.out 0).trans rfl; have hz1 : wa.cell? ⟨gb, 1, none⟩ = some (.int .u16 0) := (blk_cell BK.out 1).trans rfl; have hz2 : wa.cell? ⟨gb, 2, none⟩ = some (.int .u32 0) := (blk_cell BK.out 2).trans rfl; have hf0 := blk_frozen BK.out 0; have hf1 := blk_frozen BK.out 1; have hf2 := blk_frozen BK.out 2) | ((with_reducible refine gate_store (t := 41) (p := 6) rfl ?_); refine store_event (t := 41) (p := 6) (v := ?vo) (w1 := ((wa.setCell ⟨gb, 0, none⟩ (.int .u8 x0)).setCell ⟨gb, 1, none⟩ (.int .u16 x1)).setCell ⟨gb, 2, none⟩ (.int .u32 x2)) ?hg ?ho ?hn ?hr ?_; (case ho => rfl); (case hg => rfl); (case hn => rfl); (case hr => first | (go_simp; done) | (go_simp; rfl)); intro wb hw; have n0_ : Aside0 (IsBook wb g m n M) := ⟨by rw [hw]; exact HK.out.kept (heap_set3 wa gb _ _ _ g hgg) (heap_set3 wa gb _ _ _ m hgm)⟩; have n1_ : Aside0 (MapN wb ml n M) := ⟨by rw [hw]; exact HL.out.kept (heap_set3 wa gb _ _ _ ml hgl)⟩; have n2_ : Aside0 (Below w.heap.size w wb) := ⟨by rw [hw]; exact below_set (below_set (below_set HB.out GE.out) GE.out) GE.out⟩; have n3_ : Aside0 (wb.heap[gb]? = some (.cells #[.int .u8 x0, .int .u16 x1, .int .u32 x2] 41 (0, 0))) := ⟨by rw [hw]; exact blk_put (cs := #[.int .u8 x0, .int .u16 x1, .int .u32 0]) (blk_put (cs := #[.int .u8 x0, .int .u16 0, .int .u32 0]) (blk_put (cs := #[.int .u8 0, .int .u16 0, .int .u32 0]) BK.out 0 _ rfl) 1 _ rfl) 2 _ rfl⟩; clear HK HL HB BK hw hz0 hz1 hz2 hf0 hf1 hf2; have HK := n0_; have HL := n1_; have HB := n2_; have BK := n3_; clear n0_ n1_ n2_ n3_; have hz0 : wb.cell? ⟨gb, 0, none⟩ = some (.int .u8 x0) := (blk_cell BK.out 0).trans rfl; have hz1 : wb.cell? ⟨gb, 1, none⟩ = some (.int .u16 x1) := (blk_cell BK.out 1).trans rfl; have hz2 : wb.cell? ⟨gb, 2, none⟩ = some (.int .u32 x2) := (blk_cell BK.out 2).trans rfl; have hq1 := (MapN.look (W := wb) HL.out HTW.out).1; obtain ⟨wc, hupd, hmc, hgc⟩ := MapN.upd (W := wb) HL.out (Nat.lt_of_succ_lt (Nat.lt_of_succ_lt HNM.out)) HTW.out (v := nxt (M x1)) (wf32_of (nxt_bd HMT.out.1).1 (by have := (nxt_bd HMT.out.1).2; omega)); have n0_ := Aside0.mk (HK.out.kept (hgc.block g (blk_lt HK.out.1) (fun e => HLG.out (Option.some.inj e).symm)) (hgc.block m HK.out.2.2.lt (fun e => HLM.out (Option.some.inj e).symm))); have n1_ := Aside0.mk hmc; have n2_ := Aside0.mk (HB.out.grown hgc (below_size HB.out) (fun k hk => by injection hk with hk; rw [← hk]; exact HLW.out)); clear HK HL HB BK hmc hgc; have HK := n0_; have HL := n1_; have HB := n2_; clear n0_ n1_ n2_; have hq2 := (MapN.look (W := wc) HL.out HTW.out).1; rw [updM_same] at hq2; have hq3 := (MapN.look (W := wc.drew) HL.out HTW.out).1; rw [updM_same] at hq3))
      go_region_with (first | (go_at_call 16; refine (stan_Next.calls g m n M x1 _ ?hbk (Nat.lt_of_succ_lt (Nat.lt_of_succ_lt HNM.out)) HTW.out).mono ?_; (case hbk => exact HK.out); rintro e we ⟨rfl, hbk, hgr⟩; have n0_ := Aside0.mk (hbk.mono (Nat.le_succ (n + 1))); have n1_ := Aside0.mk ((MapN.kept (W := wc.drew) HL.out (hgr.block ml HL.out.lt (fun e => HLM.out (Option.some.inj e)))).mono (show n + 1 ≤ n + 1 + 1 by omega)); have n2_ := Aside0.mk (Below.grown (w := wc.drew) (below_drew1 HB.out) hgr (below_size (below_drew1 HB.out)) (fun k hk => by injection hk with hk; rw [← hk]; exact HM.out)); clear HK HL HB hbk hgr; have HK := n0_; have HL := n1_; have HB := n2_; clear n0_ n1_ n2_; have hq4 := (MapN.look (W := we) HL.out HTW.out).1; have hq5 := (MapN.look (W := we.drew) HL.out HTW.out).1; rw [updM_same] at hq4 hq5))
      all_goals go_wp2
      all_goals go_region_with (first | (go_at_call 17; refine (stan_Last.at (nxt (M x1)) g m (n + 1 + 1) (updM M x1 (nxt (M x1))) x1 _ ?hbk HTW.out (updM_same _ _ _)).mono ?_; (case hbk => exact HK.out); rintro e wz ⟨rfl, rfl⟩))
      all_goals go_wp2
      all_goals go_roundg k1
      all_goals first | (have := HK1.out; omega) | (exact ⟨_, rfl, ⟨by have := HI.out; have := of_eq_true q1b; have := CL.out; unfold wrap64; omega⟩, ⟨by have := HK1.out; omega⟩, ⟨updM M x1 (nxt (M x1)), n + 1 + 1, by have := HN.out; have := HI.out; have := of_eq_true q1b; have := CL.out; unfold wrap64; omega, HK.out, HL.out, HD.out.upd (nxt_bd HMT.out.1).1 (nxt_bd HMT.out.1).2⟩, ⟨by first | exact HB.out | exact below_drew1 HB.out⟩⟩)
     case neg =>
      obtain ⟨hup, hn1⟩ := up_big HMT.out.2 c6 HMT.out.1
      clear c6
      go_wp2_with (first | ((with_reducible refine gate_dst (N := 6) rfl ?_); refine box_event ?hg (N := 6) ?hd (cs := #[.int .u8 0, .int .u16 0, .int .u32 0]) (t := 41) ?hr ?_; (case hd => rfl); (case hg => rfl); (case hr => first | (go_simp; done) | (go_simp; rfl)); intro gb hgb wa hbox hb; have n0_ := Aside0.mk (HK.out.below hb); have n1_ := Aside0.mk (HL.out.kept (hb.block ml HL.out.lt)); have n2_ := Aside0.mk (below_step HB.out hb); have BK := Aside0.mk hbox; have GE := Aside0.mk (show w.heap.size ≤ gb from by rw [hgb]; exact below_size HB.out); have hgg : g ≠ gb := (by rw [hgb]; exact Nat.ne_of_lt (blk_lt HK.out.1)); have hgm : m ≠ gb := (by rw [hgb]; exact Nat.ne_of_lt HK.out.2.2.lt); have hgl : ml ≠ gb := (by rw [hgb]; exact Nat.ne_of_lt HL.out.lt); clear HK HL HB hb hbox hgb; have HK := n0_; have HL := n1_; have HB := n2_; clear n0_ n1_ n2_; have hz0 : wa.cell? ⟨gb, 0, none⟩ = some (.int .u8 0) := (blk_cell BK.out 0).trans rfl; have hz1 : wa.cell? ⟨gb, 1, none⟩ = some (.int .u16 0) := (blk_cell BK.out 1).trans rfl; have hz2 : wa.cell? ⟨gb, 2, none⟩ = some (.int .u32 0) := (blk_cell BK.out 2).trans rfl; have hf0 := blk_frozen BK.out 0; have hf1 := blk_frozen BK.out 1; have hf2 := blk_frozen BK.out 2) | ((with_reducible refine gate_store (t := 41) (p := 6) rfl ?_); refine store_event (t := 41) (p := 6) (v := ?vo) (w1 := ((wa.setCell ⟨gb, 0, none⟩ (.int .u8 x0)).setCell ⟨gb, 1, none⟩ (.int .u16 x1)).setCell ⟨gb, 2, none⟩ (.int .u32 x2)) ?hg ?ho ?hn ?hr ?_; (case ho => rfl); (case hg => rfl); (case hn => rfl); (case hr => first | (go_simp; done) | (go_simp; rfl)); intro wb hw; have n0_ : Aside0 (IsBook wb g m n M) := ⟨by rw [hw]; exact HK.out.kept (heap_set3 wa gb _ _ _ g hgg) (heap_set3 wa gb _ _ _ m hgm)⟩; have n1_ : Aside0 (MapN wb ml n M) := ⟨by rw [hw]; exact HL.out.kept (heap_set3 wa gb _ _ _ ml hgl)⟩; have n2_ : Aside0 (Below w.heap.size w wb) := ⟨by rw [hw]; exact below_set (below_set (below_set HB.out GE.out) GE.out) GE.out⟩; have n3_ : Aside0 (wb.heap[gb]? = some (.cells #[.int .u8 x0, .int .u16 x1, .int .u32 x2] 41 (0, 0))) := ⟨by rw [hw]; exact blk_put (cs := #[.int .u8 x0, .int .u16 x1, .int .u32 0]) (blk_put (cs := #[.int .u8 x0, .int .u16 0, .int .u32 0]) (blk_put (cs := #[.int .u8 0, .int .u16 0, .int .u32 0]) BK.out 0 _ rfl) 1 _ rfl) 2 _ rfl⟩; clear HK HL HB BK hw hz0 hz1 hz2 hf0 hf1 hf2; have HK := n0_; have HL := n1_; have HB := n2_; have BK := n3_; clear n0_ n1_ n2_ n3_; have hz0 : wb.cell? ⟨gb, 0, none⟩ = some (.int .u8 x0) := (blk_cell BK.out 0).trans rfl; have hz1 : wb.cell? ⟨gb, 1, none⟩ = some (.int .u16 x1) := (blk_cell BK.out 1).trans rfl; have hz2 : wb.cell? ⟨gb, 2, none⟩ = some (.int .u32 x2) := (blk_cell BK.out 2).trans rfl; have hq1 := (MapN.look (W := wb) HL.out HTW.out).1; obtain ⟨wc, hupd, hmc, hgc⟩ := MapN.upd (W := wb) HL.out (Nat.lt_of_succ_lt (Nat.lt_of_succ_lt HNM.out)) HTW.out (v := 1000000) (by decide); have n0_ := Aside0.mk (HK.out.kept (hgc.block g (blk_lt HK.out.1) (fun e => HLG.out (Option.some.inj e).symm)) (hgc.block m HK.out.2.2.lt (fun e => HLM.out (Option.some.inj e).symm))); have n1_ := Aside0.mk hmc; have n2_ := Aside0.mk (HB.out.grown hgc (below_size HB.out) (fun k hk => by injection hk with hk; rw [← hk]; exact HLW.out)); clear HK HL HB BK hmc hgc; have HK := n0_; have HL := n1_; have HB := n2_; clear n0_ n1_ n2_; have hq2 := (MapN.look (W := wc) HL.out HTW.out).1; rw [updM_same] at hq2; obtain ⟨wd, hupd2, hmd, hgd⟩ := MapN.upd (W := wc) HL.out (Nat.lt_of_succ_lt HNM.out) HTW.out (v := 1) (by decide); rw [updM_twice] at hmd; have n0_ := Aside0.mk (HK.out.kept (hgd.block g (blk_lt HK.out.1) (fun e => HLG.out (Option.some.inj e).symm)) (hgd.block m HK.out.2.2.lt (fun e => HLM.out (Option.some.inj e).symm))); have n1_ := Aside0.mk hmd; have n2_ := Aside0.mk (HB.out.grown hgd (below_size HB.out) (fun k hk => by injection hk with hk; rw [← hk]; exact HLW.out)); clear HK HL HB hmd hgd; have HK := n0_; have HL := n1_; have HB := n2_; clear n0_ n1_ n2_; have hq3 := (MapN.look (W := wd.drew) HL.out HTW.out).1; rw [updM_same] at hq3))
      go_region_with (first | (go_at_call 16; refine (stan_Next.calls g m n M x1 _ ?hbk (Nat.lt_of_succ_lt (Nat.lt_of_succ_lt HNM.out)) HTW.out).mono ?_; (case hbk => exact HK.out); rintro e we ⟨rfl, hbk, hgr⟩; have n0_ := Aside0.mk (hbk.mono (Nat.le_succ (n + 1))); have n1_ := Aside0.mk ((MapN.kept (W := wd.drew) HL.out (hgr.block ml HL.out.lt (fun e => HLM.out (Option.some.inj e)))).mono (show n + 1 + 1 ≤ n + 1 + 1 by omega)); have n2_ := Aside0.mk (Below.grown (w := wd.drew) (below_drew1 HB.out) hgr (below_size (below_drew1 HB.out)) (fun k hk => by injection hk with hk; rw [← hk]; exact HM.out)); clear HK HL HB hbk hgr; have HK := n0_; have HL := n1_; have HB := n2_; clear n0_ n1_ n2_; have hq4 := (MapN.look (W := we) HL.out HTW.out).1; have hq5 := (MapN.look (W := we.drew) HL.out HTW.out).1; rw [updM_same] at hq4 hq5; rw [hn1] at HK ⊢))
      all_goals go_wp2
      all_goals go_region_with (first | (go_at_call 17; refine (stan_Last.at (1) g m (n + 1 + 1) (updM M x1 1) x1 _ ?hbk HTW.out (updM_same _ _ _)).mono ?_; (case hbk => exact HK.out); rintro e wz ⟨rfl, rfl⟩))
      all_goals go_wp2
      all_goals go_roundg k1
      all_goals first | (have := HK1.out; omega) | (exact ⟨_, rfl, ⟨by have := HI.out; have := of_eq_true q1b; have := CL.out; unfold wrap64; omega⟩, ⟨by have := HK1.out; omega⟩, ⟨updM M x1 1, n + 1 + 1, by have := HN.out; have := HI.out; have := of_eq_true q1b; have := CL.out; unfold wrap64; omega, HK.out, HL.out, HD.out.upd (by decide) (by decide)⟩, ⟨by first | exact HB.out | exact below_drew1 HB.out⟩⟩)
    case pos =>
     have c5b : (Int.tmod x0 4 == 0) = true := beq_iff_eq.mpr c5
     clear c5
     by_cases c8 : Int.tmod x0 8 = 0
     case pos =>
      have c8b : (Int.tmod x0 8 == 0) = true := beq_iff_eq.mpr c8
      clear c8
      obtain ⟨hsw, hsub⟩ := wf32_sub WF2.out
      have HSW := Aside0.mk hsw
      clear hsw
      by_cases c9 : M x1 < (999999 - Int.tmod x2 3)
      case pos =>
       have c9b : decide (M x1 < (999999 - Int.tmod x2 3)) = true := decide_eq_true c9
       by_cases cx : (999999 - Int.tmod x2 3) ≤ 999999
       case pos =>
        have cxb : decide ((999999 - Int.tmod x2 3) ≤ 999999) = true := decide_eq_true cx
        have hSM : sawM M x1 (999999 - Int.tmod x2 3) = updM M x1 (999999 - Int.tmod x2 3) := if_pos ⟨cx, c9⟩
        have HSM := Aside0.mk hSM
        clear hSM
        have HCX := Aside0.mk (show 0 ≤ (999999 - Int.tmod x2 3) ∧ (999999 - Int.tmod x2 3) ≤ 999999 from ⟨by have := HMT.out.1; omega, cx⟩)
        clear c9 cx
        go_wp2_with (first | ((with_reducible refine gate_dst (N := 6) rfl ?_); refine box_event ?hg (N := 6) ?hd (cs := #[.int .u8 0, .int .u16 0, .int .u32 0]) (t := 41) ?hr ?_; (case hd => rfl); (case hg => rfl); (case hr => first | (go_simp; done) | (go_simp; rfl)); intro gb hgb wa hbox hb; have n0_ := Aside0.mk (HK.out.below hb); have n1_ := Aside0.mk (HL.out.kept (hb.block ml HL.out.lt)); have n2_ := Aside0.mk (below_step HB.out hb); have BK := Aside0.mk hbox; have GE := Aside0.mk (show w.heap.size ≤ gb from by rw [hgb]; exact below_size HB.out); have hgg : g ≠ gb := (by rw [hgb]; exact Nat.ne_of_lt (blk_lt HK.out.1)); have hgm : m ≠ gb := (by rw [hgb]; exact Nat.ne_of_lt HK.out.2.2.lt); have hgl : ml ≠ gb := (by rw [hgb]; exact Nat.ne_of_lt HL.out.lt); clear HK HL HB hb hbox hgb; have HK := n0_; have HL := n1_; have HB := n2_; clear n0_ n1_ n2_; have hz0 : wa.cell? ⟨gb, 0, none⟩ = some (.int .u8 0) := (blk_cell BK.out 0).trans rfl; have hz1 : wa.cell? ⟨gb, 1, none⟩ = some (.int .u16 0) := (blk_cell BK.out 1).trans rfl; have hz2 : wa.cell? ⟨gb, 2, none⟩ = some (.int .u32 0) := (blk_cell BK.out 2).trans rfl; have hf0 := blk_frozen BK.out 0; have hf1 := blk_frozen BK.out 1; have hf2 := blk_frozen BK.out 2) | ((with_reducible refine gate_store (t := 41) (p := 6) rfl ?_); refine store_event (t := 41) (p := 6) (v := ?vo) (w1 := ((wa.setCell ⟨gb, 0, none⟩ (.int .u8 x0)).setCell ⟨gb, 1, none⟩ (.int .u16 x1)).setCell ⟨gb, 2, none⟩ (.int .u32 x2)) ?hg ?ho ?hn ?hr ?_; (case ho => rfl); (case hg => rfl); (case hn => rfl); (case hr => first | (go_simp; done) | (go_simp; rfl)); intro wb hw; have n0_ : Aside0 (IsBook wb g m n M) := ⟨by rw [hw]; exact HK.out.kept (heap_set3 wa gb _ _ _ g hgg) (heap_set3 wa gb _ _ _ m hgm)⟩; have n1_ : Aside0 (MapN wb ml n M) := ⟨by rw [hw]; exact HL.out.kept (heap_set3 wa gb _ _ _ ml hgl)⟩; have n2_ : Aside0 (Below w.heap.size w wb) := ⟨by rw [hw]; exact below_set (below_set (below_set HB.out GE.out) GE.out) GE.out⟩; have n3_ : Aside0 (wb.heap[gb]? = some (.cells #[.int .u8 x0, .int .u16 x1, .int .u32 x2] 41 (0, 0))) := ⟨by rw [hw]; exact blk_put (cs := #[.int .u8 x0, .int .u16 x1, .int .u32 0]) (blk_put (cs := #[.int .u8 x0, .int .u16 0, .int .u32 0]) (blk_put (cs := #[.int .u8 0, .int .u16 0, .int .u32 0]) BK.out 0 _ rfl) 1 _ rfl) 2 _ rfl⟩; clear HK HL HB BK hw hz0 hz1 hz2 hf0 hf1 hf2; have HK := n0_; have HL := n1_; have HB := n2_; have BK := n3_; clear n0_ n1_ n2_ n3_; have hz0 : wb.cell? ⟨gb, 0, none⟩ = some (.int .u8 x0) := (blk_cell BK.out 0).trans rfl; have hz1 : wb.cell? ⟨gb, 1, none⟩ = some (.int .u16 x1) := (blk_cell BK.out 1).trans rfl; have hz2 : wb.cell? ⟨gb, 2, none⟩ = some (.int .u32 x2) := (blk_cell BK.out 2).trans rfl) | (go_at_call 15; refine (stan_Saw.calls g m n M x1 (999999 - Int.tmod x2 3) _ HK.out (Nat.lt_of_succ_lt (Nat.lt_of_succ_lt HNM.out)) HTW.out HSW.out).mono ?_; rintro e wc ⟨rfl, hbk, hgr⟩; rw [HSM.out] at hbk; have n0_ := Aside0.mk (hbk.mono (Nat.le_succ (n + 1))); have n1_ := Aside0.mk (HL.out.kept (hgr.block ml HL.out.lt (fun e => HLM.out (Option.some.inj e)))); have n2_ := Aside0.mk (HB.out.grown hgr (below_size HB.out) (fun k hk => by injection hk with hk; rw [← hk]; exact HM.out)); clear HK HL HB BK hbk hgr; have HK := n0_; have HL := n1_; have HB := n2_; clear n0_ n1_ n2_; have hq1 := (MapN.look (W := wc) HL.out HTW.out).1; obtain ⟨wd, hupd, hmc, hgc⟩ := MapN.upd (W := wc) HL.out (Nat.lt_of_succ_lt (Nat.lt_of_succ_lt HNM.out)) HTW.out (v := (999999 - Int.tmod x2 3)) HSW.out; have n0_ := Aside0.mk (HK.out.kept (hgc.block g (blk_lt HK.out.1) (fun e => HLG.out (Option.some.inj e).symm)) (hgc.block m HK.out.2.2.lt (fun e => HLM.out (Option.some.inj e).symm))); have n1_ := Aside0.mk (hmc.mono (Nat.le_succ (n + 1))); have n2_ := Aside0.mk (HB.out.grown hgc (below_size HB.out) (fun k hk => by injection hk with hk; rw [← hk]; exact HLW.out)); clear HK HL HB hmc hgc; have HK := n0_; have HL := n1_; have HB := n2_; clear n0_ n1_ n2_; have hq2 := (MapN.look (W := wd.drew) HL.out HTW.out).1))
        go_region_with (first | (go_at_call 17; refine (stan_Last.calls g m (n + 1 + 1) (updM M x1 (999999 - Int.tmod x2 3)) x1 _ ?hbk HTW.out).mono ?_; (case hbk => exact HK.out); rintro e wz ⟨rfl, rfl⟩))
        all_goals go_wp2
        all_goals go_roundg k1
        all_goals first | (have := HK1.out; omega) | (exact ⟨_, rfl, ⟨by have := HI.out; have := of_eq_true q1b; have := CL.out; unfold wrap64; omega⟩, ⟨by have := HK1.out; omega⟩, ⟨updM M x1 (999999 - Int.tmod x2 3), n + 1 + 1, by have := HN.out; have := HI.out; have := of_eq_true q1b; have := CL.out; unfold wrap64; omega, HK.out, HL.out, HD.out.upd HCX.out.1 HCX.out.2⟩, ⟨by first | exact HB.out | exact below_drew1 HB.out⟩⟩)
       case neg =>
        have cxb : decide ((999999 - Int.tmod x2 3) ≤ 999999) = false := decide_eq_false cx
        have hSM : sawM M x1 (999999 - Int.tmod x2 3) = M := if_neg (fun h_ => cx h_.1)
        have HSM := Aside0.mk hSM
        clear hSM
        clear c9 cx
        go_wp2_with (first | ((with_reducible refine gate_dst (N := 6) rfl ?_); refine box_event ?hg (N := 6) ?hd (cs := #[.int .u8 0, .int .u16 0, .int .u32 0]) (t := 41) ?hr ?_; (case hd => rfl); (case hg => rfl); (case hr => first | (go_simp; done) | (go_simp; rfl)); intro gb hgb wa hbox hb; have n0_ := Aside0.mk (HK.out.below hb); have n1_ := Aside0.mk (HL.out.kept (hb.block ml HL.out.lt)); have n2_ := Aside0.mk (below_step HB.out hb); have BK := Aside0.mk hbox; have GE := Aside0.mk (show w.heap.size ≤ gb from by rw [hgb]; exact below_size HB.out); have hgg : g ≠ gb := (by rw [hgb]; exact Nat.ne_of_lt (blk_lt HK.out.1)); have hgm : m ≠ gb := (by rw [hgb]; exact Nat.ne_of_lt HK.out.2.2.lt); have hgl : ml ≠ gb := (by rw [hgb]; exact Nat.ne_of_lt HL.out.lt); clear HK HL HB hb hbox hgb; have HK := n0_; have HL := n1_; have HB := n2_; clear n0_ n1_ n2_; have hz0 : wa.cell? ⟨gb, 0, none⟩ = some (.int .u8 0) := (blk_cell BK.out 0).trans rfl; have hz1 : wa.cell? ⟨gb, 1, none⟩ = some (.int .u16 0) := (blk_cell BK.out 1).trans rfl; have hz2 : wa.cell? ⟨gb, 2, none⟩ = some (.int .u32 0) := (blk_cell BK.out 2).trans rfl; have hf0 := blk_frozen BK.out 0; have hf1 := blk_frozen BK.out 1; have hf2 := blk_frozen BK.out 2) | ((with_reducible refine gate_store (t := 41) (p := 6) rfl ?_); refine store_event (t := 41) (p := 6) (v := ?vo) (w1 := ((wa.setCell ⟨gb, 0, none⟩ (.int .u8 x0)).setCell ⟨gb, 1, none⟩ (.int .u16 x1)).setCell ⟨gb, 2, none⟩ (.int .u32 x2)) ?hg ?ho ?hn ?hr ?_; (case ho => rfl); (case hg => rfl); (case hn => rfl); (case hr => first | (go_simp; done) | (go_simp; rfl)); intro wb hw; have n0_ : Aside0 (IsBook wb g m n M) := ⟨by rw [hw]; exact HK.out.kept (heap_set3 wa gb _ _ _ g hgg) (heap_set3 wa gb _ _ _ m hgm)⟩; have n1_ : Aside0 (MapN wb ml n M) := ⟨by rw [hw]; exact HL.out.kept (heap_set3 wa gb _ _ _ ml hgl)⟩; have n2_ : Aside0 (Below w.heap.size w wb) := ⟨by rw [hw]; exact below_set (below_set (below_set HB.out GE.out) GE.out) GE.out⟩; have n3_ : Aside0 (wb.heap[gb]? = some (.cells #[.int .u8 x0, .int .u16 x1, .int .u32 x2] 41 (0, 0))) := ⟨by rw [hw]; exact blk_put (cs := #[.int .u8 x0, .int .u16 x1, .int .u32 0]) (blk_put (cs := #[.int .u8 x0, .int .u16 0, .int .u32 0]) (blk_put (cs := #[.int .u8 0, .int .u16 0, .int .u32 0]) BK.out 0 _ rfl) 1 _ rfl) 2 _ rfl⟩; clear HK HL HB BK hw hz0 hz1 hz2 hf0 hf1 hf2; have HK := n0_; have HL := n1_; have HB := n2_; have BK := n3_; clear n0_ n1_ n2_ n3_; have hz0 : wb.cell? ⟨gb, 0, none⟩ = some (.int .u8 x0) := (blk_cell BK.out 0).trans rfl; have hz1 : wb.cell? ⟨gb, 1, none⟩ = some (.int .u16 x1) := (blk_cell BK.out 1).trans rfl; have hz2 : wb.cell? ⟨gb, 2, none⟩ = some (.int .u32 x2) := (blk_cell BK.out 2).trans rfl) | (go_at_call 15; refine (stan_Saw.calls g m n M x1 (999999 - Int.tmod x2 3) _ HK.out (Nat.lt_of_succ_lt (Nat.lt_of_succ_lt HNM.out)) HTW.out HSW.out).mono ?_; rintro e wc ⟨rfl, hbk, hgr⟩; rw [HSM.out] at hbk; have n0_ := Aside0.mk (hbk.mono (Nat.le_succ (n + 1))); have n1_ := Aside0.mk (HL.out.kept (hgr.block ml HL.out.lt (fun e => HLM.out (Option.some.inj e)))); have n2_ := Aside0.mk (HB.out.grown hgr (below_size HB.out) (fun k hk => by injection hk with hk; rw [← hk]; exact HM.out)); clear HK HL HB BK hbk hgr; have HK := n0_; have HL := n1_; have HB := n2_; clear n0_ n1_ n2_; have hq1 := (MapN.look (W := wc) HL.out HTW.out).1; have n1_ := Aside0.mk (HL.out.mono (show n ≤ n + 1 + 1 by omega)); clear HL; have HL := n1_; clear n1_; have hq2 := (MapN.look (W := wc.drew) HL.out HTW.out).1))
        go_region_with (first | (go_at_call 17; refine (stan_Last.calls g m (n + 1 + 1) (M) x1 _ ?hbk HTW.out).mono ?_; (case hbk => exact HK.out); rintro e wz ⟨rfl, rfl⟩))
        all_goals go_wp2
        all_goals go_roundg k1
        all_goals first | (have := HK1.out; omega) | (exact ⟨_, rfl, ⟨by have := HI.out; have := of_eq_true q1b; have := CL.out; unfold wrap64; omega⟩, ⟨by have := HK1.out; omega⟩, ⟨M, n + 1 + 1, by have := HN.out; have := HI.out; have := of_eq_true q1b; have := CL.out; unfold wrap64; omega, HK.out, HL.out, HD.out⟩, ⟨by first | exact HB.out | exact below_drew1 HB.out⟩⟩)
      case neg =>
       have c9b : decide (M x1 < (999999 - Int.tmod x2 3)) = false := decide_eq_false c9
       have hSM : sawM M x1 (999999 - Int.tmod x2 3) = M := if_neg (fun h_ => c9 h_.2)
       have HSM := Aside0.mk hSM
       clear hSM
       clear c9
       go_wp2_with (first | ((with_reducible refine gate_dst (N := 6) rfl ?_); refine box_event ?hg (N := 6) ?hd (cs := #[.int .u8 0, .int .u16 0, .int .u32 0]) (t := 41) ?hr ?_; (case hd => rfl); (case hg => rfl); (case hr => first | (go_simp; done) | (go_simp; rfl)); intro gb hgb wa hbox hb; have n0_ := Aside0.mk (HK.out.below hb); have n1_ := Aside0.mk (HL.out.kept (hb.block ml HL.out.lt)); have n2_ := Aside0.mk (below_step HB.out hb); have BK := Aside0.mk hbox; have GE := Aside0.mk (show w.heap.size ≤ gb from by rw [hgb]; exact below_size HB.out); have hgg : g ≠ gb := (by rw [hgb]; exact Nat.ne_of_lt (blk_lt HK.out.1)); have hgm : m ≠ gb := (by rw [hgb]; exact Nat.ne_of_lt HK.out.2.2.lt); have hgl : ml ≠ gb := (by rw [hgb]; exact Nat.ne_of_lt HL.out.lt); clear HK HL HB hb hbox hgb; have HK := n0_; have HL := n1_; have HB := n2_; clear n0_ n1_ n2_; have hz0 : wa.cell? ⟨gb, 0, none⟩ = some (.int .u8 0) := (blk_cell BK.out 0).trans rfl; have hz1 : wa.cell? ⟨gb, 1, none⟩ = some (.int .u16 0) := (blk_cell BK.out 1).trans rfl; have hz2 : wa.cell? ⟨gb, 2, none⟩ = some (.int .u32 0) := (blk_cell BK.out 2).trans rfl; have hf0 := blk_frozen BK.out 0; have hf1 := blk_frozen BK.out 1; have hf2 := blk_frozen BK.out 2) | ((with_reducible refine gate_store (t := 41) (p := 6) rfl ?_); refine store_event (t := 41) (p := 6) (v := ?vo) (w1 := ((wa.setCell ⟨gb, 0, none⟩ (.int .u8 x0)).setCell ⟨gb, 1, none⟩ (.int .u16 x1)).setCell ⟨gb, 2, none⟩ (.int .u32 x2)) ?hg ?ho ?hn ?hr ?_; (case ho => rfl); (case hg => rfl); (case hn => rfl); (case hr => first | (go_simp; done) | (go_simp; rfl)); intro wb hw; have n0_ : Aside0 (IsBook wb g m n M) := ⟨by rw [hw]; exact HK.out.kept (heap_set3 wa gb _ _ _ g hgg) (heap_set3 wa gb _ _ _ m hgm)⟩; have n1_ : Aside0 (MapN wb ml n M) := ⟨by rw [hw]; exact HL.out.kept (heap_set3 wa gb _ _ _ ml hgl)⟩; have n2_ : Aside0 (Below w.heap.size w wb) := ⟨by rw [hw]; exact below_set (below_set (below_set HB.out GE.out) GE.out) GE.out⟩; have n3_ : Aside0 (wb.heap[gb]? = some (.cells #[.int .u8 x0, .int .u16 x1, .int .u32 x2] 41 (0, 0))) := ⟨by rw [hw]; exact blk_put (cs := #[.int .u8 x0, .int .u16 x1, .int .u32 0]) (blk_put (cs := #[.int .u8 x0, .int .u16 0, .int .u32 0]) (blk_put (cs := #[.int .u8 0, .int .u16 0, .int .u32 0]) BK.out 0 _ rfl) 1 _ rfl) 2 _ rfl⟩; clear HK HL HB BK hw hz0 hz1 hz2 hf0 hf1 hf2; have HK := n0_; have HL := n1_; have HB := n2_; have BK := n3_; clear n0_ n1_ n2_ n3_; have hz0 : wb.cell? ⟨gb, 0, none⟩ = some (.int .u8 x0) := (blk_cell BK.out 0).trans rfl; have hz1 : wb.cell? ⟨gb, 1, none⟩ = some (.int .u16 x1) := (blk_cell BK.out 1).trans rfl; have hz2 : wb.cell? ⟨gb, 2, none⟩ = some (.int .u32 x2) := (blk_cell BK.out 2).trans rfl) | (go_at_call 15; refine (stan_Saw.calls g m n M x1 (999999 - Int.tmod x2 3) _ HK.out (Nat.lt_of_succ_lt (Nat.lt_of_succ_lt HNM.out)) HTW.out HSW.out).mono ?_; rintro e wc ⟨rfl, hbk, hgr⟩; rw [HSM.out] at hbk; have n0_ := Aside0.mk (hbk.mono (Nat.le_succ (n + 1))); have n1_ := Aside0.mk (HL.out.kept (hgr.block ml HL.out.lt (fun e => HLM.out (Option.some.inj e)))); have n2_ := Aside0.mk (HB.out.grown hgr (below_size HB.out) (fun k hk => by injection hk with hk; rw [← hk]; exact HM.out)); clear HK HL HB BK hbk hgr; have HK := n0_; have HL := n1_; have HB := n2_; clear n0_ n1_ n2_; have hq1 := (MapN.look (W := wc) HL.out HTW.out).1; have n1_ := Aside0.mk (HL.out.mono (show n ≤ n + 1 + 1 by omega)); clear HL; have HL := n1_; clear n1_; have hq2 := (MapN.look (W := wc.drew) HL.out HTW.out).1))
       go_region_with (first | (go_at_call 17; refine (stan_Last.calls g m (n + 1 + 1) (M) x1 _ ?hbk HTW.out).mono ?_; (case hbk => exact HK.out); rintro e wz ⟨rfl, rfl⟩))
       all_goals go_wp2
       all_goals go_roundg k1
       all_goals first | (have := HK1.out; omega) | (exact ⟨_, rfl, ⟨by have := HI.out; have := of_eq_true q1b; have := CL.out; unfold wrap64; omega⟩, ⟨by have := HK1.out; omega⟩, ⟨M, n + 1 + 1, by have := HN.out; have := HI.out; have := of_eq_true q1b; have := CL.out; unfold wrap64; omega, HK.out, HL.out, HD.out⟩, ⟨by first | exact HB.out | exact below_drew1 HB.out⟩⟩)
     case neg =>
      have c8b : (Int.tmod x0 8 == 0) = false := beq_eq_false_iff_ne.mpr c8
      clear c8
      have HSW := Aside0.mk WF2.out
      by_cases c9 : M x1 < x2
      case pos =>
       have c9b : decide (M x1 < x2) = true := decide_eq_true c9
       by_cases cx : x2 ≤ 999999
       case pos =>
        have cxb : decide (x2 ≤ 999999) = true := decide_eq_true cx
        have hSM : sawM M x1 x2 = updM M x1 x2 := if_pos ⟨cx, c9⟩
        have HSM := Aside0.mk hSM
        clear hSM
        have HCX := Aside0.mk (show 0 ≤ x2 ∧ x2 ≤ 999999 from ⟨by have := HMT.out.1; omega, cx⟩)
        clear c9 cx
        go_wp2_with (first | ((with_reducible refine gate_dst (N := 6) rfl ?_); refine box_event ?hg (N := 6) ?hd (cs := #[.int .u8 0, .int .u16 0, .int .u32 0]) (t := 41) ?hr ?_; (case hd => rfl); (case hg => rfl); (case hr => first | (go_simp; done) | (go_simp; rfl)); intro gb hgb wa hbox hb; have n0_ := Aside0.mk (HK.out.below hb); have n1_ := Aside0.mk (HL.out.kept (hb.block ml HL.out.lt)); have n2_ := Aside0.mk (below_step HB.out hb); have BK := Aside0.mk hbox; have GE := Aside0.mk (show w.heap.size ≤ gb from by rw [hgb]; exact below_size HB.out); have hgg : g ≠ gb := (by rw [hgb]; exact Nat.ne_of_lt (blk_lt HK.out.1)); have hgm : m ≠ gb := (by rw [hgb]; exact Nat.ne_of_lt HK.out.2.2.lt); have hgl : ml ≠ gb := (by rw [hgb]; exact Nat.ne_of_lt HL.out.lt); clear HK HL HB hb hbox hgb; have HK := n0_; have HL := n1_; have HB := n2_; clear n0_ n1_ n2_; have hz0 : wa.cell? ⟨gb, 0, none⟩ = some (.int .u8 0) := (blk_cell BK.out 0).trans rfl; have hz1 : wa.cell? ⟨gb, 1, none⟩ = some (.int .u16 0) := (blk_cell BK.out 1).trans rfl; have hz2 : wa.cell? ⟨gb, 2, none⟩ = some (.int .u32 0) := (blk_cell BK.out 2).trans rfl; have hf0 := blk_frozen BK.out 0; have hf1 := blk_frozen BK.out 1; have hf2 := blk_frozen BK.out 2) | ((with_reducible refine gate_store (t := 41) (p := 6) rfl ?_); refine store_event (t := 41) (p := 6) (v := ?vo) (w1 := ((wa.setCell ⟨gb, 0, none⟩ (.int .u8 x0)).setCell ⟨gb, 1, none⟩ (.int .u16 x1)).setCell ⟨gb, 2, none⟩ (.int .u32 x2)) ?hg ?ho ?hn ?hr ?_; (case ho => rfl); (case hg => rfl); (case hn => rfl); (case hr => first | (go_simp; done) | (go_simp; rfl)); intro wb hw; have n0_ : Aside0 (IsBook wb g m n M) := ⟨by rw [hw]; exact HK.out.kept (heap_set3 wa gb _ _ _ g hgg) (heap_set3 wa gb _ _ _ m hgm)⟩; have n1_ : Aside0 (MapN wb ml n M) := ⟨by rw [hw]; exact HL.out.kept (heap_set3 wa gb _ _ _ ml hgl)⟩; have n2_ : Aside0 (Below w.heap.size w wb) := ⟨by rw [hw]; exact below_set (below_set (below_set HB.out GE.out) GE.out) GE.out⟩; have n3_ : Aside0 (wb.heap[gb]? = some (.cells #[.int .u8 x0, .int .u16 x1, .int .u32 x2] 41 (0, 0))) := ⟨by rw [hw]; exact blk_put (cs := #[.int .u8 x0, .int .u16 x1, .int .u32 0]) (blk_put (cs := #[.int .u8 x0, .int .u16 0, .int .u32 0]) (blk_put (cs := #[.int .u8 0, .int .u16 0, .int .u32 0]) BK.out 0 _ rfl) 1 _ rfl) 2 _ rfl⟩; clear HK HL HB BK hw hz0 hz1 hz2 hf0 hf1 hf2; have HK := n0_; have HL := n1_; have HB := n2_; have BK := n3_; clear n0_ n1_ n2_ n3_; have hz0 : wb.cell? ⟨gb, 0, none⟩ = some (.int .u8 x0) := (blk_cell BK.out 0).trans rfl; have hz1 : wb.cell? ⟨gb, 1, none⟩ = some (.int .u16 x1) := (blk_cell BK.out 1).trans rfl; have hz2 : wb.cell? ⟨gb, 2, none⟩ = some (.int .u32 x2) := (blk_cell BK.out 2).trans rfl) | (go_at_call 15; refine (stan_Saw.calls g m n M x1 x2 _ HK.out (Nat.lt_of_succ_lt (Nat.lt_of_succ_lt HNM.out)) HTW.out HSW.out).mono ?_; rintro e wc ⟨rfl, hbk, hgr⟩; rw [HSM.out] at hbk; have n0_ := Aside0.mk (hbk.mono (Nat.le_succ (n + 1))); have n1_ := Aside0.mk (HL.out.kept (hgr.block ml HL.out.lt (fun e => HLM.out (Option.some.inj e)))); have n2_ := Aside0.mk (HB.out.grown hgr (below_size HB.out) (fun k hk => by injection hk with hk; rw [← hk]; exact HM.out)); clear HK HL HB BK hbk hgr; have HK := n0_; have HL := n1_; have HB := n2_; clear n0_ n1_ n2_; have hq1 := (MapN.look (W := wc) HL.out HTW.out).1; obtain ⟨wd, hupd, hmc, hgc⟩ := MapN.upd (W := wc) HL.out (Nat.lt_of_succ_lt (Nat.lt_of_succ_lt HNM.out)) HTW.out (v := x2) HSW.out; have n0_ := Aside0.mk (HK.out.kept (hgc.block g (blk_lt HK.out.1) (fun e => HLG.out (Option.some.inj e).symm)) (hgc.block m HK.out.2.2.lt (fun e => HLM.out (Option.some.inj e).symm))); have n1_ := Aside0.mk (hmc.mono (Nat.le_succ (n + 1))); have n2_ := Aside0.mk (HB.out.grown hgc (below_size HB.out) (fun k hk => by injection hk with hk; rw [← hk]; exact HLW.out)); clear HK HL HB hmc hgc; have HK := n0_; have HL := n1_; have HB := n2_; clear n0_ n1_ n2_; have hq2 := (MapN.look (W := wd.drew) HL.out HTW.out).1))
        go_region_with (first | (go_at_call 17; refine (stan_Last.calls g m (n + 1 + 1) (updM M x1 x2) x1 _ ?hbk HTW.out).mono ?_; (case hbk => exact HK.out); rintro e wz ⟨rfl, rfl⟩))
        all_goals go_wp2
        all_goals go_roundg k1
        all_goals first | (have := HK1.out; omega) | (exact ⟨_, rfl, ⟨by have := HI.out; have := of_eq_true q1b; have := CL.out; unfold wrap64; omega⟩, ⟨by have := HK1.out; omega⟩, ⟨updM M x1 x2, n + 1 + 1, by have := HN.out; have := HI.out; have := of_eq_true q1b; have := CL.out; unfold wrap64; omega, HK.out, HL.out, HD.out.upd HCX.out.1 HCX.out.2⟩, ⟨by first | exact HB.out | exact below_drew1 HB.out⟩⟩)
       case neg =>
        have cxb : decide (x2 ≤ 999999) = false := decide_eq_false cx
        have hSM : sawM M x1 x2 = M := if_neg (fun h_ => cx h_.1)
        have HSM := Aside0.mk hSM
        clear hSM
        clear c9 cx
        go_wp2_with (first | ((with_reducible refine gate_dst (N := 6) rfl ?_); refine box_event ?hg (N := 6) ?hd (cs := #[.int .u8 0, .int .u16 0, .int .u32 0]) (t := 41) ?hr ?_; (case hd => rfl); (case hg => rfl); (case hr => first | (go_simp; done) | (go_simp; rfl)); intro gb hgb wa hbox hb; have n0_ := Aside0.mk (HK.out.below hb); have n1_ := Aside0.mk (HL.out.kept (hb.block ml HL.out.lt)); have n2_ := Aside0.mk (below_step HB.out hb); have BK := Aside0.mk hbox; have GE := Aside0.mk (show w.heap.size ≤ gb from by rw [hgb]; exact below_size HB.out); have hgg : g ≠ gb := (by rw [hgb]; exact Nat.ne_of_lt (blk_lt HK.out.1)); have hgm : m ≠ gb := (by rw [hgb]; exact Nat.ne_of_lt HK.out.2.2.lt); have hgl : ml ≠ gb := (by rw [hgb]; exact Nat.ne_of_lt HL.out.lt); clear HK HL HB hb hbox hgb; have HK := n0_; have HL := n1_; have HB := n2_; clear n0_ n1_ n2_; have hz0 : wa.cell? ⟨gb, 0, none⟩ = some (.int .u8 0) := (blk_cell BK.out 0).trans rfl; have hz1 : wa.cell? ⟨gb, 1, none⟩ = some (.int .u16 0) := (blk_cell BK.out 1).trans rfl; have hz2 : wa.cell? ⟨gb, 2, none⟩ = some (.int .u32 0) := (blk_cell BK.out 2).trans rfl; have hf0 := blk_frozen BK.out 0; have hf1 := blk_frozen BK.out 1; have hf2 := blk_frozen BK.out 2) | ((with_reducible refine gate_store (t := 41) (p := 6) rfl ?_); refine store_event (t := 41) (p := 6) (v := ?vo) (w1 := ((wa.setCell ⟨gb, 0, none⟩ (.int .u8 x0)).setCell ⟨gb, 1, none⟩ (.int .u16 x1)).setCell ⟨gb, 2, none⟩ (.int .u32 x2)) ?hg ?ho ?hn ?hr ?_; (case ho => rfl); (case hg => rfl); (case hn => rfl); (case hr => first | (go_simp; done) | (go_simp; rfl)); intro wb hw; have n0_ : Aside0 (IsBook wb g m n M) := ⟨by rw [hw]; exact HK.out.kept (heap_set3 wa gb _ _ _ g hgg) (heap_set3 wa gb _ _ _ m hgm)⟩; have n1_ : Aside0 (MapN wb ml n M) := ⟨by rw [hw]; exact HL.out.kept (heap_set3 wa gb _ _ _ ml hgl)⟩; have n2_ : Aside0 (Below w.heap.size w wb) := ⟨by rw [hw]; exact below_set (below_set (below_set HB.out GE.out) GE.out) GE.out⟩; have n3_ : Aside0 (wb.heap[gb]? = some (.cells #[.int .u8 x0, .int .u16 x1, .int .u32 x2] 41 (0, 0))) := ⟨by rw [hw]; exact blk_put (cs := #[.int .u8 x0, .int .u16 x1, .int .u32 0]) (blk_put (cs := #[.int .u8 x0, .int .u16 0, .int .u32 0]) (blk_put (cs := #[.int .u8 0, .int .u16 0, .int .u32 0]) BK.out 0 _ rfl) 1 _ rfl) 2 _ rfl⟩; clear HK HL HB BK hw hz0 hz1 hz2 hf0 hf1 hf2; have HK := n0_; have HL := n1_; have HB := n2_; have BK := n3_; clear n0_ n1_ n2_ n3_; have hz0 : wb.cell? ⟨gb, 0, none⟩ = some (.int .u8 x0) := (blk_cell BK.out 0).trans rfl; have hz1 : wb.cell? ⟨gb, 1, none⟩ = some (.int .u16 x1) := (blk_cell BK.out 1).trans rfl; have hz2 : wb.cell? ⟨gb, 2, none⟩ = some (.int .u32 x2) := (blk_cell BK.out 2).trans rfl) | (go_at_call 15; refine (stan_Saw.calls g m n M x1 x2 _ HK.out (Nat.lt_of_succ_lt (Nat.lt_of_succ_lt HNM.out)) HTW.out HSW.out).mono ?_; rintro e wc ⟨rfl, hbk, hgr⟩; rw [HSM.out] at hbk; have n0_ := Aside0.mk (hbk.mono (Nat.le_succ (n + 1))); have n1_ := Aside0.mk (HL.out.kept (hgr.block ml HL.out.lt (fun e => HLM.out (Option.some.inj e)))); have n2_ := Aside0.mk (HB.out.grown hgr (below_size HB.out) (fun k hk => by injection hk with hk; rw [← hk]; exact HM.out)); clear HK HL HB BK hbk hgr; have HK := n0_; have HL := n1_; have HB := n2_; clear n0_ n1_ n2_; have hq1 := (MapN.look (W := wc) HL.out HTW.out).1; have n1_ := Aside0.mk (HL.out.mono (show n ≤ n + 1 + 1 by omega)); clear HL; have HL := n1_; clear n1_; have hq2 := (MapN.look (W := wc.drew) HL.out HTW.out).1))
        go_region_with (first | (go_at_call 17; refine (stan_Last.calls g m (n + 1 + 1) (M) x1 _ ?hbk HTW.out).mono ?_; (case hbk => exact HK.out); rintro e wz ⟨rfl, rfl⟩))
        all_goals go_wp2
        all_goals go_roundg k1
        all_goals first | (have := HK1.out; omega) | (exact ⟨_, rfl, ⟨by have := HI.out; have := of_eq_true q1b; have := CL.out; unfold wrap64; omega⟩, ⟨by have := HK1.out; omega⟩, ⟨M, n + 1 + 1, by have := HN.out; have := HI.out; have := of_eq_true q1b; have := CL.out; unfold wrap64; omega, HK.out, HL.out, HD.out⟩, ⟨by first | exact HB.out | exact below_drew1 HB.out⟩⟩)
      case neg =>
       have c9b : decide (M x1 < x2) = false := decide_eq_false c9
       have hSM : sawM M x1 x2 = M := if_neg (fun h_ => c9 h_.2)
       have HSM := Aside0.mk hSM
       clear hSM
       clear c9
       go_wp2_with (first | ((with_reducible refine gate_dst (N := 6) rfl ?_); refine box_event ?hg (N := 6) ?hd (cs := #[.int .u8 0, .int .u16 0, .int .u32 0]) (t := 41) ?hr ?_; (case hd => rfl); (case hg => rfl); (case hr => first | (go_simp; done) | (go_simp; rfl)); intro gb hgb wa hbox hb; have n0_ := Aside0.mk (HK.out.below hb); have n1_ := Aside0.mk (HL.out.kept (hb.block ml HL.out.lt)); have n2_ := Aside0.mk (below_step HB.out hb); have BK := Aside0.mk hbox; have GE := Aside0.mk (show w.heap.size ≤ gb from by rw [hgb]; exact below_size HB.out); have hgg : g ≠ gb := (by rw [hgb]; exact Nat.ne_of_lt (blk_lt HK.out.1)); have hgm : m ≠ gb := (by rw [hgb]; exact Nat.ne_of_lt HK.out.2.2.lt); have hgl : ml ≠ gb := (by rw [hgb]; exact Nat.ne_of_lt HL.out.lt); clear HK HL HB hb hbox hgb; have HK := n0_; have HL := n1_; have HB := n2_; clear n0_ n1_ n2_; have hz0 : wa.cell? ⟨gb, 0, none⟩ = some (.int .u8 0) := (blk_cell BK.out 0).trans rfl; have hz1 : wa.cell? ⟨gb, 1, none⟩ = some (.int .u16 0) := (blk_cell BK.out 1).trans rfl; have hz2 : wa.cell? ⟨gb, 2, none⟩ = some (.int .u32 0) := (blk_cell BK.out 2).trans rfl; have hf0 := blk_frozen BK.out 0; have hf1 := blk_frozen BK.out 1; have hf2 := blk_frozen BK.out 2) | ((with_reducible refine gate_store (t := 41) (p := 6) rfl ?_); refine store_event (t := 41) (p := 6) (v := ?vo) (w1 := ((wa.setCell ⟨gb, 0, none⟩ (.int .u8 x0)).setCell ⟨gb, 1, none⟩ (.int .u16 x1)).setCell ⟨gb, 2, none⟩ (.int .u32 x2)) ?hg ?ho ?hn ?hr ?_; (case ho => rfl); (case hg => rfl); (case hn => rfl); (case hr => first | (go_simp; done) | (go_simp; rfl)); intro wb hw; have n0_ : Aside0 (IsBook wb g m n M) := ⟨by rw [hw]; exact HK.out.kept (heap_set3 wa gb _ _ _ g hgg) (heap_set3 wa gb _ _ _ m hgm)⟩; have n1_ : Aside0 (MapN wb ml n M) := ⟨by rw [hw]; exact HL.out.kept (heap_set3 wa gb _ _ _ ml hgl)⟩; have n2_ : Aside0 (Below w.heap.size w wb) := ⟨by rw [hw]; exact below_set (below_set (below_set HB.out GE.out) GE.out) GE.out⟩; have n3_ : Aside0 (wb.heap[gb]? = some (.cells #[.int .u8 x0, .int .u16 x1, .int .u32 x2] 41 (0, 0))) := ⟨by rw [hw]; exact blk_put (cs := #[.int .u8 x0, .int .u16 x1, .int .u32 0]) (blk_put (cs := #[.int .u8 x0, .int .u16 0, .int .u32 0]) (blk_put (cs := #[.int .u8 0, .int .u16 0, .int .u32 0]) BK.out 0 _ rfl) 1 _ rfl) 2 _ rfl⟩; clear HK HL HB BK hw hz0 hz1 hz2 hf0 hf1 hf2; have HK := n0_; have HL := n1_; have HB := n2_; have BK := n3_; clear n0_ n1_ n2_ n3_; have hz0 : wb.cell? ⟨gb, 0, none⟩ = some (.int .u8 x0) := (blk_cell BK.out 0).trans rfl; have hz1 : wb.cell? ⟨gb, 1, none⟩ = some (.int .u16 x1) := (blk_cell BK.out 1).trans rfl; have hz2 : wb.cell? ⟨gb, 2, none⟩ = some (.int .u32 x2) := (blk_cell BK.out 2).trans rfl) | (go_at_call 15; refine (stan_Saw.calls g m n M x1 x2 _ HK.out (Nat.lt_of_succ_lt (Nat.lt_of_succ_lt HNM.out)) HTW.out HSW.out).mono ?_; rintro e wc ⟨rfl, hbk, hgr⟩; rw [HSM.out] at hbk; have n0_ := Aside0.mk (hbk.mono (Nat.le_succ (n + 1))); have n1_ := Aside0.mk (HL.out.kept (hgr.block ml HL.out.lt (fun e => HLM.out (Option.some.inj e)))); have n2_ := Aside0.mk (HB.out.grown hgr (below_size HB.out) (fun k hk => by injection hk with hk; rw [← hk]; exact HM.out)); clear HK HL HB BK hbk hgr; have HK := n0_; have HL := n1_; have HB := n2_; clear n0_ n1_ n2_; have hq1 := (MapN.look (W := wc) HL.out HTW.out).1; have n1_ := Aside0.mk (HL.out.mono (show n ≤ n + 1 + 1 by omega)); clear HL; have HL := n1_; clear n1_; have hq2 := (MapN.look (W := wc.drew) HL.out HTW.out).1))
       go_region_with (first | (go_at_call 17; refine (stan_Last.calls g m (n + 1 + 1) (M) x1 _ ?hbk HTW.out).mono ?_; (case hbk => exact HK.out); rintro e wz ⟨rfl, rfl⟩))
       all_goals go_wp2
       all_goals go_roundg k1
       all_goals first | (have := HK1.out; omega) | (exact ⟨_, rfl, ⟨by have := HI.out; have := of_eq_true q1b; have := CL.out; unfold wrap64; omega⟩, ⟨by have := HK1.out; omega⟩, ⟨M, n + 1 + 1, by have := HN.out; have := HI.out; have := of_eq_true q1b; have := CL.out; unfold wrap64; omega, HK.out, HL.out, HD.out⟩, ⟨by first | exact HB.out | exact below_drew1 HB.out⟩⟩)

end Go.Proofs.YtidjkodejcnolaaDoor.PAll
