import Derived.Test.YtnnoanfiehjleaaDoorQKnown15
import Derived.Test.YtnnoanfiehjleaaDoorQWalkRef
import Derived.Test.YtnnoanfiehjleaaDoorPAllx7
import Derived.Test.YtnnoanfiehjleaaDoorPAllx4
/- Where any customer's walk over any table ends, and what is asked. -/
namespace Go.Proofs.YtnnoanfiehjleaaDoor.Q
open Go.RowKit Go.Proofs.YtnnoanfiehjleaaDoorW.PrintWords Go.Proofs.YtnnoanfiehjleaaDoorW.PrintMore Go.Proofs.YtnnoanfiehjleaaDoor.PAll
set_option linter.unusedVariables false

theorem tmod_u8 {v m : Int} (h : U8 v) (hm : 0 < m) : 0 ≤ Int.tmod v m ∧ Int.tmod v m < m := by
  unfold U8 at h
  rw [Int.tmod_eq_emod_of_nonneg h.1]
  exact ⟨Int.emod_nonneg _ (by omega), Int.emod_lt_of_pos _ hm⟩
def inL (s : ByteArray) : List ByteArray := [(⟨#[53, 49]⟩ : ByteArray), (⟨#[49]⟩ : ByteArray), (⟨#[50]⟩ : ByteArray), (⟨#[49, 50, 51, 52]⟩ : ByteArray), (⟨#[54, 48, 48]⟩ : ByteArray), (⟨#[49, 50, 51, 52, 53, 54, 55, 56]⟩ : ByteArray), (⟨#[120]⟩ : ByteArray), (⟨#[]⟩ : ByteArray), (⟨#[48]⟩ : ByteArray), s]
theorem inL_size (s : ByteArray) (h : s.size ≤ 40) : ∀ x ∈ inL s, x.size ≤ 1000 := by
  intro x hx
  unfold inL at hx
  simp only [List.mem_cons, List.not_mem_nil, or_false] at hx
  rcases hx with rfl | rfl | rfl | rfl | rfl | rfl | rfl | rfl | rfl | rfl
  all_goals first | omega | decide
theorem input_f {v : Int} (s : ByteArray) (hs : s.size ≤ 40) (h : U8 v) : ∃ x, guichetlaw15_input.f v s = some x ∧ x.size ≤ 1000 := by
  obtain ⟨h0, h1⟩ := tmod_u8 h (show (0 : Int) < 10 by decide)
  obtain ⟨j, hj⟩ := Int.eq_ofNat_of_zero_le h0
  have hl : j < (inL s).length := by show j < 10; omega
  refine ⟨rdOf ByteArray.empty (inL s) (Int.tmod v 10), ?_, ?_⟩
  · unfold guichetlaw15_input.f
    simp only [Option.bind_some]
    rw [if_pos h0, if_pos (by simpa using h1)]
    rfl
  · rw [hj]
    refine inL_size s hs _ ?_
    have : rdOf ByteArray.empty (inL s) (j : Int) = (inL s)[j] := by simp [rdOf, List.getD_eq_getElem?_getD, List.getElem?_eq_getElem hl]
    rw [this]
    exact List.getElem_mem hl
theorem rdT42_lt {l : List S42} {i : Nat} (h : i < l.length) : rd_T42 l (i : Int) = l[i] := by simp [rd_T42, List.getD_eq_getElem?_getD, List.getElem?_eq_getElem h]
theorem table_l0 (x0 : List S42) (hx : ∀ x ∈ x0, U8 x.f0 ∧ U8 x.f1) (hl : x0.length ≤ 1000) (n : Int) (hn : n ≠ 0) (d : Nat) : ∀ (i : Nat) (acc : List S34), x0.length - i = d → i ≤ x0.length → acc.length = i → ∃ m : List S34, Ev (fun k => guichetseat_Table.l0 k x0 acc n (i : Int)) m ∧ m.length = x0.length := by
  induction d with
  | zero =>
    intro i acc hd hi ha
    refine ⟨acc, ?_, by omega⟩
    refine Ev.succ ?_
    simp only [guichetseat_Table.l0]
    exact Ev.ite_neg (by omega) (Ev.now _)
  | succ d ih =>
    intro i acc hd hi ha
    have hlt : i < x0.length := by omega
    obtain ⟨u0, u1⟩ := hx x0[i] (List.getElem_mem hlt)
    obtain ⟨b0, b1⟩ := tmod_u8 u1 (show (0 : Int) < 6 by decide)
    by_cases h : Int.tmod (x0[i]).f0 16 = 15
    · obtain ⟨m, hm, hml⟩ := ih (i + 1) (acc ++ [(⟨((Int.tdiv ((x0[i]).f0) 16) % 256) % n, bt (⟨#[65, 66, 68, 69, 73, 90]⟩ : ByteArray) (Int.tmod ((x0[i]).f1) 6), Int.tmod (wrap64 ((x0[i]).f2)) n, Int.tmod (wrap64 ((x0[i]).f3)) n⟩ : S34)]) (by omega) (by omega) (by simp [ha])
      refine ⟨m, ?_, hml⟩
      refine Ev.succ ?_
      simp only [guichetseat_Table.l0]
      rw [rdT42_lt hlt, wrap_succ hlt (by omega)]
      exact Ev.ite_pos (by omega) (Ev.ite_pos (by omega) (Ev.ite_pos h (Ev.ite_neg hn (Ev.ite_pos b0 (Ev.ite_pos b1 (Ev.ite_pos (by omega) hm))))))
    · obtain ⟨m, hm, hml⟩ := ih (i + 1) (acc ++ [(⟨(i : Int), bt (⟨#[65, 66, 68, 69, 73, 90]⟩ : ByteArray) (Int.tmod ((x0[i]).f1) 6), Int.tmod (wrap64 ((x0[i]).f2)) n, Int.tmod (wrap64 ((x0[i]).f3)) n⟩ : S34)]) (by omega) (by omega) (by simp [ha])
      refine ⟨m, ?_, hml⟩
      refine Ev.succ ?_
      simp only [guichetseat_Table.l0]
      rw [rdT42_lt hlt, wrap_succ hlt (by omega)]
      exact Ev.ite_pos (by omega) (Ev.ite_pos (by omega) (Ev.ite_neg h (Ev.ite_pos b0 (Ev.ite_pos b1 (Ev.ite_neg hn (Ev.ite_pos (by omega) hm))))))
theorem table_ev (x0 : List S42) (hx : ∀ x ∈ x0, U8 x.f0 ∧ U8 x.f1) (hl : x0.length ≤ 1000) (few : Int) (hf : U8 few) : ∃ m : List S34, Ev (fun k => guichetseat_Table.f k x0 few) m ∧ m.length = x0.length := by
  obtain ⟨b0, b1⟩ := tmod_u8 hf (show (0 : Int) < 12 by decide)
  unfold guichetseat_Table.f
  exact table_l0 x0 hx hl _ (by unfold wrap64; omega) _ 0 [] rfl (by omega) rfl
theorem rs_refl (r : Rs) : (r.1 == r.1 && (r.2.1 == r.2.1 && (r.2.2.1 == r.2.2.1 && (r.2.2.2.1.toList == r.2.2.2.1.toList && (r.2.2.2.2 == r.2.2.2.2))))) = true := by simp
theorem tells_l0 (x0 : List S34) (h0 : x0.length ≤ 1000) (x1 : List S42) (h1 : ∀ x ∈ x1, U8 x.f0 ∧ U8 x.f1) (l1 : x1.length ≤ 1000) (x2 x3 : Int) (h2 : U8 x2) (x4 : List Int) (h4 : ∀ x ∈ x4, U8 x) (l4 : x4.length ≤ 1000) (x5 : ByteArray) (h5 : x5.size ≤ 40) (d : Nat) :
    ∀ (i : Nat) (acc : List ByteArray), x4.length - i = d → i ≤ x4.length → acc.length = i → (∀ x ∈ acc, x.size ≤ 1000) → Ev (fun k => guichetlaw15_WalkTells.l0 k x0 x1 x2 x3 x4 x5 acc (i : Int)) true := by
  induction d with
  | zero =>
    intro i acc hd hi ha hx
    obtain ⟨m, hm, hml⟩ := table_ev x1 h1 l1 x2 h2
    refine Ev.succ ?_
    simp only [guichetlaw15_WalkTells.l0]
    refine Ev.ite_neg (by omega) (Ev.bind hm ?_)
    refine Ev.bind (run_ev m (by omega) 0 acc hx) (Ev.bind (refrun_ev m (by omega) 0 acc hx) (Ev.ite_pos (rs_refl _) ?_))
    refine Ev.bind (run_ev x0 (by omega) x3 acc hx) (Ev.bind (refrun_ev x0 (by omega) x3 acc hx) (Ev.ite_pos (rs_refl _) ?_))
    refine Ev.bind (run_ev m (by omega) _ acc hx) (Ev.bind (refrun_ev m (by omega) _ acc hx) ?_)
    exact ⟨0, fun _ _ => congrArg some (rs_refl _)⟩
  | succ d ih =>
    intro i acc hd hi ha hx
    have hlt : i < x4.length := by omega
    obtain ⟨x, hf, hs⟩ := input_f x5 h5 (h4 x4[i] (List.getElem_mem hlt))
    refine Ev.succ ?_
    simp only [guichetlaw15_WalkTells.l0]
    rw [rd_lt hlt, wrap_succ hlt (by omega)]
    refine Ev.ite_pos (by omega) (Ev.ite_pos (by omega) (Ev.const_bind hf (Ev.ite_pos (by omega) ?_)))
    exact ih (i + 1) (acc ++ [x]) (by omega) (by omega) (by simp [ha]) (fun z hz => by
      rw [List.mem_append, List.mem_singleton] at hz
      rcases hz with hz | rfl
      · exact hx z hz
      · exact hs)
end Go.Proofs.YtnnoanfiehjleaaDoor.Q
namespace Go.Proofs.YtnnoanfiehjleaaDoor.Pure
open Go.RowKit Go.Proofs.YtnnoanfiehjleaaDoorW.PrintWords Go.Proofs.YtnnoanfiehjleaaDoorW.PrintMore Go.Proofs.YtnnoanfiehjleaaDoor.PAll Go.Proofs.YtnnoanfiehjleaaDoor.Q
theorem WalkTells : guichetlaw15_WalkTells.Pure := by
  intro l0 l1 a2 a3 l4 a5 h0 q0 h1 q1 h2 h3 h4 _ q4 h5
  have ht : ∀ x0 x1 x2 x3 x4 x5, Ev (fun k => guichetlaw15_WalkTells.j0 k x0 x1 x2 x3 x4 x5 true) true := fun x0 x1 x2 x3 x4 x5 => by
    refine Ev.succ ?_
    simp only [guichetlaw15_WalkTells.j0]
    first | exact Ev.now _ | exact Ev.ite_pos trivial (Ev.now _)
  refine Ev.rounds ?_
  unfold guichetlaw15_WalkTells.f
  refine Ev.bind known15 (Ev.ite_pos rfl ?_)
  by_cases c0 : (l0.length : Int) > 30
  · exact Ev.ite_pos c0 (ht _ _ _ _ _ _)
  refine Ev.ite_neg c0 ?_
  by_cases c1 : (l1.length : Int) > 30
  · exact Ev.ite_pos c1 (ht _ _ _ _ _ _)
  refine Ev.ite_neg c1 ?_
  by_cases c4 : (l4.length : Int) > 120
  · exact Ev.ite_pos c4 (ht _ _ _ _ _ _)
  refine Ev.ite_neg c4 ?_
  by_cases c5 : (a5.size : Int) > 40
  · rw [decide_eq_true c5]
    exact ht _ _ _ _ _ _
  rw [decide_eq_false c5]
  refine Ev.succ ?_
  simp only [guichetlaw15_WalkTells.j0]
  refine Ev.ite_neg (by decide) ?_
  exact tells_l0 l0 (by omega) l1 (fun x hx => ⟨U8.of (q1 x hx).1, U8.of (q1 x hx).2.1⟩) (by omega) a2 a3 (U8.of h2) l4 (fun x hx => U8.of (q4 x hx)) (by omega) a5 (by omega) _ 0 [] rfl (by omega) rfl (fun x hx => by cases hx)
end Go.Proofs.YtnnoanfiehjleaaDoor.Pure
