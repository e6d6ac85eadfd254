import Derived.Test.YthajndlkibpncaaDoorQKnown14
import Derived.Test.YthajndlkibpncaaDoorQCheck4
import Derived.Test.YthajndlkibpncaaDoorPAllx6
import Derived.Test.YthajndlkibpncaaDoorPAllx13
/- TableChecks: which tables are right, and where and why one isn't. -/
namespace Go.Proofs.YthajndlkibpncaaDoor.Pure
open Go.RowKit Go.Proofs.YthajndlkibpncaaDoorW.PrintWords Go.Proofs.YthajndlkibpncaaDoorW.PrintMore Go.Proofs.YthajndlkibpncaaDoor.PAll Go.Proofs.YthajndlkibpncaaDoor.Q
set_option linter.unusedVariables false
set_option linter.unusedSimpArgs false
def Wf (x : S34) : Prop := U8 x.f1 ∧ (Lit.int .i64 x.f0).wf = true ∧ (Lit.int .i64 x.f2).wf = true ∧ (Lit.int .i64 x.f3).wf = true
def U4 (x : S52) : Prop := U8 x.f0 ∧ U8 x.f1 ∧ U8 x.f2 ∧ U8 x.f3
theorem wf_small {v : Int} (h0 : 0 ≤ v) (h1 : v ≤ 1000) : (Lit.int .i64 v).wf = true := by simp [Lit.wf, IntKind.min, IntKind.max, IntKind.bits, IntKind.signed]; omega
theorem Wf.mk4 {a b c d : Int} (hb : U8 b) (a0 : 0 ≤ a) (a1 : a ≤ 1000) (c0 : 0 ≤ c) (c1 : c ≤ 1000) (d0 : 0 ≤ d) (d1 : d ≤ 1000) : Wf ⟨a, b, c, d⟩ := ⟨hb, wf_small a0 a1, wf_small c0 c1, wf_small d0 d1⟩
theorem bt_kinds {j : Int} (h0 : 0 ≤ j) (h1 : j < 6) : U8 (bt (⟨#[65, 66, 68, 69, 73, 90]⟩ : ByteArray) j) := by
  obtain ⟨n, rfl⟩ := Int.eq_ofNat_of_zero_le h0
  have hn : n < 6 := by omega
  have : ∀ m : Fin 6, U8 (bt (⟨#[65, 66, 68, 69, 73, 90]⟩ : ByteArray) ((m.val : Nat) : Int)) := by unfold U8; decide +kernel
  exact this ⟨n, hn⟩
theorem rd52_lt {l : List S52} {i : Nat} (h : i < l.length) : rd_T52 l (i : Int) = l[i] := by simp [rd_T52, List.getD_eq_getElem?_getD, List.getElem?_eq_getElem h]
theorem tmod_rng {a m : Int} (ha : 0 ≤ a) (hm : 0 < m) : 0 ≤ Int.tmod a m ∧ Int.tmod a m < m := by rw [Int.tmod_eq_emod_of_nonneg ha]; exact ⟨Int.emod_nonneg _ (by omega), Int.emod_lt_of_pos _ hm⟩
theorem seat_l0 (l : List S52) (hl : l.length ≤ 40) (hu : ∀ x ∈ l, U4 x) (x6 : Int) (h6 : 2 ≤ x6) (h7 : x6 ≤ 20) (d : Nat) : ∀ (i : Nat) (out : List S34), l.length - i = d → i ≤ l.length → out.length = i → (∀ x ∈ out, Wf x) → ∃ m : List S34, Ev (fun k => guichetseat_Table.l0 k l out x6 (i : Int)) m ∧ m.length ≤ 40 ∧ ∀ x ∈ m, Wf x := by
  induction d with
  | zero =>
    intro i out hd hi ho hw
    refine ⟨out, Ev.step (f := fun _ => some out) (fun k => by simp only [guichetseat_Table.l0]; rw [if_neg (by omega)]) (Ev.now _), by omega, hw⟩
  | succ d ih =>
    intro i out hd hi ho hw
    have hlt : i < l.length := by omega
    obtain ⟨⟨a0, a1⟩, ⟨b0, b1⟩, ⟨c0, c1⟩, ⟨d0, d1⟩⟩ := hu _ (List.getElem_mem hlt)
    obtain ⟨j0, j1⟩ := tmod_rng b0 (show (0 : Int) < 6 by omega)
    have w2 : wrap64 (l[i]).f2 = (l[i]).f2 := wrap_id (by omega) (by omega)
    have w3 : wrap64 (l[i]).f3 = (l[i]).f3 := wrap_id (by omega) (by omega)
    obtain ⟨e0, e1⟩ := tmod_rng c0 (show (0 : Int) < x6 by omega)
    obtain ⟨g0, g1⟩ := tmod_rng d0 (show (0 : Int) < x6 by omega)
    have f0 : 0 ≤ ((Int.tdiv (l[i]).f0 16) % 256) % x6 := Int.emod_nonneg _ (by omega)
    have f1 : ((Int.tdiv (l[i]).f0 16) % 256) % x6 < x6 := Int.emod_lt_of_pos _ (by omega)
    have hk := bt_kinds j0 j1
    by_cases h15 : Int.tmod (l[i]).f0 16 = 15
    · obtain ⟨m, h1, h2, h3⟩ := ih (i + 1) (out ++ [(⟨((Int.tdiv (l[i]).f0 16) % 256) % x6, bt (⟨#[65, 66, 68, 69, 73, 90]⟩ : ByteArray) (Int.tmod (l[i]).f1 6), Int.tmod (l[i]).f2 x6, Int.tmod (l[i]).f3 x6⟩ : S34)]) (by omega) (by omega) (by simp [ho]) (fun x hx => by
        rcases List.mem_append.mp hx with hx | hx
        · exact hw x hx
        · rw [List.mem_singleton] at hx
          subst hx
          exact Wf.mk4 hk f0 (by omega) e0 (by omega) g0 (by omega))
      refine ⟨m, Ev.step (fun k => ?_) h1, h2, h3⟩
      simp only [guichetseat_Table.l0]
      rw [if_pos (by omega), if_pos (by omega), rd52_lt hlt, if_pos h15, if_neg (by omega), if_pos j0, if_pos j1, if_pos (by omega), w2, w3, wrap_succ hlt (by omega)]
    · obtain ⟨m, h1, h2, h3⟩ := ih (i + 1) (out ++ [(⟨(i : Int), bt (⟨#[65, 66, 68, 69, 73, 90]⟩ : ByteArray) (Int.tmod (l[i]).f1 6), Int.tmod (l[i]).f2 x6, Int.tmod (l[i]).f3 x6⟩ : S34)]) (by omega) (by omega) (by simp [ho]) (fun x hx => by
        rcases List.mem_append.mp hx with hx | hx
        · exact hw x hx
        · rw [List.mem_singleton] at hx
          subst hx
          exact Wf.mk4 hk (by omega) (by omega) e0 (by omega) g0 (by omega))
      refine ⟨m, Ev.step (fun k => ?_) h1, h2, h3⟩
      simp only [guichetseat_Table.l0]
      rw [if_pos (by omega), if_pos (by omega), rd52_lt hlt, if_neg h15, if_pos j0, if_pos j1, if_neg (by omega), if_pos (by omega), w2, w3, wrap_succ hlt (by omega)]
theorem seat_ev (l : List S52) (hl : l.length ≤ 40) (hu : ∀ x ∈ l, U4 x) (few : Int) (hf : U8 few) : ∃ m : List S34, Ev (fun k => guichetseat_Table.f k l few) m ∧ m.length ≤ 40 ∧ ∀ x ∈ m, Wf x := by
  obtain ⟨f0, f1⟩ := tmod_rng hf.1 (show (0 : Int) < 12 by omega)
  have e : wrap64 (wrap64 (Int.tmod few 12) + 2) = Int.tmod few 12 + 2 := by rw [wrap_id (n := Int.tmod few 12) (by omega) (by omega), wrap_id (by omega) (by omega)]
  obtain ⟨m, h1, h2, h3⟩ := seat_l0 l hl hu (Int.tmod few 12 + 2) (by omega) (by omega) _ 0 [] rfl (by omega) rfl (fun x hx => by cases hx)
  refine ⟨m, ?_, h2, h3⟩
  unfold guichetseat_Table.f
  rw [e]
  exact h1
/-! ### the law -/
theorem find_both (l : List S34) (hl : l.length ≤ 100000) (n : Int) (d : Nat) : ∀ i : Nat, l.length - i = d → i ≤ l.length → ∃ r, Ev (fun k => guichetref12_Find.l0 k l n (i : Int)) r ∧ Ev (fun k => table_Find.l0 k n l (l.length : Int) (i : Int)) r := by
  induction d with
  | zero =>
    intro i h1 hi
    refine ⟨(0, 0, 0, 0, false), Ev.step (f := fun _ => some (0, 0, 0, 0, false)) (fun k => by simp only [guichetref12_Find.l0]; rw [if_neg (by omega)]) (Ev.now _), Ev.step (f := fun _ => some (0, 0, 0, 0, false)) (fun k => by simp only [table_Find.l0]; rw [if_neg (by omega)]) (Ev.now _)⟩
  | succ d ih =>
    intro i h1 hi
    have hlt : i < l.length := by omega
    by_cases h : l[i].f0 = n
    · refine ⟨(l[i].f0, l[i].f1, l[i].f2, l[i].f3, true), Ev.step (f := fun _ => some (l[i].f0, l[i].f1, l[i].f2, l[i].f3, true)) (fun k => ?_) (Ev.now _), Ev.step (f := fun _ => some (l[i].f0, l[i].f1, l[i].f2, l[i].f3, true)) (fun k => ?_) (Ev.now _)⟩
      · simp only [guichetref12_Find.l0]
        rw [if_pos (by omega), if_pos (by omega), Q.rd_S hlt, if_pos h]
      · simp only [table_Find.l0]
        rw [if_pos (by omega), if_pos (by omega), if_pos (by omega), Q.rd_S hlt, if_pos h]
    · obtain ⟨r, h2, h3⟩ := ih (i + 1) (by omega) (by omega)
      refine ⟨r, Ev.step (f := fun k => guichetref12_Find.l0 k l n ((i + 1 : Nat) : Int)) (fun k => ?_) h2, Ev.step (f := fun k => table_Find.l0 k n l (l.length : Int) ((i + 1 : Nat) : Int)) (fun k => ?_) h3⟩
      · simp only [guichetref12_Find.l0]
        rw [if_pos (by omega), if_pos (by omega), Q.rd_S hlt, if_neg h, wrap_succ hlt (by omega)]
      · simp only [table_Find.l0]
        rw [if_pos (by omega), if_pos (by omega), if_pos (by omega), Q.rd_S hlt, if_neg h, wrap_succ hlt (by omega)]
theorem good_t (l : List S34) (hl : l.length ≤ 100000) (n : Int) : ∃ K, ∀ k, K ≤ k → GoodT k l n := by
  obtain ⟨⟨a, b, c, d, e⟩, ⟨K1, h1⟩, ⟨K2, h2⟩⟩ := find_both l hl n _ 0 rfl (Nat.zero_le _)
  exact ⟨max K1 K2, fun k hk => ⟨a, b, c, d, e, h2 k (by omega), h1 k (by omega)⟩⟩
theorem good_c (l : List S34) (hl : l.length ≤ 40) (hw : ∀ s ∈ l, WfS s) (n : Int) : ∃ K, ∀ k, K ≤ k → GoodC k l n := by
  obtain ⟨K1, h1⟩ := prog_check l (by omega) hw
  obtain ⟨K2, h2⟩ := ref_check l (by omega) hw
  obtain ⟨K3, h3⟩ := good_t l (by omega) n
  obtain ⟨K4, h4⟩ := good_t l (by omega) (Go.bits .and .i64 n 15)
  exact ⟨max (max K1 K2) (max K3 K4), fun k hk => ⟨⟨(checkB l).1, (checkB l).2, h1 k (by omega), h2 k (by omega)⟩, h3 k (by omega), h4 k (by omega)⟩⟩
theorem u8_wf {v : Int} (h : U8 v) : (Lit.int .u8 v).wf = true := by
  unfold U8 at h
  simp [Lit.wf, IntKind.min, IntKind.max, IntKind.bits, IntKind.signed]
  omega
theorem TableChecks : guichetlaw14_TableChecks.Pure := by
  intro l0 l1 a2 a3 _ hw0 _ hw1 h2 h3
  obtain ⟨K1, h1⟩ := known_true
  by_cases hl : l0.length ≤ 40 ∧ l1.length ≤ 40
  · obtain ⟨m, ⟨K2, hm⟩, hml, hmw⟩ := seat_ev l1 hl.2 (fun x hx => by obtain ⟨a, b, c, d⟩ := hw1 x hx; exact ⟨U8.of a, U8.of b, U8.of c, U8.of d⟩) a2 (U8.of h2)
    obtain ⟨K3, hg0⟩ := good_c l0 hl.1 (fun s hs => hw0 s hs) a3
    obtain ⟨K4, hgm⟩ := good_c m hml (fun s hs => by obtain ⟨a, b, c, d⟩ := hmw s hs; exact ⟨b, u8_wf a, c, d⟩) a3
    refine ⟨max (max K1 K2) (max K3 K4), h1 _ (by omega), fun _ _ => ⟨m, hm _ (by omega), hg0 _ (by omega), hgm _ (by omega)⟩⟩
  · exact ⟨K1, h1 _ (Nat.le_refl _), fun p q => absurd ⟨p, q⟩ hl⟩
end Go.Proofs.YthajndlkibpncaaDoor.Pure
