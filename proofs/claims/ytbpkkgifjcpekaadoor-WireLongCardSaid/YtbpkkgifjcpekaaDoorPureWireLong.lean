/- Just how long what is in a frame may be. -/
import Derived.Test.YtbpkkgifjcpekaaDoorQKnown
import Derived.Test.YtbpkkgifjcpekaaDoorQUnframe
import Derived.Test.YtbpkkgifjcpekaaDoorPAllx5
namespace Go.Proofs.YtbpkkgifjcpekaaDoor.Pure
open Go.RowKit Go.Proofs.YtbpkkgifjcpekaaDoorW.PrintWords Go.Proofs.YtbpkkgifjcpekaaDoorW.PrintMore Go.Proofs.YtbpkkgifjcpekaaDoor.PAll Go.Proofs.YtbpkkgifjcpekaaDoor.Q

theorem set_next (c : Int) (n i : Nat) (h : i < n) : (List.replicate i c ++ List.replicate (n - i) 0).set i c = List.replicate (i + 1) c ++ List.replicate (n - (i + 1)) 0 := by
  rw [List.set_append_right _ _ (by simp)]
  obtain ⟨m, hm⟩ : ∃ m, n - i = m + 1 := ⟨n - i - 1, by omega⟩
  rw [hm, show n - (i + 1) = m by omega, List.replicate_succ]
  simp [List.replicate_succ']
theorem long_fits (c : Int) (n : Nat) (hn : 0 < n) : Fits (List.replicate n c) ↔ c ≠ 2 ∧ c ≠ 3 ∧ n ≤ 500 := by
  unfold Fits Plain
  simp only [List.mem_replicate, List.length_replicate]
  constructor
  · rintro ⟨⟨a, b⟩, h⟩
    exact ⟨fun e => a ⟨by omega, e.symm⟩, fun e => b ⟨by omega, e.symm⟩, h⟩
  · rintro ⟨a, b, h⟩
    exact ⟨⟨fun e => a e.2.symm, fun e => b e.2.symm⟩, h⟩
theorem long_end (c : Int) (n : Nat) (h0 : 498 ≤ n) (h1 : n ≤ 502) : Ev (fun k => guichetlaw11_WireLong.l0 k c (n : Int) (List.replicate n c) (n : Int)) true := by
  generalize hL : List.replicate n c = L
  have hl : L.length = n := by rw [← hL, List.length_replicate]
  have hf : Fits L ↔ c ≠ 2 ∧ c ≠ 3 ∧ n ≤ 500 := by rw [← hL]; exact long_fits c n (by omega)
  have hw : wrap64 ((n : Int) + 3) = ((n + 3 : Nat) : Int) := by unfold wrap64; omega
  refine Ev.step (g := fun k => guichetlaw11_WireLong.l0 k c (n : Int) L (n : Int)) (fun k => by
    simp only [guichetlaw11_WireLong.l0]
    rw [if_neg (by omega)]) ?_
  refine Ev.bind (wire_frame L (by omega)) ?_
  refine Ev.some_bind (Ev.ite_pos (by simp only [List.length_cons, List.length_nil]; omega) (Ev.some_bind (Ev.ite_pos (by simp only [List.length_append, List.length_cons, List.length_nil]; omega) (Ev.some_bind ?_))))
  refine Ev.bind (ref_lrc L (by omega)) ?_
  refine Ev.ite_pos (by simp only [List.length_append, List.length_cons, List.length_nil]; omega) (Ev.some_bind ?_)
  rw [hw]
  refine Ev.bind (wire_unframe ([2] ++ L ++ [3] ++ [X (lrc L) 3]) (by simp; omega)) ?_
  refine Ev.bind (ref_unframe ([2] ++ L ++ [3] ++ [X (lrc L) 3]) (by simp; omega)) ?_
  generalize un ([2] ++ L ++ [3] ++ [X (lrc L) 3]) none 0 = u
  by_cases hg : Fits L
  · obtain ⟨a, b, h5⟩ := hf.1 hg
    have hF : frameR L = (frame L, true) := if_pos hg
    rw [hF]
    have hfl : (frame L).length = n + 3 := by simp [frame, hl]
    refine Ev.ite_pos (by omega) (Ev.ite_neg a ?_)
    simp [b, hfl]
    exact Ev.now _
  · have hF : frameR L = ([], false) := if_neg hg
    rw [hF]
    by_cases h5 : n ≤ 500
    · refine Ev.ite_pos (by omega) ?_
      by_cases h2 : c = 2
      · refine Ev.ite_pos h2 ?_
        simp
        refine Ev.ite_neg (by omega) (Ev.now _)
      · have h3 : c = 3 := Decidable.byContradiction fun h3 => hg (hf.2 ⟨h2, h3, h5⟩)
        refine Ev.ite_neg h2 ?_
        simp [h3]
        refine Ev.ite_neg (by omega) (Ev.now _)
    · refine Ev.ite_neg (by omega) ?_
      simp
      refine Ev.ite_neg (by omega) (Ev.now _)
theorem long_l0 (c : Int) (n : Nat) (h0 : 498 ≤ n) (h1 : n ≤ 502) (d : Nat) : ∀ i, n - i = d → i ≤ n → Ev (fun k => guichetlaw11_WireLong.l0 k c (n : Int) (List.replicate i c ++ List.replicate (n - i) 0) (i : Int)) true := by
  induction d with
  | zero =>
    intro i hd hi
    obtain rfl : i = n := by omega
    rw [Nat.sub_self, List.replicate_zero, List.append_nil]
    exact long_end c i h0 h1
  | succ d ih =>
    intro i hd hi
    refine Ev.step (fun k => ?_) (ih (i + 1) (by omega) (by omega))
    simp only [guichetlaw11_WireLong.l0]
    rw [if_pos (by omega), if_pos (by omega), if_pos (by simp; omega), Int.toNat_natCast, set_next c n i (by omega), wrap_succ (show i < n by omega) (by omega)]
theorem WireLong : guichetlaw11_WireLong.Pure := by
  intro n c hn hc
  refine Ev.rounds (g := fun k => guichetlaw11_WireLong.f k n c) ?_
  have hn8 := U8.of hn
  unfold U8 at hn8
  obtain ⟨m, hm⟩ : ∃ m : Nat, wrap64 (498 + wrap64 (Int.tmod n 5)) = m ∧ 498 ≤ m ∧ m ≤ 502 := by
    have h5 : Int.tmod n 5 = n % 5 := Int.tmod_eq_emod_of_nonneg hn8.1
    refine ⟨(498 + n % 5).toNat, ?_, by omega, by omega⟩
    rw [h5]
    unfold wrap64
    omega
  unfold guichetlaw11_WireLong.f
  refine Ev.bind (f := fun k t => if t = true then (if 0 ≤ (wrap64 (498 + (wrap64 (Int.tmod n 5)))) then (if (wrap64 (498 + (wrap64 (Int.tmod n 5))) : Int).toNat ≤ 281474976710656 then (guichetlaw11_WireLong.l0 k c (wrap64 (498 + (wrap64 (Int.tmod n 5)))) (List.replicate (wrap64 (498 + (wrap64 (Int.tmod n 5))) : Int).toNat 0) 0) else (none)) else (none)) else (some false)) known_true ?_
  rw [hm.1]
  refine Ev.ite_pos rfl (Ev.ite_pos (by omega) (Ev.ite_pos (by omega) ?_))
  exact long_l0 c m hm.2.1 hm.2.2 _ 0 rfl (by omega)
end Go.Proofs.YtbpkkgifjcpekaaDoor.Pure
