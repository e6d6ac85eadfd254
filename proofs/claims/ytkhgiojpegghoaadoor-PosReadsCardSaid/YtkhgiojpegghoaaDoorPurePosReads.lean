import Derived.Test.YtkhgiojpegghoaaDoorQKnown13
import Derived.Test.YtkhgiojpegghoaaDoorPAllx8
/- PosReads: any bytes, and a request's with one turned, or cut off, its sum right again too, are the document's. -/
namespace Go.Proofs.YtkhgiojpegghoaaDoor.Pure
open Go.RowKit Go.Proofs.YtkhgiojpegghoaaDoorW.PrintWords Go.Proofs.YtkhgiojpegghoaaDoorW.PrintMore Go.Proofs.YtkhgiojpegghoaaDoor.PAll Go.Proofs.YtkhgiojpegghoaaDoor.Q
set_option linter.unusedVariables false

theorem reads_l0 (ys : List (List Int)) (hy : ∀ y ∈ ys, (∀ c ∈ y, U8 c) ∧ y.length ≤ 1000) (hl : ys.length ≤ 100) (d : Nat) : ∀ i : Nat, ys.length - i = d → i ≤ ys.length → Ev (fun k => guichetlaw13_PosReads.l0 k ys (ys.length : Int) (i : Int)) true := by
  induction d with
  | zero =>
    intro i hd hi
    exact Ev.step (f := fun _ => some true) (fun k => by simp only [guichetlaw13_PosReads.l0]; rw [if_neg (by omega)]) (Ev.now _)
  | succ d ih =>
    intro i hd hi
    have hlt : i < ys.length := by omega
    obtain ⟨h1, h2⟩ := hy ys[i] (List.getElem_mem hlt)
    refine Ev.step (f := fun k => (pos_Read.f k ys[i]).bind fun a => (guichetref12_PosRead.f k ys[i]).bind fun b => (if (!(a.1 == b.1) || (!(a.2.1 == b.2.1) || (!(a.2.2.1.toList == b.2.2.1.toList) || (!(a.2.2.2.1 == b.2.2.2.1))))) = true then none else (if a.2.2.2.2.1 = b.2.2.2.2.1 then (if a.2.2.2.2.2 = b.2.2.2.2.2 then guichetlaw13_PosReads.l0 k ys (ys.length : Int) ((i + 1 : Nat) : Int) else none) else none))) (fun k => ?_) ?_
    · simp only [guichetlaw13_PosReads.l0]
      rw [if_pos (by omega), if_pos (by omega), if_pos (by omega), rdL_lt hlt, wrap_succ hlt (by omega)]
    refine Ev.bind (pos_read _ (by omega) h1) (Ev.bind (ref_read _ (by omega) h1) ?_)
    exact Ev.ite_neg (by rw [same_out]; simp) (Ev.ite_pos rfl (Ev.ite_pos rfl (ih (i + 1) (by omega) (by omega))))
theorem reads_j1 (raw b : List Int) (hr : ∀ c ∈ raw, U8 c) (hb : ∀ c ∈ b, U8 c) (hr1 : raw.length ≤ 200) (hb1 : b.length ≤ 200) : Ev (fun k => guichetlaw13_PosReads.j1 k raw b) true := by
  have hf : (∀ c ∈ (frameR raw).1, U8 c) ∧ (frameR raw).1.length ≤ 1000 := by
    unfold frameR
    split
    · refine ⟨fun c hc => ?_, by simp [frame]; omega⟩
      unfold frame at hc
      simp only [List.mem_append, List.mem_cons, List.not_mem_nil, or_false] at hc
      rcases hc with (rfl | hc) | rfl | rfl
      · unfold U8; omega
      · exact hr c hc
      · unfold U8; omega
      · exact X_u8 _ _
    · exact ⟨fun c hc => by simp at hc, by simp⟩
  refine Ev.step (f := fun k => (guichetref1_Frame.f k raw).bind fun t => guichetlaw13_PosReads.l0 k [raw, b, t.1] (([raw, b, t.1] : List (List Int)).length : Int) 0) (fun k => by simp only [guichetlaw13_PosReads.j1]; rfl) ?_
  refine Ev.bind (ref_frame raw) ?_
  refine reads_l0 [raw, b, (frameR raw).1] (fun y hy => ?_) (by simp) _ 0 rfl (by omega)
  simp only [List.mem_cons, List.not_mem_nil, or_false] at hy
  rcases hy with rfl | rfl | rfl
  · exact ⟨hr, by omega⟩
  · exact ⟨hb, by omega⟩
  · exact hf
theorem reads_j0 (raw b : List Int) (cut : Bool) (i : Nat) (hi : i ≤ b.length) (hr : ∀ c ∈ raw, U8 c) (hb : ∀ c ∈ b, U8 c) (hr1 : raw.length ≤ 200) (hb1 : b.length ≤ 200) : Ev (fun k => guichetlaw13_PosReads.j0 k raw cut b (i : Int)) true := by
  cases cut with
  | true =>
    refine Ev.step (fun k => ?_) (reads_j1 raw (b.take i) hr (fun c hc => hb c (List.mem_of_mem_take hc)) hr1 (by rw [List.length_take]; omega))
    simp only [guichetlaw13_PosReads.j0, if_true]
    rw [if_pos (by omega), if_pos (by omega), Int.toNat_natCast]
  | false =>
    refine Ev.step (fun k => ?_) (reads_j1 raw b hr hb hr1 hb1)
    simp only [guichetlaw13_PosReads.j0, Bool.false_eq_true, if_false]
theorem set_u8 {l : List Int} {i : Nat} {v : Int} (h : ∀ c ∈ l, U8 c) (hv : U8 v) : ∀ c ∈ l.set i v, U8 c := fun c hc => by
  rcases List.mem_or_eq_of_mem_set hc with hc | rfl
  · exact h c hc
  · exact hv
theorem PosReads : guichetlaw13_PosReads.Pure := by
  intro raw k at_ x cut again _ _ hraw hk hat hx
  refine Ev.rounds (g := fun n => guichetlaw13_PosReads.f n raw k at_ x cut again) ?_
  have hr : ∀ c ∈ raw, U8 c := fun c hc => U8.of (hraw c hc)
  obtain ⟨k0, k1⟩ := u8_bnd hk
  obtain ⟨a0, a1⟩ := u8_bnd hat
  obtain ⟨k, rfl⟩ := nat_of k0
  obtain ⟨a, rfl⟩ := nat_of a0
  unfold guichetlaw13_PosReads.f
  refine Ev.bind known_true (Ev.ite_pos rfl ?_)
  by_cases h2 : raw.length > 200
  · exact Ev.ite_pos (by omega) (Ev.now _)
  refine Ev.ite_neg (by omega) ?_
  obtain ⟨p, hp, p1, p2, p3⟩ := pan_ev (a := (k : Int)) (by omega)
  refine Ev.const_bind hp ?_
  have hR : RightP ((a : Nat) : Int) p ((k + 1 : Nat) : Int) := ⟨by omega, p1, p2, p3, by omega, by omega⟩
  have hput := ref_put (t := k) (s := (a : Int)) (a := ((k + 1 : Nat) : Int)) (p := p) (by omega) (by omega) (by omega)
  rw [if_pos hR, Int.toNat_natCast, Int.toNat_natCast] at hput
  rw [u16_id (by omega) (by omega), show ((a : Nat) : Int) % 4294967296 = (a : Int) by omega, show wrap64 (wrap64 (k : Int) + 1) = ((k + 1 : Nat) : Int) from by unfold wrap64; omega, show wrap64 ((a : Nat) : Int) = (a : Int) from by unfold wrap64; omega]
  refine Ev.bind hput ?_
  have hl := frameP_len k a p (k + 1)
  have hu := frameP_u8 k a p (k + 1)
  dsimp only
  generalize frameP k a p (k + 1) = b at hl hu
  refine Ev.ite_neg (by omega) ?_
  have hm : Int.tmod (a : Int) (b.length : Int) = ((a % b.length : Nat) : Int) := by rw [Int.tmod_eq_emod_of_nonneg (by omega)]; rfl
  have hmlt : a % b.length < b.length := Nat.mod_lt _ (by omega)
  rw [hm]
  generalize a % b.length = m at hmlt
  refine Ev.ite_pos (by omega) (Ev.ite_pos (by omega) ?_)
  rw [Int.toNat_natCast, show wrap64 ((b.length : Int) - 1) = ((b.length - 1 : Nat) : Int) from by unfold wrap64; omega]
  simp only [Option.bind_some]
  have hu2 := set_u8 (i := m) hu (X_u8 (rd b (m : Int)) x)
  have hl2 : (b.set m (X (rd b (m : Int)) x)).length = b.length := List.length_set
  change Ev (fun n => if again = true then (if 1 ≤ ((b.length - 1 : Nat) : Int) then (if ((b.length - 1 : Nat) : Int) ≤ (b.length : Int) then (guichetref1_Lrc.f n (((b.set m (X (rd b (m : Int)) x)).take ((b.length - 1 : Nat) : Int).toNat).drop 1)).bind fun t => (if 0 ≤ ((b.length - 1 : Nat) : Int) then (if ((b.length - 1 : Nat) : Int) < (b.length : Int) then guichetlaw13_PosReads.j0 n raw cut ((b.set m (X (rd b (m : Int)) x)).set ((b.length - 1 : Nat) : Int).toNat t) (m : Int) else none) else none) else none) else none) else guichetlaw13_PosReads.j0 n raw cut (b.set m (X (rd b (m : Int)) x)) (m : Int)) true
  generalize b.set m (X (rd b (m : Int)) x) = y at hu2 hl2
  cases again with
  | true =>
    refine Ev.ite_pos rfl (Ev.ite_pos (by omega) (Ev.ite_pos (by omega) ?_))
    refine Ev.bind (ref_lrc _ (by rw [List.length_drop, List.length_take]; omega)) ?_
    refine Ev.ite_pos (by omega) (Ev.ite_pos (by omega) ?_)
    refine reads_j0 raw _ cut m (by rw [List.length_set]; omega) hr (set_u8 hu2 (lrc_u8 _ (fun c hc => hu2 c (List.mem_of_mem_take (List.mem_of_mem_drop hc))))) (by omega) (by rw [List.length_set]; omega)
  | false => exact Ev.ite_neg (by simp) (reads_j0 raw _ cut m (by omega) hr hu2 (by omega) (by omega))
end Go.Proofs.YtkhgiojpegghoaaDoor.Pure
