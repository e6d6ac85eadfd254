import Derived.Test.YtkhgiojpegghoaaDoorQKnown13
import Derived.Test.YtkhgiojpegghoaaDoorPAllx10
/- PosBack: any request is a frame as the document says, or refused, and read back, with bad bytes ahead. -/
namespace Go.Proofs.YtkhgiojpegghoaaDoor.Pure
open Go.RowKit Go.Proofs.YtkhgiojpegghoaaDoorW.PrintWords Go.Proofs.YtkhgiojpegghoaaDoorW.PrintMore Go.Proofs.YtkhgiojpegghoaaDoor.PAll Go.Proofs.YtkhgiojpegghoaaDoor.Q
set_option linter.unusedVariables false

abbrev Req := S25
/-- A request as it may come: its account is no longer than a bound. -/
def Fine (x : Req) : Prop := ∃ (t : Nat) (p : List UInt8), x.f0 = (t : Int) ∧ t ≤ 65535 ∧ 0 ≤ x.f1 ∧ x.f2 = S p ∧ p.length ≤ 60
theorem back_j3 (ahead b : List Int) (ys : List Req) (n i : Int) (ha : ∀ c ∈ ahead, U8 c) (hal : ahead.length ≤ 60) (hb : ∀ c ∈ b, U8 c) (hbl : b.length ≤ 200) (hn : Ev (fun k => guichetlaw13_PosBack.l0 k ahead ys n (wrap64 (i + 1))) true) : Ev (fun k => guichetlaw13_PosBack.j3 k ahead b ys n i false) true := by
  have hu : ∀ c ∈ ahead ++ b, U8 c := fun c hc => (List.mem_append.1 hc).elim (ha c) (hb c)
  refine Ev.step (f := fun k => (pos_Read.f k (ahead ++ b)).bind fun x => (guichetref12_PosRead.f k (ahead ++ b)).bind fun y => (if (!(x.1 == y.1) || (!(x.2.1 == y.2.1) || (!(x.2.2.1.toList == y.2.2.1.toList) || (!(x.2.2.2.1 == y.2.2.2.1))))) = true then none else (if x.2.2.2.2.1 = y.2.2.2.2.1 then (if x.2.2.2.2.2 = y.2.2.2.2.2 then guichetlaw13_PosBack.l0 k ahead ys n (wrap64 (i + 1)) else none) else none))) (fun k => ?_) ?_
  · simp only [guichetlaw13_PosBack.j3, Bool.false_eq_true, if_false, Option.bind_some, List.nil_append, List.length_nil, Nat.zero_add]
    rw [if_pos (by omega), if_pos (by omega)]
  refine Ev.bind (pos_read _ (by rw [List.length_append]; omega) hu) (Ev.bind (ref_read _ (by rw [List.length_append]; omega) hu) ?_)
  exact Ev.ite_neg (by rw [same_out]; simp) (Ev.ite_pos rfl (Ev.ite_pos rfl hn))
theorem rdT_lt {ys : List Req} {i : Nat} (h : i < ys.length) : rd_T25 ys (i : Int) = ys[i] := by
  unfold rd_T25
  simp [List.getD_eq_getElem?_getD, List.getElem?_eq_getElem h]
theorem back_l0 (ahead : List Int) (ys : List Req) (ha : ∀ c ∈ ahead, U8 c) (hal : ahead.length ≤ 60) (hy : ∀ y ∈ ys, Fine y) (hl : ys.length ≤ 100) (d : Nat) : ∀ i : Nat, ys.length - i = d → i ≤ ys.length → Ev (fun k => guichetlaw13_PosBack.l0 k ahead ys (ys.length : Int) (i : Int)) true := by
  induction d with
  | zero =>
    intro i hd hi
    exact Ev.step (f := fun _ => some true) (fun k => by simp only [guichetlaw13_PosBack.l0]; rw [if_neg (by omega)]) (Ev.now _)
  | succ d ih =>
    intro i hd hi
    have hlt : i < ys.length := by omega
    have hnext := ih (i + 1) (by omega) (by omega)
    rw [← wrap_succ hlt (by omega)] at hnext
    obtain ⟨t, p, e0, ht, h1, e2, hp⟩ := hy ys[i] (List.getElem_mem hlt)
    generalize hx : ys[i] = x at e0 h1 e2
    obtain ⟨x0, s, x2, a⟩ := x
    dsimp only at e0 h1 e2
    subst e0 e2
    refine Ev.step (f := fun k => (pos_Put.f k (t : Int) s (S p) a).bind fun b => (guichetref12_PosPut.f k (t : Int) s (S p) a).bind fun w => (if (strOfNums b.1).toList = (strOfNums w.1).toList then (if b.2 = w.2 then ((pos_Right.f k (t : Int) s (S p) a).bind fun u => (guichetref12_PosRight.f k (t : Int) s (S p) a).bind fun v => guichetlaw13_PosBack.j2 k ahead b.1 w.2 ys (ys.length : Int) (i : Int) (u != v) (t : Int) s (S p) a) else guichetlaw13_PosBack.j2 k ahead b.1 w.2 ys (ys.length : Int) (i : Int) true (t : Int) s (S p) a) else guichetlaw13_PosBack.j2 k ahead b.1 w.2 ys (ys.length : Int) (i : Int) true (t : Int) s (S p) a)) (fun k => ?_) ?_
    · simp only [guichetlaw13_PosBack.l0]
      rw [if_pos (by omega), if_pos (by omega), if_pos (by omega), rdT_lt hlt, hx]
    refine Ev.bind (pos_put ht h1 (by omega)) (Ev.bind (ref_put ht h1 (by omega)) (Ev.ite_pos rfl (Ev.ite_pos rfl ?_)))
    refine Ev.bind (pos_right _ _ _ _ (by omega)) (Ev.bind (ref_right _ _ _ _ (by omega)) ?_)
    rw [bne_self_eq_false]
    by_cases hr : RightP s p a
    · rw [if_pos hr]
      obtain ⟨s, rfl⟩ := nat_of h1
      obtain ⟨a, rfl⟩ := nat_of (show 0 ≤ a by have := hr.2.2.2.2.1; omega)
      have hlen := frameP_len t s p a
      have hu8 := frameP_u8 t s p a
      have hread := pos_read (frameP t s p a) (by omega) hu8
      have hb := read_back (t := t) (s := s) (a := a) (p := p) [] [] (by simp) ht hr
      rw [List.nil_append, List.append_nil, List.length_nil, Nat.zero_add] at hb
      rw [hb] at hread
      simp only [Int.toNat_natCast]
      have hj := back_j3 ahead (frameP t s p a) ys (ys.length : Int) (i : Int) ha hal hu8 (by have := hr.2.2.1; omega) hnext
      refine Ev.step (f := fun k => (pos_Read.f k (frameP t s p a)).bind fun b => (if (!(b.1 == (t : Int)) || (!(b.2.1 == (s : Int)) || (!(b.2.2.1.toList == (S p).toList) || (!(b.2.2.2.1 == (a : Int)))))) = true then guichetlaw13_PosBack.j3 k ahead (frameP t s p a) ys (ys.length : Int) (i : Int) true else (if b.2.2.2.2.1 = ((frameP t s p a).length : Int) then guichetlaw13_PosBack.j3 k ahead (frameP t s p a) ys (ys.length : Int) (i : Int) (b.2.2.2.2.2 != 0) else guichetlaw13_PosBack.j3 k ahead (frameP t s p a) ys (ys.length : Int) (i : Int) true))) (fun k => ?_) ?_
      · simp only [guichetlaw13_PosBack.j2, Bool.false_eq_true, if_false, if_true]
      refine Ev.bind hread (Ev.ite_neg (by simp) (Ev.ite_pos rfl ?_))
      exact hj
    · rw [if_neg hr]
      refine Ev.step (fun k => ?_) hnext
      simp only [guichetlaw13_PosBack.j2, Bool.false_eq_true, if_false]
      rw [if_neg (by decide)]
theorem tmod_le (u : Nat) (m : Nat) (hm : 0 < m) : Int.tmod (u : Int) (m : Int) = ((u % m : Nat) : Int) := by rw [Int.tmod_eq_emod_of_nonneg (by omega)]; rfl
theorem PosBack : guichetlaw13_PosBack.Pure := by
  intro t s pan a k amount ahead ht hs hp _ hk hm _ _ hah
  refine Ev.rounds (g := fun n => guichetlaw13_PosBack.f n t s pan a k amount ahead) ?_
  have hT : 0 ≤ t ∧ t ≤ 65535 := by simp [Lit.wf, IntKind.min, IntKind.max, IntKind.bits, IntKind.signed] at ht; omega
  have hS : 0 ≤ s ∧ s ≤ 4294967295 := by simp [Lit.wf, IntKind.min, IntKind.max, IntKind.bits, IntKind.signed] at hs; omega
  have hM : 0 ≤ amount ∧ amount ≤ 4294967295 := by simp [Lit.wf, IntKind.min, IntKind.max, IntKind.bits, IntKind.signed] at hm; omega
  obtain ⟨k0, _⟩ := u8_bnd hk
  unfold guichetlaw13_PosBack.f
  refine Ev.bind known_true (Ev.ite_pos rfl ?_)
  have htt : Ev (fun n => guichetlaw13_PosBack.j0 n k amount ahead true t s pan a) true := Ev.step (f := fun _ => some true) (fun k => by simp only [guichetlaw13_PosBack.j0, if_true]) (Ev.now _)
  obtain ⟨p, rfl⟩ : ∃ p : List UInt8, pan = S p := ⟨pan.data.toList, rfl⟩
  rw [S_size]
  by_cases h1 : p.length > 60
  · exact Ev.ite_pos (by omega) htt
  refine Ev.ite_neg (by omega) ?_
  by_cases h2 : ahead.length > 60
  · rw [decide_eq_true (by omega)]; exact htt
  rw [decide_eq_false (by omega)]
  obtain ⟨q, hq, q1, q2, q3⟩ := pan_ev k0
  obtain ⟨t, rfl⟩ := nat_of hT.1
  obtain ⟨s, rfl⟩ := nat_of hS.1
  obtain ⟨m, rfl⟩ := nat_of hM.1
  refine Ev.step (fun n => ?_) (back_l0 ahead [⟨(t : Int), (s : Int), S p, a⟩, ⟨(t : Int), Int.tmod (s : Int) 1000000, S q, wrap64 ((wrap64 (Int.tmod (m : Int) 1000001)) + 1)⟩] (fun c hc => U8.of (hah c hc)) (by omega) (fun y hy => ?_) (by simp) _ 0 rfl (by omega))
  · simp only [guichetlaw13_PosBack.j0, Bool.false_eq_true, if_false]
    rw [hq]
    rfl
  · simp only [List.mem_cons, List.not_mem_nil, or_false] at hy
    rcases hy with rfl | rfl
    · exact ⟨t, p, rfl, by omega, by dsimp only; omega, rfl, by omega⟩
    · exact ⟨t, q, rfl, by omega, by dsimp only; rw [show (1000000 : Int) = ((1000000 : Nat) : Int) from rfl, tmod_le s 1000000 (by decide)]; omega, rfl, by omega⟩
end Go.Proofs.YtkhgiojpegghoaaDoor.Pure
