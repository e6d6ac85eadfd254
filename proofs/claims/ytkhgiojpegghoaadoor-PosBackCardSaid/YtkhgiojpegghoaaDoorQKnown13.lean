import Derived.Test.YtkhgiojpegghoaaDoorQPos
import Derived.Test.YtkhgiojpegghoaaDoorPAllx5
namespace Go.Proofs.YtkhgiojpegghoaaDoor.Q
open Go.RowKit Go.Proofs.YtkhgiojpegghoaaDoorW.PrintWords Go.Proofs.YtkhgiojpegghoaaDoorW.PrintMore Go.Proofs.YtkhgiojpegghoaaDoor.PAll
set_option linter.unusedVariables false
theorem frameP_len (t s : Nat) (p : List UInt8) (a : Nat) : (frameP t s p a).length = 27 + p.length := by simp [frameP, frame, textP_len]; omega
theorem frameP_u8 (t s : Nat) (p : List UInt8) (a : Nat) : ∀ c ∈ frameP t s p a, U8 c := by
  intro c hc
  unfold frameP frame at hc
  simp only [List.mem_append, List.mem_cons, List.not_mem_nil, or_false] at hc
  rcases hc with (rfl | hc) | rfl | rfl
  · unfold U8; omega
  · exact ints_u8 _ c hc
  · unfold U8; omega
  · exact X_u8 _ _
theorem known_true : Ev (fun k => guichetlaw13_known.f k) true := by
  have hr : RightP (4 : Int) [53, 49] (600 : Int) := by decide
  have h1 := pos_put (t := 3) (s := 4) (a := 600) (p := [53, 49]) (by decide) (by decide) (by decide)
  rw [if_pos hr] at h1
  have hb := read_back (t := 3) (s := 4) (a := 600) (p := [53, 49]) [] [] (by simp) (by decide) hr
  have h2 := pos_read (frameP 3 4 [53, 49] 600) (by rw [frameP_len]; decide) (frameP_u8 _ _ _ _)
  rw [List.nil_append, List.append_nil, List.length_nil, Nat.zero_add] at hb
  rw [hb] at h2
  have h3 := pos_read [120] (by decide) (fun c hc => by rw [List.mem_singleton] at hc; subst hc; unfold U8; omega)
  rw [show readR [120] = (0, 0, S [], 0, 0, 23) from by decide +kernel] at h3
  have h4 := pos_right 3 4 [53, 49] 600 (by decide)
  rw [decide_eq_true hr] at h4
  have h5 := pos_right 0 0 [] 0 (by decide)
  rw [decide_eq_false (show ¬ RightP 0 [] 0 by decide)] at h5
  unfold guichetlaw13_known.f
  refine Ev.bind h1 (Ev.bind h2 (Ev.const_bind (a := [120]) rfl (Ev.bind h3 ?_)))
  refine Ev.ite_pos rfl (Ev.ite_pos (by simp) (Ev.ite_pos rfl (Ev.ite_pos rfl (Ev.ite_pos rfl ?_))))
  exact Ev.bind h4 (Ev.ite_pos rfl (Ev.bind h5 (Ev.now _)))
/-- Both read any bytes alike. -/
theorem same_out (r : Out) : (!(r.1 == r.1) || (!(r.2.1 == r.2.1) || (!(r.2.2.1.toList == r.2.2.1.toList) || (!(r.2.2.2.1 == r.2.2.2.1))))) = false := by simp
theorem u8_bnd {x : Int} (h : (Lit.int .u8 x).wf = true) : 0 ≤ x ∧ x ≤ 255 := U8.of h
theorem rdL_lt {ys : List (List Int)} {i : Nat} (h : i < ys.length) : rd_L1 ys (i : Int) = ys[i] := by
  unfold rd_L1
  simp [List.getD_eq_getElem?_getD, List.getElem?_eq_getElem h]
end Go.Proofs.YtkhgiojpegghoaaDoor.Q
