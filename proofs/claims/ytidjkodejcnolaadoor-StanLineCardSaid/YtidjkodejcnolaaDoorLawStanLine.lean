/- The law StanLine: for every input it answers true; each argument reads behind the call as it read before; the listed variables are tied to the program's text. Condition: none but the row's own. -/
import Derived.Test.YtidjkodejcnolaaDoorCards
import Derived.Test.YtidjkodejcnolaaDoorTie
import Derived.Test.YtidjkodejcnolaaDoorRows
import Derived.Test.YtidjkodejcnolaaDoorPAllx4
import Derived.Test.YtidjkodejcnolaaDoorPureStanLine
import Derived.WalkKit
import Derived.ProofKit
import Derived.OpenShut
import Derived.ShutString
import Derived.ChangeOld
import Derived.Below
import Derived.SizedLaws
import Derived.Lay
import Derived.SevenTiedAt
import Derived.Handed
namespace Go.Proofs.YtidjkodejcnolaaDoor.stanLine
open Go.ChangeShapes Go.WideShapes Go.ChangeAt Go.RowKit
open Go.ChangeMaps (open_string shut_string)
set_option linter.unusedVariables false
theorem own : ownKnob Tryd.prog.godebug = none := by kernel_rfl
set_option maxRecDepth 100000 in
theorem lifted (os : Os) (started : os.Started) (H : Type) (enc : TypeId × Value → H) :
    ReturnsInHanded {} Tryd.checked os 4 .any (fun w args => (Rows.stanLineSpec.pre enc Tryd.prog Tryd.f4 [] false w args ∧ laidMetH Tryd.prog Rows.stanLineRow.laid w) ∧ sizedMet enc Tryd.prog Tryd.f4 (OpenSpec.ofChange Rows.stanLineSpec) false w args) (Rows.stanLineSpec.post enc Tryd.prog Tryd.f4 false true false false) := by
  refine returnsInHanded_of_change_and (C := Tryd.checked) (X := fun w _ => laidMetH Tryd.prog Rows.stanLineRow.laid w) (fun _ _ _ hh h => h.of_heap hh) own started (by kernel_rfl) Tryd.func4
    (ChangeSpec.witness_shaped (enc := enc) (C := Tryd.checked) (os := os) (X := fun w _ => laidMetH Tryd.prog Rows.stanLineRow.laid w) false (World.laidAll Tryd.prog os Rows.stanLineRow.laid) #[.agg #[.int .u16 0, .int .u32 0], .agg #[.int .u16 0, .int .u32 0], .agg #[.int .u16 0, .int .u32 0]] 8 (World.laidAll_os _ _ _)
      (World.shaped_of_ZipB (by kernel_rfl) (by kernel_rfl)) (by kernel_rfl) (by kernel_rfl) (by kernel_rfl)
      (by rw [MakeChecks.laidMetH_plain _ _ _ (by kernel_rfl)]; exact laidMet_laidAll _ (by kernel_rfl) (by kernel_rfl))) ?_
  intro W base args ds gs before hval0 hW _ hsz0 hL _
  have hsz : (DataW.weightsEach Tryd.prog (Tryd.f4.params.toList ++ Rows.stanLineSpec.plain.varTypes Tryd.prog) (ds ++ gs)).all (· ≤ reachBytes) = true := hsz0
  have hval : ∀ (j : Nat) t v, Tryd.f4.params[j]? = some t → args[j]? = some v → Value.okWide Tryd.prog W .any base t v := hval0
  have hW' := hW
  obtain ⟨p, q, hA0, hV, rfl, hfz, hnd⟩ := hW
  have hA : DataW.TrodAll enc Tryd.prog W 0 (fun _ => true) true Tryd.f4.params.toList args.toList ds p := hA0
  rw [Tryd.params4] at hA hval hsz
  obtain ⟨v0, vs0, d0, ds0, p0, q0, hargs, rfl, rfl, h0, r0⟩ := trodAll_cons hA
  obtain ⟨v1, vs1, d1, ds1, p1, q1, rfl, rfl, rfl, h1, r1⟩ := trodAll_cons r0
  obtain ⟨v2, vs2, d2, ds2, p2, q2, rfl, rfl, rfl, h2, r2⟩ := trodAll_cons r1
  obtain ⟨rfl, rfl, rfl⟩ := trodAll_nil r2
  obtain rfl : args = #[v0, v1, v2] := by cases args; simp_all
  obtain ⟨rfl, rfl⟩ := trodVars_none hV
  obtain ⟨v0_0, v0_1, y0_0, y0_1, n0_, rfl, rfl, rfl, t0_0, t0_1⟩ := Go.Joins.open_agg2 Tryd.underlying25 (by kernel_rfl) (by kernel_rfl) (hval 0 25 v0 rfl rfl) h0
  obtain ⟨a0_0, g0_0, rfl, w0_0⟩ := DataW.trod_int Tryd.underlying22 t0_0
  simp at g0_0
  subst g0_0
  obtain ⟨a0_1, g0_1, rfl, w0_1⟩ := DataW.trod_int Tryd.underlying23 t0_1
  simp at g0_1
  subst g0_1
  obtain ⟨v1_0, v1_1, y1_0, y1_1, n1_, rfl, rfl, rfl, t1_0, t1_1⟩ := Go.Joins.open_agg2 Tryd.underlying25 (by kernel_rfl) (by kernel_rfl) (hval 1 25 v1 rfl rfl) h1
  obtain ⟨a1_0, g1_0, rfl, w1_0⟩ := DataW.trod_int Tryd.underlying22 t1_0
  simp at g1_0
  subst g1_0
  obtain ⟨a1_1, g1_1, rfl, w1_1⟩ := DataW.trod_int Tryd.underlying23 t1_1
  simp at g1_1
  subst g1_1
  obtain ⟨v2_0, v2_1, y2_0, y2_1, n2_, rfl, rfl, rfl, t2_0, t2_1⟩ := Go.Joins.open_agg2 Tryd.underlying25 (by kernel_rfl) (by kernel_rfl) (hval 2 25 v2 rfl rfl) h2
  obtain ⟨a2_0, g2_0, rfl, w2_0⟩ := DataW.trod_int Tryd.underlying22 t2_0
  simp at g2_0
  subst g2_0
  obtain ⟨a2_1, g2_1, rfl, w2_1⟩ := DataW.trod_int Tryd.underlying23 t2_1
  simp at g2_1
  subst g2_1
  rw [MakeChecks.laidMetH_plain _ _ _ (by kernel_rfl)] at hL
  have hTab : Go.Proofs.YtidjkodejcnolaaDoorW.PrintMore.TAB W := ⟨Go.Proofs.YtidjkodejcnolaaDoorW.PrintMore.tab_of_reads (g := 0) (k := .u64) (zs := Lib.pow10Tab) (by kernel_rfl) (by kernel_rfl) (Tryd.underlying99) (Tryd.underlying81) (by kernel_rfl) (by kernel_rfl) (show Lib.VarReads _ _ _ (Lib.tabData .u64 Lib.pow10Tab) from Lib.laidMet.reads hL (List.Mem.tail _ (List.Mem.tail _ (List.Mem.head _)))), Go.Proofs.YtidjkodejcnolaaDoorW.PrintMore.err_of_reads (g := 1) (by kernel_rfl) (by kernel_rfl) (Tryd.underlying57) (Lib.laidMet.reads hL (List.Mem.tail _ (List.Mem.tail _ (List.Mem.tail _ (List.Mem.tail _ (List.Mem.head _)))))), Go.Proofs.YtidjkodejcnolaaDoorW.PrintMore.err_of_reads (g := 2) (by kernel_rfl) (by kernel_rfl) (Tryd.underlying57) (Lib.laidMet.reads hL (List.Mem.tail _ (List.Mem.tail _ (List.Mem.tail _ (List.Mem.head _)))))⟩
  clear hA0 hval0 hsz0 hsz
  refine (PAll.guichetlaw10_StanLine.walk Pure.StanLine a0_0 a0_1 a1_0 a1_1 a2_0 a2_1 W hTab w0_0 w0_1 w1_0 w1_1 w2_0 w2_1).mono fun e W' ⟨he, bel⟩ => ?_
  subst he
  exact ⟨_, rfl, _, _, _, [], _, [], hW', trodAll_mk1 (shut_bool Tryd.underlying4 _), (trodAll_cons_mk (Go.Joins.shut_agg2 Tryd.underlying25 (by kernel_rfl) (by kernel_rfl) (by first | exact (shut_int Tryd.underlying22 w0_0) | (show _ = _; simp [Tryd.checked]; done)) (by first | exact (shut_int Tryd.underlying23 w0_1) | (show _ = _; simp [Tryd.checked]; done))) (trodAll_cons_mk (Go.Joins.shut_agg2 Tryd.underlying25 (by kernel_rfl) (by kernel_rfl) (by first | exact (shut_int Tryd.underlying22 w1_0) | (show _ = _; simp [Tryd.checked]; done)) (by first | exact (shut_int Tryd.underlying23 w1_1) | (show _ = _; simp [Tryd.checked]; done))) (trodAll_cons_mk (Go.Joins.shut_agg2 Tryd.underlying25 (by kernel_rfl) (by kernel_rfl) (by first | exact (shut_int Tryd.underlying22 w2_0) | (show _ = _; simp [Tryd.checked]; done)) (by first | exact (shut_int Tryd.underlying23 w2_1) | (show _ = _; simp [Tryd.checked]; done))) trodAll_mk0))), rfl, bel.frame _, fun h => by cases h⟩
theorem over : Rows.stanLineRow.holds Tryd.pinned (OpenSpec.ofChange Rows.stanLineSpec) :=
  OpenClaim.holds_of_wide 4 Tryd.f4 rfl rfl rfl rfl rfl rfl rfl ⟨rfl, rfl, rfl, rfl, rfl⟩ rfl rfl rfl rfl rfl (by kernel_rfl) Tryd.func4 (by kernel_rfl)
    (of_decide_eq_true (by kernel_rfl)) (by unfold Func.isWrapper; first | (rw [if_pos (by decide +kernel)]; kernel_rfl) | (rw [if_neg (by decide +kernel)]; exact ⟨rfl, rfl⟩))
    (fun os started H enc _ => lifted os started H enc)
theorem card : Claim7.holds Tryd.pinned (.plain (OpenSpec.ofChange Rows.stanLineSpec)) Rows.stanLineCard :=
  Claim7.holds_tied_plain_at .later [] [.data, .data, .data, .sentinel, .sentinel] true (true, "977d202d9393360b2421729444bdd48913f4917ce45a67bd59607970097ed9b6") true over (fun _ h => by cases h) (by kernel_rfl) (fun _ h => by cases h) stanLine_row_tie rfl ⟨rfl, rfl⟩ (by kernel_rfl) rfl
    (fun f fn hf hfn => by
      obtain rfl : f = 4 := Option.some.inj ((show Tryd.prog.funcNamed "guichet/guichetlaw10.StanLine" = some 4 by kernel_rfl).symm.trans hf) |>.symm
      obtain rfl : fn = Tryd.f4 := (Option.some.inj (Tryd.func4.symm.trans hfn)).symm
      exact ⟨by kernel_rfl, fun j t ht => by
        rw [Tryd.params4] at ht
        have hm : t ∈ [25, 25, 25] := by simpa using Array.mem_of_getElem? ht
        have hall : ([25, 25, 25].all fun u => !Tryd.prog.wantsStandIn u) = true := by kernel_rfl
        exact (show Tryd.prog.wantsStandIn t = false by simpa using List.all_eq_true.1 hall t hm)⟩)
    (by kernel_rfl)
theorem proved : Rows.StanLineCardSaid := card
#print axioms proved
end Go.Proofs.YtidjkodejcnolaaDoor.stanLine
namespace Go.Proofs.YtidjkodejcnolaaDoor
/-- The statement, under a short name, for the claim. -/
theorem stanLine_holds : Rows.StanLineCardSaid := stanLine.proved
end Go.Proofs.YtidjkodejcnolaaDoor
