/- The law StanTexts: for every input it answers true; each argument reads behind the call as it read before; the listed variables are tied to the program's text. Condition: none but the row's own. -/
import Derived.Test.YtidjkodejcnolaaDoorCards
import Derived.Test.YtidjkodejcnolaaDoorTie
import Derived.Test.YtidjkodejcnolaaDoorRows
import Derived.Test.YtidjkodejcnolaaDoorPAllx5
import Derived.Test.YtidjkodejcnolaaDoorPureStanTexts
import Derived.WalkKit
import Derived.ProofKit
import Derived.OpenShut
import Derived.ShutString
import Derived.ChangeOld
import Derived.Below
import Derived.SizedLaws
import Derived.Lay
import Derived.SevenTiedAt
import Derived.Handed
namespace Go.Proofs.YtidjkodejcnolaaDoor.stanTexts
open Go.ChangeShapes Go.WideShapes Go.ChangeAt Go.RowKit
open Go.ChangeMaps (open_string shut_string)
set_option linter.unusedVariables false
theorem own : ownKnob Tryd.prog.godebug = none := by kernel_rfl
set_option maxRecDepth 100000 in
theorem lifted (os : Os) (started : os.Started) (H : Type) (enc : TypeId × Value → H) :
    ReturnsInHanded {} Tryd.checked os 3 .any (fun w args => (Rows.stanTextsSpec.pre enc Tryd.prog Tryd.f3 [] false w args ∧ laidMetH Tryd.prog Rows.stanTextsRow.laid w) ∧ sizedMet enc Tryd.prog Tryd.f3 (OpenSpec.ofChange Rows.stanTextsSpec) false w args) (Rows.stanTextsSpec.post enc Tryd.prog Tryd.f3 false true false false) := by
  refine returnsInHanded_of_change_and (C := Tryd.checked) (X := fun w _ => laidMetH Tryd.prog Rows.stanTextsRow.laid w) (fun _ _ _ hh h => h.of_heap hh) own started (by kernel_rfl) Tryd.func3
    (ChangeSpec.witness_shaped (enc := enc) (C := Tryd.checked) (os := os) (X := fun w _ => laidMetH Tryd.prog Rows.stanTextsRow.laid w) false (World.laidAll Tryd.prog os Rows.stanTextsRow.laid) #[.agg #[.int .u16 0, .int .u32 0], .agg #[.int .u16 0, .int .u32 0], .string ByteArray.empty, .int .u8 0, .int .u8 0, .bool false] 8 (World.laidAll_os _ _ _)
      (World.shaped_of_ZipB (by kernel_rfl) (by kernel_rfl)) (by kernel_rfl) (by kernel_rfl) (by kernel_rfl)
      (by rw [MakeChecks.laidMetH_plain _ _ _ (by kernel_rfl)]; exact laidMet_laidAll _ (by kernel_rfl) (by kernel_rfl))) ?_
  intro W base args ds gs before hval0 hW _ hsz0 hL _
  have hsz : (DataW.weightsEach Tryd.prog (Tryd.f3.params.toList ++ Rows.stanTextsSpec.plain.varTypes Tryd.prog) (ds ++ gs)).all (· ≤ reachBytes) = true := hsz0
  have hval : ∀ (j : Nat) t v, Tryd.f3.params[j]? = some t → args[j]? = some v → Value.okWide Tryd.prog W .any base t v := hval0
  have hW' := hW
  obtain ⟨p, q, hA0, hV, rfl, hfz, hnd⟩ := hW
  have hA : DataW.TrodAll enc Tryd.prog W 0 (fun _ => true) true Tryd.f3.params.toList args.toList ds p := hA0
  rw [Tryd.params3] at hA hval hsz
  obtain ⟨v0, vs0, d0, ds0, p0, q0, hargs, rfl, rfl, h0, r0⟩ := trodAll_cons hA
  obtain ⟨v1, vs1, d1, ds1, p1, q1, rfl, rfl, rfl, h1, r1⟩ := trodAll_cons r0
  obtain ⟨v2, vs2, d2, ds2, p2, q2, rfl, rfl, rfl, h2, r2⟩ := trodAll_cons r1
  obtain ⟨v3, vs3, d3, ds3, p3, q3, rfl, rfl, rfl, h3, r3⟩ := trodAll_cons r2
  obtain ⟨v4, vs4, d4, ds4, p4, q4, rfl, rfl, rfl, h4, r4⟩ := trodAll_cons r3
  obtain ⟨v5, vs5, d5, ds5, p5, q5, rfl, rfl, rfl, h5, r5⟩ := trodAll_cons r4
  obtain ⟨rfl, rfl, rfl⟩ := trodAll_nil r5
  obtain rfl : args = #[v0, v1, v2, v3, v4, v5] := by cases args; simp_all
  obtain ⟨rfl, rfl⟩ := trodVars_none hV
  obtain ⟨v0_0, v0_1, y0_0, y0_1, n0_, rfl, rfl, rfl, t0_0, t0_1⟩ := Go.Joins.open_agg2 Tryd.underlying25 (by kernel_rfl) (by kernel_rfl) (hval 0 25 v0 rfl rfl) h0
  obtain ⟨a0_0, g0_0, rfl, w0_0⟩ := DataW.trod_int Tryd.underlying22 t0_0
  simp at g0_0
  subst g0_0
  obtain ⟨a0_1, g0_1, rfl, w0_1⟩ := DataW.trod_int Tryd.underlying23 t0_1
  simp at g0_1
  subst g0_1
  obtain ⟨v1_0, v1_1, y1_0, y1_1, n1_, rfl, rfl, rfl, t1_0, t1_1⟩ := Go.Joins.open_agg2 Tryd.underlying25 (by kernel_rfl) (by kernel_rfl) (hval 1 25 v1 rfl rfl) h1
  obtain ⟨a1_0, g1_0, rfl, w1_0⟩ := DataW.trod_int Tryd.underlying22 t1_0
  simp at g1_0
  subst g1_0
  obtain ⟨a1_1, g1_1, rfl, w1_1⟩ := DataW.trod_int Tryd.underlying23 t1_1
  simp at g1_1
  subst g1_1
  obtain ⟨a2, rfl, rfl, rfl, y2⟩ := open_string Tryd.underlying9 (hval 2 9 v2 rfl rfl) h2
  have w2 : a2.size ≤ 140737488351232 := by
    have z := sized_string hsz (j := 2) (t := 9) rfl rfl
    rw [Array.length_toList] at z
    exact z
  obtain ⟨a3, rfl, rfl, rfl, w3⟩ := open_int Tryd.underlying5 (hval 3 5 v3 rfl rfl) h3
  obtain ⟨a4, rfl, rfl, rfl, w4⟩ := open_int Tryd.underlying5 (hval 4 5 v4 rfl rfl) h4
  obtain ⟨a5, rfl, rfl, rfl⟩ := open_bool Tryd.underlying4 (hval 5 4 v5 rfl rfl) h5
  rw [MakeChecks.laidMetH_plain _ _ _ (by kernel_rfl)] at hL
  have hTab : Go.Proofs.YtidjkodejcnolaaDoorW.PrintMore.TAB W := ⟨Go.Proofs.YtidjkodejcnolaaDoorW.PrintMore.tab_of_reads (g := 0) (k := .u64) (zs := Lib.pow10Tab) (by kernel_rfl) (by kernel_rfl) (Tryd.underlying99) (Tryd.underlying81) (by kernel_rfl) (by kernel_rfl) (show Lib.VarReads _ _ _ (Lib.tabData .u64 Lib.pow10Tab) from Lib.laidMet.reads hL (List.Mem.tail _ (List.Mem.tail _ (List.Mem.head _)))), Go.Proofs.YtidjkodejcnolaaDoorW.PrintMore.err_of_reads (g := 1) (by kernel_rfl) (by kernel_rfl) (Tryd.underlying57) (Lib.laidMet.reads hL (List.Mem.tail _ (List.Mem.tail _ (List.Mem.tail _ (List.Mem.tail _ (List.Mem.head _)))))), Go.Proofs.YtidjkodejcnolaaDoorW.PrintMore.err_of_reads (g := 2) (by kernel_rfl) (by kernel_rfl) (Tryd.underlying57) (Lib.laidMet.reads hL (List.Mem.tail _ (List.Mem.tail _ (List.Mem.tail _ (List.Mem.head _)))))⟩
  clear hA0 hval0 hsz0 hsz
  refine (PAll.guichetlaw10_StanTexts.walk Pure.StanTexts a0_0 a0_1 a1_0 a1_1 a2 a3 a4 a5 W hTab w0_0 w0_1 w1_0 w1_1 w2 w3 w4).mono fun e W' ⟨he, bel⟩ => ?_
  subst he
  exact ⟨_, rfl, _, _, _, [], _, [], hW', trodAll_mk1 (shut_bool Tryd.underlying4 _), (trodAll_cons_mk (Go.Joins.shut_agg2 Tryd.underlying25 (by kernel_rfl) (by kernel_rfl) (by first | exact (shut_int Tryd.underlying22 w0_0) | (show _ = _; simp [Tryd.checked]; done)) (by first | exact (shut_int Tryd.underlying23 w0_1) | (show _ = _; simp [Tryd.checked]; done))) (trodAll_cons_mk (Go.Joins.shut_agg2 Tryd.underlying25 (by kernel_rfl) (by kernel_rfl) (by first | exact (shut_int Tryd.underlying22 w1_0) | (show _ = _; simp [Tryd.checked]; done)) (by first | exact (shut_int Tryd.underlying23 w1_1) | (show _ = _; simp [Tryd.checked]; done))) (trodAll_cons_mk (shut_string Tryd.underlying9 y2) (trodAll_cons_mk (shut_int Tryd.underlying5 w3) (trodAll_cons_mk (shut_int Tryd.underlying5 w4) (trodAll_cons_mk (shut_bool Tryd.underlying4 _) trodAll_mk0)))))), rfl, bel.frame _, fun h => by cases h⟩
theorem over : Rows.stanTextsRow.holds Tryd.pinned (OpenSpec.ofChange Rows.stanTextsSpec) :=
  OpenClaim.holds_of_wide 3 Tryd.f3 rfl rfl rfl rfl rfl rfl rfl ⟨rfl, rfl, rfl, rfl, rfl⟩ rfl rfl rfl rfl rfl (by kernel_rfl) Tryd.func3 (by kernel_rfl)
    (of_decide_eq_true (by kernel_rfl)) (by unfold Func.isWrapper; first | (rw [if_pos (by decide +kernel)]; kernel_rfl) | (rw [if_neg (by decide +kernel)]; exact ⟨rfl, rfl⟩))
    (fun os started H enc _ => lifted os started H enc)
theorem card : Claim7.holds Tryd.pinned (.plain (OpenSpec.ofChange Rows.stanTextsSpec)) Rows.stanTextsCard :=
  Claim7.holds_tied_plain_at .later [] [.data, .data, .data, .sentinel, .sentinel] true (true, "977d202d9393360b2421729444bdd48913f4917ce45a67bd59607970097ed9b6") true over (fun _ h => by cases h) (by kernel_rfl) (fun _ h => by cases h) stanTexts_row_tie rfl ⟨rfl, rfl⟩ (by kernel_rfl) rfl
    (fun f fn hf hfn => by
      obtain rfl : f = 3 := Option.some.inj ((show Tryd.prog.funcNamed "guichet/guichetlaw10.StanTexts" = some 3 by kernel_rfl).symm.trans hf) |>.symm
      obtain rfl : fn = Tryd.f3 := (Option.some.inj (Tryd.func3.symm.trans hfn)).symm
      exact ⟨by kernel_rfl, fun j t ht => by
        rw [Tryd.params3] at ht
        have hm : t ∈ [25, 25, 9, 5, 5, 4] := by simpa using Array.mem_of_getElem? ht
        have hall : ([25, 25, 9, 5, 5, 4].all fun u => !Tryd.prog.wantsStandIn u) = true := by kernel_rfl
        exact (show Tryd.prog.wantsStandIn t = false by simpa using List.all_eq_true.1 hall t hm)⟩)
    (by kernel_rfl)
theorem proved : Rows.StanTextsCardSaid := card
#print axioms proved
end Go.Proofs.YtidjkodejcnolaaDoor.stanTexts
namespace Go.Proofs.YtidjkodejcnolaaDoor
/-- The statement, under a short name, for the claim. -/
theorem stanTexts_holds : Rows.StanTextsCardSaid := stanTexts.proved
end Go.Proofs.YtidjkodejcnolaaDoor
