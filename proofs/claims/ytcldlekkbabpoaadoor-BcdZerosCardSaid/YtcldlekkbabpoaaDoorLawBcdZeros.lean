/- The law BcdZeros: for every input it answers true; each argument reads behind the call as it read before; the listed variables are tied to the program's text. Condition: none but the row's own. -/
import Derived.Test.YtcldlekkbabpoaaDoorCards
import Derived.Test.YtcldlekkbabpoaaDoorTie
import Derived.Test.YtcldlekkbabpoaaDoorRows
import Derived.Test.YtcldlekkbabpoaaDoorPAllx7
import Derived.Test.YtcldlekkbabpoaaDoorPureBcdZeros
import Derived.WalkKit
import Derived.ProofKit
import Derived.OpenShut
import Derived.ShutString
import Derived.ChangeOld
import Derived.Below
import Derived.SizedLaws
import Derived.Lay
import Derived.SevenTiedAt
import Derived.Handed
namespace Go.Proofs.YtcldlekkbabpoaaDoor.bcdZeros
open Go.ChangeShapes Go.WideShapes Go.ChangeAt Go.RowKit
open Go.ChangeMaps (open_string shut_string)
set_option linter.unusedVariables false
theorem own : ownKnob Tryd.prog.godebug = none := by kernel_rfl
set_option maxRecDepth 100000 in
theorem lifted (os : Os) (started : os.Started) (H : Type) (enc : TypeId × Value → H) :
    ReturnsInHanded {} Tryd.checked os 5 .any (fun w args => (Rows.bcdZerosSpec.pre enc Tryd.prog Tryd.f5 [] false w args ∧ laidMetH Tryd.prog Rows.bcdZerosRow.laid w) ∧ sizedMet enc Tryd.prog Tryd.f5 (OpenSpec.ofChange Rows.bcdZerosSpec) false w args) (Rows.bcdZerosSpec.post enc Tryd.prog Tryd.f5 false true false false) := by
  refine returnsInHanded_of_change_and (C := Tryd.checked) (X := fun w _ => laidMetH Tryd.prog Rows.bcdZerosRow.laid w) (fun _ _ _ hh h => h.of_heap hh) own started (by kernel_rfl) Tryd.func5
    (ChangeSpec.witness_shaped (enc := enc) (C := Tryd.checked) (os := os) (X := fun w _ => laidMetH Tryd.prog Rows.bcdZerosRow.laid w) false (World.laidAll Tryd.prog os Rows.bcdZerosRow.laid) #[.int .u32 0, .int .u8 0] 8 (World.laidAll_os _ _ _)
      (World.shaped_of_ZipB (by kernel_rfl) (by kernel_rfl)) (by kernel_rfl) (by kernel_rfl) (by kernel_rfl)
      (by rw [MakeChecks.laidMetH_plain _ _ _ (by kernel_rfl)]; exact laidMet_laidAll _ (by kernel_rfl) (by kernel_rfl))) ?_
  intro W base args ds gs before hval0 hW _ hsz0 hL _
  have hsz : (DataW.weightsEach Tryd.prog (Tryd.f5.params.toList ++ Rows.bcdZerosSpec.plain.varTypes Tryd.prog) (ds ++ gs)).all (· ≤ reachBytes) = true := hsz0
  have hval : ∀ (j : Nat) t v, Tryd.f5.params[j]? = some t → args[j]? = some v → Value.okWide Tryd.prog W .any base t v := hval0
  have hW' := hW
  obtain ⟨p, q, hA0, hV, rfl, hfz, hnd⟩ := hW
  have hA : DataW.TrodAll enc Tryd.prog W 0 (fun _ => true) true Tryd.f5.params.toList args.toList ds p := hA0
  rw [Tryd.params5] at hA hval hsz
  obtain ⟨v0, vs0, d0, ds0, p0, q0, hargs, rfl, rfl, h0, r0⟩ := trodAll_cons hA
  obtain ⟨v1, vs1, d1, ds1, p1, q1, rfl, rfl, rfl, h1, r1⟩ := trodAll_cons r0
  obtain ⟨rfl, rfl, rfl⟩ := trodAll_nil r1
  obtain rfl : args = #[v0, v1] := by cases args; simp_all
  obtain ⟨rfl, rfl⟩ := trodVars_none hV
  obtain ⟨a0, rfl, rfl, rfl, w0⟩ := open_int Tryd.underlying39 (hval 0 39 v0 rfl rfl) h0
  obtain ⟨a1, rfl, rfl, rfl, w1⟩ := open_int Tryd.underlying5 (hval 1 5 v1 rfl rfl) h1
  rw [MakeChecks.laidMetH_plain _ _ _ (by kernel_rfl)] at hL
  have hTab : Go.Proofs.YtcldlekkbabpoaaDoorW.PrintMore.TAB W := ⟨Go.Proofs.YtcldlekkbabpoaaDoorW.PrintMore.err_of_reads (g := 0) (by kernel_rfl) (by kernel_rfl) (Tryd.underlying44) (Lib.laidMet.reads hL (List.Mem.tail _ (List.Mem.tail _ (List.Mem.tail _ (List.Mem.tail _ (List.Mem.head _)))))), Go.Proofs.YtcldlekkbabpoaaDoorW.PrintMore.err_of_reads (g := 1) (by kernel_rfl) (by kernel_rfl) (Tryd.underlying44) (Lib.laidMet.reads hL (List.Mem.tail _ (List.Mem.tail _ (List.Mem.tail _ (List.Mem.head _))))), Go.Proofs.YtcldlekkbabpoaaDoorW.PrintMore.tab_of_reads (g := 2) (k := .u64) (zs := Lib.pow10Tab) (by kernel_rfl) (by kernel_rfl) (Tryd.underlying86) (Tryd.underlying24) (by kernel_rfl) (by kernel_rfl) (show Lib.VarReads _ _ _ (Lib.tabData .u64 Lib.pow10Tab) from Lib.laidMet.reads hL (List.Mem.tail _ (List.Mem.tail _ (List.Mem.head _))))⟩
  clear hA0 hval0 hsz0 hsz
  refine (PAll.guichetlaw6_BcdZeros.walk Pure.BcdZeros a0 a1 W hTab w0 w1).mono fun e W' ⟨he, bel⟩ => ?_
  subst he
  exact ⟨_, rfl, _, _, _, [], _, [], hW', trodAll_mk1 (shut_bool Tryd.underlying4 _), (trodAll_cons_mk (shut_int Tryd.underlying39 w0) (trodAll_cons_mk (shut_int Tryd.underlying5 w1) trodAll_mk0)), rfl, bel.frame _, fun h => by cases h⟩
theorem over : Rows.bcdZerosRow.holds Tryd.pinned (OpenSpec.ofChange Rows.bcdZerosSpec) :=
  OpenClaim.holds_of_wide 5 Tryd.f5 rfl rfl rfl rfl rfl rfl rfl ⟨rfl, rfl, rfl, rfl, rfl⟩ rfl rfl rfl rfl rfl (by kernel_rfl) Tryd.func5 (by kernel_rfl)
    (of_decide_eq_true (by kernel_rfl)) (by unfold Func.isWrapper; first | (rw [if_pos (by decide +kernel)]; kernel_rfl) | (rw [if_neg (by decide +kernel)]; exact ⟨rfl, rfl⟩))
    (fun os started H enc _ => lifted os started H enc)
theorem card : Claim7.holds Tryd.pinned (.plain (OpenSpec.ofChange Rows.bcdZerosSpec)) Rows.bcdZerosCard :=
  Claim7.holds_tied_plain_at .later [] [.data, .data, .data, .sentinel, .sentinel] true (true, "880dc3b5f3d13eb71e7dba0b08bcf663e3c714f74063be448635ba522f36ec76") true over (fun _ h => by cases h) (by kernel_rfl) (fun _ h => by cases h) bcdZeros_row_tie rfl ⟨rfl, rfl⟩ (by kernel_rfl) rfl
    (fun f fn hf hfn => by
      obtain rfl : f = 5 := Option.some.inj ((show Tryd.prog.funcNamed "guichet/guichetlaw6.BcdZeros" = some 5 by kernel_rfl).symm.trans hf) |>.symm
      obtain rfl : fn = Tryd.f5 := (Option.some.inj (Tryd.func5.symm.trans hfn)).symm
      exact ⟨by kernel_rfl, fun j t ht => by
        rw [Tryd.params5] at ht
        have hm : t ∈ [39, 5] := by simpa using Array.mem_of_getElem? ht
        have hall : ([39, 5].all fun u => !Tryd.prog.wantsStandIn u) = true := by kernel_rfl
        exact (show Tryd.prog.wantsStandIn t = false by simpa using List.all_eq_true.1 hall t hm)⟩)
    (by kernel_rfl)
theorem proved : Rows.BcdZerosCardSaid := card
#print axioms proved
end Go.Proofs.YtcldlekkbabpoaaDoor.bcdZeros
namespace Go.Proofs.YtcldlekkbabpoaaDoor
/-- The statement, under a short name, for the claim. -/
theorem bcdZeros_holds : Rows.BcdZerosCardSaid := bcdZeros.proved
end Go.Proofs.YtcldlekkbabpoaaDoor
