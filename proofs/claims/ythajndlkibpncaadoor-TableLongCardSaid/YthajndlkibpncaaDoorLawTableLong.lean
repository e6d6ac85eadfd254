/- The law TableLong: for every input it answers true; each argument reads behind the call as it read before; the listed variables are tied to the program's text. Condition: none but the row's own. -/
import Derived.Test.YthajndlkibpncaaDoorCards
import Derived.Test.YthajndlkibpncaaDoorTie
import Derived.Test.YthajndlkibpncaaDoorRows
import Derived.Test.YthajndlkibpncaaDoorPAllx7
import Derived.Test.YthajndlkibpncaaDoorPureTableLong
import Derived.WalkKit
import Derived.ProofKit
import Derived.OpenShut
import Derived.ShutString
import Derived.ChangeOld
import Derived.Below
import Derived.SizedLaws
import Derived.Lay
import Derived.SevenTiedAt
import Derived.Handed
import Derived.Test.YthajndlkibpncaaDoorXRows
namespace Go.Proofs.YthajndlkibpncaaDoor.tableLong
open Go.ChangeShapes Go.WideShapes Go.ChangeAt Go.RowKit
open Go.ChangeMaps (open_string shut_string)
set_option linter.unusedVariables false
theorem own : ownKnob Tryd.prog.godebug = none := by kernel_rfl
set_option maxRecDepth 100000 in
theorem lifted (os : Os) (started : os.Started) (H : Type) (enc : TypeId × Value → H) :
    ReturnsInHanded {} Tryd.checked os 5 .any (fun w args => (Rows.tableLongSpec.pre enc Tryd.prog Tryd.f5 [] false w args ∧ laidMetH Tryd.prog Rows.tableLongRow.laid w) ∧ sizedMet enc Tryd.prog Tryd.f5 (OpenSpec.ofChange Rows.tableLongSpec) false w args) (Rows.tableLongSpec.post enc Tryd.prog Tryd.f5 false true false false) := by
  refine Go.Proofs.YthajndlkibpncaaDoorW.returnsInHanded_of_change_andS (C := Tryd.checked) (X := fun w _ => laidMetH Tryd.prog Rows.tableLongRow.laid w) (fun _ _ _ hh h => h.of_heap hh) own started (by kernel_rfl) Tryd.func5
    (ChangeSpec.witness_shaped (enc := enc) (C := Tryd.checked) (os := os) (X := fun w _ => laidMetH Tryd.prog Rows.tableLongRow.laid w) false (World.laidAll Tryd.prog os Rows.tableLongRow.laid) #[.int .u8 0, .bool false] 8 (World.laidAll_os _ _ _)
      (World.shaped_of_ZipB (by kernel_rfl) (by kernel_rfl)) (by kernel_rfl) (by kernel_rfl) (by kernel_rfl)
      (by rw [MakeChecks.laidMetH_plain _ _ _ (by kernel_rfl)]; exact laidMet_laidAll _ (by kernel_rfl) (by kernel_rfl))) ?_
  intro W base args ds gs before hval0 hW _ hsz0 hL hSh _
  have hsz : (DataW.weightsEach Tryd.prog (Tryd.f5.params.toList ++ Rows.tableLongSpec.plain.varTypes Tryd.prog) (ds ++ gs)).all (· ≤ reachBytes) = true := hsz0
  have hval : ∀ (j : Nat) t v, Tryd.f5.params[j]? = some t → args[j]? = some v → Value.okWide Tryd.prog W .any base t v := hval0
  have hW' := hW
  obtain ⟨p, q, hA0, hV, rfl, hfz, hnd⟩ := hW
  have hA : DataW.TrodAll enc Tryd.prog W 0 (fun _ => true) true Tryd.f5.params.toList args.toList ds p := hA0
  rw [Tryd.params5] at hA hval hsz
  obtain ⟨v0, vs0, d0, ds0, p0, q0, hargs, rfl, rfl, h0, r0⟩ := trodAll_cons hA
  obtain ⟨v1, vs1, d1, ds1, p1, q1, rfl, rfl, rfl, h1, r1⟩ := trodAll_cons r0
  obtain ⟨rfl, rfl, rfl⟩ := trodAll_nil r1
  obtain rfl : args = #[v0, v1] := by cases args; simp_all
  obtain ⟨rfl, rfl⟩ := trodVars_none hV
  obtain ⟨a0, rfl, rfl, rfl, w0⟩ := open_int Tryd.underlying5 (hval 0 5 v0 rfl rfl) h0
  obtain ⟨a1, rfl, rfl, rfl⟩ := open_bool Tryd.underlying4 (hval 1 4 v1 rfl rfl) h1
  rw [MakeChecks.laidMetH_plain _ _ _ (by kernel_rfl)] at hL
  have hTab : Go.Proofs.YthajndlkibpncaaDoorW.PrintMore.TAB W := ⟨Tryd.laysM145.s1_3 W hSh, Go.Proofs.YthajndlkibpncaaDoorW.PrintMore.tab_of_reads (g := 1) (k := .u64) (zs := Lib.pow10Tab) (by kernel_rfl) (by kernel_rfl) (Tryd.underlying115) (Tryd.underlying97) (by kernel_rfl) (by kernel_rfl) (show Lib.VarReads _ _ _ (Lib.tabData .u64 Lib.pow10Tab) from Lib.laidMet.reads hL (List.Mem.tail _ (List.Mem.tail _ (List.Mem.head _)))), Go.Proofs.YthajndlkibpncaaDoorW.PrintMore.err_of_reads (g := 2) (by kernel_rfl) (by kernel_rfl) (Tryd.underlying63) (Lib.laidMet.reads hL (List.Mem.tail _ (List.Mem.tail _ (List.Mem.tail _ (List.Mem.tail _ (List.Mem.head _)))))), Go.Proofs.YthajndlkibpncaaDoorW.PrintMore.err_of_reads (g := 3) (by kernel_rfl) (by kernel_rfl) (Tryd.underlying63) (Lib.laidMet.reads hL (List.Mem.tail _ (List.Mem.tail _ (List.Mem.tail _ (List.Mem.head _)))))⟩
  clear hA0 hval0 hsz0 hsz
  refine (PAll.guichetlaw14_TableLong.walk Pure.TableLong a0 a1 W hTab w0).mono fun e W' ⟨he, bel⟩ => ?_
  subst he
  exact ⟨_, rfl, _, _, _, [], _, [], hW', trodAll_mk1 (shut_bool Tryd.underlying4 _), (trodAll_cons_mk (shut_int Tryd.underlying5 w0) (trodAll_cons_mk (shut_bool Tryd.underlying4 _) trodAll_mk0)), rfl, bel.frame _, fun h => by cases h⟩
theorem over : Rows.tableLongRow.holds Tryd.pinned (OpenSpec.ofChange Rows.tableLongSpec) :=
  OpenClaim.holds_of_wide 5 Tryd.f5 rfl rfl rfl rfl rfl rfl rfl ⟨rfl, rfl, rfl, rfl, rfl⟩ rfl rfl rfl rfl rfl (by kernel_rfl) Tryd.func5 (by kernel_rfl)
    (of_decide_eq_true (by kernel_rfl)) (by unfold Func.isWrapper; first | (rw [if_pos (by decide +kernel)]; kernel_rfl) | (rw [if_neg (by decide +kernel)]; exact ⟨rfl, rfl⟩))
    (fun os started H enc _ => lifted os started H enc)
theorem card : Claim7.holds Tryd.pinned (.plain (OpenSpec.ofChange Rows.tableLongSpec)) Rows.tableLongCard :=
  Claim7.holds_tied_plain_at .later [] [.data, .data, .data, .sentinel, .sentinel] true (true, "5471b4aeabb2ff44d9aa7845eb595663c8392b2e7542ddaeaa0c8cb3b605e086") true over (fun _ h => by cases h) (by kernel_rfl) (fun _ h => by cases h) tableLong_row_tie rfl ⟨rfl, rfl⟩ (by kernel_rfl) rfl
    (fun f fn hf hfn => by
      obtain rfl : f = 5 := Option.some.inj ((show Tryd.prog.funcNamed "guichet/guichetlaw14.TableLong" = some 5 by kernel_rfl).symm.trans hf) |>.symm
      obtain rfl : fn = Tryd.f5 := (Option.some.inj (Tryd.func5.symm.trans hfn)).symm
      exact ⟨by kernel_rfl, fun j t ht => by
        rw [Tryd.params5] at ht
        have hm : t ∈ [5, 4] := by simpa using Array.mem_of_getElem? ht
        have hall : ([5, 4].all fun u => !Tryd.prog.wantsStandIn u) = true := by kernel_rfl
        exact (show Tryd.prog.wantsStandIn t = false by simpa using List.all_eq_true.1 hall t hm)⟩)
    (by kernel_rfl)
theorem proved : Rows.TableLongCardSaid := card
#print axioms proved
end Go.Proofs.YthajndlkibpncaaDoor.tableLong
namespace Go.Proofs.YthajndlkibpncaaDoor
/-- The statement, under a short name, for the claim. -/
theorem tableLong_holds : Rows.TableLongCardSaid := tableLong.proved
end Go.Proofs.YthajndlkibpncaaDoor
