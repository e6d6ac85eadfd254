/- The law TableChecks: for every input it answers true; each argument reads behind the call as it read before; the listed variables are tied to the program's text. Condition: none but the row's own. -/
import Derived.Test.YthajndlkibpncaaDoorCards
import Derived.Test.YthajndlkibpncaaDoorTie
import Derived.Test.YthajndlkibpncaaDoorRows
import Derived.Test.YthajndlkibpncaaDoorPAllx13
import Derived.Test.YthajndlkibpncaaDoorPureTableChecks
import Derived.WalkKit
import Derived.ProofKit
import Derived.OpenShut
import Derived.ShutString
import Derived.ChangeOld
import Derived.Below
import Derived.SizedLaws
import Derived.Lay
import Derived.SevenTiedAt
import Derived.Handed
import Derived.Test.YthajndlkibpncaaDoorXRows
import Derived.Test.YthajndlkibpncaaDoorWSized
namespace Go.Proofs.YthajndlkibpncaaDoor.tableChecks
open Go.ChangeShapes Go.WideShapes Go.ChangeAt Go.RowKit
open Go.ChangeMaps (open_string shut_string)
set_option linter.unusedVariables false
theorem own : ownKnob Tryd.prog.godebug = none := by kernel_rfl
theorem laidOut : laidOutB Tryd.prog = true := by kernel_rfl
def IsRow (k : IntKind) (w : World) (a : Option Addr) (len cap : Nat) (zs : List Int) : Prop :=
  (a = none ∧ len = 0 ∧ cap = 0 ∧ zs = []) ∨
  ∃ x, a = some x ∧ len ≤ cap ∧ cap ≤ maxLen ∧ zs.length = cap ∧ (∀ i, i < zs.length → w.cell? (x.add i) = some (.int k (zs.getD i 0))) ∧ ∀ n ∈ zs, (Lit.int k n).wf = true
set_option maxRecDepth 100000 in
theorem lifted (os : Os) (started : os.Started) (H : Type) (enc : TypeId × Value → H) :
    ReturnsInHanded {} Tryd.checked os 3 .any (fun w args => (Rows.tableChecksSpec.pre enc Tryd.prog Tryd.f3 [] false w args ∧ laidMetH Tryd.prog Rows.tableChecksRow.laid w) ∧ sizedMet enc Tryd.prog Tryd.f3 (OpenSpec.ofChange Rows.tableChecksSpec) false w args) (Rows.tableChecksSpec.post enc Tryd.prog Tryd.f3 false true false false) := by
  refine Go.Proofs.YthajndlkibpncaaDoorW.returnsInHanded_of_change_andS (C := Tryd.checked) (X := fun w _ => laidMetH Tryd.prog Rows.tableChecksRow.laid w) (fun _ _ _ hh h => h.of_heap hh) own started (by kernel_rfl) Tryd.func3
    (ChangeSpec.witness_shaped (enc := enc) (C := Tryd.checked) (os := os) (X := fun w _ => laidMetH Tryd.prog Rows.tableChecksRow.laid w) false (World.laidAll Tryd.prog os Rows.tableChecksRow.laid) #[.slice none 0 0, .slice none 0 0, .int .u8 0, .int .i64 0] 8 (World.laidAll_os _ _ _)
      (World.shaped_of_ZipB (by kernel_rfl) (by kernel_rfl)) (by kernel_rfl) (by kernel_rfl) (by kernel_rfl)
      (by rw [MakeChecks.laidMetH_plain _ _ _ (by kernel_rfl)]; exact laidMet_laidAll _ (by kernel_rfl) (by kernel_rfl))) ?_
  intro W base args ds gs before hval0 hW _ hsz0 hL hSh _
  have hsz : (DataW.weightsEach Tryd.prog (Tryd.f3.params.toList ++ Rows.tableChecksSpec.plain.varTypes Tryd.prog) (ds ++ gs)).all (· ≤ reachBytes) = true := hsz0
  have hval : ∀ (j : Nat) t v, Tryd.f3.params[j]? = some t → args[j]? = some v → Value.okWide Tryd.prog W .any base t v := hval0
  have hW' := hW
  obtain ⟨p, q, hA0, hV, rfl, hfz, hnd⟩ := hW
  have hA : DataW.TrodAll enc Tryd.prog W 0 (fun _ => true) true Tryd.f3.params.toList args.toList ds p := hA0
  rw [Tryd.params3] at hA hval hsz
  obtain ⟨v0, vs0, d0, ds0, p0, q0, hargs, rfl, rfl, h0, r0⟩ := trodAll_cons hA
  obtain ⟨v1, vs1, d1, ds1, p1, q1, rfl, rfl, rfl, h1, r1⟩ := trodAll_cons r0
  obtain ⟨v2, vs2, d2, ds2, p2, q2, rfl, rfl, rfl, h2, r2⟩ := trodAll_cons r1
  obtain ⟨v3, vs3, d3, ds3, p3, q3, rfl, rfl, rfl, h3, r3⟩ := trodAll_cons r2
  obtain ⟨rfl, rfl, rfl⟩ := trodAll_nil r3
  obtain rfl : args = #[v0, v1, v2, v3] := by cases args; simp_all
  obtain ⟨rfl, rfl⟩ := trodVars_none hV
  obtain ⟨a0, len0, cap0, rfl⟩ := okWide_slice Tryd.underlying22 (hval 0 22 v0 rfl rfl)
  have k0 := h0
  have lt0 : ∀ x ∈ p0, x.block < W.heap.size := by obtain ⟨m, hm⟩ := k0; exact DataW.trod_lt m _ _ _ hm
  obtain ⟨l0, hr0, rfl, hc0, hm0, hw0⟩ := Go.Proofs.YthajndlkibpncaaDoorW.PrintMore.rows_of_trod PAll.k34 (fun x => (Lit.int .i64 x.f0).wf = true ∧ (Lit.int .u8 x.f1).wf = true ∧ (Lit.int .i64 x.f2).wf = true ∧ (Lit.int .i64 x.f3).wf = true) Tryd.underlying22 (show Tryd.prog.cellsOf 34 = PAll.k34.sz from by kernel_rfl) (fun n cs x hl hx => by
    obtain ⟨c0, c1, c2, c3, rfl⟩ := Go.Proofs.YthajndlkibpncaaDoorW.PrintMore.list4 hl
    obtain ⟨y0, y1, y2, y3, n_, _, _, e0, e1, e2, e3⟩ := Go.Joins.trod_struct4 Tryd.underlying34 hx
    obtain ⟨z0, g0, _, q0⟩ := DataW.trod_int Tryd.underlying3 e0
    rw [show Tryd.prog.cellsOf 3 = 1 from by kernel_rfl] at g0
    simp at g0
    subst g0
    obtain ⟨z1, g1, _, q1⟩ := DataW.trod_int Tryd.underlying5 e1
    rw [show Tryd.prog.cellsOf 5 = 1 from by kernel_rfl] at g1
    simp at g1
    subst g1
    obtain ⟨z2, g2, _, q2⟩ := DataW.trod_int Tryd.underlying3 e2
    rw [show Tryd.prog.cellsOf 3 = 1 from by kernel_rfl] at g2
    simp at g2
    subst g2
    obtain ⟨z3, g3, _, q3⟩ := DataW.trod_int Tryd.underlying3 e3
    rw [show Tryd.prog.cellsOf 3 = 1 from by kernel_rfl] at g3
    simp at g3
    subst g3
    exact ⟨⟨z0, z1, z2, z3⟩, PAll.k34_mk _ ⟨z0, z1, z2, z3⟩, q0, q1, q2, q3⟩) h0
  obtain ⟨a1, len1, cap1, rfl⟩ := okWide_slice Tryd.underlying23 (hval 1 23 v1 rfl rfl)
  have k1 := h1
  have lt1 : ∀ x ∈ p1, x.block < W.heap.size := by obtain ⟨m, hm⟩ := k1; exact DataW.trod_lt m _ _ _ hm
  obtain ⟨l1, hr1, rfl, hc1, hm1, hw1⟩ := Go.Proofs.YthajndlkibpncaaDoorW.PrintMore.rows_of_trod PAll.k52 (fun x => (Lit.int .u8 x.f0).wf = true ∧ (Lit.int .u8 x.f1).wf = true ∧ (Lit.int .u8 x.f2).wf = true ∧ (Lit.int .u8 x.f3).wf = true) Tryd.underlying23 (show Tryd.prog.cellsOf 52 = PAll.k52.sz from by kernel_rfl) (fun n cs x hl hx => by
    obtain ⟨c0, c1, c2, c3, rfl⟩ := Go.Proofs.YthajndlkibpncaaDoorW.PrintMore.list4 hl
    obtain ⟨y0, y1, y2, y3, n_, _, _, e0, e1, e2, e3⟩ := Go.Joins.trod_struct4 Tryd.underlying52 hx
    obtain ⟨z0, g0, _, q0⟩ := DataW.trod_int Tryd.underlying5 e0
    rw [show Tryd.prog.cellsOf 5 = 1 from by kernel_rfl] at g0
    simp at g0
    subst g0
    obtain ⟨z1, g1, _, q1⟩ := DataW.trod_int Tryd.underlying5 e1
    rw [show Tryd.prog.cellsOf 5 = 1 from by kernel_rfl] at g1
    simp at g1
    subst g1
    obtain ⟨z2, g2, _, q2⟩ := DataW.trod_int Tryd.underlying5 e2
    rw [show Tryd.prog.cellsOf 5 = 1 from by kernel_rfl] at g2
    simp at g2
    subst g2
    obtain ⟨z3, g3, _, q3⟩ := DataW.trod_int Tryd.underlying5 e3
    rw [show Tryd.prog.cellsOf 5 = 1 from by kernel_rfl] at g3
    simp at g3
    subst g3
    exact ⟨⟨z0, z1, z2, z3⟩, PAll.k52_mk _ ⟨z0, z1, z2, z3⟩, q0, q1, q2, q3⟩) h1
  obtain ⟨a2, rfl, rfl, rfl, w2⟩ := open_int Tryd.underlying5 (hval 2 5 v2 rfl rfl) h2
  obtain ⟨a3, rfl, rfl, rfl, w3⟩ := open_int Tryd.underlying3 (hval 3 3 v3 rfl rfl) h3
  rw [MakeChecks.laidMetH_plain _ _ _ (by kernel_rfl)] at hL
  have hTab : Go.Proofs.YthajndlkibpncaaDoorW.PrintMore.TAB W := ⟨Tryd.laysM145.s1_3 W hSh, Go.Proofs.YthajndlkibpncaaDoorW.PrintMore.tab_of_reads (g := 1) (k := .u64) (zs := Lib.pow10Tab) (by kernel_rfl) (by kernel_rfl) (Tryd.underlying115) (Tryd.underlying97) (by kernel_rfl) (by kernel_rfl) (show Lib.VarReads _ _ _ (Lib.tabData .u64 Lib.pow10Tab) from Lib.laidMet.reads hL (List.Mem.tail _ (List.Mem.tail _ (List.Mem.head _)))), Go.Proofs.YthajndlkibpncaaDoorW.PrintMore.err_of_reads (g := 2) (by kernel_rfl) (by kernel_rfl) (Tryd.underlying63) (Lib.laidMet.reads hL (List.Mem.tail _ (List.Mem.tail _ (List.Mem.tail _ (List.Mem.tail _ (List.Mem.head _)))))), Go.Proofs.YthajndlkibpncaaDoorW.PrintMore.err_of_reads (g := 3) (by kernel_rfl) (by kernel_rfl) (Tryd.underlying63) (Lib.laidMet.reads hL (List.Mem.tail _ (List.Mem.tail _ (List.Mem.tail _ (List.Mem.head _)))))⟩
  clear hA0 hval0 hsz0 hsz
  refine (PAll.guichetlaw14_TableChecks.walk Pure.TableChecks a0 cap0 l0 a1 cap1 l1 a2 a3 W hTab hr0 hc0 hm0 hw0 hr1 hc1 hm1 hw1 w2 w3).mono fun e W' ⟨he, bel⟩ => ?_
  subst he
  exact ⟨_, rfl, _, _, _, [], _, [], hW', trodAll_mk1 (shut_bool Tryd.underlying4 _), (trodAll_cons_mk (Below.trod laidOut (by kernel_rfl) (of_decide_eq_true (by kernel_rfl)) k0 bel lt0) (trodAll_cons_mk (Below.trod laidOut (by kernel_rfl) (of_decide_eq_true (by kernel_rfl)) k1 bel lt1) (trodAll_cons_mk (shut_int Tryd.underlying5 w2) (trodAll_cons_mk (shut_int Tryd.underlying3 w3) trodAll_mk0)))), rfl, bel.frame _, fun h => by cases h⟩
theorem over : Rows.tableChecksRow.holds Tryd.pinned (OpenSpec.ofChange Rows.tableChecksSpec) :=
  OpenClaim.holds_of_wide 3 Tryd.f3 rfl rfl rfl rfl rfl rfl rfl ⟨rfl, rfl, rfl, rfl, rfl⟩ rfl rfl rfl rfl rfl (by kernel_rfl) Tryd.func3 (by kernel_rfl)
    (of_decide_eq_true (by kernel_rfl)) (by unfold Func.isWrapper; first | (rw [if_pos (by decide +kernel)]; kernel_rfl) | (rw [if_neg (by decide +kernel)]; exact ⟨rfl, rfl⟩))
    (fun os started H enc _ => lifted os started H enc)
theorem card : Claim7.holds Tryd.pinned (.plain (OpenSpec.ofChange Rows.tableChecksSpec)) Rows.tableChecksCard :=
  Claim7.holds_tied_plain_at .later [] [.data, .data, .data, .sentinel, .sentinel] true (true, "5471b4aeabb2ff44d9aa7845eb595663c8392b2e7542ddaeaa0c8cb3b605e086") true over (fun _ h => by cases h) (by kernel_rfl) (fun _ h => by cases h) tableChecks_row_tie rfl ⟨rfl, rfl⟩ (by kernel_rfl) rfl
    (fun f fn hf hfn => by
      obtain rfl : f = 3 := Option.some.inj ((show Tryd.prog.funcNamed "guichet/guichetlaw14.TableChecks" = some 3 by kernel_rfl).symm.trans hf) |>.symm
      obtain rfl : fn = Tryd.f3 := (Option.some.inj (Tryd.func3.symm.trans hfn)).symm
      exact ⟨by kernel_rfl, fun j t ht => by
        rw [Tryd.params3] at ht
        have hm : t ∈ [22, 23, 5, 3] := by simpa using Array.mem_of_getElem? ht
        have hall : ([22, 23, 5, 3].all fun u => !Tryd.prog.wantsStandIn u) = true := by kernel_rfl
        exact (show Tryd.prog.wantsStandIn t = false by simpa using List.all_eq_true.1 hall t hm)⟩)
    (by kernel_rfl)
theorem proved : Rows.TableChecksCardSaid := card
#print axioms proved
end Go.Proofs.YthajndlkibpncaaDoor.tableChecks
namespace Go.Proofs.YthajndlkibpncaaDoor
/-- The statement, under a short name, for the claim. -/
theorem tableChecks_holds : Rows.TableChecksCardSaid := tableChecks.proved
end Go.Proofs.YthajndlkibpncaaDoor
