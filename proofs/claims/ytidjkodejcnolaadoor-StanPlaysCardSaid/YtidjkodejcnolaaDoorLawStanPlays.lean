/- The law StanPlays: for every input it answers true; each argument reads behind the call as it read before; the listed variables are tied to the program's text. Condition: none but the row's own. -/
import Derived.Test.YtidjkodejcnolaaDoorCards
import Derived.Test.YtidjkodejcnolaaDoorTie
import Derived.Test.YtidjkodejcnolaaDoorRows
import Derived.Test.YtidjkodejcnolaaDoorPAllx4
import Derived.Test.YtidjkodejcnolaaDoorPureStanPlays
import Derived.WalkKit
import Derived.ProofKit
import Derived.OpenShut
import Derived.ShutString
import Derived.ChangeOld
import Derived.Below
import Derived.SizedLaws
import Derived.Lay
import Derived.SevenTiedAt
import Derived.Handed
import Derived.Test.YtidjkodejcnolaaDoorXRows
import Derived.Test.YtidjkodejcnolaaDoorWSized
namespace Go.Proofs.YtidjkodejcnolaaDoor.stanPlays
open Go.ChangeShapes Go.WideShapes Go.ChangeAt Go.RowKit
open Go.ChangeMaps (open_string shut_string)
set_option linter.unusedVariables false
theorem own : ownKnob Tryd.prog.godebug = none := by kernel_rfl
theorem laidOut : laidOutB Tryd.prog = true := by kernel_rfl
def IsRow (k : IntKind) (w : World) (a : Option Addr) (len cap : Nat) (zs : List Int) : Prop :=
  (a = none ∧ len = 0 ∧ cap = 0 ∧ zs = []) ∨
  ∃ x, a = some x ∧ len ≤ cap ∧ cap ≤ maxLen ∧ zs.length = cap ∧ (∀ i, i < zs.length → w.cell? (x.add i) = some (.int k (zs.getD i 0))) ∧ ∀ n ∈ zs, (Lit.int k n).wf = true
set_option maxRecDepth 100000 in
theorem lifted (os : Os) (started : os.Started) (H : Type) (enc : TypeId × Value → H) :
    ReturnsInHanded {} Tryd.checked os 5 .any (fun w args => (Rows.stanPlaysSpec.pre enc Tryd.prog Tryd.f5 [] false w args ∧ laidMetH Tryd.prog Rows.stanPlaysRow.laid w) ∧ sizedMet enc Tryd.prog Tryd.f5 (OpenSpec.ofChange Rows.stanPlaysSpec) false w args) (Rows.stanPlaysSpec.post enc Tryd.prog Tryd.f5 false true false false) := by
  refine returnsInHanded_of_change_and (C := Tryd.checked) (X := fun w _ => laidMetH Tryd.prog Rows.stanPlaysRow.laid w) (fun _ _ _ hh h => h.of_heap hh) own started (by kernel_rfl) Tryd.func5
    (ChangeSpec.witness_shaped (enc := enc) (C := Tryd.checked) (os := os) (X := fun w _ => laidMetH Tryd.prog Rows.stanPlaysRow.laid w) false (World.laidAll Tryd.prog os Rows.stanPlaysRow.laid) #[.slice none 0 0] 8 (World.laidAll_os _ _ _)
      (World.shaped_of_ZipB (by kernel_rfl) (by kernel_rfl)) (by kernel_rfl) (by kernel_rfl) (by kernel_rfl)
      (by rw [MakeChecks.laidMetH_plain _ _ _ (by kernel_rfl)]; exact laidMet_laidAll _ (by kernel_rfl) (by kernel_rfl))) ?_
  intro W base args ds gs before hval0 hW _ hsz0 hL _
  have hsz : (DataW.weightsEach Tryd.prog (Tryd.f5.params.toList ++ Rows.stanPlaysSpec.plain.varTypes Tryd.prog) (ds ++ gs)).all (· ≤ reachBytes) = true := hsz0
  have hval : ∀ (j : Nat) t v, Tryd.f5.params[j]? = some t → args[j]? = some v → Value.okWide Tryd.prog W .any base t v := hval0
  have hW' := hW
  obtain ⟨p, q, hA0, hV, rfl, hfz, hnd⟩ := hW
  have hA : DataW.TrodAll enc Tryd.prog W 0 (fun _ => true) true Tryd.f5.params.toList args.toList ds p := hA0
  rw [Tryd.params5] at hA hval hsz
  obtain ⟨v0, vs0, d0, ds0, p0, q0, hargs, rfl, rfl, h0, r0⟩ := trodAll_cons hA
  obtain ⟨rfl, rfl, rfl⟩ := trodAll_nil r0
  obtain rfl : args = #[v0] := by cases args; simp_all
  obtain ⟨rfl, rfl⟩ := trodVars_none hV
  obtain ⟨a0, len0, cap0, rfl⟩ := okWide_slice Tryd.underlying36 (hval 0 36 v0 rfl rfl)
  have k0 := h0
  have lt0 : ∀ x ∈ p0, x.block < W.heap.size := by obtain ⟨m, hm⟩ := k0; exact DataW.trod_lt m _ _ _ hm
  obtain ⟨l0, hr0, rfl, hc0, hm0, hw0⟩ := Go.Proofs.YtidjkodejcnolaaDoorW.PrintMore.rows_of_trod PAll.k41 (fun x => (Lit.int .u8 x.f0).wf = true ∧ (Lit.int .u16 x.f1).wf = true ∧ (Lit.int .u32 x.f2).wf = true) Tryd.underlying36 (show Tryd.prog.cellsOf 41 = PAll.k41.sz from by kernel_rfl) (fun n cs x hl hx => by
    obtain ⟨c0, c1, c2, rfl⟩ := Go.Proofs.YtidjkodejcnolaaDoorW.PrintMore.list3 hl
    obtain ⟨y0, y1, y2, n_, _, _, e0, e1, e2⟩ := Go.Deep.trod_struct3 Tryd.underlying41 hx
    obtain ⟨z0, g0, _, q0⟩ := DataW.trod_int Tryd.underlying5 e0
    rw [show Tryd.prog.cellsOf 5 = 1 from by kernel_rfl] at g0
    simp at g0
    subst g0
    obtain ⟨z1, g1, _, q1⟩ := DataW.trod_int Tryd.underlying22 e1
    rw [show Tryd.prog.cellsOf 22 = 1 from by kernel_rfl] at g1
    simp at g1
    subst g1
    obtain ⟨z2, g2, _, q2⟩ := DataW.trod_int Tryd.underlying23 e2
    rw [show Tryd.prog.cellsOf 23 = 1 from by kernel_rfl] at g2
    simp at g2
    subst g2
    exact ⟨⟨z0, z1, z2⟩, PAll.k41_mk _ ⟨z0, z1, z2⟩, q0, q1, q2⟩) h0
  rw [MakeChecks.laidMetH_plain _ _ _ (by kernel_rfl)] at hL
  have hTab : Go.Proofs.YtidjkodejcnolaaDoorW.PrintMore.TAB W := ⟨Go.Proofs.YtidjkodejcnolaaDoorW.PrintMore.tab_of_reads (g := 0) (k := .u64) (zs := Lib.pow10Tab) (by kernel_rfl) (by kernel_rfl) (Tryd.underlying99) (Tryd.underlying81) (by kernel_rfl) (by kernel_rfl) (show Lib.VarReads _ _ _ (Lib.tabData .u64 Lib.pow10Tab) from Lib.laidMet.reads hL (List.Mem.tail _ (List.Mem.tail _ (List.Mem.head _)))), Go.Proofs.YtidjkodejcnolaaDoorW.PrintMore.err_of_reads (g := 1) (by kernel_rfl) (by kernel_rfl) (Tryd.underlying57) (Lib.laidMet.reads hL (List.Mem.tail _ (List.Mem.tail _ (List.Mem.tail _ (List.Mem.tail _ (List.Mem.head _)))))), Go.Proofs.YtidjkodejcnolaaDoorW.PrintMore.err_of_reads (g := 2) (by kernel_rfl) (by kernel_rfl) (Tryd.underlying57) (Lib.laidMet.reads hL (List.Mem.tail _ (List.Mem.tail _ (List.Mem.tail _ (List.Mem.head _)))))⟩
  clear hA0 hval0 hsz0 hsz
  refine (PAll.guichetlaw10_StanPlays.walk Pure.StanPlays a0 cap0 l0 W hTab hr0 hc0 hm0 hw0).mono fun e W' ⟨he, bel⟩ => ?_
  subst he
  exact ⟨_, rfl, _, _, _, [], _, [], hW', trodAll_mk1 (shut_bool Tryd.underlying4 _), (trodAll_cons_mk (Below.trod laidOut (by kernel_rfl) (of_decide_eq_true (by kernel_rfl)) k0 bel lt0) trodAll_mk0), rfl, bel.frame _, fun h => by cases h⟩
theorem over : Rows.stanPlaysRow.holds Tryd.pinned (OpenSpec.ofChange Rows.stanPlaysSpec) :=
  OpenClaim.holds_of_wide 5 Tryd.f5 rfl rfl rfl rfl rfl rfl rfl ⟨rfl, rfl, rfl, rfl, rfl⟩ rfl rfl rfl rfl rfl (by kernel_rfl) Tryd.func5 (by kernel_rfl)
    (of_decide_eq_true (by kernel_rfl)) (by unfold Func.isWrapper; first | (rw [if_pos (by decide +kernel)]; kernel_rfl) | (rw [if_neg (by decide +kernel)]; exact ⟨rfl, rfl⟩))
    (fun os started H enc _ => lifted os started H enc)
theorem card : Claim7.holds Tryd.pinned (.plain (OpenSpec.ofChange Rows.stanPlaysSpec)) Rows.stanPlaysCard :=
  Claim7.holds_tied_plain_at .later [] [.data, .data, .data, .sentinel, .sentinel] true (true, "977d202d9393360b2421729444bdd48913f4917ce45a67bd59607970097ed9b6") true over (fun _ h => by cases h) (by kernel_rfl) (fun _ h => by cases h) stanPlays_row_tie rfl ⟨rfl, rfl⟩ (by kernel_rfl) rfl
    (fun f fn hf hfn => by
      obtain rfl : f = 5 := Option.some.inj ((show Tryd.prog.funcNamed "guichet/guichetlaw10.StanPlays" = some 5 by kernel_rfl).symm.trans hf) |>.symm
      obtain rfl : fn = Tryd.f5 := (Option.some.inj (Tryd.func5.symm.trans hfn)).symm
      exact ⟨by kernel_rfl, fun j t ht => by
        rw [Tryd.params5] at ht
        have hm : t ∈ [36] := by simpa using Array.mem_of_getElem? ht
        have hall : ([36].all fun u => !Tryd.prog.wantsStandIn u) = true := by kernel_rfl
        exact (show Tryd.prog.wantsStandIn t = false by simpa using List.all_eq_true.1 hall t hm)⟩)
    (by kernel_rfl)
theorem proved : Rows.StanPlaysCardSaid := card
#print axioms proved
end Go.Proofs.YtidjkodejcnolaaDoor.stanPlays
namespace Go.Proofs.YtidjkodejcnolaaDoor
/-- The statement, under a short name, for the claim. -/
theorem stanPlays_holds : Rows.StanPlaysCardSaid := stanPlays.proved
end Go.Proofs.YtidjkodejcnolaaDoor
