/- The law PosBack: for every input it answers true; each argument reads behind the call as it read before; the listed variables are tied to the program's text. Condition: none but the row's own. -/
import Derived.Test.YtkhgiojpegghoaaDoorCards
import Derived.Test.YtkhgiojpegghoaaDoorTie
import Derived.Test.YtkhgiojpegghoaaDoorRows
import Derived.Test.YtkhgiojpegghoaaDoorPAllx10
import Derived.Test.YtkhgiojpegghoaaDoorPurePosBack
import Derived.WalkKit
import Derived.ProofKit
import Derived.OpenShut
import Derived.ShutString
import Derived.ChangeOld
import Derived.Below
import Derived.SizedLaws
import Derived.Lay
import Derived.SevenTiedAt
import Derived.Handed
import Derived.Test.YtkhgiojpegghoaaDoorWSized
namespace Go.Proofs.YtkhgiojpegghoaaDoor.posBack
open Go.ChangeShapes Go.WideShapes Go.ChangeAt Go.RowKit
open Go.ChangeMaps (open_string shut_string)
set_option linter.unusedVariables false
theorem own : ownKnob Tryd.prog.godebug = none := by kernel_rfl
theorem laidOut : laidOutB Tryd.prog = true := by kernel_rfl
def IsRow (k : IntKind) (w : World) (a : Option Addr) (len cap : Nat) (zs : List Int) : Prop :=
  (a = none ∧ len = 0 ∧ cap = 0 ∧ zs = []) ∨
  ∃ x, a = some x ∧ len ≤ cap ∧ cap ≤ maxLen ∧ zs.length = cap ∧ (∀ i, i < zs.length → w.cell? (x.add i) = some (.int k (zs.getD i 0))) ∧ ∀ n ∈ zs, (Lit.int k n).wf = true
set_option maxRecDepth 100000 in
theorem lifted (os : Os) (started : os.Started) (H : Type) (enc : TypeId × Value → H) :
    ReturnsInHanded {} Tryd.checked os 3 .any (fun w args => (Rows.posBackSpec.pre enc Tryd.prog Tryd.f3 [] false w args ∧ laidMetH Tryd.prog Rows.posBackRow.laid w) ∧ sizedMet enc Tryd.prog Tryd.f3 (OpenSpec.ofChange Rows.posBackSpec) false w args) (Rows.posBackSpec.post enc Tryd.prog Tryd.f3 false true false false) := by
  refine returnsInHanded_of_change_and (C := Tryd.checked) (X := fun w _ => laidMetH Tryd.prog Rows.posBackRow.laid w) (fun _ _ _ hh h => h.of_heap hh) own started (by kernel_rfl) Tryd.func3
    (ChangeSpec.witness_shaped (enc := enc) (C := Tryd.checked) (os := os) (X := fun w _ => laidMetH Tryd.prog Rows.posBackRow.laid w) false (World.laidAll Tryd.prog os Rows.posBackRow.laid) #[.agg #[.int .u16 0, .int .u32 0, .string ByteArray.empty, .int .i64 0], .int .u8 0, .int .u32 0, .slice none 0 0] 8 (World.laidAll_os _ _ _)
      (World.shaped_of_ZipB (by kernel_rfl) (by kernel_rfl)) (by kernel_rfl) (by kernel_rfl) (by kernel_rfl)
      (by rw [MakeChecks.laidMetH_plain _ _ _ (by kernel_rfl)]; exact laidMet_laidAll _ (by kernel_rfl) (by kernel_rfl))) ?_
  intro W base args ds gs before hval0 hW _ hsz0 hL _
  have hsz : (DataW.weightsEach Tryd.prog (Tryd.f3.params.toList ++ Rows.posBackSpec.plain.varTypes Tryd.prog) (ds ++ gs)).all (· ≤ reachBytes) = true := hsz0
  have hval : ∀ (j : Nat) t v, Tryd.f3.params[j]? = some t → args[j]? = some v → Value.okWide Tryd.prog W .any base t v := hval0
  have hW' := hW
  obtain ⟨p, q, hA0, hV, rfl, hfz, hnd⟩ := hW
  have hA : DataW.TrodAll enc Tryd.prog W 0 (fun _ => true) true Tryd.f3.params.toList args.toList ds p := hA0
  rw [Tryd.params3] at hA hval hsz
  obtain ⟨v0, vs0, d0, ds0, p0, q0, hargs, rfl, rfl, h0, r0⟩ := trodAll_cons hA
  obtain ⟨v1, vs1, d1, ds1, p1, q1, rfl, rfl, rfl, h1, r1⟩ := trodAll_cons r0
  obtain ⟨v2, vs2, d2, ds2, p2, q2, rfl, rfl, rfl, h2, r2⟩ := trodAll_cons r1
  obtain ⟨v3, vs3, d3, ds3, p3, q3, rfl, rfl, rfl, h3, r3⟩ := trodAll_cons r2
  obtain ⟨rfl, rfl, rfl⟩ := trodAll_nil r3
  obtain rfl : args = #[v0, v1, v2, v3] := by cases args; simp_all
  obtain ⟨rfl, rfl⟩ := trodVars_none hV
  obtain ⟨v0_0, v0_1, v0_2, v0_3, y0_0, y0_1, y0_2, y0_3, n0_, rfl, rfl, rfl, t0_0, t0_1, t0_2, t0_3⟩ := Go.Joins.open_agg4 Tryd.underlying25 (by kernel_rfl) (by kernel_rfl) (hval 0 25 v0 rfl rfl) h0
  obtain ⟨a0_0, g0_0, rfl, w0_0⟩ := DataW.trod_int Tryd.underlying22 t0_0
  simp at g0_0
  subst g0_0
  obtain ⟨a0_1, g0_1, rfl, w0_1⟩ := DataW.trod_int Tryd.underlying23 t0_1
  simp at g0_1
  subst g0_1
  obtain ⟨a0_2, g0_2, rfl, w0_2⟩ := DataW.trod_string Tryd.underlying9 t0_2
  simp at g0_2
  subst g0_2
  obtain ⟨a0_3, g0_3, rfl, w0_3⟩ := DataW.trod_int Tryd.underlying2 t0_3
  simp at g0_3
  subst g0_3
  obtain ⟨a1, rfl, rfl, rfl, w1⟩ := open_int Tryd.underlying5 (hval 1 5 v1 rfl rfl) h1
  obtain ⟨a2, rfl, rfl, rfl, w2⟩ := open_int Tryd.underlying23 (hval 2 23 v2 rfl rfl) h2
  obtain ⟨a3, len3, cap3, rfl⟩ := okWide_slice Tryd.underlying26 (hval 3 26 v3 rfl rfl)
  have k3 := h3
  have lt3 : ∀ x ∈ p3, x.block < W.heap.size := by obtain ⟨m, hm⟩ := k3; exact DataW.trod_lt m _ _ _ hm
  obtain ⟨z3, w3⟩ : ∃ zs, IsRow .u8 W a3 len3 cap3 zs := by
    obtain ⟨fuel, hf⟩ := h3
    rcases open_ints Tryd.underlying26 Tryd.underlying5 (by kernel_rfl) hf with ⟨hcs, _⟩ | ⟨x, l, c, zs, hcs, _, hl, hm, hz, _, hcell, hwz⟩
    · simp [Value.cells] at hcs
      obtain ⟨rfl, rfl, rfl⟩ := hcs
      exact ⟨[], .inl ⟨rfl, rfl, rfl, rfl⟩⟩
    · simp [Value.cells] at hcs
      obtain ⟨rfl, rfl, rfl⟩ := hcs
      exact ⟨zs, .inr ⟨_, rfl, hl, hm, by simpa using hz, hcell, hwz⟩⟩
  have y3 : len3 * 1 ≤ 140737488351232 := Go.Proofs.YtkhgiojpegghoaaDoorW.PrintWords.sized_ints hsz (j := 3) (t := 26) rfl rfl Tryd.underlying26 Tryd.underlying5 (by kernel_rfl) (by kernel_rfl) h3
  rw [MakeChecks.laidMetH_plain _ _ _ (by kernel_rfl)] at hL
  have hTab : Go.Proofs.YtkhgiojpegghoaaDoorW.PrintMore.TAB W := ⟨Go.Proofs.YtkhgiojpegghoaaDoorW.PrintMore.err_of_reads (g := 0) (by kernel_rfl) (by kernel_rfl) (Tryd.underlying61) (Lib.laidMet.reads hL (List.Mem.tail _ (List.Mem.tail _ (List.Mem.tail _ (List.Mem.tail _ (List.Mem.head _)))))), Go.Proofs.YtkhgiojpegghoaaDoorW.PrintMore.err_of_reads (g := 1) (by kernel_rfl) (by kernel_rfl) (Tryd.underlying61) (Lib.laidMet.reads hL (List.Mem.tail _ (List.Mem.tail _ (List.Mem.tail _ (List.Mem.head _))))), Go.Proofs.YtkhgiojpegghoaaDoorW.PrintMore.tab_of_reads (g := 2) (k := .u64) (zs := Lib.pow10Tab) (by kernel_rfl) (by kernel_rfl) (Tryd.underlying107) (Tryd.underlying83) (by kernel_rfl) (by kernel_rfl) (show Lib.VarReads _ _ _ (Lib.tabData .u64 Lib.pow10Tab) from Lib.laidMet.reads hL (List.Mem.tail _ (List.Mem.tail _ (List.Mem.head _))))⟩
  clear hA0 hval0 hsz0 hsz
  refine (PAll.guichetlaw13_PosBack.walk Pure.PosBack a0_0 a0_1 a0_2 a0_3 a1 a2 a3 len3 cap3 z3 W hTab w0_0 w0_1 w0_2 w0_3 w1 w2 w3 y3).mono fun e W' ⟨he, bel⟩ => ?_
  subst he
  exact ⟨_, rfl, _, _, _, [], _, [], hW', trodAll_mk1 (shut_bool Tryd.underlying4 _), (trodAll_cons_mk (Go.Joins.shut_agg4 Tryd.underlying25 (by kernel_rfl) (by kernel_rfl) (by first | exact (shut_int Tryd.underlying22 w0_0) | (show _ = _; simp [Tryd.checked]; done)) (by first | exact (shut_int Tryd.underlying23 w0_1) | (show _ = _; simp [Tryd.checked]; done)) (by first | exact (shut_string Tryd.underlying9 w0_2) | (show _ = _; simp [Tryd.checked]; done)) (by first | exact (shut_int Tryd.underlying2 w0_3) | (show _ = _; simp [Tryd.checked]; done))) (trodAll_cons_mk (shut_int Tryd.underlying5 w1) (trodAll_cons_mk (shut_int Tryd.underlying23 w2) (trodAll_cons_mk (Below.trod laidOut (by kernel_rfl) (of_decide_eq_true (by kernel_rfl)) k3 bel lt3) trodAll_mk0)))), rfl, bel.frame _, fun h => by cases h⟩
theorem over : Rows.posBackRow.holds Tryd.pinned (OpenSpec.ofChange Rows.posBackSpec) :=
  OpenClaim.holds_of_wide 3 Tryd.f3 rfl rfl rfl rfl rfl rfl rfl ⟨rfl, rfl, rfl, rfl, rfl⟩ rfl rfl rfl rfl rfl (by kernel_rfl) Tryd.func3 (by kernel_rfl)
    (of_decide_eq_true (by kernel_rfl)) (by unfold Func.isWrapper; first | (rw [if_pos (by decide +kernel)]; kernel_rfl) | (rw [if_neg (by decide +kernel)]; exact ⟨rfl, rfl⟩))
    (fun os started H enc _ => lifted os started H enc)
theorem card : Claim7.holds Tryd.pinned (.plain (OpenSpec.ofChange Rows.posBackSpec)) Rows.posBackCard :=
  Claim7.holds_tied_plain_at .later [] [.data, .data, .data, .sentinel, .sentinel] true (true, "8f91e2bf62f97e2e9aa11dddcf067952feb6be8358272b2185ad1a25de5fd9a9") true over (fun _ h => by cases h) (by kernel_rfl) (fun _ h => by cases h) posBack_row_tie rfl ⟨rfl, rfl⟩ (by kernel_rfl) rfl
    (fun f fn hf hfn => by
      obtain rfl : f = 3 := Option.some.inj ((show Tryd.prog.funcNamed "guichet/guichetlaw13.PosBack" = some 3 by kernel_rfl).symm.trans hf) |>.symm
      obtain rfl : fn = Tryd.f3 := (Option.some.inj (Tryd.func3.symm.trans hfn)).symm
      exact ⟨by kernel_rfl, fun j t ht => by
        rw [Tryd.params3] at ht
        have hm : t ∈ [25, 5, 23, 26] := by simpa using Array.mem_of_getElem? ht
        have hall : ([25, 5, 23, 26].all fun u => !Tryd.prog.wantsStandIn u) = true := by kernel_rfl
        exact (show Tryd.prog.wantsStandIn t = false by simpa using List.all_eq_true.1 hall t hm)⟩)
    (by kernel_rfl)
theorem proved : Rows.PosBackCardSaid := card
#print axioms proved
end Go.Proofs.YtkhgiojpegghoaaDoor.posBack
namespace Go.Proofs.YtkhgiojpegghoaaDoor
/-- The statement, under a short name, for the claim. -/
theorem posBack_holds : Rows.PosBackCardSaid := posBack.proved
end Go.Proofs.YtkhgiojpegghoaaDoor
