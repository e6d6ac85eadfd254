/- The law WalkTells: for every input it answers true; each argument reads behind the call as it read before; the listed variables are tied to the program's text. Condition: none but the row's own. -/
import Derived.Test.YtnnoanfiehjleaaDoorCards
import Derived.Test.YtnnoanfiehjleaaDoorTie
import Derived.Test.YtnnoanfiehjleaaDoorRows
import Derived.Test.YtnnoanfiehjleaaDoorPAllx7
import Derived.Test.YtnnoanfiehjleaaDoorPureWalkTells
import Derived.WalkKit
import Derived.ProofKit
import Derived.OpenShut
import Derived.ShutString
import Derived.ChangeOld
import Derived.Below
import Derived.SizedLaws
import Derived.Lay
import Derived.SevenTiedAt
import Derived.Handed
import Derived.Test.YtnnoanfiehjleaaDoorXRows
import Derived.Test.YtnnoanfiehjleaaDoorWSized
namespace Go.Proofs.YtnnoanfiehjleaaDoor.walkTells
open Go.ChangeShapes Go.WideShapes Go.ChangeAt Go.RowKit
open Go.ChangeMaps (open_string shut_string)
set_option linter.unusedVariables false
theorem own : ownKnob Tryd.prog.godebug = none := by kernel_rfl
theorem laidOut : laidOutB Tryd.prog = true := by kernel_rfl
def IsRow (k : IntKind) (w : World) (a : Option Addr) (len cap : Nat) (zs : List Int) : Prop :=
  (a = none ∧ len = 0 ∧ cap = 0 ∧ zs = []) ∨
  ∃ x, a = some x ∧ len ≤ cap ∧ cap ≤ maxLen ∧ zs.length = cap ∧ (∀ i, i < zs.length → w.cell? (x.add i) = some (.int k (zs.getD i 0))) ∧ ∀ n ∈ zs, (Lit.int k n).wf = true
set_option maxRecDepth 100000 in
theorem lifted (os : Os) (started : os.Started) (H : Type) (enc : TypeId × Value → H) :
    ReturnsInHanded {} Tryd.checked os 3 .any (fun w args => (Rows.walkTellsSpec.pre enc Tryd.prog Tryd.f3 [] false w args ∧ laidMetH Tryd.prog Rows.walkTellsRow.laid w) ∧ sizedMet enc Tryd.prog Tryd.f3 (OpenSpec.ofChange Rows.walkTellsSpec) false w args) (Rows.walkTellsSpec.post enc Tryd.prog Tryd.f3 false true false false) := by
  refine returnsInHanded_of_change_and (C := Tryd.checked) (X := fun w _ => laidMetH Tryd.prog Rows.walkTellsRow.laid w) (fun _ _ _ hh h => h.of_heap hh) own started (by kernel_rfl) Tryd.func3
    (ChangeSpec.witness_shaped (enc := enc) (C := Tryd.checked) (os := os) (X := fun w _ => laidMetH Tryd.prog Rows.walkTellsRow.laid w) false (World.laidAll Tryd.prog os Rows.walkTellsRow.laid) #[.slice none 0 0, .slice none 0 0, .int .u8 0, .int .i64 0, .slice none 0 0, .string ByteArray.empty] 8 (World.laidAll_os _ _ _)
      (World.shaped_of_ZipB (by kernel_rfl) (by kernel_rfl)) (by kernel_rfl) (by kernel_rfl) (by kernel_rfl)
      (by rw [MakeChecks.laidMetH_plain _ _ _ (by kernel_rfl)]; exact laidMet_laidAll _ (by kernel_rfl) (by kernel_rfl))) ?_
  intro W base args ds gs before hval0 hW _ hsz0 hL _
  have hsz : (DataW.weightsEach Tryd.prog (Tryd.f3.params.toList ++ Rows.walkTellsSpec.plain.varTypes Tryd.prog) (ds ++ gs)).all (· ≤ reachBytes) = true := hsz0
  have hval : ∀ (j : Nat) t v, Tryd.f3.params[j]? = some t → args[j]? = some v → Value.okWide Tryd.prog W .any base t v := hval0
  have hW' := hW
  obtain ⟨p, q, hA0, hV, rfl, hfz, hnd⟩ := hW
  have hA : DataW.TrodAll enc Tryd.prog W 0 (fun _ => true) true Tryd.f3.params.toList args.toList ds p := hA0
  rw [Tryd.params3] at hA hval hsz
  obtain ⟨v0, vs0, d0, ds0, p0, q0, hargs, rfl, rfl, h0, r0⟩ := trodAll_cons hA
  obtain ⟨v1, vs1, d1, ds1, p1, q1, rfl, rfl, rfl, h1, r1⟩ := trodAll_cons r0
  obtain ⟨v2, vs2, d2, ds2, p2, q2, rfl, rfl, rfl, h2, r2⟩ := trodAll_cons r1
  obtain ⟨v3, vs3, d3, ds3, p3, q3, rfl, rfl, rfl, h3, r3⟩ := trodAll_cons r2
  obtain ⟨v4, vs4, d4, ds4, p4, q4, rfl, rfl, rfl, h4, r4⟩ := trodAll_cons r3
  obtain ⟨v5, vs5, d5, ds5, p5, q5, rfl, rfl, rfl, h5, r5⟩ := trodAll_cons r4
  obtain ⟨rfl, rfl, rfl⟩ := trodAll_nil r5
  obtain rfl : args = #[v0, v1, v2, v3, v4, v5] := by cases args; simp_all
  obtain ⟨rfl, rfl⟩ := trodVars_none hV
  obtain ⟨a0, len0, cap0, rfl⟩ := okWide_slice Tryd.underlying22 (hval 0 22 v0 rfl rfl)
  have k0 := h0
  have lt0 : ∀ x ∈ p0, x.block < W.heap.size := by obtain ⟨m, hm⟩ := k0; exact DataW.trod_lt m _ _ _ hm
  obtain ⟨l0, hr0, rfl, hc0, hm0, hw0⟩ := Go.Proofs.YtnnoanfiehjleaaDoorW.PrintMore.rows_of_trod PAll.k34 (fun x => (Lit.int .i64 x.f0).wf = true ∧ (Lit.int .u8 x.f1).wf = true ∧ (Lit.int .i64 x.f2).wf = true ∧ (Lit.int .i64 x.f3).wf = true) Tryd.underlying22 (show Tryd.prog.cellsOf 34 = PAll.k34.sz from by kernel_rfl) (fun n cs x hl hx => by
    obtain ⟨c0, c1, c2, c3, rfl⟩ := Go.Proofs.YtnnoanfiehjleaaDoorW.PrintMore.list4 hl
    obtain ⟨y0, y1, y2, y3, n_, _, _, e0, e1, e2, e3⟩ := Go.Joins.trod_struct4 Tryd.underlying34 hx
    obtain ⟨z0, g0, _, q0⟩ := DataW.trod_int Tryd.underlying3 e0
    rw [show Tryd.prog.cellsOf 3 = 1 from by kernel_rfl] at g0
    simp at g0
    subst g0
    obtain ⟨z1, g1, _, q1⟩ := DataW.trod_int Tryd.underlying5 e1
    rw [show Tryd.prog.cellsOf 5 = 1 from by kernel_rfl] at g1
    simp at g1
    subst g1
    obtain ⟨z2, g2, _, q2⟩ := DataW.trod_int Tryd.underlying3 e2
    rw [show Tryd.prog.cellsOf 3 = 1 from by kernel_rfl] at g2
    simp at g2
    subst g2
    obtain ⟨z3, g3, _, q3⟩ := DataW.trod_int Tryd.underlying3 e3
    rw [show Tryd.prog.cellsOf 3 = 1 from by kernel_rfl] at g3
    simp at g3
    subst g3
    exact ⟨⟨z0, z1, z2, z3⟩, PAll.k34_mk _ ⟨z0, z1, z2, z3⟩, q0, q1, q2, q3⟩) h0
  obtain ⟨a1, len1, cap1, rfl⟩ := okWide_slice Tryd.underlying23 (hval 1 23 v1 rfl rfl)
  have k1 := h1
  have lt1 : ∀ x ∈ p1, x.block < W.heap.size := by obtain ⟨m, hm⟩ := k1; exact DataW.trod_lt m _ _ _ hm
  obtain ⟨l1, hr1, rfl, hc1, hm1, hw1⟩ := Go.Proofs.YtnnoanfiehjleaaDoorW.PrintMore.rows_of_trod PAll.k42 (fun x => (Lit.int .u8 x.f0).wf = true ∧ (Lit.int .u8 x.f1).wf = true ∧ (Lit.int .u8 x.f2).wf = true ∧ (Lit.int .u8 x.f3).wf = true) Tryd.underlying23 (show Tryd.prog.cellsOf 42 = PAll.k42.sz from by kernel_rfl) (fun n cs x hl hx => by
    obtain ⟨c0, c1, c2, c3, rfl⟩ := Go.Proofs.YtnnoanfiehjleaaDoorW.PrintMore.list4 hl
    obtain ⟨y0, y1, y2, y3, n_, _, _, e0, e1, e2, e3⟩ := Go.Joins.trod_struct4 Tryd.underlying42 hx
    obtain ⟨z0, g0, _, q0⟩ := DataW.trod_int Tryd.underlying5 e0
    rw [show Tryd.prog.cellsOf 5 = 1 from by kernel_rfl] at g0
    simp at g0
    subst g0
    obtain ⟨z1, g1, _, q1⟩ := DataW.trod_int Tryd.underlying5 e1
    rw [show Tryd.prog.cellsOf 5 = 1 from by kernel_rfl] at g1
    simp at g1
    subst g1
    obtain ⟨z2, g2, _, q2⟩ := DataW.trod_int Tryd.underlying5 e2
    rw [show Tryd.prog.cellsOf 5 = 1 from by kernel_rfl] at g2
    simp at g2
    subst g2
    obtain ⟨z3, g3, _, q3⟩ := DataW.trod_int Tryd.underlying5 e3
    rw [show Tryd.prog.cellsOf 5 = 1 from by kernel_rfl] at g3
    simp at g3
    subst g3
    exact ⟨⟨z0, z1, z2, z3⟩, PAll.k42_mk _ ⟨z0, z1, z2, z3⟩, q0, q1, q2, q3⟩) h1
  obtain ⟨a2, rfl, rfl, rfl, w2⟩ := open_int Tryd.underlying5 (hval 2 5 v2 rfl rfl) h2
  obtain ⟨a3, rfl, rfl, rfl, w3⟩ := open_int Tryd.underlying3 (hval 3 3 v3 rfl rfl) h3
  obtain ⟨a4, len4, cap4, rfl⟩ := okWide_slice Tryd.underlying24 (hval 4 24 v4 rfl rfl)
  have k4 := h4
  have lt4 : ∀ x ∈ p4, x.block < W.heap.size := by obtain ⟨m, hm⟩ := k4; exact DataW.trod_lt m _ _ _ hm
  obtain ⟨z4, w4⟩ : ∃ zs, IsRow .u8 W a4 len4 cap4 zs := by
    obtain ⟨fuel, hf⟩ := h4
    rcases open_ints Tryd.underlying24 Tryd.underlying5 (by kernel_rfl) hf with ⟨hcs, _⟩ | ⟨x, l, c, zs, hcs, _, hl, hm, hz, _, hcell, hwz⟩
    · simp [Value.cells] at hcs
      obtain ⟨rfl, rfl, rfl⟩ := hcs
      exact ⟨[], .inl ⟨rfl, rfl, rfl, rfl⟩⟩
    · simp [Value.cells] at hcs
      obtain ⟨rfl, rfl, rfl⟩ := hcs
      exact ⟨zs, .inr ⟨_, rfl, hl, hm, by simpa using hz, hcell, hwz⟩⟩
  have y4 : len4 * 1 ≤ 140737488351232 := Go.Proofs.YtnnoanfiehjleaaDoorW.PrintWords.sized_ints hsz (j := 4) (t := 24) rfl rfl Tryd.underlying24 Tryd.underlying5 (by kernel_rfl) (by kernel_rfl) h4
  obtain ⟨a5, rfl, rfl, rfl, y5⟩ := open_string Tryd.underlying9 (hval 5 9 v5 rfl rfl) h5
  have w5 : a5.size ≤ 140737488351232 := by
    have z := sized_string hsz (j := 5) (t := 9) rfl rfl
    rw [Array.length_toList] at z
    exact z
  clear hA0 hval0 hsz0 hsz
  refine (PAll.guichetlaw15_WalkTells.walk Pure.WalkTells a0 cap0 l0 a1 cap1 l1 a2 a3 a4 len4 cap4 z4 a5 W hr0 hc0 hm0 hw0 hr1 hc1 hm1 hw1 w2 w3 w4 y4 w5).mono fun e W' ⟨he, bel⟩ => ?_
  subst he
  exact ⟨_, rfl, _, _, _, [], _, [], hW', trodAll_mk1 (shut_bool Tryd.underlying4 _), (trodAll_cons_mk (Below.trod laidOut (by kernel_rfl) (of_decide_eq_true (by kernel_rfl)) k0 bel lt0) (trodAll_cons_mk (Below.trod laidOut (by kernel_rfl) (of_decide_eq_true (by kernel_rfl)) k1 bel lt1) (trodAll_cons_mk (shut_int Tryd.underlying5 w2) (trodAll_cons_mk (shut_int Tryd.underlying3 w3) (trodAll_cons_mk (Below.trod laidOut (by kernel_rfl) (of_decide_eq_true (by kernel_rfl)) k4 bel lt4) (trodAll_cons_mk (shut_string Tryd.underlying9 y5) trodAll_mk0)))))), rfl, bel.frame _, fun h => by cases h⟩
theorem over : Rows.walkTellsRow.holds Tryd.pinned (OpenSpec.ofChange Rows.walkTellsSpec) :=
  OpenClaim.holds_of_wide 3 Tryd.f3 rfl rfl rfl rfl rfl rfl rfl ⟨rfl, rfl, rfl, rfl, rfl⟩ rfl rfl rfl rfl rfl (by kernel_rfl) Tryd.func3 (by kernel_rfl)
    (of_decide_eq_true (by kernel_rfl)) (by unfold Func.isWrapper; first | (rw [if_pos (by decide +kernel)]; kernel_rfl) | (rw [if_neg (by decide +kernel)]; exact ⟨rfl, rfl⟩))
    (fun os started H enc _ => lifted os started H enc)
theorem card : Claim7.holds Tryd.pinned (.plain (OpenSpec.ofChange Rows.walkTellsSpec)) Rows.walkTellsCard :=
  Claim7.holds_tied_plain_at .later [] [.data, .data, .data, .sentinel, .sentinel] true (true, "6a156b3505a37413638468a7ef6f33faf3ef678060e7292c7cbb934f05799715") true over (fun _ h => by cases h) (by kernel_rfl) (fun _ h => by cases h) walkTells_row_tie rfl ⟨rfl, rfl⟩ (by kernel_rfl) rfl
    (fun f fn hf hfn => by
      obtain rfl : f = 3 := Option.some.inj ((show Tryd.prog.funcNamed "guichet/guichetlaw15.WalkTells" = some 3 by kernel_rfl).symm.trans hf) |>.symm
      obtain rfl : fn = Tryd.f3 := (Option.some.inj (Tryd.func3.symm.trans hfn)).symm
      exact ⟨by kernel_rfl, fun j t ht => by
        rw [Tryd.params3] at ht
        have hm : t ∈ [22, 23, 5, 3, 24, 9] := by simpa using Array.mem_of_getElem? ht
        have hall : ([22, 23, 5, 3, 24, 9].all fun u => !Tryd.prog.wantsStandIn u) = true := by kernel_rfl
        exact (show Tryd.prog.wantsStandIn t = false by simpa using List.all_eq_true.1 hall t hm)⟩)
    (by kernel_rfl)
theorem proved : Rows.WalkTellsCardSaid := card
#print axioms proved
end Go.Proofs.YtnnoanfiehjleaaDoor.walkTells
namespace Go.Proofs.YtnnoanfiehjleaaDoor
/-- The statement, under a short name, for the claim. -/
theorem walkTells_holds : Rows.WalkTellsCardSaid := walkTells.proved
end Go.Proofs.YtnnoanfiehjleaaDoor
