-- written by xprint.py out of the translation. Not trusted: Lean checks it.
import Derived.Test.YteigefgobkdmgaaDoorProg
import Derived.Test.YteigefgobkdmgaaDoorBD6
import Derived.Test.YteigefgobkdmgaaDoorBB
import Derived.Lib.Walk
import Derived.WalkKit
import Derived.BigCall
import Derived.BigGuard
import Derived.Below
import Derived.Deep.Draws
import Derived.Deep.AppendLies
import Derived.Maps.AppendAt
import Derived.OwnWalk
import Derived.Laws.BytesArg
import Derived.Laws.MakeOwn
import Derived.Laws.OwnMore
import Derived.Deep.OwnRows
import Derived.Tactics
import Derived.Lib.ConvBytes
import Derived.Laws.Slices
import Derived.KernelRfl
import Derived.RowKit3
import Derived.Deep.LoopGhost
import Derived.Deep.QuietTactic
import Derived.BigQuiet
import Derived.WideLaws
import Derived.Deep.DeepCutAuto
import Derived.Deep.CutBlock
import Derived.Deep.RegionHeld3
import Derived.Laws.Rows
import Derived.Lib.AppendStr
import Derived.ArgAppend
import Derived.Laws.IdiomCopy
import Derived.OrdersHeld
import Derived.Laws.BitsLemmas
import Derived.RowKit
import Derived.Test.YteigefgobkdmgaaDoorXWords
import Derived.Deep.RegionWith
import Derived.Maps.OwnOps
import Derived.Maps.Views
import Derived.Test.YteigefgobkdmgaaDoorWWords
import Derived.Test.YteigefgobkdmgaaDoorWLast
import Derived.Test.YteigefgobkdmgaaDoorWTab
import Derived.Test.YteigefgobkdmgaaDoorWFour
import Derived.Test.YteigefgobkdmgaaDoorWQPut
import Derived.Test.YteigefgobkdmgaaDoorWApart
import Derived.Test.YteigefgobkdmgaaDoorWArr
import Derived.Test.YteigefgobkdmgaaDoorWZeros
import Derived.Test.YteigefgobkdmgaaDoorWFoot
import Derived.Test.YteigefgobkdmgaaDoorWKept
import Derived.Test.YteigefgobkdmgaaDoorWShare
import Derived.Test.YteigefgobkdmgaaDoorWN
import Derived.Test.YteigefgobkdmgaaDoorWFootNe
import Derived.Test.YteigefgobkdmgaaDoorWAt
import Derived.Test.YteigefgobkdmgaaDoorWEqStruct
import Derived.Test.YteigefgobkdmgaaDoorWRepsOne
import Derived.Test.YteigefgobkdmgaaDoorWInv
import Derived.Test.YteigefgobkdmgaaDoorWInvWords
import Derived.Test.YteigefgobkdmgaaDoorWGuard
import Derived.Test.YteigefgobkdmgaaDoorWNEv
import Derived.Test.YteigefgobkdmgaaDoorWMore
namespace Go.Proofs.YteigefgobkdmgaaDoor.PAll
open Go.RowKit Go.Proofs.YteigefgobkdmgaaDoorW.PrintWords Go.Proofs.YteigefgobkdmgaaDoorW.PrintLast Go.Proofs.YteigefgobkdmgaaDoorW.PrintMore
attribute [local go_sem] max2_int min2_int max_two min_two max_three min_three max_four min_four   -- for this text's walks alone
set_option linter.unusedVariables false
set_option linter.unusedSimpArgs false



def errW : Option Int → Value
 | none => .nilIface
 | some c => .iface 0 (.int .i64 c)
theorem errW_none : errW none = .nilIface := rfl
theorem errW_some (c : Int) : errW (some c) = .iface 0 (.int .i64 c) := rfl

-- the values' own types
def rd_L1 (xs : List (List ByteArray)) (i : Int) : (List ByteArray) := xs.getD i.toNat ([] : List ByteArray)
theorem at_L1 {w : World} {A : Option Addr} {n : Nat} {xs : List (List ByteArray)} (h : Kd.C (Kd.slice 9 Kd.string) w A n xs) (i : Int) (h0 : 0 ≤ i) (h1 : i < n) : ∃ ad A0 c0, A = some ad ∧ w.cell? (ad.add i.toNat) = some (.slice A0 (rd_L1 xs i).length c0) ∧ (rd_L1 xs i).length ≤ c0 ∧ Kd.string.C w A0 (rd_L1 xs i).length (rd_L1 xs i) := by
 obtain ⟨ad, c, e, _, hK, hc0⟩ := Kd.C_get h ([] : List ByteArray) i h0 h1
 have hc : ∀ j u, c[j]? = some u → w.cell? (ad.add (i.toNat * 1 + j)) = some u := hc0
 obtain ⟨A0, c0, rfl, l0, g0⟩ := hK
 exact ⟨ad, A0, c0, e, by have hq := hc 0 _ rfl; rwa [Nat.mul_one, Nat.add_zero] at hq, l0, g0⟩

def rd_L3 (xs : List (List Int)) (i : Int) : (List Int) := xs.getD i.toNat ([] : List Int)
theorem at_L3 {w : World} {A : Option Addr} {n : Nat} {xs : List (List Int)} (h : Kd.C (Kd.slice 5 (Kd.int .u8)) w A n xs) (i : Int) (h0 : 0 ≤ i) (h1 : i < n) : ∃ ad A0 c0, A = some ad ∧ w.cell? (ad.add i.toNat) = some (.slice A0 (rd_L3 xs i).length c0) ∧ (rd_L3 xs i).length ≤ c0 ∧ (Kd.int .u8).C w A0 (rd_L3 xs i).length (rd_L3 xs i) := by
 obtain ⟨ad, c, e, _, hK, hc0⟩ := Kd.C_get h ([] : List Int) i h0 h1
 have hc : ∀ j u, c[j]? = some u → w.cell? (ad.add (i.toNat * 1 + j)) = some u := hc0
 obtain ⟨A0, c0, rfl, l0, g0⟩ := hK
 exact ⟨ad, A0, c0, e, by have hq := hc 0 _ rfl; rwa [Nat.mul_one, Nat.add_zero] at hq, l0, g0⟩

end Go.Proofs.YteigefgobkdmgaaDoor.PAll
