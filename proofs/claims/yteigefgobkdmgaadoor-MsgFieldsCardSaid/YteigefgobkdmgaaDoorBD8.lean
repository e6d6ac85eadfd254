import Derived.Test.YteigefgobkdmgaaDoorBD7
/- A row grows; decimals; the numbers of notes as parts. -/
namespace Go.B.YteigefgobkdmgaaDoor
open Go Go.B Go.Proofs
set_option maxRecDepth 100000
set_option maxHeartbeats 16000000
set_option linter.unusedSimpArgs false
set_option linter.unusedVariables false
/-- A row that one may append to: not there yet, an object of its own, or one that is full. -/
inductive GRow (H : Heap) (lo : Nat) (e : TypeId) : Option Addr → Nat → Nat → List Value → Prop
  | nil : GRow H lo e none 0 0 []
  | own {i n : Nat} {cells : List Value} (h : Heap.get H i = some (.cells cells e false)) (hlo : lo ≤ i) (hn : n ≠ 0) : GRow H lo e (some ⟨i, 0, none⟩) n capU cells
  | full {i n : Nat} {cells : List Value} (h : Heap.get H i = some (.cells cells e false)) (hlo : lo ≤ i) (hn : n ≠ 0) : GRow H lo e (some ⟨i, 0, none⟩) n n cells
theorem GRow.ways {H : Heap} {lo n c : Nat} {e : TypeId} {b : Option Addr} {cells : List Value} (h : GRow H lo e b n c cells) :
    (b = none ∧ n = 0 ∧ c = 0 ∧ cells = []) ∨ ∃ i, b = some (Addr.mk i 0 none) ∧ (c = capU ∨ c = n) ∧ n ≠ 0 ∧ lo ≤ i ∧ H.get i = some (.cells cells e false) := by
  cases h with
  | nil => exact .inl ⟨rfl, rfl, rfl, rfl⟩
  | own h1 h2 h3 => exact .inr ⟨_, rfl, .inl rfl, h3, h2, h1⟩
  | full h1 h2 h3 => exact .inr ⟨_, rfl, .inr rfl, h3, h2, h1⟩
theorem GRow.mono {H H2 : Heap} {lo n c : Nat} {e : TypeId} {b : Option Addr} {cells : List Value} (h : GRow H lo e b n c cells) (hg : ∀ i, b = some (Addr.mk i 0 none) → H2.get i = H.get i) : GRow H2 lo e b n c cells := by
  cases h with
  | nil => exact .nil
  | own h1 h2 h3 => exact .own ((hg _ rfl).trans h1) h2 h3
  | full h1 h2 h3 => exact .full ((hg _ rfl).trans h1) h2 h3
theorem mrow_app {H0 H : Heap} {e : TypeId} {b : Option Addr} {n c k : Nat} {cells new : List Value} (hs : Same H0 H []) (hm : GRow H H0.next e b n c cells) (hcl : cells.length = n) (hk : k ≠ 0) (hb : n + k ≤ 1000000) (hok : new.all cellOk = true) :
    ∃ H' b', apV H b n c e (firstB H 1 n (.slice b n c)) (some k) (some new) = some (.slice b' (n + k) capU, H') ∧ GRow H' H0.next e b' (n + k) capU (cells ++ new) ∧ Same H0 H' [] ∧ H'.next = H.next + 1 ∧ (∀ i, i < H.next → (∀ j, b = some ⟨j, 0, none⟩ → i ≠ j) → H'.get i = H.get i) ∧ b' = some ⟨H.next, 0, none⟩ ∧ ∃ ps, Same H H' ps := by
  rcases hm.ways with ⟨rfl, rfl, rfl, rfl⟩ | ⟨j, rfl, hc, hn, hlo, hg⟩
  · refine ⟨H.push (.cells new e false), some ⟨H.next, 0, none⟩, ?_, ?_, hs.push _, rfl, fun i hi _ => by rw [Heap.get_push, if_neg (by omega)], rfl, [], (Same.refl hs.ok).push _⟩
    · show apV H none 0 0 e (some []) (some k) (some new) = _
      rw [apV_some, if_neg hk, if_pos ⟨by omega, hok⟩, apW_none, Nat.zero_add]
    · rw [List.nil_append]
      exact .own (by rw [Heap.get_push, if_pos rfl]) hs.le (by omega)
  · have hj := hs.ok.lt hg
    have hfirst : firstB H 1 n (.slice (some ⟨j, 0, none⟩) n c) = some cells := by
      rw [firstB_slice, if_pos (Nat.le_refl _), if_neg hn, Nat.mul_one, getCells_eq, hg, gcV_cells, if_pos (by omega), List.drop_zero, List.take_of_length_le (by omega)]
    by_cases hcn : c = n
    · refine ⟨H.push (.cells (cells ++ new) e false), some ⟨H.next, 0, none⟩, ?_, ?_, hs.push _, rfl, fun i hi _ => by rw [Heap.get_push, if_neg (by omega)], rfl, [], (Same.refl hs.ok).push _⟩
      · rw [hfirst, apV_some, if_neg hk, if_pos ⟨by omega, hok⟩, apW_some, if_pos hcn]
      · exact .own (by rw [Heap.get_push, if_pos rfl]) hs.le (by omega)
    · obtain rfl : c = capU := hc.resolve_right hcn
      refine ⟨(H.set j .dead).push (.cells (cells ++ new) e false), some ⟨H.next, 0, none⟩, ?_, ?_, (hs.set hg (fun h => absurd h (by omega))).push _, rfl, fun i hi hij => by
        rw [Heap.get_push, if_neg (by rw [Heap.next_set]; omega), Heap.get_set, if_neg (hij j rfl)], rfl, [j], ((Same.refl hs.ok).mono (by simp)).set hg (fun _ => by simp) |>.push _⟩
      · rw [hfirst, apV_some, if_neg hk, if_pos ⟨by omega, hok⟩, apW_some, if_neg hcn, hg, apX_cells, if_pos ⟨rfl, rfl⟩]
      · exact .own (by rw [Heap.get_push, if_pos (by rw [Heap.next_set])]) hs.le (by omega)
theorem mrow_same {H H' : Heap} {lo n c : Nat} {e : TypeId} {b : Option Addr} {cells : List Value} (h : GRow H lo e b n c cells) (ok : Ok H) (hs : Same H H' []) : GRow H' lo e b n c cells := by
  cases h with
  | nil => exact .nil
  | own h1 h2 h3 => exact .own (by rw [hs.get _ (ok.lt h1) (by simp)]; exact h1) h2 h3
  | full h1 h2 h3 => exact .full (by rw [hs.get _ (ok.lt h1) (by simp)]; exact h1) h2 h3
theorem mrow_push {H : Heap} {lo n c : Nat} {e : TypeId} {b : Option Addr} {cells : List Value} (h : GRow H lo e b n c cells) (ok : Ok H) (o : AObj) : GRow (H.push o) lo e b n c cells := mrow_same h ok ((Same.refl ok).push o)
theorem mrow_first {H : Heap} {lo n c : Nat} {e : TypeId} {b : Option Addr} {cells : List Value} (hm : GRow H lo e b n c cells) (hcl : cells.length = n) : firstB H 1 n (.slice b n c) = some cells := by
  rcases hm.ways with ⟨rfl, rfl, rfl, rfl⟩ | ⟨j, rfl, hc, hn, hlo, hg⟩
  · rfl
  · rw [firstB_slice, if_pos (Nat.le_refl _), if_neg hn, Nat.mul_one, getCells_eq, hg, gcV_cells, if_pos (by omega), List.drop_zero, List.take_of_length_le (by omega)]
theorem mrow_row {P : Program} {H : Heap} {lo n c : Nat} {e : TypeId} {b : Option Addr} {cells : List Value} (hm : GRow H lo e b n c cells) (hcl : cells.length = n) (he : szOf P e = some 1) : Row P H b n 1 cells := by
  rcases hm.ways with ⟨rfl, rfl, rfl, rfl⟩ | ⟨j, rfl, hc, hn, hlo, hg⟩
  · exact ⟨rfl, .inl rfl⟩
  · exact Row.whole hg (by omega) he
theorem mrow_ne {H : Heap} {lo n c q : Nat} {e : TypeId} {b : Option Addr} {cells : List Value} {m : Msg} (hm : GRow H lo e b n c cells) (hq : H.get q = some (mO m)) (he : e ≠ 27) : ∀ j, b = some ⟨j, 0, none⟩ → q ≠ j := by
  rintro j rfl rfl
  rcases hm.ways with ⟨h, _⟩ | ⟨j', h, _, _, _, hg⟩
  · cases h
  · cases h
    rw [hq] at hg
    unfold mO at hg
    cases hg
    exact he rfl
theorem S_append (l m : List UInt8) : S l ++ S m = S (l ++ m) := by
  apply ByteArray.ext
  rw [ByteArray.data_append]
  simp
theorem dig_at (n : Nat) : (⟨#[48, 49, 50, 51, 52, 53, 54, 55, 56, 57]⟩ : ByteArray).extract (n % 10) (n % 10 + 1) = S [dg n] := by
  have h : n % 10 < 10 := Nat.mod_lt _ (by decide)
  have : dg n = UInt8.ofNat (48 + n % 10) := rfl
  rw [this]
  generalize n % 10 = d at h
  rcases (show d = 0 ∨ d = 1 ∨ d = 2 ∨ d = 3 ∨ d = 4 ∨ d = 5 ∨ d = 6 ∨ d = 7 ∨ d = 8 ∨ d = 9 by omega) with rfl | rfl | rfl | rfl | rfl | rfl | rfl | rfl | rfl | rfl <;> rfl
theorem ref_Dec (n : Nat) : n < 9223372036854775808 → ∀ H : Heap, Ok H → ∃ v H', Ca V 25 #[.int .i64 n] H v H' ∧ v = .string (S (Lib.decDigits n)) ∧ Same H H' [] := by
  induction n using Nat.strongRecOn with
  | _ n ih =>
    intro hn H ok
    have okn : ∀ a, H.next ≤ a → H.get a = none := ok
    have hS : (⟨#[48, 49, 50, 51, 52, 53, 54, 55, 56, 57]⟩ : ByteArray).size = 10 := rfl
    have hd := dig_at n
    refine Ca_run rfl tab_25 rfl ?_
    simp (maxSteps := 5000000) (disch := omega) only [Tryd.f25, V_P, SX, W_block, exitW, goInt, Int.reduceEq, setCells, oneOf, cellOk, reduceIte, Nat.reduceLT, Nat.reduceLeDiff, Nat.reduceEqDiff, Nat.reduceAdd, Nat.reduceSub, Nat.reduceMul, Int.reduceToNat, Int.reduceLT, Int.reduceLE, Int.reduceAdd, Int.reduceSub, implies_true, ne_eq, if_true, if_false, reduceCtorEq]
    refine cW_dec (fun h => by omega) (fun _ => ?_)
    simp (maxSteps := 5000000) (disch := omega) only [V_P, SX, W_block, exitW, goInt, Int.reduceEq, setCells, oneOf, cellOk, reduceIte, Nat.reduceLT, Nat.reduceLeDiff, Nat.reduceEqDiff, Nat.reduceAdd, Nat.reduceSub, Nat.reduceMul, Int.reduceToNat, Int.reduceLT, Int.reduceLE, Int.reduceAdd, Int.reduceSub, implies_true, ne_eq, if_true, if_false, reduceCtorEq]
    refine cW_dec (fun h => ?_) (fun h => ?_)
    · rw [show n % 10 = n by omega] at hd
      have hN : ((n : Int) + 1).toNat = n + 1 := by omega
      simp (maxSteps := 5000000) (disch := omega) only [hd, hN, hS, if_pos (show n ≤ n + 1 ∧ n + 1 ≤ 10 by omega), V_P, SX, W_block, exitW, goInt, Int.reduceEq, setCells, oneOf, cellOk, reduceIte, Nat.reduceLT, Nat.reduceLeDiff, Nat.reduceEqDiff, Nat.reduceAdd, Nat.reduceSub, Nat.reduceMul, Int.reduceToNat, Int.reduceLT, Int.reduceLE, Int.reduceAdd, Int.reduceSub, implies_true, ne_eq, if_true, if_false, reduceCtorEq]
      refine ⟨by rw [dec_small (by omega)], by repeat (first | exact Same.same ok | refine Same.push ?_ _ | refine Same.room ?_ _ | (refine Same.make ?_ (by (try simp only [Heap.next_push, Heap.next_set, Heap.next_room]); omega) (by (try simp only [Heap.next_push, Heap.next_set, Heap.next_room]); omega)) | (refine Same.put ?_ (by simp (disch := omega) only [Heap.get_pushH, Heap.get_setH, hite_same, hite_ne, hite_eq, Heap.get_room, Heap.next_push, Heap.next_set, Heap.next_room, Option.isSome_some, *]) (fun z => by first | (simp; done) | (exfalso; (try simp only [Heap.next_push, Heap.next_set, Heap.next_room] at z); omega))))⟩
    · simp (maxSteps := 5000000) (disch := omega) only [V_P, SX, W_block, exitW, goInt, Int.reduceEq, setCells, oneOf, cellOk, reduceIte, Nat.reduceLT, Nat.reduceLeDiff, Nat.reduceEqDiff, Nat.reduceAdd, Nat.reduceSub, Nat.reduceMul, Int.reduceToNat, Int.reduceLT, Int.reduceLE, Int.reduceAdd, Int.reduceSub, implies_true, ne_eq, if_true, if_false, reduceCtorEq]
      have hq : (n : Int).tdiv 10 = ((n / 10 : Nat) : Int) := by rw [tdiv_pos (by omega)]; omega
      have hr : (n : Int).tmod 10 = ((n % 10 : Nat) : Int) := by rw [tmod_pos (by omega)]; omega
      refine W_drawR [[], [0], [1, 0], [], [3], [], [5], [6, 5], [4, 3, 7, 6, 5], [2, 1, 0, 8, 4, 3, 7, 6, 5], [9, 2, 1, 0, 8, 4, 3, 7, 6, 5]] [0, 1, 2, 3, 4, 5, 6, 7, 8, 9, 10] (by decide +kernel) (by repeat (first | exact ok | refine Ok.push ?_ _ | refine Ok.room ?_ _ | (refine Ok.put ?_ _ (by simp (disch := omega) only [Heap.get_pushH, Heap.get_setH, hite_same, hite_ne, hite_eq, Heap.get_room, Heap.next_push, Heap.next_set, Heap.next_room, Option.isSome_some, *])))) ?_
      simp (maxSteps := 5000000) (disch := omega) only [okn, hq, hr, V_P, SX, W_block, exitW, goInt, Int.reduceEq, setCells, oneOf, cellOk, reduceIte, Nat.reduceLT, Nat.reduceLeDiff, Nat.reduceEqDiff, Nat.reduceAdd, Nat.reduceSub, Nat.reduceMul, Int.reduceToNat, Int.reduceLT, Int.reduceLE, Int.reduceAdd, Int.reduceSub, implies_true, ne_eq, if_true, if_false, reduceCtorEq, DX, Nat.reduceBEq]
      refine DOpd_callR (by decide) rfl (by simp (maxSteps := 5000000) (disch := omega) only [okn, hq, hr, V_P, SX, W_block, exitW, goInt, Int.reduceEq, setCells, oneOf, cellOk, reduceIte, Nat.reduceLT, Nat.reduceLeDiff, Nat.reduceEqDiff, Nat.reduceAdd, Nat.reduceSub, Nat.reduceMul, Int.reduceToNat, Int.reduceLT, Int.reduceLE, Int.reduceAdd, Int.reduceSub, implies_true, ne_eq, if_true, if_false, reduceCtorEq, DX, Nat.reduceBEq]) (ih (n / 10) (by omega) (by omega) _ (by repeat (first | exact ok | refine Ok.push ?_ _ | refine Ok.room ?_ _ | (refine Ok.put ?_ _ (by simp (disch := omega) only [Heap.get_pushH, Heap.get_setH, hite_same, hite_ne, hite_eq, Heap.get_room, Heap.next_push, Heap.next_set, Heap.next_room, Option.isSome_some, *]))))) ?_
      rintro v H1 ⟨rfl, hs⟩
      refine ⟨isV_string, hs.keep (by simp only [Heap.next_room]; exact Nat.le_refl _), ?_⟩
      have hN : (((n % 10 : Nat) : Int) + 1).toNat = n % 10 + 1 := by omega
      have hlen : (Lib.decDigits (n / 10)).length ≤ 19 := dec_len_le 19 _ (by decide) (by omega)
      have hcat := fun (H : Heap) (x y : Operand) => binV_sadd (P := Tryd.prog) (H := H) (t := 9) (x := x) (y := y) (a := S (Lib.decDigits (n / 10))) (b := S [dg n]) (by show (Lib.decDigits (n / 10)).length + 1 ≤ _; omega)
      rw [S_append, ← dec_step (by omega)] at hcat
      simp (maxSteps := 5000000) (disch := omega) only [okn, hq, hr, hN, hS, hd, hcat, if_pos (show n % 10 ≤ n % 10 + 1 ∧ n % 10 + 1 ≤ 10 by omega), V_P, SX, W_block, exitW, goInt, Int.reduceEq, setCells, oneOf, cellOk, reduceIte, Nat.reduceLT, Nat.reduceLeDiff, Nat.reduceEqDiff, Nat.reduceAdd, Nat.reduceSub, Nat.reduceMul, Int.reduceToNat, Int.reduceLT, Int.reduceLE, Int.reduceAdd, Int.reduceSub, implies_true, ne_eq, if_true, if_false, reduceCtorEq, DX, Nat.reduceBEq]
      exact (by repeat (first | exact Same.same ok | refine Same.push ?_ _ | refine Same.room ?_ _ | (refine Same.make ?_ (by (try simp only [Heap.next_push, Heap.next_set, Heap.next_room]); omega) (by (try simp only [Heap.next_push, Heap.next_set, Heap.next_room]); omega)) | (refine Same.put ?_ (by simp (disch := omega) only [Heap.get_pushH, Heap.get_setH, hite_same, hite_ne, hite_eq, Heap.get_room, Heap.next_push, Heap.next_set, Heap.next_room, Option.isSome_some, *]) (fun z => by first | (simp; done) | (exfalso; (try simp only [Heap.next_push, Heap.next_set, Heap.next_room] at z); omega)))) : Same H (H.room 11) []).trans hs (by simp)
end Go.B.YteigefgobkdmgaaDoor
