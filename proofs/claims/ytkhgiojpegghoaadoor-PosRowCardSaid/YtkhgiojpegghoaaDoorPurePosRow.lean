import Derived.Test.YtkhgiojpegghoaaDoorQKnown13
import Derived.Test.YtkhgiojpegghoaaDoorPAllx9
/- PosRow: requests that stand one behind another are read one by one. -/
namespace Go.Proofs.YtkhgiojpegghoaaDoor.Pure
open Go.RowKit Go.Proofs.YtkhgiojpegghoaaDoorW.PrintWords Go.Proofs.YtkhgiojpegghoaaDoorW.PrintMore Go.Proofs.YtkhgiojpegghoaaDoor.PAll Go.Proofs.YtkhgiojpegghoaaDoor.Q
set_option linter.unusedVariables false

/-- The account of a number. -/
def PanOf (k : Int) (p : List UInt8) : Prop := guichetseat_Pan.f k = some (S p) ∧ 1 ≤ p.length ∧ p.length ≤ 19 ∧ AllDig p
/-- The bytes of the requests from the i-th on. -/
inductive Row (ks between : List Int) : Nat → List Int → Prop
  | done : Row ks between ks.length []
  | more (i : Nat) (k : Nat) (p : List UInt8) (t : List Int) (hi : i < ks.length) (hk : ks[i] = (k : Int)) (h8 : k ≤ 255) (hp : PanOf (k : Int) p) (ht : Row ks between (i + 1) t) : Row ks between i (between ++ (frameP i k p (k + 1) ++ t))
/-- .. of the requests ahead of the i-th, and what is behind them. -/
inductive Ahead (ks between : List Int) : Nat → List Int → Prop
  | none : Ahead ks between 0 []
  | more (i : Nat) (k : Nat) (p : List UInt8) (t : List Int) (hi : i < ks.length) (hk : ks[i] = (k : Int)) (h8 : k ≤ 255) (hp : PanOf (k : Int) p) (ht : Ahead ks between i t) : Ahead ks between (i + 1) (t ++ between ++ frameP i k p (k + 1))
theorem turn {ks between : List Int} : ∀ (i : Nat) (a t : List Int), Ahead ks between i a → Row ks between i t → Row ks between 0 (a ++ t) := by
  intro i a t h
  induction h generalizing t with
  | none => intro ht; exact ht
  | more i k p u hi hk h8 hp hu ih =>
    intro ht
    have := ih _ (Row.more i k p t hi hk h8 hp ht)
    simpa using this
theorem step {ks between : List Int} {i : Nat} {t : List Int} (h : Row ks between i t) (hi : i < ks.length) : ∃ k p u, ks[i] = ((k : Nat) : Int) ∧ k ≤ 255 ∧ PanOf (k : Int) p ∧ t = between ++ (frameP i k p (k + 1) ++ u) ∧ Row ks between (i + 1) u := by
  cases h with
  | done => omega
  | more _ k p u _ hk h8 hp hu => exact ⟨k, p, u, hk, h8, hp, rfl, hu⟩
theorem ended {ks between : List Int} {i : Nat} {t : List Int} (h : Row ks between i t) (hi : ¬ i < ks.length) : t = [] := by
  cases h with
  | done => rfl
  | more _ k p u h' => exact absurd h' hi
theorem row_u8 {ks between : List Int} (hb : ∀ c ∈ between, U8 c) {i : Nat} {t : List Int} (h : Row ks between i t) : ∀ c ∈ t, U8 c := by
  induction h with
  | done => intro c hc; cases hc
  | more i k p u _ _ _ _ _ ih =>
    intro c hc
    rw [List.mem_append, List.mem_append] at hc
    rcases hc with hc | hc | hc
    · exact hb c hc
    · exact frameP_u8 _ _ _ _ c hc
    · exact ih c hc
theorem row_len {ks between : List Int} (hb : between.length ≤ 20) {i : Nat} {t : List Int} (h : Row ks between i t) : t.length ≤ 100 * (ks.length - i) := by
  induction h with
  | done => simp
  | more i k p u hi _ _ hp _ ih =>
    rw [List.length_append, List.length_append, frameP_len]
    have := hp.2.2.1
    omega
theorem ahead_len {ks between : List Int} (hb : between.length ≤ 20) {i : Nat} {t : List Int} (h : Ahead ks between i t) : t.length ≤ 100 * i := by
  induction h with
  | none => simp
  | more i k p u hi _ _ hp _ ih =>
    rw [List.length_append, List.length_append, frameP_len]
    have := hp.2.2.1
    omega
theorem amt {k : Nat} (h : k ≤ 255) : wrap64 (wrap64 (k : Int) + 1) = ((k + 1 : Nat) : Int) ∧ ((k : Nat) : Int) % 4294967296 = (k : Int) := by
  refine ⟨?_, by omega⟩
  unfold wrap64
  omega
theorem row_l2 (ks between : List Int) (hk : ks.length ≤ 12) (hb : between.length ≤ 20) (hu : ∀ c ∈ between, U8 c) (h2 : 2 ∉ between) (d : Nat) : ∀ (i : Nat) (t : List Int), ks.length - i = d → i ≤ ks.length → Row ks between i t → Ev (fun n => guichetlaw13_PosRow.l2 n ks t (i : Int)) true := by
  induction d with
  | zero =>
    intro i t hd hi h
    rw [ended h (by omega)]
    refine Ev.step (f := fun _ => some true) (fun k => ?_) (Ev.now _)
    simp only [guichetlaw13_PosRow.l2]
    rw [if_neg (by omega)]
    rfl
  | succ d ih =>
    intro i t hd hi h
    have hlt : i < ks.length := by omega
    obtain ⟨k, p, u, hki, h8, hp, rfl, hu'⟩ := step h hlt
    have hamt := amt h8
    have hl := row_len hb h
    have hu8 := row_u8 hu h
    have hR : RightP ((k : Nat) : Int) p ((k + 1 : Nat) : Int) := ⟨by omega, hp.2.1, hp.2.2.1, hp.2.2.2, by omega, by omega⟩
    have hread := pos_read _ (by omega) hu8
    rw [read_back between u h2 (show i ≤ 65535 by omega) hR] at hread
    have hlen := frameP_len i k p (k + 1)
    have hnext := ih (i + 1) u (by omega) (by omega) hu'
    rw [List.length_append, List.length_append] at hl
    generalize hn : between.length + (frameP i k p (k + 1)).length = n at hread
    have hdrop : (between ++ (frameP i k p (k + 1) ++ u)).drop n = u := by
      rw [← hn, ← List.append_assoc, show between.length + (frameP i k p (k + 1)).length = (between ++ frameP i k p (k + 1)).length from by rw [List.length_append], List.drop_left]
    have hLn : (between ++ (frameP i k p (k + 1) ++ u)).length = n + u.length := by rw [List.length_append, List.length_append]; omega
    generalize between ++ (frameP i k p (k + 1) ++ u) = all at hread hdrop hLn
    refine Ev.step (f := fun m => (pos_Read.f m all).bind fun b => (if b.2.2.2.2.2 = 0 then (if b.2.2.2.2.1 < 1 then none else (if b.2.2.2.2.1 > (all.length : Int) then none else (if 0 ≤ (i : Int) then ((guichetseat_Pan.f (k : Int)).bind fun t => (if (!(b.1 == (i : Int)) || (!(b.2.1 == (k : Int)) || (!(b.2.2.1.toList == t.toList) || (!(b.2.2.2.1 == ((k + 1 : Nat) : Int)))))) = true then none else (if 0 ≤ b.2.2.2.2.1 then (if b.2.2.2.2.1 ≤ (all.length : Int) then guichetlaw13_PosRow.l2 m ks (all.drop b.2.2.2.2.1.toNat) ((i + 1 : Nat) : Int) else none) else none))) else none))) else none)) (fun m => ?_) ?_
    · simp only [guichetlaw13_PosRow.l2]
      rw [if_pos (by omega), rd_lt hlt, hki, wrap_succ hlt (by omega), u16_id (by omega) (by omega), hamt.2, hamt.1]
    refine Ev.bind hread ?_
    dsimp only
    refine Ev.ite_pos rfl (Ev.ite_neg (by omega) (Ev.ite_neg (by omega) (Ev.ite_pos (by omega) ?_)))
    refine Ev.const_bind hp.1 ?_
    refine Ev.ite_neg (by simp) (Ev.ite_pos (by omega) (Ev.ite_pos (by omega) ?_))
    rw [Int.toNat_natCast, hdrop]
    exact hnext
theorem row_l1 (ks between : List Int) (hk : ks.length ≤ 12) (hks : ∀ c ∈ ks, U8 c) (hb : between.length ≤ 20) (hu : ∀ c ∈ between, U8 c) (h2 : 2 ∉ between) (d : Nat) : ∀ (i : Nat) (a : List Int), ks.length - i = d → i ≤ ks.length → Ahead ks between i a → Ev (fun n => guichetlaw13_PosRow.l1 n ks between a (i : Int)) true := by
  induction d with
  | zero =>
    intro i a hd hi h
    obtain rfl : i = ks.length := by omega
    have := turn _ a [] h Row.done
    rw [List.append_nil] at this
    refine Ev.step (fun k => ?_) (row_l2 ks between hk hb hu h2 _ 0 a rfl (by omega) this)
    simp only [guichetlaw13_PosRow.l1]
    rw [if_neg (by omega)]
    rfl
  | succ d ih =>
    intro i a hd hi h
    have hlt : i < ks.length := by omega
    have hki := hks ks[i] (List.getElem_mem hlt)
    unfold U8 at hki
    obtain ⟨k, hk'⟩ := nat_of hki.1
    obtain ⟨p, hp⟩ := pan_ev (a := (k : Int)) (by omega)
    have hR : RightP ((k : Nat) : Int) p ((k + 1 : Nat) : Int) := ⟨by omega, hp.2.1, hp.2.2.1, hp.2.2.2, by omega, by omega⟩
    have hput := pos_put (t := i) (s := (k : Int)) (a := ((k + 1 : Nat) : Int)) (p := p) (by omega) (by omega) (by have := hp.2.2.1; omega)
    rw [if_pos hR, Int.toNat_natCast, Int.toNat_natCast] at hput
    have hamt := amt (k := k) (by omega)
    have hla := ahead_len hb h
    have hlen := frameP_len i k p (k + 1)
    have hp19 := hp.2.2.1
    have hnext := ih (i + 1) _ (by omega) (by omega) (Ahead.more i k p a hlt hk' (by omega) hp h)
    refine Ev.step (f := fun m => (guichetseat_Pan.f (k : Int)).bind fun t => (pos_Put.f m (i : Int) (k : Int) t ((k + 1 : Nat) : Int)).bind fun b => (if b.2 = 0 then (if a.length + between.length < 140737488355328 then (if (a ++ between).length + b.1.length < 140737488355328 then guichetlaw13_PosRow.l1 m ks between (a ++ between ++ b.1) ((i + 1 : Nat) : Int) else none) else none) else none)) (fun m => ?_) ?_
    · simp only [guichetlaw13_PosRow.l1]
      rw [if_pos (by omega), if_pos (by omega), rd_lt hlt, hk', wrap_succ hlt (by omega), u16_id (by omega) (by omega), hamt.2, hamt.1]
      rfl
    refine Ev.const_bind hp.1 (Ev.bind hput (Ev.ite_pos rfl (Ev.ite_pos (by omega) (Ev.ite_pos (by rw [List.length_append]; dsimp only; omega) hnext))))
theorem row_l0 (ks between : List Int) (hk : ks.length ≤ 12) (hks : ∀ c ∈ ks, U8 c) (hb : between.length ≤ 20) (hu : ∀ c ∈ between, U8 c) (d : Nat) : ∀ (i : Nat), between.length - i = d → i ≤ between.length → 2 ∉ between.take i → Ev (fun n => guichetlaw13_PosRow.l0 n ks between (i : Int)) true := by
  induction d with
  | zero =>
    intro i hd hi h
    rw [List.take_of_length_le (by omega)] at h
    refine Ev.step (fun k => ?_) (row_l1 ks between hk hks hb hu h _ 0 [] rfl (by omega) Ahead.none)
    simp only [guichetlaw13_PosRow.l0]
    rw [if_neg (by omega)]
    rfl
  | succ d ih =>
    intro i hd hi h
    have hlt : i < between.length := by omega
    refine Ev.step (f := fun n => if between[i] = 2 then some true else guichetlaw13_PosRow.l0 n ks between ((i + 1 : Nat) : Int)) (fun n => ?_) ?_
    · simp only [guichetlaw13_PosRow.l0]
      rw [if_pos (by omega), if_pos (by omega), rd_lt hlt, wrap_succ hlt (by omega)]
    by_cases h2 : between[i] = 2
    · exact Ev.ite_pos h2 (Ev.now _)
    · refine Ev.ite_neg h2 (ih (i + 1) (by omega) (by omega) ?_)
      rw [List.take_succ_eq_append_getElem hlt, List.mem_append, List.mem_singleton]
      rintro (h' | h')
      · exact h h'
      · exact h2 h'.symm
theorem PosRow : guichetlaw13_PosRow.Pure := by
  intro ks between _ _ hks _ _ hb
  refine Ev.rounds (g := fun n => guichetlaw13_PosRow.f n ks between) ?_
  unfold guichetlaw13_PosRow.f
  refine Ev.bind known_true (Ev.ite_pos rfl ?_)
  have ht : Ev (fun n => guichetlaw13_PosRow.j0 n ks between true) true := Ev.step (f := fun _ => some true) (fun k => by simp only [guichetlaw13_PosRow.j0, if_true]) (Ev.now _)
  by_cases h1 : ks.length > 12
  · exact Ev.ite_pos (by omega) ht
  refine Ev.ite_neg (by omega) ?_
  by_cases h2 : between.length > 20
  · rw [decide_eq_true (by omega)]; exact ht
  rw [decide_eq_false (by omega)]
  refine Ev.step (fun k => ?_) (row_l0 ks between (by omega) (fun c hc => U8.of (hks c hc)) (by omega) (fun c hc => U8.of (hb c hc)) _ 0 rfl (by omega) (by simp))
  simp only [guichetlaw13_PosRow.j0, Bool.false_eq_true, if_false]
  rfl
end Go.Proofs.YtkhgiojpegghoaaDoor.Pure
