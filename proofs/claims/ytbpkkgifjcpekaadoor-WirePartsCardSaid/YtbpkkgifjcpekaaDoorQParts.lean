import Derived.Test.YtbpkkgifjcpekaaDoorQWire
import Derived.Lib.SplitLaws
import Derived.Lib.IndexAny
import Derived.Test.YtbpkkgifjcpekaaDoorPAllx1
import Derived.Test.YtbpkkgifjcpekaaDoorPAllx1
import Derived.Test.YtbpkkgifjcpekaaDoorPAllx11
import Derived.Test.YtbpkkgifjcpekaaDoorPAllx11
import Derived.Test.YtbpkkgifjcpekaaDoorPAllx1
/- Bytes cut at a mark, and parts joined by it. -/
namespace Go.Proofs.YtbpkkgifjcpekaaDoor.Q
open Go.RowKit Go.Proofs.YtbpkkgifjcpekaaDoorW.PrintWords Go.Proofs.YtbpkkgifjcpekaaDoorW.PrintMore Go.Proofs.YtbpkkgifjcpekaaDoor.PAll
set_option linter.unusedVariables false

/-- A text out of its bytes. -/
abbrev S (l : List UInt8) : ByteArray := ⟨l.toArray⟩
abbrev U (s : ByteArray) : List UInt8 := s.data.toList
/-- Bytes as numbers. -/
abbrev ints (l : List UInt8) : List Int := l.map fun c => (c.toNat : Int)
theorem S_U (s : ByteArray) : S (U s) = s := rfl
theorem U_S (l : List UInt8) : U (S l) = l := rfl
theorem S_size (l : List UInt8) : (S l).size = l.length := rfl
theorem U_size (s : ByteArray) : s.size = (U s).length := (data_length s).symm
theorem bytesOf_U (s : ByteArray) : bytesOf s = ints (U s) := rfl
theorem ofNat_toNat (c : UInt8) : UInt8.ofNat ((c.toNat : Int)).toNat = c := by simp
theorem str_ints (l : List UInt8) : strOfNums (ints l) = S l := by
  unfold strOfNums
  rw [List.map_map]
  have : ((fun n : Int => UInt8.ofNat n.toNat) ∘ fun c : UInt8 => (c.toNat : Int)) = id := funext fun c => ofNat_toNat c
  rw [this, List.map_id]
theorem ints_of : ∀ (l : List Int), (∀ x ∈ l, U8 x) → ∃ b, l = ints b
  | [], _ => ⟨[], rfl⟩
  | x :: t, h => by
    obtain ⟨b, hb⟩ := ints_of t (fun y hy => h y (List.mem_cons_of_mem _ hy))
    have hx := h x List.mem_cons_self
    unfold U8 at hx
    refine ⟨UInt8.ofNat x.toNat :: b, ?_⟩
    rw [hb]
    show x :: ints b = ((UInt8.ofNat x.toNat).toNat : Int) :: ints b
    rw [UInt8.toNat_ofNat']
    congr 1
    omega
theorem bt_U {s : ByteArray} {i : Nat} (h : i < (U s).length) : bt s (i : Int) = ((U s)[i].toNat : Int) := by
  rw [← rd_bytesOf, rd_lt (by simpa [bytesOf] using h)]
  simp [bytesOf]
theorem rdOf_lt {l : List ByteArray} {i : Nat} (h : i < l.length) : rdOf ByteArray.empty l (i : Int) = l[i] := by simp [rdOf, List.getD_eq_getElem?_getD, List.getElem?_eq_getElem h]

/-! ### cutting -/
def ch (x : UInt8) : List (List UInt8) → List (List UInt8)
  | [] => [[x]]
  | h :: r => (x :: h) :: r
def sp : List UInt8 → List (List UInt8)
  | [] => [[]]
  | x :: t => if x = 28 then [] :: sp t else ch x (sp t)
def ah (a : List UInt8) : List (List UInt8) → List (List UInt8)
  | [] => [a]
  | h :: r => (a ++ h) :: r
theorem ch_ne (x : UInt8) (L : List (List UInt8)) : ch x L ≠ [] := by cases L <;> simp [ch]
theorem sp_ne (l : List UInt8) : sp l ≠ [] := by
  cases l with
  | nil => simp [sp]
  | cons x t => unfold sp; split; simp; exact ch_ne _ _
theorem ah_nil {L : List (List UInt8)} (h : L ≠ []) : ah [] L = L := by cases L with | nil => exact absurd rfl h | cons a r => rfl
theorem ah_ch (a : List UInt8) (x : UInt8) (L : List (List UInt8)) : ah a (ch x L) = ah (a ++ [x]) L := by cases L <;> simp [ah, ch]
theorem index_ne {b : UInt8} {l : List UInt8} (h : b ≠ 28) : Lib.index (b :: l) [28] = if Lib.index l [28] == -1 then -1 else Lib.index l [28] + 1 := by
  have hp : ([28] : List UInt8).isPrefixOf (b :: l) = false := by simp [List.isPrefixOf, Ne.symm h]
  rw [Lib.index, hp]; simp
theorem index_eq (l : List UInt8) : Lib.index (28 :: l) [28] = 0 := by rw [Lib.index]; simp [List.isPrefixOf]
theorem splitK_sp : ∀ l : List UInt8, Lib.splitK [28] 0 (Lib.count l [28]) l = sp l
  | [] => by rw [Lib.count_miss (by simp [Lib.index])]; rfl
  | b :: t => by
    by_cases h : b = 28
    · subst h
      rw [Lib.count_cons_eq, Nat.add_comm, Lib.splitK, index_eq, if_neg (by decide), sp, if_pos rfl]
      show _ :: Lib.splitK [28] 0 (Lib.count t [28]) t = _
      rw [splitK_sp t]
      rfl
    · rw [Lib.count_cons_ne b 28 t h, sp, if_neg h, ← splitK_sp t]
      cases hk : Lib.count t [28] with
      | zero => rfl
      | succ k =>
        have hm : Lib.index t [28] ≠ -1 := fun e => by rw [Lib.count_miss e] at hk; omega
        have hge : -1 ≤ Lib.index t [28] := by rw [Lib.index_one]; exact Lib.indexByte_ge t 28
        obtain ⟨i, hi⟩ := Int.eq_ofNat_of_zero_le (show 0 ≤ Lib.index t [28] by omega)
        have n1 : ∀ j : Nat, ¬ (((j : Int) == -1) = true) := fun j e => by have := beq_iff_eq.1 e; omega
        rw [Lib.splitK, Lib.splitK, index_ne h, hi, if_neg (n1 i), if_neg (n1 i)]
        rw [show ((i : Int) + 1) = ((i + 1 : Nat) : Int) from rfl, if_neg (n1 (i + 1)), Int.toNat_natCast, Int.toNat_natCast]
        rw [show i + 1 + ([28] : List UInt8).length = (i + 1) + 1 from rfl, Nat.add_zero, Nat.add_zero, List.take_succ_cons, List.drop_succ_cons]
        rfl
theorem splitB_sp (l : List UInt8) : Lib.splitB (S [28]) 0 (Lib.countB (S l) (S [28])) (S l) = (sp l).map S := by
  have h := Lib.splitB_data (S [28]) 0 (Lib.countB (S l) (S [28])) (S l)
  have e : (Lib.splitB (S [28]) 0 (Lib.countB (S l) (S [28])) (S l)).map U = sp l := h.trans (splitK_sp l)
  rw [← e, List.map_map]
  exact (List.map_id _).symm
theorem wire_split (l : List UInt8) (hl : l.length ≤ 100000) : wire_Split.f (ints l) = some ((sp l).map S) := by
  unfold wire_Split.f strings_Split.f
  rw [str_ints, show strOfNums ([28] : List Int) = S [28] from rfl, if_pos ⟨by rw [S_size]; omega, rfl⟩, splitB_sp]
  rfl
theorem ref_split_l0 (l : List UInt8) (hl : l.length ≤ 100000) (d : Nat) : ∀ (i st : Nat) (P : List ByteArray), l.length - i = d → i ≤ l.length → st ≤ i → P.length ≤ i → Ev (fun k => guichetref1_Split.l0 k (ints l) P (st : Int) (i : Int)) (P ++ (ah ((l.take i).drop st) (sp (l.drop i))).map S) := by
  have hL : (ints l).length = l.length := List.length_map ..
  have cut : ∀ i st : Nat, strOfNums (((ints l).take i).drop st) = S ((l.take i).drop st) := fun i st => by rw [← List.map_take, ← List.map_drop]; exact str_ints _
  induction d with
  | zero =>
    intro i st P hd hi hs hP
    have e : l.drop i = [] := List.drop_eq_nil_of_le (by omega)
    have e2 : l.take i = l := List.take_of_length_le (by omega)
    rw [e, e2]
    refine Ev.step (f := fun _ => some (P ++ [S (l.drop st)])) (fun k => ?_) ?_
    · simp only [guichetref1_Split.l0]
      rw [hL, if_neg (by omega), if_pos (by omega), if_pos (by omega), if_pos (by omega), Int.toNat_natCast, ← List.map_drop, str_ints]
    · rw [show (ah (l.drop st) (sp [])).map S = [S (l.drop st)] from by simp [ah, sp]]
      exact Ev.now _
  | succ d ih =>
    intro i st P hd hi hs hP
    have hlt : i < l.length := by omega
    rw [List.drop_eq_getElem_cons hlt, sp]
    by_cases hc : l[i] = 28
    · rw [if_pos hc]
      have h := ih (i + 1) (i + 1) (P ++ [S ((l.take i).drop st)]) (by omega) (by omega) (by omega) (by simp; omega)
      rw [show (l.take (i + 1)).drop (i + 1) = [] from List.drop_eq_nil_of_le (by rw [List.length_take]; omega), ah_nil (sp_ne _), List.append_assoc, List.singleton_append] at h
      rw [show ah ((l.take i).drop st) ([] :: sp (l.drop (i + 1))) = (l.take i).drop st :: sp (l.drop (i + 1)) from by simp [ah], List.map_cons]
      refine Ev.step (fun k => ?_) h
      simp only [guichetref1_Split.l0]
      rw [hL, if_pos (by omega), if_pos (by omega), rd_lt (by rw [hL]; omega), List.getElem_map, hc, if_pos (show (((28 : UInt8).toNat : Nat) : Int) = 28 from rfl), if_pos (by omega), if_pos (by omega), if_pos (by omega), if_pos (by omega), Int.toNat_natCast, Int.toNat_natCast, cut, wrap_succ hlt (by omega)]
    · rw [if_neg hc, ah_ch]
      have h := ih (i + 1) st P (by omega) (by omega) (by omega) (by omega)
      rw [show (l.take (i + 1)).drop st = (l.take i).drop st ++ [l[i]] from by rw [List.take_succ_eq_append_getElem hlt, List.drop_append_of_le_length (by rw [List.length_take]; omega)]] at h
      refine Ev.step (fun k => ?_) h
      simp only [guichetref1_Split.l0]
      rw [hL, if_pos (by omega), if_pos (by omega), rd_lt (by rw [hL]; omega), List.getElem_map, if_neg (fun e => hc (UInt8.toNat_inj.1 (by rw [show (28 : UInt8).toNat = 28 from rfl]; omega))), wrap_succ hlt (by omega)]
theorem ref_split (l : List UInt8) (hl : l.length ≤ 100000) : Ev (fun k => guichetref1_Split.f k (ints l)) ((sp l).map S) := by
  have h := ref_split_l0 l hl _ 0 0 [] rfl (by omega) (by omega) (by simp)
  rw [show (l.take 0).drop 0 = [] from by simp, ah_nil (sp_ne _), List.nil_append] at h
  exact h
theorem strings_l0 (P : List ByteArray) (hP : P.length ≤ 100000) (d : Nat) : ∀ i : Nat, P.length - i = d → i ≤ P.length → Ev (fun k => guichethelp_Strings.l0 k P P (i : Int)) true := by
  induction d with
  | zero =>
    intro i hd hi
    exact Ev.step (f := fun _ => some true) (fun k => by simp only [guichethelp_Strings.l0]; rw [if_neg (by omega)]) (Ev.now _)
  | succ d ih =>
    intro i hd hi
    have hlt : i < P.length := by omega
    refine Ev.step (fun k => ?_) (ih (i + 1) (by omega) (by omega))
    simp only [guichethelp_Strings.l0]
    rw [if_pos (by omega), if_pos (by omega), if_pos (by omega), if_pos trivial, wrap_succ hlt (by omega)]
theorem strings_same (P : List ByteArray) (hP : P.length ≤ 100000) : Ev (fun k => guichethelp_Strings.f k P P) true := by
  unfold guichethelp_Strings.f
  exact Ev.ite_pos rfl (strings_l0 P hP _ 0 rfl (by omega))

/-! ### joining -/
def cat (L : List (List UInt8)) : List UInt8 := Lib.joinTail [28] L
theorem cat_cons (s : List UInt8) (L : List (List UInt8)) : cat (s :: L) = 28 :: (s ++ cat L) := by simp [cat, Lib.joinTail]
theorem cat_nil : cat [] = [] := rfl
theorem join_cat (s : List UInt8) (L : List (List UInt8)) : Lib.join (s :: L) [28] = s ++ cat L := Lib.join_cons s L [28]
theorem join_ch (x : UInt8) : ∀ {L : List (List UInt8)}, L ≠ [] → Lib.join (ch x L) [28] = x :: Lib.join L [28]
  | [], h => absurd rfl h
  | s :: L, _ => by rw [ch, join_cat, join_cat]; rfl
theorem join_sp : ∀ l : List UInt8, Lib.join (sp l) [28] = l
  | [] => rfl
  | x :: t => by
    have ih := join_sp t
    unfold sp
    split
    · rename_i h
      subst h
      rw [join_cat]
      cases hs : sp t with
      | nil => exact absurd hs (sp_ne t)
      | cons s L => rw [hs, join_cat] at ih; rw [cat_cons, ih]; rfl
    · rw [join_ch x (sp_ne t), ih]
theorem sp_free : ∀ (l : List UInt8), ∀ s ∈ sp l, s.contains 28 = false ∧ s.length ≤ l.length
  | [] => fun s hs => by simp [sp] at hs; subst hs; exact ⟨rfl, Nat.le_refl _⟩
  | x :: t => by
    have ih := sp_free t
    unfold sp
    split
    · intro s hs
      rcases List.mem_cons.1 hs with rfl | hs
      · exact ⟨rfl, Nat.zero_le _⟩
      · have := ih s hs; exact ⟨this.1, by rw [List.length_cons]; omega⟩
    · rename_i hx
      cases hq : sp t with
      | nil => exact absurd hq (sp_ne t)
      | cons a L =>
        rw [hq] at ih
        intro s hs
        rcases List.mem_cons.1 hs with rfl | hs
        · have := ih a List.mem_cons_self
          refine ⟨?_, by rw [List.length_cons, List.length_cons]; omega⟩
          rw [List.contains_cons, this.1, Bool.or_false]
          exact beq_eq_false_iff_ne.2 (fun e => hx e.symm)
        · have := ih s (List.mem_cons_of_mem _ hs); exact ⟨this.1, by rw [List.length_cons]; omega⟩
theorem ch_length (x : UInt8) (L : List (List UInt8)) : (ch x L).length ≤ L.length + 1 := by cases L <;> simp [ch]
theorem ch_length' (x : UInt8) : ∀ {L : List (List UInt8)}, L ≠ [] → (ch x L).length = L.length
  | [], h => absurd rfl h
  | s :: L, _ => rfl
theorem sp_length : ∀ l : List UInt8, (sp l).length ≤ l.length + 1
  | [] => by simp [sp]
  | x :: t => by
    have ih := sp_length t
    unfold sp
    split
    · simp; omega
    · rw [ch_length' x (sp_ne t), List.length_cons]; omega
theorem sp_none : ∀ s : List UInt8, s.contains 28 = false → sp s = [s]
  | [], _ => rfl
  | x :: t, h => by
    rw [List.contains_cons, Bool.or_eq_false_iff] at h
    unfold sp
    rw [if_neg (fun e => by subst e; exact absurd h.1 (by decide)), sp_none t h.2]
    rfl
theorem sp_one : ∀ (s r : List UInt8), s.contains 28 = false → sp (s ++ 28 :: r) = s :: sp r
  | [], r, _ => by rw [List.nil_append, sp, if_pos rfl]
  | x :: t, r, h => by
    rw [List.contains_cons, Bool.or_eq_false_iff] at h
    rw [List.cons_append, sp, if_neg (fun e => by subst e; exact absurd h.1 (by decide)), sp_one t r h.2]
    rfl
theorem sp_cat : ∀ (L : List (List UInt8)) (s : List UInt8), s.contains 28 = false → (∀ x ∈ L, x.contains 28 = false) → sp (s ++ cat L) = s :: L
  | [], s, h, _ => by rw [cat_nil, List.append_nil]; exact sp_none s h
  | a :: L, s, h, hL => by rw [cat_cons, sp_one s _ h, sp_cat L a (hL a List.mem_cons_self) (fun x hx => hL x (List.mem_cons_of_mem _ hx))]
theorem cat_length (n : Nat) : ∀ L : List (List UInt8), (∀ s ∈ L, s.length ≤ n) → (cat L).length ≤ (n + 1) * L.length
  | [], _ => by simp [cat_nil]
  | s :: L, h => by
    have h1 := h s List.mem_cons_self
    have h2 := cat_length n L (fun x hx => h x (List.mem_cons_of_mem _ hx))
    rw [cat_cons, List.length_cons, List.length_append, List.length_cons, Nat.mul_add]
    omega

/-- A part holds the mark. -/
def bad (L : List (List UInt8)) : Bool := L.any fun s => s.contains 28
theorem bad_cons (s : List UInt8) (L : List (List UInt8)) : bad (s :: L) = (s.contains 28 || bad L) := rfl
theorem bad_false {L : List (List UInt8)} (h : bad L = false) : ∀ x ∈ L, x.contains 28 = false := by
  intro x hx
  unfold bad at h
  rw [List.any_eq_false] at h
  exact Bool.eq_false_iff.2 (h x hx)
theorem bad_of {L : List (List UInt8)} (h : ∀ x ∈ L, x.contains 28 = false) : bad L = false := by
  unfold bad
  rw [List.any_eq_false]
  exact fun x hx => Bool.eq_false_iff.1 (h x hx)
/-- What joining answers. -/
def jn (L : List (List UInt8)) : List Int × Bool := if L = [] then ([], false) else if bad L = true then ([], false) else (ints (Lib.join L [28]), true)
theorem wire_join_l0 (P : List ByteArray) (hP : P.length ≤ 100000) (hs : ∀ s ∈ P, (U s).length ≤ 1000) (d : Nat) : ∀ i : Nat, P.length - i = d → i ≤ P.length → Ev (fun k => wire_Join.l0 k P P (P.length : Int) (i : Int)) (if bad ((P.map U).drop i) = true then ([], false) else (ints (Lib.join (P.map U) [28]), decide ((P.length : Int) > 0))) := by
  have hM : (P.map U).length = P.length := List.length_map ..
  induction d with
  | zero =>
    intro i hd hi
    rw [show (P.map U).drop i = [] from List.drop_eq_nil_of_le (by omega), if_neg (by decide)]
    have hj : (Lib.join (P.map U) [28]).length ≤ 140737488355328 := by
      cases hq : P.map U with
      | nil => simp [Lib.join_nil]
      | cons s L =>
        rw [hq, List.length_cons] at hM
        have hs' : ∀ x ∈ s :: L, x.length ≤ 1000 := fun x hx => by
          rw [← hq] at hx
          obtain ⟨y, hy, rfl⟩ := List.mem_map.1 hx
          exact hs y hy
        have h1 := cat_length 1000 L (fun x hx => hs' x (List.mem_cons_of_mem _ hx))
        have h2 := hs' s List.mem_cons_self
        rw [join_cat, List.length_append]
        omega
    refine Ev.step (f := fun _ => some (ints (Lib.join (P.map U) [28]), decide ((P.length : Int) > 0))) (fun k => ?_) (Ev.now _)
    simp only [wire_Join.l0]
    rw [if_neg (by omega)]
    have e : strings_Join.f P (strOfNums ([28] : List Int)) = some (S (Lib.join (P.map U) [28])) := by
      unfold strings_Join.f
      exact if_pos ⟨by omega, hj⟩
    rw [e]
    show (convBytes.f (S (Lib.join (P.map U) [28]))).bind _ = _
    rw [convBytes.f, if_pos (by rw [S_size]; omega)]
    rfl
  | succ d ih =>
    intro i hd hi
    have hlt : i < P.length := by omega
    rw [List.drop_eq_getElem_cons (show i < (P.map U).length by omega), bad_cons, List.getElem_map]
    have e : wire_Join.l0 = wire_Join.l0 := rfl
    refine Ev.step (f := fun k => if Lib.indexByte (U P[i]) 28 ≥ 0 then some (([] : List Int), false) else wire_Join.l0 k P P (P.length : Int) ((i + 1 : Nat) : Int)) (fun k => ?_) ?_
    · simp only [wire_Join.l0]
      rw [if_pos (by omega), if_pos (by omega), if_pos (by omega), rdOf_lt hlt, wrap_succ hlt (by omega)]
      rfl
    · have hc := Lib.contains_iff_indexByte (U P[i]) 28
      by_cases h : Lib.indexByte (U P[i]) 28 ≥ 0
      · rw [decide_eq_true h] at hc
        rw [hc, Bool.true_or, if_pos rfl]
        exact Ev.ite_pos h (Ev.now _)
      · rw [decide_eq_false h] at hc
        rw [hc, Bool.false_or]
        exact Ev.ite_neg h (ih (i + 1) (by omega) (by omega))
theorem wire_join (P : List ByteArray) (hP : P.length ≤ 100000) (hs : ∀ s ∈ P, (U s).length ≤ 1000) : Ev (fun k => wire_Join.f k P) (jn (P.map U)) := by
  have h := wire_join_l0 P hP hs _ 0 rfl (by omega)
  rw [List.drop_zero] at h
  unfold jn
  cases P with
  | nil => exact h
  | cons s L =>
    rw [if_neg (by simp)]
    rw [decide_eq_true (show (((s :: L).length : Nat) : Int) > 0 from by rw [List.length_cons]; omega)] at h
    exact h
theorem ref_join_l1 (P : List ByteArray) (acc : List Int) (i : Nat) (hlt : i < P.length) (hs : (U P[i]).length ≤ 1000) (hacc : acc.length + 1000 < 140737488355328) (hi : P.length ≤ 100000) {r : List Int × Bool}
    (hn : Ev (fun k => guichetref1_Join.l0 k P (acc ++ ints (U P[i])) ((i + 1 : Nat) : Int)) r) (d : Nat) : ∀ j : Nat, (U P[i]).length - j = d → j ≤ (U P[i]).length → Ev (fun k => guichetref1_Join.l1 k P acc (i : Int) (j : Int)) (if ((U P[i]).drop j).contains 28 = true then ([], false) else r) := by
  induction d with
  | zero =>
    intro j hd hj
    rw [show (U P[i]).drop j = [] from List.drop_eq_nil_of_le (by omega), if_neg (by decide)]
    refine Ev.step (fun k => ?_) hn
    simp only [guichetref1_Join.l1]
    rw [if_pos (by omega), if_pos (by omega), rdOf_lt hlt, U_size, if_neg (by omega), if_pos (by omega), bytesOf_U, wrap_succ hlt (by omega)]
  | succ d ih =>
    intro j hd hj
    have hjl : j < (U P[i]).length := by omega
    rw [List.drop_eq_getElem_cons hjl, List.contains_cons]
    refine Ev.step (f := fun k => if ((U P[i])[j].toNat : Int) = 28 then some (([] : List Int), false) else guichetref1_Join.l1 k P acc (i : Int) ((j + 1 : Nat) : Int)) (fun k => ?_) ?_
    · simp only [guichetref1_Join.l1]
      rw [if_pos (by omega), if_pos (by omega), rdOf_lt hlt, U_size, if_pos (by omega), if_pos (by omega), bt_U hjl, wrap_succ hjl (by omega)]
    · by_cases h : (U P[i])[j] = 28
      · rw [h, show ((28 : UInt8) == 28) = true from rfl, Bool.true_or, if_pos rfl]
        exact Ev.ite_pos (by rfl) (Ev.now _)
      · rw [show ((28 : UInt8) == (U P[i])[j]) = false from beq_eq_false_iff_ne.2 (fun e => h e.symm), Bool.false_or]
        exact Ev.ite_neg (fun e => h (UInt8.toNat_inj.1 (by rw [show (28 : UInt8).toNat = 28 from rfl]; omega))) (ih (j + 1) (by omega) (by omega))
theorem ref_join_l0 (P : List ByteArray) (hP : P.length ≤ 100000) (hs : ∀ s ∈ P, (U s).length ≤ 1000) (d : Nat) : ∀ (i : Nat) (acc : List Int), P.length - i = d → i ≤ P.length → 1 ≤ i → acc.length ≤ 1001 * i → Ev (fun k => guichetref1_Join.l0 k P acc (i : Int)) (if bad ((P.map U).drop i) = true then ([], false) else (acc ++ ints (cat ((P.map U).drop i)), true)) := by
  have hM : (P.map U).length = P.length := List.length_map ..
  induction d with
  | zero =>
    intro i acc hd hi h1 ha
    rw [show (P.map U).drop i = [] from List.drop_eq_nil_of_le (by omega), if_neg (by decide), cat_nil, show ints [] = [] from rfl, List.append_nil]
    exact Ev.step (f := fun _ => some (acc, true)) (fun k => by simp only [guichetref1_Join.l0]; rw [if_neg (by omega)]) (Ev.now _)
  | succ d ih =>
    intro i acc hd hi h1 ha
    have hlt : i < P.length := by omega
    have hsi := hs P[i] (List.getElem_mem hlt)
    rw [List.drop_eq_getElem_cons (show i < (P.map U).length by omega), bad_cons, List.getElem_map, cat_cons]
    have hn := ih (i + 1) (acc ++ [28] ++ ints (U P[i])) (by omega) (by omega) (by omega) (by rw [List.length_append, List.length_append, List.length_map, List.length_singleton]; omega)
    have hl := ref_join_l1 P (acc ++ [28]) i hlt hsi (by rw [List.length_append, List.length_singleton]; omega) hP hn _ 0 rfl (by omega)
    refine Ev.step (f := fun k => guichetref1_Join.j1 k P (acc ++ [28]) (i : Int)) (fun k => ?_) (Ev.step (f := fun k => guichetref1_Join.l1 k P (acc ++ [28]) (i : Int) 0) (fun k => by simp only [guichetref1_Join.j1]) ?_)
    · simp only [guichetref1_Join.l0]
      rw [if_pos (by omega), if_pos (by omega), if_pos (by omega)]
    · rw [List.drop_zero] at hl
      by_cases hc : (U P[i]).contains 28 = true
      · rw [if_pos hc] at hl
        rw [hc, Bool.true_or, if_pos rfl]
        exact hl
      · rw [if_neg hc] at hl
        rw [(Bool.eq_false_iff.2 hc : _ = false), Bool.false_or]
        rw [show acc ++ ints (28 :: (U P[i] ++ cat ((P.map U).drop (i + 1)))) = acc ++ [28] ++ ints (U P[i]) ++ ints (cat ((P.map U).drop (i + 1))) from by simp [ints]]
        exact hl
theorem ref_join (P : List ByteArray) (hP : P.length ≤ 100000) (hs : ∀ s ∈ P, (U s).length ≤ 1000) : Ev (fun k => guichetref1_Join.f k P) (jn (P.map U)) := by
  unfold guichetref1_Join.f jn
  cases P with
  | nil => exact Ev.ite_pos rfl (Ev.now _)
  | cons s L =>
    refine Ev.ite_neg (by rw [List.length_cons]; omega) ?_
    rw [if_neg (by simp)]
    have hlt : 0 < (s :: L).length := by simp
    have hsi := hs s List.mem_cons_self
    have hn := ref_join_l0 (s :: L) hP hs _ 1 (ints (U s)) rfl (by simp) (by omega) (by rw [List.length_map]; omega)
    have hl := ref_join_l1 (s :: L) [] 0 hlt hsi (by simp) hP (r := _) (by rw [List.nil_append]; exact hn) _ 0 rfl (by omega)
    refine Ev.step (f := fun k => guichetref1_Join.j1 k (s :: L) [] 0) (fun k => ?_) (Ev.step (f := fun k => guichetref1_Join.l1 k (s :: L) [] 0 0) (fun k => by simp only [guichetref1_Join.j1]) ?_)
    · simp only [guichetref1_Join.l0]
      rw [if_pos (by rw [List.length_cons]; omega), if_neg (by omega)]
    · rw [List.drop_zero] at hl
      rw [List.map_cons, bad_cons, join_cat]
      rw [List.map_cons, List.drop_succ_cons, List.drop_zero] at hl
      by_cases hc : (U s).contains 28 = true
      · rw [hc, Bool.true_or, if_pos rfl]
        rw [if_pos (show ((U (s :: L)[0]).contains 28 = true) from hc)] at hl
        exact hl
      · rw [if_neg (show ¬ ((U (s :: L)[0]).contains 28 = true) from hc)] at hl
        rw [(Bool.eq_false_iff.2 hc : _ = false), Bool.false_or]
        rw [show ints (U s ++ cat (L.map U)) = ints (U s) ++ ints (cat (L.map U)) from by simp [ints]]
        exact hl
end Go.Proofs.YtbpkkgifjcpekaaDoor.Q
