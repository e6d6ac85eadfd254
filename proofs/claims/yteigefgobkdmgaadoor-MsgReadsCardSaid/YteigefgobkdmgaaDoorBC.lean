import Derived.Laws.Strings
import Derived.ChangeArms
import Derived.DataReads
import GoSem.ClaimWide
import Derived.Test.YteigefgobkdmgaaDoorBB
/- The logic's rules as equations for simp; regions that draw in it; loops; maps; a law's arguments laid into the heap. -/
set_option linter.unusedVariables false
set_option linter.unusedSimpArgs false
namespace Go.B
open Go

def isCall : Op → Bool
  | .call ⟨.value _, _, _⟩ => true
  | _ => false

theorem isCall_move {x : Operand} : isCall (.move x) = false := Eq.trans rfl rfl
theorem isCall_assign {x : Operand} : isCall (.assign x) = false := Eq.trans rfl rfl
theorem isCall_pick {c : Operand} {a : Operand} {b : Operand} : isCall (.pick c a b) = false := Eq.trans rfl rfl
theorem isCall_alloc {e : TypeId} : isCall (.alloc e) = false := Eq.trans rfl rfl
theorem isCall_box {e : TypeId} {v : Operand} : isCall (.box e v) = false := Eq.trans rfl rfl
theorem isCall_build {t : TypeId} {p : Array (Nat × Operand)} : isCall (.build t p) = false := Eq.trans rfl rfl
theorem isCall_buildSlice {t : TypeId} {n : Nat} {p : Array (Nat × Operand)} : isCall (.buildSlice t n p) = false := Eq.trans rfl rfl
theorem isCall_insert {t : TypeId} {m : Operand} {k : Operand} {v : Operand} : isCall (.insert t m k v) = false := Eq.trans rfl rfl
theorem isCall_load {t : TypeId} {a : Operand} : isCall (.load t a) = false := Eq.trans rfl rfl
theorem isCall_store {t : TypeId} {a : Operand} {v : Operand} : isCall (.store t a v) = false := Eq.trans rfl rfl
theorem isCall_nilCheck {x : Operand} : isCall (.nilCheck x) = false := Eq.trans rfl rfl
theorem isCall_binOp {o : BinOp} {t : TypeId} {x : Operand} {y : Operand} {u : TypeId} : isCall (.binOp o t x y u) = false := Eq.trans rfl rfl
theorem isCall_unOp {o : UnOp} {t : TypeId} {x : Operand} : isCall (.unOp o t x) = false := Eq.trans rfl rfl
theorem isCall_convert {a : TypeId} {b : TypeId} {x : Operand} : isCall (.convert a b x) = false := Eq.trans rfl rfl
theorem isCall_makeInterface {t : TypeId} {x : Operand} : isCall (.makeInterface t x) = false := Eq.trans rfl rfl
theorem isCall_makeFunc {f : Fn} {a : Array Operand} {b : Array Operand} : isCall (.makeFunc f a b) = false := Eq.trans rfl rfl
theorem isCall_makeMap {t : TypeId} {r : Option Operand} : isCall (.makeMap t r) = false := Eq.trans rfl rfl
theorem isCall_makeSlice {t : TypeId} {l : Operand} {c : Operand} : isCall (.makeSlice t l c) = false := Eq.trans rfl rfl
theorem isCall_slice {t : TypeId} {x : Operand} {a : Option Operand} {b : Option Operand} {c : Option Operand} : isCall (.slice t x a b c) = false := Eq.trans rfl rfl
theorem isCall_fieldAddr {t : TypeId} {x : Operand} {f : Nat} : isCall (.fieldAddr t x f) = false := Eq.trans rfl rfl
theorem isCall_field {t : TypeId} {x : Operand} {f : Nat} : isCall (.field t x f) = false := Eq.trans rfl rfl
theorem isCall_indexAddr {t : TypeId} {x : Operand} {i : Operand} : isCall (.indexAddr t x i) = false := Eq.trans rfl rfl
theorem isCall_index {t : TypeId} {x : Operand} {i : Operand} : isCall (.index t x i) = false := Eq.trans rfl rfl
theorem isCall_lookup {t : TypeId} {x : Operand} {i : Operand} {c : Bool} : isCall (.lookup t x i c) = false := Eq.trans rfl rfl
theorem isCall_mapUpdate {t : TypeId} {m : Operand} {k : Operand} {v : Operand} : isCall (.mapUpdate t m k v) = false := Eq.trans rfl rfl
theorem isCall_extract {x : Operand} {i : Nat} : isCall (.extract x i) = false := Eq.trans rfl rfl
theorem isCall_builtin {b : Builtin} {xs : Array Operand} {ts : Array TypeId} : isCall (.call ⟨.builtin b, xs, ts⟩) = false := Eq.trans rfl rfl

section
variable {V : Env} {r : List It} {Q : Ex → St → Prop}

theorem map_no_enter {α : Type} {x : Option α} {g : α → Value} {k : α → Heap} {f : FuncId} {args : Array Value} : x.map (fun a => Res.val (g a) (k a)) ≠ some (Res.enter f args) := by
  cases x <;> simp

theorem aop_no_enter {P : Program} {e : Operand → Value} {o : Oper} {H : Heap} (hc : isCall o.op = false) (f : FuncId) (args : Array Value) : aop P e o H ≠ some (.enter f args) := by
  intro h
  unfold aop at h
  split at h
  · cases h
  · rename_i hx
    clear hx
    split at h
    · rename_i r hr
      cases h
      obtain ⟨_, _, hv⟩ := markB_val hr
      cases hv
    rename_i hx2
    clear hx2
    obtain ⟨dst, op, ty, pos, after, guard⟩ := o
    cases op
    case call c =>
      obtain ⟨callee, cargs, ats⟩ := c
      cases callee with
      | value f => simp [isCall] at hc
      | builtin b =>
        cases b
        case min =>
          simp only [aopF] at h
          split at h
          · unfold pureB at h
            split at h
            · split at h <;> cases h
            · cases h
          · cases h
        case max =>
          simp only [aopF] at h
          split at h
          · unfold pureB at h
            split at h
            · split at h <;> cases h
            · cases h
          · cases h
        all_goals (simp only [aopF] at h; exact map_no_enter h)
      | invoke _ _ => cases h
    case slice t x lo hi mx =>
      simp only [aopF] at h
      split at h <;> exact map_no_enter h
    case pick c a b =>
      simp only [aopF] at h
      split at h <;> cases h
    case nilCheck x =>
      simp only [aopF] at h
      split at h <;> cases h
    case extract x i =>
      simp only [aopF] at h
      split at h
      · exact map_no_enter h
      · cases h
    case convert s d x =>
      simp only [aopF, convertB] at h
      split at h
      · split at h
        · split at h
          · split at h
            · exact map_no_enter h
            · cases h
          · cases h
        · cases h
      · split at h
        · cases h
        · split at h
          · unfold pureB at h
            split at h
            · split at h <;> cases h
            · cases h
          · cases h
    case binOp op t x y yt =>
      simp only [aopF] at h
      split at h
      · cases h
      · cases h
      · split at h
        · unfold pureB at h
          split at h
          · split at h <;> cases h
          · cases h
        · cases h
    case unOp op t x =>
      simp only [aopF] at h
      split at h
      · unfold pureB at h
        split at h
        · split at h <;> cases h
        · cases h
      · cases h
    case makeInterface t x =>
      simp only [aopF] at h
      split at h <;> cases h
    all_goals first
      | (cases h; done)
      | exact map_no_enter h

def valW (V : Env) (r : List It) (Q : Ex → St → Prop) (n : Nat) (t : Tr Value) (dst : Option Tmp) : Option Res → Prop
  | some (.val v H') => putW V r Q n t dst v H'
  | _ => False

theorem W_op_iff {all : Array Oper} {o : Oper} {l : List Oper} {n : Nat} {t : Tr Value} {H : Heap} (hc : isCall o.op = false) :
    W V (.ops all (o :: l) :: r) ⟨n, t, H⟩ Q ↔ (Region.wanted o (yieldB all n t) = true → valW V (.ops all l :: r) Q n t o.dst (aop V.P (ev t) o H)) ∧ (Region.wanted o (yieldB all n t) = false → putW V (.ops all l :: r) Q n t o.dst undef H) := by
  cases hw : Region.wanted o (yieldB all n t) with
  | false =>
    simp only [Bool.false_eq_true, false_implies, true_implies, true_and]
    exact W_put ⟨0, fun k _ => by unfold step1; rw [hw]; rfl⟩
  | true =>
    simp only [Bool.true_eq_false, false_implies, true_implies, and_true]
    cases ha : aop V.P (ev t) o H with
    | none =>
      constructor
      · rintro ⟨ex, s, hq, K, hk⟩
        have := hk K K (Nat.le_refl _) (Nat.le_refl _)
        simp only [runIts, runIt, opsRun] at this
        unfold step1 at this
        rw [hw] at this
        simp only [if_true, ha] at this
        cases this
      · exact False.elim
    | some res =>
      cases res with
      | val v H' => exact W_put ⟨0, fun k _ => by unfold step1; rw [hw]; simp only [if_true, ha]⟩
      | enter f args => exact absurd ha (aop_no_enter hc f args)

theorem W_op0 {all : Array Oper} {d : Option Tmp} {op : Op} {ty : TypeId} {pos : String} {af : Array Edge} {l : List Oper} {n : Nat} {t : Tr Value} {H : Heap} (hc : isCall op = false) :
    W V (.ops all (⟨d, op, ty, pos, af, none⟩ :: l) :: r) ⟨n, t, H⟩ Q ↔ valW V (.ops all l :: r) Q n t d (aop V.P (ev t) ⟨d, op, ty, pos, af, none⟩ H) := by
  rw [W_op_iff hc, wanted_none]; simp
theorem W_op1 {all : Array Oper} {d : Option Tmp} {op : Op} {ty : TypeId} {pos : String} {af : Array Edge} {j : Nat} {b : Bool} {l : List Oper} {n : Nat} {t : Tr Value} {H : Heap} (hc : isCall op = false) (hy : yieldB all n t j = some b) :
    W V (.ops all (⟨d, op, ty, pos, af, some (j, b)⟩ :: l) :: r) ⟨n, t, H⟩ Q ↔ valW V (.ops all l :: r) Q n t d (aop V.P (ev t) ⟨d, op, ty, pos, af, none⟩ H) := by
  rw [W_op_iff hc, wanted_some, hy]
  have : ∀ g, aop V.P (ev t) ⟨d, op, ty, pos, af, g⟩ H = aop V.P (ev t) ⟨d, op, ty, pos, af, none⟩ H := fun g => by unfold aop; rfl
  simp [this]
theorem W_op2 {all : Array Oper} {d : Option Tmp} {op : Op} {ty : TypeId} {pos : String} {af : Array Edge} {j : Nat} {b : Bool} {l : List Oper} {n : Nat} {t : Tr Value} {H : Heap} (hy : yieldB all n t j = some (!b)) :
    W V (.ops all (⟨d, op, ty, pos, af, some (j, b)⟩ :: l) :: r) ⟨n, t, H⟩ Q ↔ putW V (.ops all l :: r) Q n t d undef H := by
  have hw : Region.wanted ⟨d, op, ty, pos, af, some (j, b)⟩ (yieldB all n t) = false := by rw [wanted_some, hy]; cases b <;> rfl
  exact W_put ⟨0, fun k _ => by unfold step1; rw [hw]; rfl⟩
theorem W_guard {all : Array Oper} {d : Option Tmp} {op : Op} {ty : TypeId} {pos : String} {af : Array Edge} {j : Nat} {b : Bool} {l : List Oper} {n : Nat} {t : Tr Value} {H : Heap} (c : Bool)
    (h1 : c = true → W V (.ops all (⟨d, op, ty, pos, af, some (j, b)⟩ :: l) :: r) ⟨n, t, H⟩ Q) (h2 : c = false → W V (.ops all (⟨d, op, ty, pos, af, some (j, b)⟩ :: l) :: r) ⟨n, t, H⟩ Q) : W V (.ops all (⟨d, op, ty, pos, af, some (j, b)⟩ :: l) :: r) ⟨n, t, H⟩ Q := by
  cases c
  · exact h2 rfl
  · exact h1 rfl
theorem valW_val {n : Nat} {t : Tr Value} {dst : Option Tmp} {v : Value} {H : Heap} : valW V r Q n t dst (some (.val v H)) = putW V r Q n t dst v H := rfl
theorem putW_some {n : Nat} {t : Tr Value} {d : Tmp} {v : Value} {H : Heap} : putW V r Q n t (some d) v H = (d < n ∧ W V r ⟨n, t.set d v, H⟩ Q) := rfl
theorem putW_none {n : Nat} {t : Tr Value} {v : Value} {H : Heap} : putW V r Q n t none v H = W V r ⟨n, t, H⟩ Q := rfl

theorem W_call {all : Array Oper} {d : Option Tmp} {f : Operand} {xs : Array Operand} {ats : Array TypeId} {ty : TypeId} {pos : String} {af : Array Edge} {l : List Oper} {n : Nat} {t : Tr Value} {H H' : Heap} {g : FuncId} {args : Array Value} {v : Value}
    (hf : ev t f = .func (.func g) #[] #[]) (ha : xs.map (ev t) = args) (hc : Ca V g args H v H') (h : putW V (.ops all l :: r) Q n t d v H') :
    W V (.ops all (⟨d, .call ⟨.value f, xs, ats⟩, ty, pos, af, none⟩ :: l) :: r) ⟨n, t, H⟩ Q := by
  refine W_op ?_
  unfold opW
  simp only [Region.wanted, true_implies, Bool.true_eq_false, false_implies, and_true]
  rw [aop_call, hf, callV_func, ha]
  exact ⟨v, H', hc, h⟩

theorem W_callg {all : Array Oper} {d : Option Tmp} {f : Operand} {xs : Array Operand} {ats : Array TypeId} {ty : TypeId} {pos : String} {af : Array Edge} {j : Nat} {b : Bool} {l : List Oper} {n : Nat} {t : Tr Value} {H H' : Heap} {g : FuncId} {args : Array Value} {v : Value}
    (hw : yieldB all n t j = some b) (hf : ev t f = .func (.func g) #[] #[]) (ha : xs.map (ev t) = args) (hc : Ca V g args H v H') (h : putW V (.ops all l :: r) Q n t d v H') :
    W V (.ops all (⟨d, .call ⟨.value f, xs, ats⟩, ty, pos, af, some (j, b)⟩ :: l) :: r) ⟨n, t, H⟩ Q := by
  refine W_op ?_
  unfold opW
  have : Region.wanted ⟨d, .call ⟨.value f, xs, ats⟩, ty, pos, af, some (j, b)⟩ (yieldB all n t) = true := by
    rw [wanted_some, hw]; simp
  simp only [this, true_implies, Bool.true_eq_false, false_implies, and_true]
  rw [aop_call, hf, callV_func, ha]
  exact ⟨v, H', hc, h⟩
end

def gcV (o n : Nat) : Option AObj → Option (List Value)
  | some (.cells c _ _) => if o + n ≤ c.length then some ((c.drop o).take n) else none
  | _ => none
theorem getCells_eq {H : Heap} {i o n : Nat} : getCells H i o n = gcV o n (H.get i) := by
  unfold getCells gcV
  cases H.get i with
  | none => rfl
  | some x => cases x <;> rfl
theorem gcV_cells {o n : Nat} {c : List Value} {e : TypeId} {ro : Bool} : gcV o n (some (.cells c e ro)) = if o + n ≤ c.length then some ((c.drop o).take n) else none := rfl

def loadV (H : Heap) (i o : Nat) : Option Bool → Option Nat → Option Value
  | some true, some n => (getCells H i o n).map fun l => .agg l.toArray
  | some false, _ => (getCells H i o 1).bind (·.head?)
  | _, _ => none
theorem loadB_eq {P : Program} {H : Heap} {t : TypeId} {i o : Nat} : loadB P H t (.pointer (some ⟨i, o, none⟩)) = loadV H i o (aggOf P t) (szOf P t) := by
  unfold loadB loadV
  cases aggOf P t with
  | none => rfl
  | some b => cases b <;> cases szOf P t <;> rfl
theorem loadV_agg {H : Heap} {i o n : Nat} : loadV H i o (some true) (some n) = (getCells H i o n).map fun l => .agg l.toArray := rfl
theorem loadV_one {H : Heap} {i o : Nat} {x : Option Nat} : loadV H i o (some false) x = (getCells H i o 1).bind (·.head?) := by cases x <;> rfl

def pcV (H : Heap) (i o : Nat) (l : List Value) : Option AObj → Option Heap
  | some (.cells c e false) => if o + l.length ≤ c.length ∧ l.all cellOk = true then some (H.set i (.cells (setCells c o l) e false)) else none
  | _ => none
theorem putCells_eq {H : Heap} {i o : Nat} {l : List Value} : putCells H i o l = pcV H i o l (H.get i) := by
  unfold putCells pcV
  cases H.get i with
  | none => rfl
  | some x =>
    cases x with
    | cells c e ro => cases ro <;> rfl
    | map _ _ => rfl
    | dead => rfl
theorem pcV_cells {H : Heap} {i o : Nat} {l : List Value} {c : List Value} {e : TypeId} : pcV H i o l (some (.cells c e false)) = if o + l.length ≤ c.length ∧ l.all cellOk = true then some (H.set i (.cells (setCells c o l) e false)) else none := rfl
def storeV (H : Heap) (i o : Nat) (v : Value) : Option Nat → Option Heap
  | some n => if v.cells.size = n then putCells H i o v.cells.toList else none
  | none => none
theorem storeB_eq {P : Program} {H : Heap} {t : TypeId} {i o : Nat} {v : Value} : storeB P H t (.pointer (some ⟨i, o, none⟩)) v = storeV H i o v (szOf P t) := by
  unfold storeB storeV
  cases szOf P t <;> rfl
theorem storeV_some {H : Heap} {i o n : Nat} {v : Value} : storeV H i o v (some n) = if v.cells.size = n then putCells H i o v.cells.toList else none := rfl

theorem cells_int {k : IntKind} {n : Int} : (Value.int k n).cells = #[.int k n] := rfl
theorem cells_bool {b : Bool} : (Value.bool b).cells = #[.bool b] := rfl
theorem cells_string {s : ByteArray} : (Value.string s).cells = #[.string s] := rfl
theorem cells_pointer {a : Option Addr} : (Value.pointer a).cells = #[.pointer a] := rfl
theorem cells_slice {a : Option Addr} {l c : Nat} : (Value.slice a l c).cells = #[.slice a l c] := rfl
theorem cells_map {a : Option Nat} : (Value.map a).cells = #[.map a] := rfl
theorem cells_agg {cs : Array Value} : (Value.agg cs).cells = cs := rfl
theorem cells_iface {t : TypeId} {v : Value} : (Value.iface t v).cells = #[.iface t v] := rfl
theorem cells_nif : (Value.nilIface).cells = #[.nilIface] := rfl
theorem cells_func {f : Fn} {a b : Array Value} : (Value.func f a b).cells = #[.func f a b] := rfl

def fieldAt (P : Program) (s : TypeId) (f : Nat) : Option (TypeId × Nat × Nat) :=
  match P.underlying s with
  | some (.struct fs) => match fs[f]? with
    | some fd => (szOf P fd.type).map fun n => (fd.type, fd.offset, n)
    | none => none
  | _ => none
def fieldV (i o : Nat) : Option (TypeId × Nat × Nat) → Option Value
  | some (_, off, n) => if n = 0 then none else some (.pointer (some ⟨i, o + off, none⟩))
  | none => none
theorem fieldB_eq {P : Program} {s : TypeId} {i o f : Nat} : fieldB P s (.pointer (some ⟨i, o, none⟩)) f = fieldV i o (fieldAt P s f) := by
  unfold fieldB fieldV fieldAt
  cases P.underlying s with
  | none => rfl
  | some d =>
    cases d <;> try rfl
    rename_i fs
    simp only
    cases fs[f]? with
    | none => rfl
    | some fd => cases hs : szOf P fd.type <;> simp [hs]
theorem fieldV_some {i o off n : Nat} {t : TypeId} : fieldV i o (some (t, off, n)) = if n = 0 then none else some (.pointer (some ⟨i, o + off, none⟩)) := rfl

def partV (cs : Array Value) (off : Nat) : Option Bool → Option Nat → Option Value
  | some true, some n => if off + n ≤ cs.size then some (.agg ((cs.toList.drop off).take n).toArray) else none
  | some false, _ => cs[off]?
  | _, _ => none
theorem partB_eq {P : Program} {t : TypeId} {cs : Array Value} {off : Nat} : partB P t cs off = partV cs off (aggOf P t) (szOf P t) := by
  unfold partB partV
  cases aggOf P t with
  | none => rfl
  | some b => cases b <;> cases szOf P t <;> rfl
theorem partV_agg {cs : Array Value} {off n : Nat} : partV cs off (some true) (some n) = if off + n ≤ cs.size then some (.agg ((cs.toList.drop off).take n).toArray) else none := rfl
theorem partV_one {cs : Array Value} {off : Nat} {x : Option Nat} : partV cs off (some false) x = cs[off]? := by cases x <;> rfl
def fieldOfV (P : Program) (cs : Array Value) : Option (TypeId × Nat × Nat) → Option Value
  | some (t, off, _) => partB P t cs off
  | none => none
theorem fieldOf_eq {P : Program} {t : TypeId} {cs : Array Value} {f : Nat} (h : (fieldAt P t f).isSome = true) : fieldOf P t (.agg cs) f = fieldOfV P cs (fieldAt P t f) := by
  unfold fieldOf fieldOfV
  unfold fieldAt at *
  cases hu : P.underlying t with
  | none => rfl
  | some d =>
    cases d <;> try rfl
    rename_i fs
    rw [hu] at h
    simp only at h ⊢
    cases hf : fs[f]? with
    | none => rfl
    | some fd =>
      rw [hf] at h
      simp only at h ⊢
      cases hs : szOf P fd.type with
      | none => rw [hs] at h; cases h
      | some n => rfl
theorem fieldOfV_some {P : Program} {cs : Array Value} {t : TypeId} {off n : Nat} : fieldOfV P cs (some (t, off, n)) = partB P t cs off := rfl

end Go.B

namespace Go.B
open Go

structure DT where
  cur : Heap
  hist : List (Heap × Nat)
  dn : List Nat
  al : List (Nat × AObj)

def alGet : List (Nat × AObj) → Nat → Option AObj
  | [], _ => none
  | (b, ob) :: l, a => if a = b then some ob else alGet l a

def plusA (base : Nat) (al : List (Nat × AObj)) (K : Heap) : List Nat → Heap
  | [] => K
  | a :: l => match alGet al a with
    | some ob => if (K.get (base + a)).isNone then (plusA base al K l).set (base + a) ob else plusA base al K l
    | none => plusA base al K l

def freeP (chk : Heap → Prop) (anc : List Nat) (K0 : Heap) : List (Heap × Nat) → Prop
  | [] => chk K0
  | (K, x) :: l => chk K ∧ (anc.contains x = true ∨ freeP chk anc K0 l)

def headK (K0 : Heap) : List (Heap × Nat) → Heap
  | [] => K0
  | (K, _) :: _ => K

def setO (E : Tr Value) (d : Option Tmp) (v : Value) : Tr Value :=
  match d with
  | none => E
  | some d => E.set d v

def KeepB (base size : Nat) (H H' : Heap) : Prop := H.next ≤ H'.next ∧ ∀ a, a < size → (H'.get (base + a)).isSome = (H.get (base + a)).isSome

def valF (k : Value → Prop) : Option Res → Prop
  | some (.val v _) => k v
  | _ => False

def valE (k : Value → Heap → Prop) : Option Res → Prop
  | some (.val v H) => k v H
  | _ => False

def valC (V : Env) (H : Heap) (k : Value → Heap → Prop) : Option Res → Prop
  | some (.val v H) => k v H
  | some (.enter f args) => ∃ v H', Ca V f args H v H' ∧ k v H'
  | none => False

def isV (v : Value) : Prop := veq v v = true

section
variable (V : Env) (ops : Array Oper) (A : List (List Nat)) (n base : Nat) (K0 : Heap) (F : Tr Value → Heap → Prop)

def DFree (i : Nat) (o : Oper) (E : Tr Value) (s : DT) (k : Value → DT → Prop) : Prop :=
  valF (fun v => isV v ∧ freeP (fun K => valF (fun v' => v' = v) (aopF V.P (ev E) o (plusA base s.al K (A.getD i [])))) (A.getD i []) K0 s.hist ∧ k v { s with dn := i :: s.dn }) (aopF V.P (ev E) o (plusA base s.al (headK K0 s.hist) (A.getD i [])))

def DEff (i : Nat) (o : Oper) (E : Tr Value) (s : DT) (k : Value → DT → Prop) : Prop :=
  (s.dn.all fun j => (A.getD i []).contains j) = true ∧ valC V s.cur (fun v H => isV v ∧ KeepB base ops.size s.cur H ∧ k v { s with cur := H, hist := (H, i) :: s.hist, dn := i :: s.dn }) (aopF V.P (ev E) o s.cur)

def DAll (i : Nat) (o : Oper) (E : Tr Value) (s : DT) (k : Value → DT → Prop) : Option (Value × AObj) → Prop
  | some (v, ob) => isV v ∧ k v { s with cur := s.cur.set (base + i) ob, dn := i :: s.dn, al := (i, ob) :: s.al }
  | none => if isEff o = true then DEff V ops A base i o E s k else DFree V A base K0 i o E s k

def DOp (i : Nat) (E : Tr Value) (s : DT) (k : Option Tmp → Value → DT → Prop) : Option Oper → Prop
  | none => False
  | some o => (Region.wanted o (yieldB ops n E) = true → DAll V ops A base K0 i o E s (k o.dst) (allocB V.P (ev E) o (base + i))) ∧ (Region.wanted o (yieldB ops n E) = false → k o.dst undef { s with dn := i :: s.dn })

def DW : List Nat → Tr Value → DT → Prop
  | [], E, s => F E s.cur
  | i :: l, E, s => DOp V ops A n base K0 i E s (fun d v s' => DW l (setO E d v) s') ops[i]?

end

def okRun (ops : Array Oper) : List Nat → List Nat → Bool
  | [], dn => (List.range ops.size).all dn.contains
  | i :: l, dn => (match ops[i]? with
    | none => false
    | some o => !dn.contains i && ((direct o).all dn.contains && (lookOk ops o && opOk o))) && okRun ops l (i :: dn)

def drawStatic0 (P : Program) (ops : Array Oper) (n : Nat) (A : List (List Nat)) (C : List Nat) : Bool :=
  ancs ops.toList [] == A && (canonE ops.size A ((List.range ops.size).filter fun i => (ops[i]?).any isEff) [] == C && (okRun ops C [] && (dstOk ops n && P.follows .mixedOrders)))

theorem allocB_indep {P : Program} {e : Operand → Value} {o : Oper} {j : Nat} {v : Value} {ob : AObj} (h : allocB P e o j = some (v, ob)) : isV v := by
  obtain ⟨dst, op, ty, pos, after, guard⟩ := o
  unfold isV
  cases op <;> simp only [allocB] at h <;> try (cases h; done)
  case alloc t =>
    split at h
    · split at h
      · cases h; simp [veq, veqC]
      · cases h
    · cases h
  case box t x =>
    split at h
    · cases h; simp [veq, veqC]
    · cases h
  case buildSlice t n ps =>
    unfold buildSliceB at h
    split at h
    · split at h
      · split at h
        · obtain ⟨a, _, h2⟩ := Option.map_eq_some_iff.mp h
          cases h2; simp [veq, veqC]
        · cases h
      · cases h
    · cases h
  case makeMap t r =>
    cases r with
    | none => cases h; simp [veq, veqC]
    | some _ => cases h
  case makeSlice t l c =>
    unfold makeSliceB at h
    split at h
    · split at h
      · split at h
        · cases h; simp [veq, veqC]
        · cases h
      · cases h
    · cases h
  case convert a b x =>
    unfold bytesB at h
    split at h
    · split at h
      · cases h; simp [veq, veqC]
      · cases h
    · cases h

section
variable {V : Env} {ops : Array Oper} {A : List (List Nat)} {n base : Nat} {K0 : Heap} {F : Tr Value → Heap → Prop} {P : Program}

def Stab (ops : Array Oper) (dn : List Nat) (E E2 : Tr Value) : Prop := ∀ a o t, a ∈ dn → ops[a]? = some o → t ∈ o.looksAt ops → E2.get t = E.get t

theorem Stab.refl {dn : List Nat} {E : Tr Value} : Stab ops dn E E := fun _ _ _ _ _ _ => rfl
theorem Stab.trans {dn dn' : List Nat} {E E2 E3 : Tr Value} (h : Stab ops dn E E2) (k : Stab ops dn' E2 E3) (hs : ∀ a ∈ dn, a ∈ dn') : Stab ops dn E E3 := fun a o t h1 h2 h3 => (k a o t (hs a h1) h2 h3).trans (h a o t h1 h2 h3)

theorem wanted_stab {E E2 : Tr Value} {o : Oper} (h : ∀ t ∈ o.looksAt ops, E2.get t = E.get t) : Region.wanted o (yieldB ops n E2) = Region.wanted o (yieldB ops n E) := by
  unfold Region.wanted
  cases hg : o.guard with
  | none => rfl
  | some gw =>
    obtain ⟨g, want⟩ := gw
    have : yieldB ops n E2 g = yieldB ops n E g := by
      unfold yieldB
      cases hd : (ops[g]?).bind (·.dst) with
      | none => rfl
      | some d => simp only [h d (by unfold Oper.looksAt; rw [hg]; simp [hd])]
    simp only [this]

theorem ev_stab {E E2 : Tr Value} {o : Oper} (h : ∀ t ∈ o.looksAt ops, E2.get t = E.get t) : ∀ x ∈ o.op.operands, ev E2 x = ev E x := fun x hx => by
  cases x with
  | tmp t => simp only [ev, h t (by unfold Oper.looksAt; exact List.mem_append_left _ (List.mem_filterMap.2 ⟨.tmp t, by simpa using hx, rfl⟩))]
  | const v => rfl
  | global g => rfl
  | func f => rfl

theorem kindB_stab {E E2 : Tr Value} {o : Oper} {i : Nat} (h : ∀ t ∈ o.looksAt ops, E2.get t = E.get t) : kindB P ops E2 n base i o = kindB P ops E n base i o := by
  unfold kindB
  rw [wanted_stab h, allocB_congr (ev_stab h)]

theorem kd_at {E : Tr Value} {i : Nat} {o : Oper} (h : ops[i]? = some o) : kd P ops E n base i = kindB P ops E n base i o := by unfold kd; rw [h]

theorem objOf_stab {E E2 : Tr Value} {dn : List Nat} (h : Stab ops dn E E2) {a : Nat} (ha : a ∈ dn) : objOf P ops E2 n base a = objOf P ops E n base a := by
  unfold objOf kd
  cases ho : ops[a]? with
  | none => rfl
  | some o => simp only [kindB_stab (h a o · ha ho)]

theorem plus_stab {E E2 : Tr Value} {dn : List Nat} (h : Stab ops dn E E2) {K : Heap} : ∀ {l : List Nat}, (∀ a ∈ l, a ∈ dn) → plus P ops E2 n base K l = plus P ops E n base K l
  | [], _ => rfl
  | a :: l, hl => by
    have ih : plus P ops E2 n base K l = plus P ops E n base K l := plus_stab h fun b hb => hl b (List.mem_cons_of_mem _ hb)
    simp only [plus, objOf_stab h (hl a (by simp)), ih]

theorem plus_plusA {E : Tr Value} {dn : List Nat} {al : List (Nat × AObj)} (h : ∀ a ∈ dn, objOf P ops E n base a = alGet al a) {K : Heap} : ∀ {l : List Nat}, (∀ a ∈ l, a ∈ dn) → plus P ops E n base K l = plusA base al K l
  | [], _ => rfl
  | a :: l, hl => by
    have ih : plus P ops E n base K l = plusA base al K l := plus_plusA h fun b hb => hl b (List.mem_cons_of_mem _ hb)
    simp only [plus, plusA, h a (hl a (by simp)), ih]
    cases alGet al a <;> rfl

def sD (K0 : Heap) (s : DT) (vals : List (Nat × Value)) : DS := ⟨s.cur, s.hist.map (·.1) ++ [K0], s.hist.map (·.2), vals⟩

structure J (P : Program) (ops : Array Oper) (n base : Nat) (E : Tr Value) (s : DT) (vals : List (Nat × Value)) : Prop where
  dn : vals.map (·.1) = s.dn
  look : ∀ a ∈ s.dn, ∀ o, ops[a]? = some o → lookOk ops o = true ∧ ∀ d ∈ direct o, d ∈ s.dn
  val : ∀ p ∈ vals, isV p.2 ∧ ∀ o d, ops[p.1]? = some o → o.dst = some d → E.get d = some p.2
  obj : ∀ a ∈ s.dn, objOf P ops E n base a = alGet s.al a
  fre : ∀ a, a < ops.size → a ∉ s.dn → s.cur.get (base + a) = none
  room : base + ops.size ≤ s.cur.next
  lt : ∀ a ∈ s.dn, a < ops.size
  alin : ∀ a, a ∉ s.dn → alGet s.al a = none

theorem J.has {E : Tr Value} {s : DT} {vals : List (Nat × Value)} (h : J P ops n base E s vals) (i : Nat) : (sD K0 s vals).has i = s.dn.contains i := by
  unfold sD DS.has
  rw [← h.dn]
  rw [Bool.eq_iff_iff]
  simp only [List.any_eq_true, beq_iff_eq, List.contains_iff_mem, List.mem_map]

theorem set_stab {E : Tr Value} {s : DT} {vals : List (Nat × Value)} (h : J P ops n base E s vals) {i : Nat} {o : Oper} (ho : ops[i]? = some o) (hi : i ∉ s.dn) (hl : lookOk ops o = true) (hd : ∀ d ∈ direct o, d ∈ s.dn) (v : Value) :
    Stab ops (i :: s.dn) E (setO E o.dst v) := by
  intro a o' t ha ho' ht
  unfold setO
  cases hdst : o.dst with
  | none => rfl
  | some d =>
    simp only
    rw [Tr.get_set]
    split
    · rename_i e
      subst e
      exfalso
      have key : ∀ o2, lookOk ops o2 = true → t ∈ o2.looksAt ops → i ∈ direct o2 := fun o2 h2 h3 => by
        have := List.all_eq_true.mp (List.all_eq_true.mp h2 t h3) i (by simpa using (Array.getElem?_eq_some_iff.mp ho).1)
        rw [ho] at this
        simp only [hdst, bne_self_eq_false, Bool.false_or, List.contains_iff_mem] at this
        exact this
      rcases List.mem_cons.mp ha with rfl | ha
      · rw [ho] at ho'; cases ho'
        exact hi (hd _ (key o hl ht))
      · obtain ⟨h1, h2⟩ := h.look a ha o' ho'
        exact hi (h2 _ (key o' h1 ht))
    · rfl

theorem anc_dn (hA : A = ancs ops.toList []) {E : Tr Value} {s : DT} {vals : List (Nat × Value)} (h : J P ops n base E s vals) {i : Nat} {o : Oper} (ho : ops[i]? = some o) (hd : ∀ d ∈ direct o, d ∈ s.dn) : ∀ a ∈ A.getD i [], a ∈ s.dn :=
  anc_in (L := fun a => a ∈ s.dn) hA (fun j o' ho' hj => (h.look j hj o' ho').2) i o ho hd

theorem freeP_all {pl : Heap → Heap} {e : Operand → Value} {o : Oper} {v : Value} {anc : List Nat} (hv : isV v) : ∀ {hist : List (Heap × Nat)}, freeP (fun K => valF (fun v' => v' = v) (aopF P e o (pl K))) anc K0 hist →
    freeAll P pl e o v anc (hist.map (·.1) ++ [K0]) (hist.map (·.2)) = true := by
  have one : ∀ K ks es, valF (fun v' => v' = v) (aopF P e o (pl K)) → freeAll P pl e o v anc (K :: ks) es = (match es with | [] => true | x :: es => anc.contains x || freeAll P pl e o v anc ks es) := fun K ks es h => by
    unfold valF at h
    split at h
    · rename_i e'
      subst h
      simp only [freeAll, e', show veq _ _ = true from hv, Bool.true_and]
      cases es <;> rfl
    · exact h.elim
  intro hist
  induction hist with
  | nil => intro h; simp only [List.map_nil, List.nil_append, one K0 _ _ h]
  | cons p l ih =>
    obtain ⟨K, x⟩ := p
    intro h
    simp only [List.map_cons, List.cons_append, one K _ _ h.1, Bool.or_eq_true]
    rcases h.2 with h2 | h2
    · exact Or.inl h2
    · exact Or.inr (ih h2)

theorem D_step (hA : A = ancs ops.toList []) (hdst : dstOk ops n = true) {i : Nat} {E : Tr Value} {s : DT} {vals : List (Nat × Value)} (hJ : J V.P ops n base E s vals) {o : Oper} (ho : ops[i]? = some o) (hi : i ∉ s.dn) (hl : lookOk ops o = true) (hsel : opOk o = true) (hd : ∀ d ∈ direct o, d ∈ s.dn)
    {k : Option Tmp → Value → DT → Prop} (h : DOp V ops A n base K0 i E s k (some o)) :
    ∃ v s', k o.dst v s' ∧ s'.dn = i :: s.dn ∧ J V.P ops n base (setO E o.dst v) s' ((i, v) :: vals) ∧ Stab ops (i :: s.dn) E (setO E o.dst v) ∧ isV v ∧
      ∃ K, ∀ f, K ≤ f → ∀ E2, Stab ops (i :: s.dn) E E2 → dstep (V.cal f) V.P ops A n base E2 (sD K0 s vals) i = some (sD K0 s' ((i, v) :: vals)) := by
  have hlt : i < ops.size := (Array.getElem?_eq_some_iff.mp ho).1
  have hanc := anc_dn hA hJ ho hd
  have hst : ∀ v, Stab ops (i :: s.dn) E (setO E o.dst v) := set_stab hJ ho hi hl hd
  have hhas : (sD K0 s vals).has i = false := by rw [hJ.has]; simpa using hi
  have hready : ((direct o).all fun d => (sD K0 s vals).has d) = true := List.all_eq_true.mpr fun d hd' => by rw [hJ.has]; simpa using hd d hd'
  have hnew : ∀ v, ∀ p ∈ vals, isV p.2 ∧ ∀ o' d, ops[p.1]? = some o' → o'.dst = some d → (setO E o.dst v).get d = some p.2 := fun v p hp => by
    refine ⟨(hJ.val p hp).1, fun o' d ho' hd' => ?_⟩
    have h1 := (hJ.val p hp).2 o' d ho' hd'
    unfold setO
    cases hx : o.dst with
    | none => exact h1
    | some d2 =>
      simp only
      rw [Tr.get_set]
      split
      · rename_i e
        subst e
        have := dst_one hdst ho hx ho' hd'
        exfalso
        apply hi
        rw [this, ← hJ.dn]
        exact List.mem_map_of_mem hp
      · exact h1
  have hhere : ∀ v, isV v → ∀ p ∈ (i, v) :: vals, isV p.2 ∧ ∀ o' d, ops[p.1]? = some o' → o'.dst = some d → (setO E o.dst v).get d = some p.2 := fun v hv p hp => by
    rcases List.mem_cons.mp hp with rfl | hp
    · refine ⟨hv, fun o' d ho' hd' => ?_⟩
      rw [ho] at ho'; cases ho'
      unfold setO
      rw [hd']
      exact Tr.get_set_same _ _ _
    · exact hnew v p hp
  have hlook : ∀ a ∈ i :: s.dn, ∀ o', ops[a]? = some o' → lookOk ops o' = true ∧ ∀ d ∈ direct o', d ∈ i :: s.dn := fun a ha o' ho' => by
    rcases List.mem_cons.mp ha with rfl | ha
    · rw [ho] at ho'; cases ho'
      exact ⟨hl, fun d hd' => List.mem_cons_of_mem _ (hd d hd')⟩
    · exact ⟨(hJ.look a ha o' ho').1, fun d hd' => List.mem_cons_of_mem _ ((hJ.look a ha o' ho').2 d hd')⟩
  have hobj : ∀ (v : Value) (al : List (Nat × AObj)), (∀ a ∈ s.dn, alGet al a = alGet s.al a) → objOf V.P ops E n base i = alGet al i → ∀ a ∈ i :: s.dn, objOf V.P ops (setO E o.dst v) n base a = alGet al a := fun v al h1 h2 a ha => by
    rw [objOf_stab (hst v) ha]
    rcases List.mem_cons.mp ha with rfl | ha
    · exact h2
    · rw [h1 a ha]; exact hJ.obj a ha
  have hltdn : ∀ a ∈ i :: s.dn, a < ops.size := fun a ha => by
    rcases List.mem_cons.mp ha with rfl | ha
    · exact hlt
    · exact hJ.lt a ha
  have hali : alGet s.al i = none := hJ.alin i hi
  have hplus : ∀ E2, Stab ops (i :: s.dn) E E2 → ∀ K, plus V.P ops E2 n base K (A.getD i []) = plusA base s.al K (A.getD i []) := fun E2 h2 K => by
    rw [plus_stab (dn := s.dn) (fun a o t h3 h4 h5 => h2 a o t (List.mem_cons_of_mem _ h3) h4 h5) hanc]
    exact plus_plusA hJ.obj hanc
  have hkind : ∀ E2, Stab ops (i :: s.dn) E E2 → kindB V.P ops E2 n base i o = kindB V.P ops E n base i o := fun E2 h2 => kindB_stab (h2 i o · (by simp) ho)
  have hev : ∀ E2, Stab ops (i :: s.dn) E E2 → ∀ H, aopF V.P (ev E2) o H = aopF V.P (ev E) o H := fun E2 h2 H => aopF_congr (noSelect hsel) (ev_stab (h2 i o · (by simp) ho))
  obtain ⟨hw1, hw2⟩ := h
  cases hw : Region.wanted o (yieldB ops n E) with
  | false =>
    have hk : kindB V.P ops E n base i o = .skip := by unfold kindB; rw [hw]; rfl
    have hv : isV undef := rfl
    refine ⟨undef, { s with dn := i :: s.dn }, hw2 hw, rfl, ⟨by simp [hJ.dn], hlook, hhere _ hv, hobj undef s.al (fun _ _ => rfl) (by unfold objOf; rw [kd_at ho, hk, hali]), fun a h1 h2 => hJ.fre a h1 fun z => h2 (List.mem_cons_of_mem _ z), hJ.room, hltdn, fun a h1 => hJ.alin a fun z => h1 (List.mem_cons_of_mem _ z)⟩, hst _, hv, 0, fun f _ E2 h2 => ?_⟩
    unfold dstep
    rw [ho]
    simp only [hhas, hready, hl, hkind E2 h2, hk, Bool.and_self, if_true, Bool.false_eq_true, if_false]
    rfl
  | true =>
    replace hw1 := hw1 hw
    cases ha : allocB V.P (ev E) o (base + i) with
    | some p =>
      obtain ⟨v, ob⟩ := p
      have hk : kindB V.P ops E n base i o = .alloc v ob := by unfold kindB; rw [hw, ha]; rfl
      rw [ha] at hw1
      obtain ⟨hv, hkk⟩ := hw1
      refine ⟨v, _, hkk, rfl, ⟨by simp [hJ.dn], hlook, hhere _ hv, hobj v ((i, ob) :: s.al) (fun a h1 => ?_) (by unfold objOf; rw [kd_at ho, hk]; simp [alGet]), fun a h1 h2 => ?_, hJ.room, hltdn, fun a h1 => ?_⟩, hst _, hv, 0, fun f _ E2 h2 => ?_⟩
      · simp only [alGet]
        rw [if_neg (fun z => hi (by rw [← z]; exact h1))]
      · simp only [Heap.get_set]
        rw [if_neg (fun z => h2 (by rw [show a = i by omega]; simp))]
        exact hJ.fre a h1 fun z => h2 (List.mem_cons_of_mem _ z)
      · simp only [alGet]
        rw [if_neg (fun z => h1 (by rw [z]; simp))]
        exact hJ.alin a fun z => h1 (List.mem_cons_of_mem _ z)
      · unfold dstep
        rw [ho]
        simp only [hhas, hready, hl, hkind E2 h2, hk, Bool.and_self, if_true, Bool.false_eq_true, if_false]
        rfl
    | none =>
      rw [ha] at hw1
      simp only [DAll] at hw1
      cases he : isEff o with
      | true =>
        have hk : kindB V.P ops E n base i o = .eff := by unfold kindB; rw [hw, ha, he]; rfl
        rw [he, if_pos rfl] at hw1
        obtain ⟨hall, hc⟩ := hw1
        have main : ∀ v H, isV v → KeepB base ops.size s.cur H → k o.dst v { s with cur := H, hist := (H, i) :: s.hist, dn := i :: s.dn } → (∃ K, ∀ f, K ≤ f → effB (V.cal f) V.P (ev E) o s.cur = some (v, H)) →
            ∃ v s', k o.dst v s' ∧ s'.dn = i :: s.dn ∧ J V.P ops n base (setO E o.dst v) s' ((i, v) :: vals) ∧ Stab ops (i :: s.dn) E (setO E o.dst v) ∧ isV v ∧
              ∃ K, ∀ f, K ≤ f → ∀ E2, Stab ops (i :: s.dn) E E2 → dstep (V.cal f) V.P ops A n base E2 (sD K0 s vals) i = some (sD K0 s' ((i, v) :: vals)) := by
          intro v H hv hkeep hkk hrun
          obtain ⟨K, hrun⟩ := hrun
          have hnone : ∀ a, a < ops.size → a ∉ i :: s.dn → H.get (base + a) = none := fun a h1 h2 => by
            have h3 := hkeep.2 a h1
            rw [hJ.fre a h1 fun z => h2 (List.mem_cons_of_mem _ z)] at h3
            cases hg : H.get (base + a) with
            | none => rfl
            | some ob => rw [hg] at h3; cases h3
          refine ⟨v, _, hkk, rfl, ⟨by simp [hJ.dn], hlook, hhere _ hv, hobj v s.al (fun _ _ => rfl) (by unfold objOf; rw [kd_at ho, hk, hali]), hnone, Nat.le_trans hJ.room hkeep.1, hltdn, fun a h1 => hJ.alin a fun z => h1 (List.mem_cons_of_mem _ z)⟩, hst _, hv, K, fun f hf E2 h2 => ?_⟩
          have heff : effB (V.cal f) V.P (ev E2) o s.cur = some (v, H) := by
            rw [← hrun f hf]
            unfold effB
            rw [hev E2 h2]
          have h4 : ((sD K0 s vals).vals.all fun p => (A.getD i []).contains p.1) = true := by
            rw [← hJ.dn, List.all_map] at hall
            exact hall
          have h5 : ((List.range ops.size).all fun a => ((sD K0 s vals).has a || (H.get (base + a)).isNone) && (((sD K0 s vals).cur.get (base + a)).isNone || (H.get (base + a)).isSome)) = true := by
            refine List.all_eq_true.mpr fun a h1 => ?_
            have h1 : a < ops.size := by simpa using h1
            have h3 := hkeep.2 a h1
            rw [hJ.has]
            show ((s.dn.contains a || (H.get (base + a)).isNone) && ((s.cur.get (base + a)).isNone || (H.get (base + a)).isSome)) = true
            rw [h3]
            have : s.dn.contains a = true ∨ H.get (base + a) = none := by
              by_cases hin : a ∈ s.dn
              · exact .inl (by simpa using hin)
              · right
                have h6 := hJ.fre a h1 hin
                rw [h6] at h3
                cases hg : H.get (base + a) with
                | none => rfl
                | some ob => rw [hg] at h3; cases h3
            rcases this with h6 | h6
            · rw [h6]; cases s.cur.get (base + a) <;> rfl
            · rw [h6]; cases s.cur.get (base + a) <;> simp
          unfold dstep
          rw [ho]
          simp only [hhas, hready, hl, hkind E2 h2, hk, Bool.and_self, if_true, Bool.false_eq_true, if_false, h4]
          rw [show (sD K0 s vals).cur = s.cur from rfl] at h5 ⊢
          rw [heff]
          simp only
          rw [if_pos h5]
          rfl
        unfold valC at hc
        split at hc
        · rename_i v H hr
          obtain ⟨h1, h2, h3⟩ := hc
          exact main v H h1 h2 h3 ⟨0, fun f _ => by unfold effB; rw [hr]⟩
        · rename_i f args hr
          obtain ⟨v, H, ⟨K, hcal⟩, h1, h2, h3⟩ := hc
          exact main v H h1 h2 h3 ⟨K, fun f hf => by unfold effB; rw [hr]; exact hcal f hf⟩
        · exact hc.elim
      | false =>
        have hk : kindB V.P ops E n base i o = .free := by unfold kindB; rw [hw, ha, he]; rfl
        rw [he, if_neg (by simp)] at hw1
        unfold DFree valF at hw1
        split at hw1
        · rename_i v H9 hr
          obtain ⟨hv, hf, hkk⟩ := hw1
          refine ⟨v, _, hkk, rfl, ⟨by simp [hJ.dn], hlook, hhere _ hv, hobj v s.al (fun _ _ => rfl) (by unfold objOf; rw [kd_at ho, hk, hali]), fun a h1 h2 => hJ.fre a h1 fun z => h2 (List.mem_cons_of_mem _ z), hJ.room, hltdn, fun a h1 => hJ.alin a fun z => h1 (List.mem_cons_of_mem _ z)⟩, hst _, hv, 0, fun f _ E2 h2 => ?_⟩
          have hfa := freeP_all (P := V.P) (pl := fun K => plusA base s.al K (A.getD i [])) (e := ev E) (o := o) hv hf
          have hpl : (fun K => plus V.P ops E2 n base K (A.getD i [])) = fun K => plusA base s.al K (A.getD i []) := funext fun K => hplus E2 h2 K
          have hfa2 : freeAll V.P (fun K => plus V.P ops E2 n base K (A.getD i [])) (ev E2) o v (A.getD i []) (sD K0 s vals).ks (sD K0 s vals).es = true := by
            rw [hpl]
            rw [← hfa]
            have : ∀ (ks : List Heap) (es : List Nat), freeAll V.P (fun K => plusA base s.al K (A.getD i [])) (ev E2) o v (A.getD i []) ks es = freeAll V.P (fun K => plusA base s.al K (A.getD i [])) (ev E) o v (A.getD i []) ks es := by
              intro ks
              induction ks with
              | nil => intro es; rfl
              | cons K ks ih => intro es; simp only [freeAll, hev E2 h2, ih]
            exact this _ _
          have hks : ∃ ks, (sD K0 s vals).ks = headK K0 s.hist :: ks := by
            unfold sD
            cases s.hist with
            | nil => exact ⟨[], rfl⟩
            | cons p l => exact ⟨_, rfl⟩
          obtain ⟨ks, hks⟩ := hks
          unfold dstep
          rw [ho]
          simp only [hhas, hready, hl, hkind E2 h2, hk, Bool.and_self, if_true, Bool.false_eq_true, if_false]
          have hr2 : aopF V.P (ev E2) o (plus V.P ops E2 n base (headK K0 s.hist) (A.getD i [])) = some (.val v H9) := by rw [hplus E2 h2, hev E2 h2, hr]
          rw [hks] at hfa2
          simp only [hks, hr2, hfa2, if_true]
          rw [← hks]
          rfl
        · exact hw1.elim

theorem DW_runs (hA : A = ancs ops.toList []) (hdst : dstOk ops n = true) : ∀ (C : List Nat) (E : Tr Value) (s : DT) (vals : List (Nat × Value)), J V.P ops n base E s vals → okRun ops C s.dn = true → DW V ops A n base K0 F C E s →
    ∃ Ef sf valsf, F Ef sf.cur ∧ J V.P ops n base Ef sf valsf ∧ (∀ a, a < ops.size → a ∈ sf.dn) ∧ (∀ a ∈ s.dn, a ∈ sf.dn) ∧ Stab ops s.dn E Ef ∧
      ∃ K, ∀ f, K ≤ f → drun1 (V.cal f) V.P ops A n base C E (sD K0 s vals) = some Ef ∧ ∀ E2, Stab ops sf.dn Ef E2 → drun2 (V.cal f) V.P ops A n base E2 C (sD K0 s vals) = some (sD K0 sf valsf) := by
  intro C
  induction C with
  | nil =>
    intro E s vals hJ hok h
    exact ⟨E, s, vals, h, hJ, fun a ha => by simpa using List.all_eq_true.mp hok a (by simpa using ha), fun _ a => a, Stab.refl, 0, fun f _ => ⟨rfl, fun _ _ => rfl⟩⟩
  | cons i l ih =>
    intro E s vals hJ hok h
    simp only [okRun, Bool.and_eq_true] at hok
    obtain ⟨hok1, hok2⟩ := hok
    simp only [DW] at h
    cases ho : ops[i]? with
    | none => rw [ho] at h; exact h.elim
    | some o =>
      rw [ho] at h hok1
      simp only [Bool.and_eq_true, Bool.not_eq_true', List.all_eq_true] at hok1
      obtain ⟨h1, h2, h3, h4⟩ := hok1
      have h1 : i ∉ s.dn := by simpa using h1
      have h2 : ∀ d ∈ direct o, d ∈ s.dn := fun d hd => by simpa using h2 d hd
      obtain ⟨v, s', hk, hdn, hJ', hst, hv, K, hstep⟩ := D_step hA hdst hJ ho h1 h3 h4 h2 h
      rw [← hdn] at hok2
      obtain ⟨Ef, sf, valsf, hF, hJf, hall, hsub, hst2, K2, hrun⟩ := ih _ _ _ hJ' hok2 hk
      have hsub0 : ∀ a ∈ i :: s.dn, a ∈ s'.dn := fun a ha => by rw [hdn]; exact ha
      refine ⟨Ef, sf, valsf, hF, hJf, hall, fun a ha => hsub a (hsub0 a (List.mem_cons_of_mem _ ha)), ?_, max K K2, fun f hf => ?_⟩
      · exact Stab.trans (dn' := s'.dn) (fun a o t h5 h6 h7 => hst a o t (List.mem_cons_of_mem _ h5) h6 h7) hst2 (fun a ha => hsub0 a (List.mem_cons_of_mem _ ha))
      · obtain ⟨r1, r2⟩ := hrun f (by omega)
        constructor
        · simp only [drun1, hstep f (by omega) E Stab.refl]
          unfold setO at r1
          cases hd : o.dst with
          | none =>
            rw [hd] at r1
            simp only [sD, ho, Option.bind_some, hd] at r1 ⊢
            exact r1
          | some d =>
            rw [hd] at r1
            simp only [sD, ho, Option.bind_some, hd] at r1 ⊢
            exact r1
        · intro E2 hE2
          have hs2 : Stab ops (i :: s.dn) E E2 := by
            have a1 : Stab ops (i :: s.dn) E Ef := hst.trans (dn' := s'.dn) hst2 hsub0
            exact a1.trans (dn' := sf.dn) hE2 (fun a ha => hsub a (hsub0 a ha))
          simp only [drun2, hstep f (by omega) E2 hs2]
          exact r2 E2 hE2

theorem drawn_runs {V : Env} {F : Tr Value → Heap → Prop} {ops : Array Oper} {n : Nat} {t : Tr Value} {H : Heap} (A : List (List Nat)) (C : List Nat) (hs : drawStatic0 V.P ops n A C = true) (hfree : ∀ a, H.next ≤ a → H.get a = none)
    (h : DW V ops A n H.next { H with next := H.next + ops.size } F C t ⟨{ H with next := H.next + ops.size }, [], [], []⟩) :
    ∃ Ef Hf, F Ef Hf ∧ ∃ K, ∀ k, K ≤ k → drawRun0 (V.cal k) V.P ops ⟨n, t, H⟩ = some ⟨n, Ef, Hf⟩ := by
  unfold drawStatic0 at hs
  simp only [Bool.and_eq_true, beq_iff_eq] at hs
  obtain ⟨hA, hC, hok, hdst, hfol⟩ := hs
  have hJ : J V.P ops n H.next t ⟨{ H with next := H.next + ops.size }, [], [], []⟩ [] :=
    ⟨rfl, fun a ha => (by cases ha), fun p hp => (by cases hp), fun a ha => (by cases ha), fun a _ _ => hfree _ (by omega), Nat.le_refl _, fun a ha => (by cases ha), fun a _ => rfl⟩
  obtain ⟨Ef, sf, valsf, hF, hJf, hall, _, _, K, hrun⟩ := DW_runs hA.symm hdst C t _ [] hJ hok h
  refine ⟨Ef, sf.cur, hF, K, fun k hk => ?_⟩
  obtain ⟨r1, r2⟩ := hrun k hk
  have r2 := r2 Ef Stab.refl
  unfold drawRun0
  simp only [hA, hC]
  have hf : ((List.range ops.size).all fun a => (H.get (H.next + a)).isNone) = true := List.all_eq_true.mpr fun a _ => by rw [hfree _ (by omega)]; rfl
  rw [hdst, hfol, hf]
  simp only [Bool.and_self, if_true]
  have e1 : drun1 (V.cal k) V.P ops A n H.next C t { cur := { H with next := H.next + ops.size }, ks := [{ H with next := H.next + ops.size }], es := [], vals := [] } = some Ef := r1
  have e2 : drun2 (V.cal k) V.P ops A n H.next Ef C { cur := { H with next := H.next + ops.size }, ks := [{ H with next := H.next + ops.size }], es := [], vals := [] } = some (sD { H with next := H.next + ops.size } sf valsf) := r2
  rw [e1]
  simp only [e2]
  refine if_pos ?_
  rw [Bool.and_eq_true]
  constructor
  · refine List.all_eq_true.mpr fun p hp => ?_
    obtain ⟨h1, h2⟩ := hJf.val p hp
    cases ho : ops[p.1]? with
    | none => rfl
    | some o =>
      simp only [Option.bind_some]
      cases hd : o.dst with
      | none => rfl
      | some d =>
        simp only [h2 o d ho hd, Option.getD_some]
        exact h1
  · refine List.all_eq_true.mpr fun a ha => ?_
    rw [hJf.has]
    simpa using hall a (by simpa using ha)

def drawStatic (P : Program) (ops : Array Oper) (n : Nat) (A : List (List Nat)) (C : List Nat) : Bool := !badO ops && drawStatic0 P ops n A C
theorem W_drawn {V : Env} {r : List It} {Q : Ex → St → Prop} {id : Nat} {ops : Array Oper} {n : Nat} {t : Tr Value} {H : Heap} (A : List (List Nat)) (C : List Nat) (hs : drawStatic V.P ops n A C = true) (hfree : ∀ a, H.next ≤ a → H.get a = none)
    (h : DW V ops A n H.next { H with next := H.next + ops.size } (fun E H' => W V r ⟨n, E, H'⟩ Q) C t ⟨{ H with next := H.next + ops.size }, [], [], []⟩) :
    W V (.code (.region id ops true) :: r) ⟨n, t, H⟩ Q := by
  unfold drawStatic at hs
  rw [Bool.and_eq_true] at hs
  obtain ⟨Ef, Hf, hF, K, hK⟩ := drawn_runs A C hs.2 hfree h
  refine W_draw (st' := ⟨n, Ef, Hf⟩) ⟨K, fun k hk => ?_⟩ hF
  unfold drawRun
  rw [if_neg (by simpa using hs.1)]
  exact hK k hk

def offL : List Oper → List Oper
  | [] => []
  | [o] => [{ o with dst := none }]
  | o :: o' :: l => o :: offL (o' :: l)
def drawStaticL (P : Program) (ops : Array Oper) (n : Nat) (A : List (List Nat)) (C : List Nat) : Bool :=
  badO ops && ((lateO ops).isSome && drawStatic0 P (offL ops.toList).toArray n A C)
theorem offL_set : ∀ (l : List Oper) (o : Oper), l[l.length - 1]? = some o → offL l = l.set (l.length - 1) { o with dst := none }
  | [], o, h => by simp at h
  | [a], o, h => by simp at h; subst h; rfl
  | a :: b :: l, o, h => by
    have := offL_set (b :: l) o (by simpa using h)
    rw [offL, this]
    simp
theorem offL_length : ∀ l : List Oper, (offL l).length = l.length
  | [] => rfl
  | [_] => rfl
  | _ :: b :: l => by rw [offL, List.length_cons, offL_length (b :: l)]; rfl
theorem W_drawnL {V : Env} {r : List It} {Q : Ex → St → Prop} {id : Nat} {ops : Array Oper} {n : Nat} {t : Tr Value} {H : Heap} (A : List (List Nat)) (C : List Nat) (hs : drawStaticL V.P ops n A C = true) (hfree : ∀ a, H.next ≤ a → H.get a = none)
    (h : DW V (offL ops.toList).toArray A n H.next { H with next := H.next + (offL ops.toList).toArray.size } (fun E H' => W V (.ops ops (ops.toList.drop (ops.size - 1)) :: r) ⟨n, E, H'⟩ Q) C t ⟨{ H with next := H.next + (offL ops.toList).toArray.size }, [], [], []⟩) :
    W V (.code (.region id ops true) :: r) ⟨n, t, H⟩ Q := by
  unfold drawStaticL at hs
  rw [Bool.and_eq_true, Bool.and_eq_true] at hs
  obtain ⟨hb, hl, hs⟩ := hs
  obtain ⟨⟨d, x, o⟩, hl⟩ := Option.isSome_iff_exists.mp hl
  have hl2 := hl
  unfold lateO at hl2
  split at hl2
  case h_2 => cases hl2
  rename_i d' x' ty pos af hop
  split at hl2
  case isFalse => cases hl2
  cases hl2
  have hsz : ops.size - 1 < ops.size := (Array.getElem?_eq_some_iff.mp hop).1
  have hop2 : ops.toList[ops.toList.length - 1]? = some ⟨some d, .assign x, ty, pos, af, none⟩ := by simpa using hop
  have harr : (offL ops.toList).toArray = ops.setIfInBounds (ops.size - 1) ⟨none, .assign x, ty, pos, af, none⟩ := by
    rw [offL_set _ _ hop2]
    apply Array.ext'
    simp
  have hdrop : ops.toList.drop (ops.size - 1) = [⟨some d, .assign x, ty, pos, af, none⟩] := by
    have h1 : ops.size - 1 < ops.toList.length := by simpa using hsz
    rw [List.drop_eq_getElem_cons h1, List.drop_eq_nil_of_le (by rw [Array.length_toList]; omega)]
    rw [Array.length_toList] at hop2
    rw [List.getElem?_eq_getElem h1] at hop2
    rw [Option.some.inj hop2]
  obtain ⟨Ef, Hf, hF, K, hK⟩ := drawn_runs A C hs hfree h
  rw [hdrop] at hF
  obtain ⟨ex, s', hq, K2, hk2⟩ := hF
  have hp : ∀ k n', K2 ≤ k → K2 ≤ n' → ∃ st1, (⟨n, Ef, Hf⟩ : St).put (some d) (ev Ef x) Hf = some st1 ∧ runIts V k n' r st1 = some (ex, s') := fun k n' h1 h2 => by
    have h3 := hk2 k n' h1 h2
    simp only [runIts, runIt, opsRun] at h3
    have hstep : step1 (V.cal k) V.P ops ⟨some d, .assign x, ty, pos, af, none⟩ ⟨n, Ef, Hf⟩ = (⟨n, Ef, Hf⟩ : St).put (some d) (ev Ef x) Hf := by
      unfold step1
      rw [if_pos (by rfl)]
      rfl
    rw [hstep] at h3
    cases hput : (⟨n, Ef, Hf⟩ : St).put (some d) (ev Ef x) Hf with
    | none => rw [hput] at h3; cases h3
    | some st1 => rw [hput] at h3; exact ⟨st1, rfl, h3⟩
  obtain ⟨st1, hput, _⟩ := hp K2 K2 (Nat.le_refl _) (Nat.le_refl _)
  refine W_draw (st' := st1) ⟨K, fun k hk => ?_⟩ ⟨ex, s', hq, K2, fun k n' h1 h2 => ?_⟩
  · unfold drawRun
    rw [if_pos hb, hl]
    simp only [← harr, hK k hk, Option.bind_some]
    exact hput
  · obtain ⟨st2, hput2, hr⟩ := hp k n' h1 h2
    rw [hput] at hput2
    cases hput2
    exact hr

end
end Go.B

namespace Go.B
open Go

section
variable (V : Env) (ops : Array Oper) (A : List (List Nat)) (n base : Nat) (K0 : Heap) (r : List It) (Q : Ex → St → Prop)

def DWd (C : List Nat) (E : Tr Value) (s : DT) : Prop := DW V ops A n base K0 (fun E H' => W V r ⟨n, E, H'⟩ Q) C E s
def DOpd (i : Nat) (l : List Nat) (E : Tr Value) (s : DT) (o : Option Oper) : Prop := DOp V ops A n base K0 i E s (fun d v s' => DWd V ops A n base K0 r Q l (setO E d v) s') o
def DAlld (i : Nat) (l : List Nat) (E : Tr Value) (s : DT) (o : Oper) (x : Option (Value × AObj)) : Prop := DAll V ops A base K0 i o E s (fun v s' => DWd V ops A n base K0 r Q l (setO E o.dst v) s') x
def DEffv (i : Nat) (l : List Nat) (E : Tr Value) (s : DT) (d : Option Tmp) : Option Res → Prop
  | some (.val v H) => isV v ∧ KeepB base ops.size s.cur H ∧ DWd V ops A n base K0 r Q l (setO E d v) ⟨H, (H, i) :: s.hist, i :: s.dn, s.al⟩
  | _ => False
def DFreev (i : Nat) (l : List Nat) (E : Tr Value) (s : DT) (o : Oper) : Option Res → Prop
  | some (.val v _) => isV v ∧ freeP (fun K => valF (fun v' => v' = v) (aopF V.P (ev E) o (plusA base s.al K (A.getD i [])))) (A.getD i []) K0 s.hist ∧ DWd V ops A n base K0 r Q l (setO E o.dst v) ⟨s.cur, s.hist, i :: s.dn, s.al⟩
  | _ => False
end

section
variable {V : Env} {ops : Array Oper} {A : List (List Nat)} {n base : Nat} {K0 : Heap} {r : List It} {Q : Ex → St → Prop}

theorem W_drawnd {id : Nat} {t : Tr Value} {H : Heap} (A : List (List Nat)) (C : List Nat) (hs : drawStatic V.P ops n A C = true) (hfree : ∀ a, H.next ≤ a → H.get a = none)
    (h : DWd V ops A n H.next ⟨H.next + ops.size, H.tr⟩ r Q C t ⟨⟨H.next + ops.size, H.tr⟩, [], [], []⟩) : W V (.code (.region id ops true) :: r) ⟨n, t, H⟩ Q := W_drawn A C hs hfree h

theorem DWd_nil {E : Tr Value} {s : DT} : DWd V ops A n base K0 r Q [] E s = W V r ⟨n, E, s.cur⟩ Q := rfl
theorem DWd_cons {i : Nat} {l : List Nat} {E : Tr Value} {s : DT} : DWd V ops A n base K0 r Q (i :: l) E s = DOpd V ops A n base K0 r Q i l E s ops[i]? := rfl

variable {d : Option Tmp} {op : Op} {ty : TypeId} {pos : String} {af : Array Edge} {i : Nat} {l : List Nat} {E : Tr Value} {H : Heap} {hist : List (Heap × Nat)} {dn : List Nat} {al : List (Nat × AObj)}

theorem DOpd_0 (hc : isCall op = false) : DOpd V ops A n base K0 r Q i l E ⟨H, hist, dn, al⟩ (some ⟨d, op, ty, pos, af, none⟩) ↔ DAlld V ops A n base K0 r Q i l E ⟨H, hist, dn, al⟩ ⟨d, op, ty, pos, af, none⟩ (allocB V.P (ev E) ⟨d, op, ty, pos, af, none⟩ (base + i)) := by
  unfold DOpd DOp DAlld
  simp only [Region.wanted, true_implies, Bool.true_eq_false, false_implies, and_true]
theorem DOpd_1 {j : Nat} {b : Bool} (hc : isCall op = false) (hy : yieldB ops n E j = some b) : DOpd V ops A n base K0 r Q i l E ⟨H, hist, dn, al⟩ (some ⟨d, op, ty, pos, af, some (j, b)⟩) ↔ DAlld V ops A n base K0 r Q i l E ⟨H, hist, dn, al⟩ ⟨d, op, ty, pos, af, none⟩ (allocB V.P (ev E) ⟨d, op, ty, pos, af, none⟩ (base + i)) := by
  have hw : Region.wanted ⟨d, op, ty, pos, af, some (j, b)⟩ (yieldB ops n E) = true := by rw [wanted_some, hy]; simp
  have h1 : ∀ H, aopF V.P (ev E) ⟨d, op, ty, pos, af, some (j, b)⟩ H = aopF V.P (ev E) ⟨d, op, ty, pos, af, none⟩ H := fun H => rfl
  have h2 : allocB V.P (ev E) ⟨d, op, ty, pos, af, some (j, b)⟩ (base + i) = allocB V.P (ev E) ⟨d, op, ty, pos, af, none⟩ (base + i) := rfl
  have h3 : isEff ⟨d, op, ty, pos, af, some (j, b)⟩ = isEff ⟨d, op, ty, pos, af, none⟩ := rfl
  unfold DOpd DOp DAlld
  simp only [hw, true_implies, Bool.true_eq_false, false_implies, and_true, h2]
  generalize allocB V.P (ev E) ⟨d, op, ty, pos, af, none⟩ (base + i) = x
  cases x with
  | some p => exact Iff.rfl
  | none => simp only [DAll, h3, DEff, DFree, h1]
theorem DOpd_2 {j : Nat} {b : Bool} (hy : yieldB ops n E j = some (!b)) : DOpd V ops A n base K0 r Q i l E ⟨H, hist, dn, al⟩ (some ⟨d, op, ty, pos, af, some (j, b)⟩) ↔ DWd V ops A n base K0 r Q l (setO E d undef) ⟨H, hist, i :: dn, al⟩ := by
  have hw : Region.wanted ⟨d, op, ty, pos, af, some (j, b)⟩ (yieldB ops n E) = false := by rw [wanted_some, hy]; cases b <;> rfl
  unfold DOpd DOp
  simp only [hw, true_implies, Bool.false_eq_true, false_implies, true_and]

theorem DAlld_some {o : Oper} {v : Value} {ob : AObj} : DAlld V ops A n base K0 r Q i l E ⟨H, hist, dn, al⟩ o (some (v, ob)) ↔ isV v ∧ DWd V ops A n base K0 r Q l (setO E o.dst v) ⟨H.set (base + i) ob, hist, i :: dn, (i, ob) :: al⟩ := Iff.rfl
theorem DAlld_eff {o : Oper} (hc : isCall o.op = false) (he : isEff o = true) : DAlld V ops A n base K0 r Q i l E ⟨H, hist, dn, al⟩ o none ↔ (dn.all fun j => (A.getD i []).contains j) = true ∧ DEffv V ops A n base K0 r Q i l E ⟨H, hist, dn, al⟩ o.dst (aopF V.P (ev E) o H) := by
  unfold DAlld DAll DEff DEffv
  rw [if_pos he]
  refine and_congr_right fun _ => ?_
  have hne := aop_no_enter (P := V.P) (e := ev E) (H := H) hc
  cases ha : aopF V.P (ev E) o H with
  | none => rfl
  | some res =>
    cases res with
    | val v H => rfl
    | enter f args =>
      exfalso
      cases hal : allocB V.P (ev E) o H.next with
      | none =>
        refine hne f args ?_
        have hm : markB V.P (ev E) o H = none := by
          unfold markB
          split
          · rename_i hop
            unfold isEff at he
            rw [hop] at he
            cases he
          · rfl
        unfold aop
        simp only [hal, hm, ha]
      | some p =>
        obtain ⟨dst, op, ty, pos, after, guard⟩ := o
        cases op <;> first
          | (simp [isEff] at he; done)
          | (simp [allocB] at hal; done)
theorem DAlld_free {o : Oper} (he : isEff o = false) : DAlld V ops A n base K0 r Q i l E ⟨H, hist, dn, al⟩ o none ↔ DFreev V ops A n base K0 r Q i l E ⟨H, hist, dn, al⟩ o (aopF V.P (ev E) o (plusA base al (headK K0 hist) (A.getD i []))) := by
  unfold DAlld DAll DFreev
  rw [if_neg (by rw [he]; simp)]
  unfold DFree valF
  cases aopF V.P (ev E) o (plusA base al (headK K0 hist) (A.getD i [])) with
  | none => exact Iff.rfl
  | some res => cases res <;> exact Iff.rfl
theorem DEffv_val {v : Value} {H' : Heap} : DEffv V ops A n base K0 r Q i l E ⟨H, hist, dn, al⟩ d (some (.val v H')) = (isV v ∧ KeepB base ops.size H H' ∧ DWd V ops A n base K0 r Q l (setO E d v) ⟨H', (H', i) :: hist, i :: dn, al⟩) := rfl
theorem DFreev_val {o : Oper} {v : Value} {H' : Heap} : DFreev V ops A n base K0 r Q i l E ⟨H, hist, dn, al⟩ o (some (.val v H')) = (isV v ∧ freeP (fun K => valF (fun v' => v' = v) (aopF V.P (ev E) o (plusA base al K (A.getD i [])))) (A.getD i []) K0 hist ∧ DWd V ops A n base K0 r Q l (setO E o.dst v) ⟨H, hist, i :: dn, al⟩) := rfl
theorem freeP_nil {chk : Heap → Prop} {anc : List Nat} : freeP chk anc K0 [] = chk K0 := rfl
theorem freeP_cons {chk : Heap → Prop} {anc : List Nat} {K : Heap} {x : Nat} {l : List (Heap × Nat)} : freeP chk anc K0 ((K, x) :: l) = (chk K ∧ (anc.contains x = true ∨ freeP chk anc K0 l)) := rfl
theorem freeP_true {anc : List Nat} {l : List (Heap × Nat)} : freeP (fun _ => True) anc K0 l ↔ True := by
  refine iff_true_intro ?_
  induction l with
  | nil => trivial
  | cons p l ih => exact ⟨trivial, .inr ih⟩
theorem valF_val {k : Value → Prop} {v : Value} {H : Heap} : valF k (some (.val v H)) = k v := rfl
theorem headK_nil : headK K0 [] = K0 := rfl
theorem headK_cons {K : Heap} {x : Nat} {l : List (Heap × Nat)} : headK K0 ((K, x) :: l) = K := rfl
theorem setO_none {v : Value} : setO E none v = E := rfl
theorem setO_some {t : Tmp} {v : Value} : setO E (some t) v = E.set t v := rfl
theorem plusA_nil {K : Heap} : plusA base al K [] = K := rfl
def plusO (base a : Nat) (K X : Heap) : Option AObj → Heap
  | some ob => if (K.get (base + a)).isNone then X.set (base + a) ob else X
  | none => X
theorem plusA_cons {K : Heap} {a : Nat} {l : List Nat} : plusA base al K (a :: l) = plusO base a K (plusA base al K l) (alGet al a) := by
  rw [plusA]
  unfold plusO
  cases alGet al a <;> rfl
theorem plusO_none {K X : Heap} {a : Nat} : plusO base a K X none = X := rfl
theorem plusO_some {K X : Heap} {a : Nat} {ob : AObj} : plusO base a K X (some ob) = if (K.get (base + a)).isNone then X.set (base + a) ob else X := rfl
theorem alGet_nil {a : Nat} : alGet [] a = none := rfl
theorem alGet_cons {a b : Nat} {ob : AObj} : alGet ((b, ob) :: al) a = if a = b then some ob else alGet al a := rfl

theorem DOpd_call {f : Operand} {xs : Array Operand} {ats : Array TypeId} {g : FuncId} {args : Array Value} {v : Value} {H' : Heap} (hd : (dn.all fun j => (A.getD i []).contains j) = true) (hf : ev E f = .func (.func g) #[] #[]) (ha : xs.map (ev E) = args) (hc : Ca V g args H v H') (hv : isV v) (hk : KeepB base ops.size H H')
    (h : DWd V ops A n base K0 r Q l (setO E d v) ⟨H', (H', i) :: hist, i :: dn, al⟩) : DOpd V ops A n base K0 r Q i l E ⟨H, hist, dn, al⟩ (some ⟨d, .call ⟨.value f, xs, ats⟩, ty, pos, af, none⟩) := by
  unfold DOpd DOp
  simp only [Region.wanted, true_implies, Bool.true_eq_false, false_implies, and_true]
  have : allocB V.P (ev E) ⟨d, .call ⟨.value f, xs, ats⟩, ty, pos, af, none⟩ (base + i) = none := rfl
  rw [this]
  simp only [DAll]
  have he : isEff ⟨d, .call ⟨.value f, xs, ats⟩, ty, pos, af, none⟩ = true := rfl
  rw [he, if_pos rfl]
  refine ⟨hd, ?_⟩
  have : aopF V.P (ev E) ⟨d, .call ⟨.value f, xs, ats⟩, ty, pos, af, none⟩ H = some (.enter g args) := by
    simp only [aopF, hf, ha]
    simp
  unfold valC
  rw [this]
  exact ⟨v, H', hc, hv, hk, h⟩

theorem KeepB_set {size j : Nat} {ob : AObj} (h : (H.get j).isSome = true) : KeepB base size H (H.set j ob) := by
  refine ⟨Nat.le_refl _, fun a _ => ?_⟩
  rw [Heap.get_set]
  split
  · rename_i e; rw [e, h]; rfl
  · rfl
theorem KeepB_push {size : Nat} {ob : AObj} (h : base + size ≤ H.next) : KeepB base size H (H.push ob) := by
  refine ⟨Nat.le_succ _, fun a ha => ?_⟩
  rw [Heap.get_push, if_neg (by omega)]
theorem KeepB.trans {size : Nat} {H H2 H3 : Heap} (h : KeepB base size H H2) (k : KeepB base size H2 H3) : KeepB base size H H3 := ⟨Nat.le_trans h.1 k.1, fun a ha => (k.2 a ha).trans (h.2 a ha)⟩
theorem KeepB.refl {size : Nat} {H : Heap} : KeepB base size H H := ⟨Nat.le_refl _, fun _ _ => rfl⟩
end

section
variable {P : Program} {e : Operand → Value} {H : Heap} {d : Option Tmp} {ty : TypeId} {pos : String} {af : Array Edge} {g : Option (Nat × Bool)}
theorem aopF_move {x : Operand} : aopF P e ⟨d, .move x, ty, pos, af, g⟩ H = some (.val (e x) H) := rfl
theorem aopF_assign {x : Operand} : aopF P e ⟨d, .assign x, ty, pos, af, g⟩ H = some (.val (e x) H) := rfl
theorem aopF_pick {c a b : Operand} : aopF P e ⟨d, .pick c a b, ty, pos, af, g⟩ H = pickV H (e c) (e a) (e b) := by
  simp only [aopF, pickV]
  cases e c <;> rfl
theorem aopF_load {t : TypeId} {a : Operand} : aopF P e ⟨d, .load t a, ty, pos, af, g⟩ H = (loadB P H t (e a)).map fun v => .val v H := rfl
theorem aopF_store {t : TypeId} {a x : Operand} : aopF P e ⟨d, .store t a x, ty, pos, af, g⟩ H = (storeB P H t (e a) (e x)).map fun H => .val undef H := rfl
theorem aopF_nilCheck {x : Operand} : aopF P e ⟨d, .nilCheck x, ty, pos, af, g⟩ H = nilV H (e x) := by
  simp only [aopF]
  unfold nilV
  split <;> simp_all
theorem aopF_fieldAddr {s : TypeId} {x : Operand} {f : Nat} : aopF P e ⟨d, .fieldAddr s x f, ty, pos, af, g⟩ H = (fieldB P s (e x) f).map fun v => .val v H := rfl
theorem aopF_indexAddr {t : TypeId} {x i : Operand} : aopF P e ⟨d, .indexAddr t x i, ty, pos, af, g⟩ H = (indexAddrB P t (e x) (e i)).map fun v => .val v H := rfl
theorem aopF_field {t : TypeId} {x : Operand} {f : Nat} : aopF P e ⟨d, .field t x f, ty, pos, af, g⟩ H = (fieldOf P t (e x) f).map fun v => .val v H := rfl
theorem aopF_index {t : TypeId} {x i : Operand} : aopF P e ⟨d, .index t x i, ty, pos, af, g⟩ H = (indexB P t (e x) (e i)).map fun v => .val v H := rfl
theorem aopF_extract {x : Operand} {i : Nat} : aopF P e ⟨d, .extract x i, ty, pos, af, g⟩ H = extV H i (e x) := by
  simp only [aopF]
  unfold extV
  cases e x <;> rfl
theorem aopF_build {t : TypeId} {ps : Array (Nat × Operand)} : aopF P e ⟨d, .build t ps, ty, pos, af, g⟩ H = (buildB P t (ps.map fun (i, x) => (i, e x)).toList).map fun v => .val v H := rfl
theorem aopF_makeFunc {fn : Fn} {a b : Array Operand} : aopF P e ⟨d, .makeFunc fn a b, ty, pos, af, g⟩ H = some (.val (.func fn (a.map e) (b.map e)) H) := rfl
theorem aopF_makeInterface {t : TypeId} {x : Operand} (h : ifaceT P t = false) : aopF P e ⟨d, .makeInterface t x, ty, pos, af, g⟩ H = some (.val (.iface t (e x)) H) := by
  simp only [aopF, h, Bool.false_eq_true, if_false]
theorem aopF_lookup {t : TypeId} {m k : Operand} {ok : Bool} : aopF P e ⟨d, .lookup t m k ok, ty, pos, af, g⟩ H = (lookupB P H t (e m) (e k) ok).map fun v => .val v H := rfl
theorem aopF_mapUpdate {t : TypeId} {m k x : Operand} : aopF P e ⟨d, .mapUpdate t m k x, ty, pos, af, g⟩ H = (updateB P H t (e m) (e k) (e x)).map fun H => .val undef H := rfl
theorem aopF_insert {t : TypeId} {m k x : Operand} : aopF P e ⟨d, .insert t m k x, ty, pos, af, g⟩ H = (updateB P H t (e m) (e k) (e x)).map fun H => .val undef H := rfl
theorem aopF_call {f : Operand} {xs : Array Operand} {ats : Array TypeId} : aopF P e ⟨d, .call ⟨.value f, xs, ats⟩, ty, pos, af, g⟩ H = callV (xs.map e) (e f) := by
  simp only [aopF]
  unfold callV
  split <;> simp_all
theorem aopF_append {xs : Array Operand} {ats : Array TypeId} : aopF P e ⟨d, .call ⟨.builtin .append, xs, ats⟩, ty, pos, af, g⟩ H = (builtinB P H .append ats (xs.map e).toList).map fun p => .val p.1 p.2 := rfl
theorem aopF_copy {xs : Array Operand} {ats : Array TypeId} : aopF P e ⟨d, .call ⟨.builtin .copy, xs, ats⟩, ty, pos, af, g⟩ H = (builtinB P H .copy ats (xs.map e).toList).map fun p => .val p.1 p.2 := rfl
theorem aopF_len {xs : Array Operand} {ats : Array TypeId} : aopF P e ⟨d, .call ⟨.builtin .len, xs, ats⟩, ty, pos, af, g⟩ H = (builtinB P H .len ats (xs.map e).toList).map fun p => .val p.1 p.2 := rfl
theorem aopF_delete {xs : Array Operand} {ats : Array TypeId} : aopF P e ⟨d, .call ⟨.builtin .delete, xs, ats⟩, ty, pos, af, g⟩ H = (builtinB P H .delete ats (xs.map e).toList).map fun p => .val p.1 p.2 := rfl
theorem aopF_binOp {op : BinOp} {t yt : TypeId} {x y : Operand} : aopF P e ⟨d, .binOp op t x y yt, ty, pos, af, g⟩ H = binV P H op t x y (e x) (e y) := rfl
theorem aopF_unOp {op : UnOp} {t : TypeId} {x : Operand} : aopF P e ⟨d, .unOp op t x, ty, pos, af, g⟩ H = unV P H op (e x) := rfl
theorem allocB_move {x0 : Operand} {j : Nat} : allocB P e ⟨d, .move x0, ty, pos, af, g⟩ j = none := rfl
theorem allocB_assign {x0 : Operand} {j : Nat} : allocB P e ⟨d, .assign x0, ty, pos, af, g⟩ j = none := rfl
theorem allocB_pick {x0 : Operand} {x1 : Operand} {x2 : Operand} {j : Nat} : allocB P e ⟨d, .pick x0 x1 x2, ty, pos, af, g⟩ j = none := rfl
theorem allocB_build {x0 : TypeId} {x1 : Array (Nat × Operand)} {j : Nat} : allocB P e ⟨d, .build x0 x1, ty, pos, af, g⟩ j = none := rfl
theorem allocB_insert {x0 : TypeId} {x1 : Operand} {x2 : Operand} {x3 : Operand} {j : Nat} : allocB P e ⟨d, .insert x0 x1 x2 x3, ty, pos, af, g⟩ j = none := rfl
theorem allocB_load {x0 : TypeId} {x1 : Operand} {j : Nat} : allocB P e ⟨d, .load x0 x1, ty, pos, af, g⟩ j = none := rfl
theorem allocB_store {x0 : TypeId} {x1 : Operand} {x2 : Operand} {j : Nat} : allocB P e ⟨d, .store x0 x1 x2, ty, pos, af, g⟩ j = none := rfl
theorem allocB_nilCheck {x0 : Operand} {j : Nat} : allocB P e ⟨d, .nilCheck x0, ty, pos, af, g⟩ j = none := rfl
theorem allocB_binOp {x0 : BinOp} {x1 : TypeId} {x2 : Operand} {x3 : Operand} {x4 : TypeId} {j : Nat} : allocB P e ⟨d, .binOp x0 x1 x2 x3 x4, ty, pos, af, g⟩ j = none := rfl
theorem allocB_unOp {x0 : UnOp} {x1 : TypeId} {x2 : Operand} {j : Nat} : allocB P e ⟨d, .unOp x0 x1 x2, ty, pos, af, g⟩ j = none := rfl
theorem allocB_makeInterface {x0 : TypeId} {x1 : Operand} {j : Nat} : allocB P e ⟨d, .makeInterface x0 x1, ty, pos, af, g⟩ j = none := rfl
theorem allocB_makeFunc {x0 : Fn} {x1 : Array Operand} {x2 : Array Operand} {j : Nat} : allocB P e ⟨d, .makeFunc x0 x1 x2, ty, pos, af, g⟩ j = none := rfl
theorem allocB_slice {x0 : TypeId} {x1 : Operand} {x2 : Option Operand} {x3 : Option Operand} {x4 : Option Operand} {j : Nat} : allocB P e ⟨d, .slice x0 x1 x2 x3 x4, ty, pos, af, g⟩ j = none := rfl
theorem allocB_fieldAddr {x0 : TypeId} {x1 : Operand} {x2 : Nat} {j : Nat} : allocB P e ⟨d, .fieldAddr x0 x1 x2, ty, pos, af, g⟩ j = none := rfl
theorem allocB_field {x0 : TypeId} {x1 : Operand} {x2 : Nat} {j : Nat} : allocB P e ⟨d, .field x0 x1 x2, ty, pos, af, g⟩ j = none := rfl
theorem allocB_indexAddr {x0 : TypeId} {x1 : Operand} {x2 : Operand} {j : Nat} : allocB P e ⟨d, .indexAddr x0 x1 x2, ty, pos, af, g⟩ j = none := rfl
theorem allocB_index {x0 : TypeId} {x1 : Operand} {x2 : Operand} {j : Nat} : allocB P e ⟨d, .index x0 x1 x2, ty, pos, af, g⟩ j = none := rfl
theorem allocB_lookup {x0 : TypeId} {x1 : Operand} {x2 : Operand} {x3 : Bool} {j : Nat} : allocB P e ⟨d, .lookup x0 x1 x2 x3, ty, pos, af, g⟩ j = none := rfl
theorem allocB_mapUpdate {x0 : TypeId} {x1 : Operand} {x2 : Operand} {x3 : Operand} {j : Nat} : allocB P e ⟨d, .mapUpdate x0 x1 x2 x3, ty, pos, af, g⟩ j = none := rfl
theorem allocB_extract {x0 : Operand} {x1 : Nat} {j : Nat} : allocB P e ⟨d, .extract x0 x1, ty, pos, af, g⟩ j = none := rfl
theorem allocB_call {c : Call} {j : Nat} : allocB P e ⟨d, .call c, ty, pos, af, g⟩ j = none := rfl
def alZ (t : TypeId) (j : Nat) : Option Value → Option (Value × AObj)
  | some z => if isScalA z then some (.pointer (some ⟨j, 0, none⟩), .cells z.cells.toList t false) else none
  | none => none
theorem allocB_alloc {t : TypeId} {j : Nat} : allocB P e ⟨d, .alloc t, ty, pos, af, g⟩ j = alZ t j (zeroOf P t) := by
  simp only [allocB]; unfold alZ; cases zeroOf P t <;> rfl
theorem alZ_some {t : TypeId} {j : Nat} {z : Value} : alZ t j (some z) = if isScalA z then some (.pointer (some ⟨j, 0, none⟩), .cells z.cells.toList t false) else none := rfl
theorem allocB_box {t : TypeId} {x : Operand} {j : Nat} : allocB P e ⟨d, .box t x, ty, pos, af, g⟩ j = if (szOf P t).isSome then some (.pointer (some ⟨j, 0, none⟩), .cells (e x).cells.toList t false) else none := rfl
theorem allocB_buildSlice {t : TypeId} {n : Nat} {ps : Array (Nat × Operand)} {j : Nat} : allocB P e ⟨d, .buildSlice t n ps, ty, pos, af, g⟩ j = buildSliceB P j t n (ps.map fun (i, x) => (i, e x)).toList := rfl
theorem allocB_makeMap {t : TypeId} {j : Nat} : allocB P e ⟨d, .makeMap t none, ty, pos, af, g⟩ j = some (.map (some j), .map [] 0) := rfl
theorem allocB_makeSlice {t : TypeId} {x y : Operand} {j : Nat} : allocB P e ⟨d, .makeSlice t x y, ty, pos, af, g⟩ j = makeSliceB P j t (e x) (e y) := rfl
theorem allocB_convert {a b : TypeId} {x : Operand} {j : Nat} : allocB P e ⟨d, .convert a b x, ty, pos, af, g⟩ j = bytesB P j a b (e x) := rfl
theorem isEff_move {x0 : Operand} : isEff ⟨d, .move x0, ty, pos, af, g⟩ = false := Eq.trans rfl rfl
theorem isEff_assign {x0 : Operand} : isEff ⟨d, .assign x0, ty, pos, af, g⟩ = false := Eq.trans rfl rfl
theorem isEff_pick {x0 : Operand} {x1 : Operand} {x2 : Operand} : isEff ⟨d, .pick x0 x1 x2, ty, pos, af, g⟩ = false := Eq.trans rfl rfl
theorem isEff_alloc {x0 : TypeId} : isEff ⟨d, .alloc x0, ty, pos, af, g⟩ = false := Eq.trans rfl rfl
theorem isEff_box {x0 : TypeId} {x1 : Operand} : isEff ⟨d, .box x0 x1, ty, pos, af, g⟩ = false := Eq.trans rfl rfl
theorem isEff_build {x0 : TypeId} {x1 : Array (Nat × Operand)} : isEff ⟨d, .build x0 x1, ty, pos, af, g⟩ = false := Eq.trans rfl rfl
theorem isEff_buildSlice {x0 : TypeId} {x1 : Nat} {x2 : Array (Nat × Operand)} : isEff ⟨d, .buildSlice x0 x1 x2, ty, pos, af, g⟩ = false := Eq.trans rfl rfl
theorem isEff_insert {x0 : TypeId} {x1 : Operand} {x2 : Operand} {x3 : Operand} : isEff ⟨d, .insert x0 x1 x2 x3, ty, pos, af, g⟩ = true := Eq.trans rfl rfl
theorem isEff_load {x0 : TypeId} {x1 : Operand} : isEff ⟨d, .load x0 x1, ty, pos, af, g⟩ = false := Eq.trans rfl rfl
theorem isEff_store {x0 : TypeId} {x1 : Operand} {x2 : Operand} : isEff ⟨d, .store x0 x1 x2, ty, pos, af, g⟩ = true := Eq.trans rfl rfl
theorem isEff_nilCheck {x0 : Operand} : isEff ⟨d, .nilCheck x0, ty, pos, af, g⟩ = false := Eq.trans rfl rfl
theorem isEff_binOp {x0 : BinOp} {x1 : TypeId} {x2 : Operand} {x3 : Operand} {x4 : TypeId} : isEff ⟨d, .binOp x0 x1 x2 x3 x4, ty, pos, af, g⟩ = false := Eq.trans rfl rfl
theorem isEff_unOp {x0 : UnOp} {x1 : TypeId} {x2 : Operand} : isEff ⟨d, .unOp x0 x1 x2, ty, pos, af, g⟩ = false := Eq.trans rfl rfl
theorem isEff_convert {x0 : TypeId} {x1 : TypeId} {x2 : Operand} : isEff ⟨d, .convert x0 x1 x2, ty, pos, af, g⟩ = false := Eq.trans rfl rfl
theorem isEff_makeInterface {x0 : TypeId} {x1 : Operand} : isEff ⟨d, .makeInterface x0 x1, ty, pos, af, g⟩ = false := Eq.trans rfl rfl
theorem isEff_makeFunc {x0 : Fn} {x1 : Array Operand} {x2 : Array Operand} : isEff ⟨d, .makeFunc x0 x1 x2, ty, pos, af, g⟩ = false := Eq.trans rfl rfl
theorem isEff_makeMap {x0 : TypeId} {x1 : Option Operand} : isEff ⟨d, .makeMap x0 x1, ty, pos, af, g⟩ = false := Eq.trans rfl rfl
theorem isEff_makeSlice {x0 : TypeId} {x1 : Operand} {x2 : Operand} : isEff ⟨d, .makeSlice x0 x1 x2, ty, pos, af, g⟩ = false := Eq.trans rfl rfl
theorem isEff_slice {x0 : TypeId} {x1 : Operand} {x2 : Option Operand} {x3 : Option Operand} {x4 : Option Operand} : isEff ⟨d, .slice x0 x1 x2 x3 x4, ty, pos, af, g⟩ = false := Eq.trans rfl rfl
theorem isEff_fieldAddr {x0 : TypeId} {x1 : Operand} {x2 : Nat} : isEff ⟨d, .fieldAddr x0 x1 x2, ty, pos, af, g⟩ = false := Eq.trans rfl rfl
theorem isEff_field {x0 : TypeId} {x1 : Operand} {x2 : Nat} : isEff ⟨d, .field x0 x1 x2, ty, pos, af, g⟩ = false := Eq.trans rfl rfl
theorem isEff_indexAddr {x0 : TypeId} {x1 : Operand} {x2 : Operand} : isEff ⟨d, .indexAddr x0 x1 x2, ty, pos, af, g⟩ = false := Eq.trans rfl rfl
theorem isEff_index {x0 : TypeId} {x1 : Operand} {x2 : Operand} : isEff ⟨d, .index x0 x1 x2, ty, pos, af, g⟩ = false := Eq.trans rfl rfl
theorem isEff_lookup {x0 : TypeId} {x1 : Operand} {x2 : Operand} {x3 : Bool} : isEff ⟨d, .lookup x0 x1 x2 x3, ty, pos, af, g⟩ = false := Eq.trans rfl rfl
theorem isEff_mapUpdate {x0 : TypeId} {x1 : Operand} {x2 : Operand} {x3 : Operand} : isEff ⟨d, .mapUpdate x0 x1 x2 x3, ty, pos, af, g⟩ = true := Eq.trans rfl rfl
theorem isEff_extract {x0 : Operand} {x1 : Nat} : isEff ⟨d, .extract x0 x1, ty, pos, af, g⟩ = false := Eq.trans rfl rfl
theorem isEff_append {xs : Array Operand} {ts : Array TypeId} : isEff ⟨d, .call ⟨.builtin .append, xs, ts⟩, ty, pos, af, g⟩ = true := Eq.trans rfl rfl
theorem isEff_copy {xs : Array Operand} {ts : Array TypeId} : isEff ⟨d, .call ⟨.builtin .copy, xs, ts⟩, ty, pos, af, g⟩ = true := Eq.trans rfl rfl
theorem isEff_delete {xs : Array Operand} {ts : Array TypeId} : isEff ⟨d, .call ⟨.builtin .delete, xs, ts⟩, ty, pos, af, g⟩ = true := Eq.trans rfl rfl
theorem isEff_len {xs : Array Operand} {ts : Array TypeId} : isEff ⟨d, .call ⟨.builtin .len, xs, ts⟩, ty, pos, af, g⟩ = false := Eq.trans rfl rfl
theorem isEff_cap {xs : Array Operand} {ts : Array TypeId} : isEff ⟨d, .call ⟨.builtin .cap, xs, ts⟩, ty, pos, af, g⟩ = false := Eq.trans rfl rfl
theorem isEff_min {xs : Array Operand} {ts : Array TypeId} : isEff ⟨d, .call ⟨.builtin .min, xs, ts⟩, ty, pos, af, g⟩ = false := Eq.trans rfl rfl
theorem isEff_max {xs : Array Operand} {ts : Array TypeId} : isEff ⟨d, .call ⟨.builtin .max, xs, ts⟩, ty, pos, af, g⟩ = false := Eq.trans rfl rfl
theorem isV_int {k : IntKind} {n : Int} : isV (.int k n) := by simp [isV, veq, veqC]
theorem isV_bool {b : Bool} : isV (.bool b) := by simp [isV, veq, veqC]
theorem isV_string {s : ByteArray} : isV (.string s) := by simp [isV, veq, veqC]
theorem isV_pointer {a : Option Addr} : isV (.pointer a) := by simp [isV, veq, veqC]
theorem isV_slice {a : Option Addr} {l c : Nat} : isV (.slice a l c) := by simp [isV, veq, veqC]
theorem isV_map {a : Option Nat} : isV (.map a) := by simp [isV, veq, veqC]
theorem isV_nif : isV .nilIface := by simp [isV, veq, veqC]
theorem isV_nilFunc : isV .nilFunc := by simp [isV, veq, veqC]
theorem isV_undef : isV undef := rfl
def isVs : List Value → Prop
  | [] => True
  | v :: l => veqC v v = true ∧ isVs l
theorem isVs_veqL : ∀ {l : List Value}, isVs l → veqL l l = true
  | [], _ => rfl
  | v :: l, h => by simp only [veqL, h.1, isVs_veqL h.2, Bool.and_self]
theorem isV_agg {l : List Value} (h : isVs l) : isV (.agg l.toArray) := isVs_veqL h
theorem isV_tuple {l : List Value} (h : isVs l) : isV (.tuple l.toArray) := isVs_veqL h
theorem isVs_nil : isVs [] := trivial
theorem isVs_int {k : IntKind} {n : Int} {l : List Value} (h : isVs l) : isVs (.int k n :: l) := ⟨by simp [veqC], h⟩
theorem isVs_bool {b : Bool} {l : List Value} (h : isVs l) : isVs (.bool b :: l) := ⟨by simp [veqC], h⟩
theorem isVs_string {s : ByteArray} {l : List Value} (h : isVs l) : isVs (.string s :: l) := ⟨by simp [veqC], h⟩
theorem isVs_pointer {a : Option Addr} {l : List Value} (h : isVs l) : isVs (.pointer a :: l) := ⟨by simp [veqC], h⟩
theorem isVs_slice {a : Option Addr} {m c : Nat} {l : List Value} (h : isVs l) : isVs (.slice a m c :: l) := ⟨by simp [veqC], h⟩
theorem isVs_map {a : Option Nat} {l : List Value} (h : isVs l) : isVs (.map a :: l) := ⟨by simp [veqC], h⟩
theorem isVs_nif {l : List Value} (h : isVs l) : isVs (.nilIface :: l) := ⟨by simp [veqC], h⟩
end
end Go.B

namespace Go.B
open Go

def Ok (H : Heap) : Prop := ∀ a, H.next ≤ a → H.get a = none
structure Same (H H' : Heap) (ps : List Nat) : Prop where
  le : H.next ≤ H'.next
  ok : Ok H'
  get : ∀ i, i < H.next → i ∉ ps → H'.get i = H.get i
  live : ∀ i, i < H.next → (H'.get i).isSome = (H.get i).isSome

theorem Same.refl {H : Heap} (ok : Ok H) : Same H H [] := ⟨Nat.le_refl _, ok, fun _ _ _ => rfl, fun _ _ => rfl⟩
theorem Same.trans {H H2 H3 : Heap} {ps qs : List Nat} (h : Same H H2 ps) (k : Same H2 H3 qs) (hs : ∀ q ∈ qs, q < H.next → q ∈ ps) : Same H H3 ps :=
  ⟨Nat.le_trans h.le k.le, k.ok, fun i hi hn => (k.get i (Nat.lt_of_lt_of_le hi h.le) (fun z => hn (hs i z hi))).trans (h.get i hi hn), fun i hi => (k.live i (Nat.lt_of_lt_of_le hi h.le)).trans (h.live i hi)⟩
theorem Same.mono {H H2 : Heap} {ps qs : List Nat} (h : Same H H2 ps) (hs : ∀ p ∈ ps, p ∈ qs) : Same H H2 qs := ⟨h.le, h.ok, fun i hi hn => h.get i hi (fun z => hn (hs i z)), h.live⟩
theorem Ok.push {H : Heap} (ok : Ok H) (o : AObj) : Ok (H.push o) := fun a ha => by
  rw [Heap.next_push] at ha
  rw [Heap.get_push, if_neg (by omega)]
  exact ok a (by omega)
theorem Ok.set {H : Heap} (ok : Ok H) {i : Nat} (o : AObj) (h : i < H.next) : Ok (H.set i o) := fun a ha => by
  rw [Heap.next_set] at ha
  rw [Heap.get_set, if_neg (by omega)]
  exact ok a ha
theorem Ok.lt {H : Heap} (ok : Ok H) {i : Nat} {o : AObj} (h : H.get i = some o) : i < H.next := by
  rcases Nat.lt_or_ge i H.next with h1 | h1
  · exact h1
  · rw [ok i h1] at h; cases h
theorem Same.push {H H2 : Heap} {ps : List Nat} (h : Same H H2 ps) (o : AObj) : Same H (H2.push o) ps :=
  ⟨Nat.le_succ_of_le h.le, h.ok.push o, fun i hi hn => by rw [Heap.get_push, if_neg (by have := h.le; omega)]; exact h.get i hi hn, fun i hi => by rw [Heap.get_push, if_neg (by have := h.le; omega)]; exact h.live i hi⟩
theorem Same.set {H H2 : Heap} {ps : List Nat} (h : Same H H2 ps) {i : Nat} {o o' : AObj} (hi : H2.get i = some o') (hn : i < H.next → i ∈ ps) : Same H (H2.set i o) ps :=
  ⟨h.le, h.ok.set o (h.ok.lt hi), fun j hj hp => by
    rw [Heap.get_set]
    split
    · rename_i e; exact absurd (hn (e ▸ hj)) (e ▸ hp)
    · exact h.get j hj hp, fun j hj => by
    rw [Heap.get_set]
    split
    · rename_i e; rw [← h.live j hj, e, hi]; rfl
    · exact h.live j hj⟩
theorem Same.keep {H H' : Heap} {ps : List Nat} (h : Same H H' ps) {base size : Nat} (hb : base + size ≤ H.next) : KeepB base size H H' := ⟨h.le, fun a ha => h.live _ (by omega)⟩

theorem Ca_fn {V : Env} {f : FuncId} {fn : Func} {args : Array Value} {H : Heap} {R : Value → Heap → Prop} (hX : V.X f = none) (hT : V.T f = some fn) (hb : fn.body.isSome = true)
    (h : W V [.code (fn.body.getD .skip)] ⟨args.size + (fn.ntmps - args.size), setArgs .nil 0 args.toList, H⟩ fun ex s => (ex = .normal ∨ ex = .ret) ∧ ∃ l, resB V.P s fn.results.toList = some l ∧ R (oneOf l) s.H) :
    ∃ v H', Ca V f args H v H' ∧ R v H' := by
  cases hc : fn.body with
  | none => rw [hc] at hb; cases hb
  | some c => rw [hc] at h; exact Ca_body hX hT hc h

def resP (P : Program) (st : St) (R : List Value → Prop) : List ResultVar → List Value → Prop
  | [], acc => R acc.reverse
  | .tmp t :: l, acc => resP P st R l (((st.t.get t).getD undef) :: acc)
  | .cell a t :: l, acc => ∃ v, loadB P st.H t ((st.t.get a).getD undef) = some v ∧ resP P st R l (v :: acc)
theorem resP_ok {P : Program} {st : St} {R : List Value → Prop} : ∀ {l : List ResultVar} {acc : List Value}, resP P st R l acc → ∃ x, resB P st l = some x ∧ R (acc.reverse ++ x) := by
  intro l
  induction l with
  | nil => intro acc h; exact ⟨[], rfl, by have h2 : R acc.reverse := h; simpa using h2⟩
  | cons r l ih =>
    intro acc h
    cases r with
    | tmp t =>
      obtain ⟨x, h1, h2⟩ := ih h
      exact ⟨_, by simp only [resB, h1, Option.map_some]; rfl, by simpa using h2⟩
    | cell a t =>
      obtain ⟨v, hv, h⟩ := h
      obtain ⟨x, h1, h2⟩ := ih h
      exact ⟨_, by simp only [resB, hv, h1, Option.map_some]; rfl, by simpa using h2⟩
def EndP (P : Program) (rs : List ResultVar) (R : Value → Heap → Prop) (st : St) : Prop := resP P st (fun l => R (oneOf l) st.H) rs []
def endQ (P : Program) (rs : List ResultVar) (R : Value → Heap → Prop) (ex : Ex) (st : St) : Prop :=
  match ex with
  | .exit _ => False
  | _ => EndP P rs R st
theorem endQ_normal {P : Program} {rs : List ResultVar} {R : Value → Heap → Prop} {st : St} : endQ P rs R .normal st = EndP P rs R st := rfl
theorem endQ_ret {P : Program} {rs : List ResultVar} {R : Value → Heap → Prop} {st : St} : endQ P rs R .ret st = EndP P rs R st := rfl
theorem EndP_def {P : Program} {rs : List ResultVar} {R : Value → Heap → Prop} {n : Nat} {t : Tr Value} {H : Heap} : EndP P rs R ⟨n, t, H⟩ = resP P ⟨n, t, H⟩ (fun l => R (oneOf l) H) rs [] := rfl
theorem resP_nil {P : Program} {st : St} {R : List Value → Prop} {acc : List Value} : resP P st R [] acc = R acc.reverse := rfl
theorem resP_tmp {P : Program} {n : Nat} {tr : Tr Value} {H : Heap} {R : List Value → Prop} {t : Nat} {l : List ResultVar} {acc : List Value} : resP P ⟨n, tr, H⟩ R (.tmp t :: l) acc = resP P ⟨n, tr, H⟩ R l (((tr.get t).getD undef) :: acc) := rfl
def cellR (P : Program) (st : St) (R : List Value → Prop) (l : List ResultVar) (acc : List Value) : Option Value → Prop
  | some v => resP P st R l (v :: acc)
  | none => False
theorem resP_cell {P : Program} {n : Nat} {tr : Tr Value} {H : Heap} {R : List Value → Prop} {a : Nat} {t : TypeId} {l : List ResultVar} {acc : List Value} : resP P ⟨n, tr, H⟩ R (.cell a t :: l) acc = cellR P ⟨n, tr, H⟩ R l acc (loadB P H t ((tr.get a).getD undef)) := by
  simp only [resP]
  unfold cellR
  cases loadB P H t ((tr.get a).getD undef) <;> simp
theorem cellR_some {P : Program} {st : St} {R : List Value → Prop} {l : List ResultVar} {acc : List Value} {v : Value} : cellR P st R l acc (some v) = resP P st R l (v :: acc) := rfl

theorem Ca_run {V : Env} {f : FuncId} {fn : Func} {args : Array Value} {H : Heap} {R : Value → Heap → Prop} (hX : V.X f = none) (hT : V.T f = some fn) (hb : fn.body.isSome = true)
    (h : W V [.code (fn.body.getD .skip)] ⟨args.size + (fn.ntmps - args.size), setArgs .nil 0 args.toList, H⟩ (endQ V.P fn.results.toList R)) : ∃ v H', Ca V f args H v H' ∧ R v H' := by
  refine Ca_fn hX hT hb ?_
  obtain ⟨ex, s, hq, hk⟩ := h
  refine ⟨ex, s, ?_, hk⟩
  cases ex with
  | exit _ => exact hq.elim
  | normal => obtain ⟨l, h1, h2⟩ := resP_ok hq; exact ⟨.inl rfl, l, h1, h2⟩
  | ret => obtain ⟨l, h1, h2⟩ := resP_ok hq; exact ⟨.inr rfl, l, h1, h2⟩
end Go.B

namespace Go.B
open Go

def fillL (pl : Nat → Option (Nat × Nat)) (c : List Value) : List (Nat × Value) → Option (List Value)
  | [] => some c
  | (i, v) :: r => match pl i with
    | none => none
    | some (off, size) => if v.cells.size = size ∧ off + size ≤ c.length then fillL pl (setCells c off v.cells.toList) r else none

theorem foldl_set (l : List Value) : ∀ (c : Array Value) (o k : Nat), ((l.zipIdx k).foldl (fun cs (x : Value × Nat) => cs.setIfInBounds (o + x.2) x.1) c) = (setCells c.toList (o + k) l).toArray := by
  induction l with
  | nil => intro c o k; simp [setCells]
  | cons v l ih =>
    intro c o k
    simp only [List.zipIdx_cons, List.foldl_cons, setCells]
    rw [ih]
    simp [Nat.add_assoc]

theorem fill_list {pl : Nat → Option (Nat × Nat)} : ∀ {ps : List (Nat × Value)} {c : List Value}, Instr.fill pl c.toArray ps = (fillL pl c ps).map List.toArray := by
  intro ps
  induction ps with
  | nil => intro c; rfl
  | cons p ps ih =>
    intro c
    obtain ⟨i, v⟩ := p
    simp only [Instr.fill, fillL]
    cases pl i with
    | none => rfl
    | some q =>
      obtain ⟨off, size⟩ := q
      simp only
      by_cases h : v.cells.size = size ∧ off + size ≤ c.length
      · rw [if_pos h, if_neg (by simp; omega), ← ih]
        congr 1
        have := foldl_set v.cells.toList c.toArray off 0
        simp only [Nat.add_zero] at this
        rw [← this]
        rw [← Array.toList_zipIdx, Array.foldl_toList]
      · rw [if_neg h, if_pos (by simp; omega)]
        rfl

theorem fillL_nil {pl : Nat → Option (Nat × Nat)} {c : List Value} : fillL pl c [] = some c := rfl
def fillV (pl : Nat → Option (Nat × Nat)) (c : List Value) (v : Value) (r : List (Nat × Value)) : Option (Nat × Nat) → Option (List Value)
  | none => none
  | some (off, size) => if v.cells.size = size ∧ off + size ≤ c.length then fillL pl (setCells c off v.cells.toList) r else none
theorem fillL_cons {pl : Nat → Option (Nat × Nat)} {c : List Value} {i : Nat} {v : Value} {r : List (Nat × Value)} : fillL pl c ((i, v) :: r) = fillV pl c v r (pl i) := by
  simp only [fillL]
  unfold fillV
  cases pl i <;> rfl
theorem fillV_some {pl : Nat → Option (Nat × Nat)} {c : List Value} {v : Value} {r : List (Nat × Value)} {off size : Nat} : fillV pl c v r (some (off, size)) = if v.cells.size = size ∧ off + size ≤ c.length then fillL pl (setCells c off v.cells.toList) r else none := rfl

def bldV (ps : List (Nat × Value)) : Option Value → Option (Nat → Option (Nat × Nat)) → Option Value
  | some z, some pl => if isScalA z then (fillL pl z.cells.toList ps).map fun l => .agg l.toArray else none
  | _, _ => none
theorem buildB_eq {P : Program} {t : TypeId} {ps : List (Nat × Value)} : buildB P t ps = bldV ps (zeroOf P t) (placesB P t) := by
  unfold buildB bldV
  cases zeroOf P t with
  | none => rfl
  | some z =>
    cases placesB P t with
    | none => rfl
    | some pl =>
      simp only
      split
      · have := fill_list (pl := pl) (ps := ps) (c := z.cells.toList)
        rw [show z.cells.toList.toArray = z.cells from by simp] at this
        rw [this]
        cases fillL pl z.cells.toList ps <;> rfl
      · rfl
theorem bldV_some {ps : List (Nat × Value)} {z : Value} {pl : Nat → Option (Nat × Nat)} : bldV ps (some z) (some pl) = if isScalA z then (fillL pl z.cells.toList ps).map fun l => .agg l.toArray else none := rfl

def zrep : Nat → List Value → List Value
  | 0, _ => []
  | n + 1, z => z ++ zrep n z
theorem zrep_length : ∀ (n : Nat) (z : List Value), (zrep n z).length = n * z.length
  | 0, z => by simp [zrep]
  | n + 1, z => by simp [zrep, zrep_length n z, Nat.succ_mul, Nat.add_comm]
theorem zrep_get : ∀ (n : Nat) (z : List Value) (i : Nat), i < n * z.length → (zrep n z)[i]? = z[i % z.length]?
  | 0, z, i, h => by simp at h
  | n + 1, z, i, h => by
    rw [Nat.succ_mul] at h
    simp only [zrep]
    by_cases hi : i < z.length
    · rw [List.getElem?_append_left hi, Nat.mod_eq_of_lt hi]
    · rw [List.getElem?_append_right (by omega), zrep_get n z (i - z.length) (by omega), ← Nat.mod_eq_sub_mod (by omega)]
theorem zeros_list (n : Nat) (z : Array Value) : ((Array.range (n * z.size)).map (z[· % z.size]!)).toList = zrep n z.toList := by
  apply List.ext_getElem?
  intro i
  by_cases h : i < n * z.size
  · rw [zrep_get n z.toList i (by simpa using h)]
    have hz : 0 < z.size := by
      rcases Nat.eq_zero_or_pos z.size with h0 | h0
      · rw [h0] at h; simp at h
      · exact h0
    have hm : i % z.size < z.size := Nat.mod_lt _ hz
    have e1 : z.toList.length = z.size := by simp
    rw [e1]
    rw [List.getElem?_eq_getElem (by simpa using h), List.getElem?_eq_getElem (by simpa using hm)]
    simp only [Array.getElem_toList, Array.getElem_map, Array.getElem_range]
    rw [getElem!_pos z (i % z.size) hm]
  · rw [List.getElem?_eq_none (by simp; omega), List.getElem?_eq_none (by rw [zrep_length]; simp; omega)]
theorem zrep_zero {z : List Value} : zrep 0 z = [] := rfl
theorem zrep_succ {n : Nat} {z : List Value} : zrep (n + 1) z = z ++ zrep n z := rfl

def bslV (j : Nat) (len : Nat) (ps : List (Nat × Value)) (elem : TypeId) : Option Nat → Option Value → Option (Value × AObj)
  | some size, some z => if isScalA z = true ∧ len * size ≤ 2 ^ 24 ∧ z.cells.size = size then
      (fillL (fun i => some (i * size, size)) (zrep len z.cells.toList) ps).map fun cs => (.slice (some ⟨j, 0, none⟩) len len, .cells cs elem false)
    else none
  | _, _ => none
theorem buildSliceB_eq {P : Program} {t elem : TypeId} (hu : P.underlying t = some (.slice elem)) {j len : Nat} {ps : List (Nat × Value)} : buildSliceB P j t len ps = bslV j len ps elem (szOf P elem) (zeroOf P elem) := by
  unfold buildSliceB bslV
  rw [hu]
  simp only
  cases szOf P elem with
  | none => rfl
  | some size =>
    cases zeroOf P elem with
    | none => rfl
    | some z =>
      simp only
      split
      · rename_i h
        have h2 := zeros_list len z.cells
        rw [h.2.2] at h2
        have h3 := fill_list (pl := fun i => some (i * size, size)) (ps := ps) (c := zrep len z.cells.toList)
        rw [← h2] at h3
        have h4 : ((Array.range (len * size)).map (z.cells[· % z.cells.size]!)) = (((Array.range (len * size)).map (z.cells[· % size]!)).toList).toArray := by rw [h.2.2, Array.toArray_toList]
        rw [h4, h3, h2]
        cases fillL (fun i => some (i * size, size)) (zrep len z.cells.toList) ps <;> simp
      · rfl
theorem bslV_some {j len size : Nat} {ps : List (Nat × Value)} {elem : TypeId} {z : Value} : bslV j len ps elem (some size) (some z) = if isScalA z = true ∧ len * size ≤ 2 ^ 24 ∧ z.cells.size = size then
      (fillL (fun i => some (i * size, size)) (zrep len z.cells.toList) ps).map fun cs => (.slice (some ⟨j, 0, none⟩) len len, .cells cs elem false)
    else none := rfl

theorem indexAddr_slice {P : Program} {t elem : TypeId} {b o len cap : Nat} {k : IntKind} {i : Int} (hu : P.underlying t = some (.slice elem)) : indexAddrB P t (.slice (some ⟨b, o, none⟩) len cap) (.int k i) = if 0 ≤ i ∧ i < len then (szOf P elem).map fun n => .pointer (some ⟨b, o + i.toNat * n, none⟩) else none := by
  unfold indexAddrB; rw [hu]
theorem indexAddr_array {P : Program} {t elem : TypeId} {b o len : Nat} {k : IntKind} {i : Int} (hu : P.underlying t = some (.array len elem)) : indexAddrB P t (.pointer (some ⟨b, o, none⟩)) (.int k i) = if 0 ≤ i ∧ i < len then (szOf P elem).map fun n => .pointer (some ⟨b, o + i.toNat * n, none⟩) else none := by
  unfold indexAddrB; rw [hu]
theorem index_array {P : Program} {t elem : TypeId} {len : Nat} {cs : Array Value} {k : IntKind} {i : Int} (hu : P.underlying t = some (.array len elem)) : indexB P t (.agg cs) (.int k i) = if 0 ≤ i ∧ i < len then (szOf P elem).bind fun n => partB P elem cs (i.toNat * n) else none := by
  unfold indexB; rw [hu]
theorem index_string {P : Program} {t : TypeId} {s : ByteArray} {k : IntKind} {i : Int} (hu : P.underlying t = some .string) : indexB P t (.string s) (.int k i) = if 0 ≤ i then (s[i.toNat]?).map fun b => .int .u8 b.toNat else none := by
  unfold indexB; rw [hu]

def cutV (P : Program) (i o size l h : Nat) (cap : Nat) : Option AObj → Option Value
  | some (.cells _ e _) => if szOf P e = some size then some (.slice (some ⟨i, o + l * size, none⟩) (h - l) cap) else none
  | _ => none
theorem sliceB_cut {P : Program} {H : Heap} {t elem : TypeId} {i o len cap : Nat} {lo hi : Option Value} {l h size : Nat} (hu : P.underlying t = some (.slice elem)) (hs : szOf P elem = some size) (hl : boundB lo 0 = some l) (hh : boundB hi len = some h) (h1 : l ≤ h) (h2 : h ≤ len) :
    sliceB P H t (.slice (some ⟨i, o, none⟩) len cap) lo hi none = cutV P i o size l h (if cap = capU then capU else cap - l) (H.get i) := by
  have hm : boundB none cap = some cap := rfl
  unfold sliceB
  rw [hu]
  simp only [hs, hl, hh, hm, h1, h2, Option.isNone_none, true_and, true_or, and_self, if_true]
  unfold cutV
  cases H.get i with
  | none => rfl
  | some x => cases x <;> rfl
theorem sliceB_nil {P : Program} {H : Heap} {t elem : TypeId} {lo hi : Option Value} {l h size : Nat} (hu : P.underlying t = some (.slice elem)) (hs : szOf P elem = some size) (hl : boundB lo 0 = some l) (hh : boundB hi 0 = some h) (h1 : l ≤ h) (h2 : h ≤ 0) :
    sliceB P H t (.slice none 0 0) lo hi none = some (.slice none 0 0) := by
  have hm : boundB none 0 = some 0 := rfl
  unfold sliceB
  rw [hu]
  simp only [hs, hl, hh, hm, h1, h2, Option.isNone_none, true_and, true_or, and_self, if_true]
theorem boundB_none {d : Nat} : boundB none d = some d := rfl
theorem boundB_int {k : IntKind} {n : Int} {d : Nat} : boundB (some (.int k n)) d = if 0 ≤ n then some n.toNat else none := rfl
theorem cutV_cells {P : Program} {i o size l h cap : Nat} {c : List Value} {e : TypeId} {ro : Bool} : cutV P i o size l h cap (some (.cells c e ro)) = if szOf P e = some size then some (.slice (some ⟨i, o + l * size, none⟩) (h - l) cap) else none := rfl
theorem strSlice_eq {P : Program} {t : TypeId} {s : ByteArray} {lo hi : Option Value} {l h : Nat} (hu : P.underlying t = some .string) (hl : boundB lo 0 = some l) (hh : boundB hi s.size = some h) (h1 : l ≤ h) (h2 : h ≤ s.size) : strSliceB P t s lo hi none = some (.string (s.extract l h)) := by
  unfold strSliceB; simp only [hu, hl, hh, h1, h2, and_self, if_true]

theorem append_nil {P : Program} {H : Heap} {t elem : TypeId} {x : Value} {l c size bytes n : Nat} {z : Value} {new : List Value} (hu : P.underlying t = some (.slice elem)) (hs : szOf P elem = some size) (hb : byOf P elem = some bytes) (hz : zeroOf P elem = some z) (hn : lenB x = some n)
    (h0 : l = 0) (hf : firstB H size n x = some new) (hpos : n ≠ 0) (hle : n ≤ 2 ^ 30) (hby : bytes ≤ 2 ^ 16) (hok : new.all cellOk = true) (hzs : z.cells.size = size) :
    appendB P H t (.slice none l c) x = some (.slice (some ⟨H.next, 0, none⟩) n capU, H.push (.cells new elem false)) := by
  subst h0
  have ho : firstB H size 0 (.slice none 0 c) = some [] := rfl
  unfold appendB
  simp only [hu, hs, hb, hz, hn, ho, and_self, if_true, hf, if_neg hpos, Nat.zero_add, hle, hby, hok, hzs]
theorem append_none {P : Program} {H : Heap} {t elem : TypeId} {s : Value} {b : Option Addr} {l c size bytes : Nat} {x : Value} {z : Value} {old : List Value} (hu : P.underlying t = some (.slice elem)) (hs : szOf P elem = some size) (hb : byOf P elem = some bytes) (hz : zeroOf P elem = some z) (hn : lenB x = some 0)
    (e : s = .slice b l c) (ho : firstB H size l s = some old) (hf : firstB H size 0 x = some []) : appendB P H t s x = some (s, H) := by
  subst e
  unfold appendB
  simp only [hu, hs, hb, hz, hn, ho, hf, if_true]
theorem append_more {P : Program} {H : Heap} {t elem : TypeId} {a : Addr} {x : Value} {l size bytes n : Nat} {z : Value} {old new c : List Value} {ro : Bool} (hu : P.underlying t = some (.slice elem)) (hs : szOf P elem = some size) (hb : byOf P elem = some bytes) (hz : zeroOf P elem = some z) (hn : lenB x = some n)
    (ho : firstB H size l (.slice (some a) l capU) = some old) (hf : firstB H size n x = some new) (hpos : n ≠ 0) (hle : l + n ≤ 2 ^ 30) (hby : bytes ≤ 2 ^ 16) (hok : new.all cellOk = true) (hzs : z.cells.size = size) (hg : H.get a.block = some (.cells c elem false)) :
    appendB P H t (.slice (some a) l capU) x = some (.slice (some ⟨H.next, 0, none⟩) (l + n) capU, (H.set a.block .dead).push (.cells (old ++ new) elem false)) := by
  unfold appendB
  have hne : ¬ capU = l := by unfold capU; omega
  simp only [hu, hs, hb, hz, hn, ho, hf, if_neg hpos, hle, hby, hok, hzs, and_self, if_true, if_neg hne, hg]
theorem append_full {P : Program} {H : Heap} {t elem : TypeId} {a : Addr} {x : Value} {l size bytes n : Nat} {z : Value} {old new : List Value} (hu : P.underlying t = some (.slice elem)) (hs : szOf P elem = some size) (hb : byOf P elem = some bytes) (hz : zeroOf P elem = some z) (hn : lenB x = some n)
    (ho : firstB H size l (.slice (some a) l l) = some old) (hf : firstB H size n x = some new) (hpos : n ≠ 0) (hle : l + n ≤ 2 ^ 30) (hby : bytes ≤ 2 ^ 16) (hok : new.all cellOk = true) (hzs : z.cells.size = size) :
    appendB P H t (.slice (some a) l l) x = some (.slice (some ⟨H.next, 0, none⟩) (l + n) capU, H.push (.cells (old ++ new) elem false)) := by
  unfold appendB
  simp only [hu, hs, hb, hz, hn, ho, hf, if_neg hpos, hle, hby, hok, hzs, and_self, if_true]
theorem firstB_slice {H : Heap} {size n i o l c : Nat} : firstB H size n (.slice (some ⟨i, o, none⟩) l c) = if n ≤ l then (if n = 0 then some [] else getCells H i o (n * size)) else none := rfl
theorem firstB_string {H : Heap} {size n : Nat} {s : ByteArray} : firstB H size n (.string s) = if n ≤ s.size ∧ size = 1 then some ((s.extract 0 n).data.toList.map fun b => .int .u8 b.toNat) else none := rfl
theorem firstB_nil {H : Heap} {size n l c : Nat} : firstB H size n (.slice none l c) = if n = 0 ∧ l = 0 then some [] else none := rfl
theorem lenB_slice {a : Option Addr} {n c : Nat} : lenB (.slice a n c) = some n := rfl
theorem lenB_string {s : ByteArray} : lenB (.string s) = some s.size := rfl

theorem builtinB_append {P : Program} {H : Heap} {t xt : TypeId} {s x : Value} (h : appendable P xt = true) : builtinB P H .append #[t, xt] [s, x] = appendB P H t s x := by
  simp [builtinB, h]
theorem builtinB_len {P : Program} {H : Heap} {t : TypeId} {x : Value} : builtinB P H .len #[t] [x] = (lenIn P H t x).map fun n => (goInt n, H) := by
  simp [builtinB]
theorem builtinB_copy {P : Program} {H : Heap} {t xt : TypeId} {s x : Value} : builtinB P H .copy #[t, xt] [s, x] = copyB P H t s x := by
  simp [builtinB]
theorem lenIn_string {P : Program} {H : Heap} {t : TypeId} {s : ByteArray} (hu : P.underlying t = some .string) : lenIn P H t (.string s) = some (s.size : Int) := by unfold lenIn; rw [hu]
theorem lenIn_slice {P : Program} {H : Heap} {t e : TypeId} {a : Option Addr} {n c : Nat} (hu : P.underlying t = some (.slice e)) : lenIn P H t (.slice a n c) = some (n : Int) := by unfold lenIn; rw [hu]
theorem lenIn_array {P : Program} {H : Heap} {t e : TypeId} {n : Nat} {x : Value} (hu : P.underlying t = some (.array n e)) : lenIn P H t x = some (n : Int) := by unfold lenIn; rw [hu]

section
variable {P : Program} {e : Operand → Value} {H : Heap} {d : Option Tmp} {ty : TypeId} {pos : String} {af : Array Edge} {g : Option (Nat × Bool)}

def cvV (P : Program) (H : Heap) (src dst : TypeId) (x : Value) : Option Res := convertB P H src dst x (do pure (Next.value (← convert src dst x)))
theorem aopF_convert {src dst : TypeId} {x : Operand} : aopF P e ⟨d, .convert src dst x, ty, pos, af, g⟩ H = cvV P H src dst (e x) := rfl
theorem bytesB_int {j : Nat} {src dst : TypeId} {k : IntKind} {n : Int} : bytesB P j src dst (.int k n) = none := by unfold bytesB; split <;> simp_all
theorem bytesB_slice {j : Nat} {src dst : TypeId} {a : Option Addr} {n c : Nat} : bytesB P j src dst (.slice a n c) = none := by unfold bytesB; split <;> simp_all
theorem bytesB_string {j : Nat} {src dst el : TypeId} {s : ByteArray} (h1 : P.underlying src = some .string) (h2 : P.underlying dst = some (.slice el)) (h3 : u8T P el = true) (h4 : szOf P el = some 1) : bytesB P j src dst (.string s) = some (.slice (some ⟨j, 0, none⟩) s.size capU, .cells (s.data.toList.map fun b => .int .u8 b.toNat) el false) := by
  unfold bytesB; rw [h1, h2]; simp only [h3, h4, and_self, if_true]
theorem runP_und {t : TypeId} {D : TypeDesc} (h : P.underlying t = some D) : runP P (underlying t) = some D := by
  unfold underlying
  rw [runP_bind]
  have : runP P program = some P := rfl
  rw [this]
  simp only [Option.bind_some, h]
  rfl
theorem cvV_int {src dst : TypeId} {k k0 : IntKind} {n : Int} {D : TypeDesc} (h1 : P.underlying src = some D) (h2 : P.underlying dst = some (.int k)) : cvV P H src dst (.int k0 n) = some (.val (.int k (k.wrap n)) H) := by
  have hr : runP P (do pure (Next.value (← convert src dst (.int k0 n)))) = some (.value (.int k (k.wrap n))) := by
    rw [runP_bind]
    have : runP P (convert src dst (.int k0 n)) = some (.int k (k.wrap n)) := by
      unfold convert
      rw [runP_bind, runP_und h1]
      simp only [Option.bind_some]
      rw [runP_bind, runP_und h2]
      simp only [Option.bind_some]
      rfl
    rw [this]; rfl
  have hp : (if isScalA (.int k0 n) = true then pureB P (do pure (Next.value (← convert src dst (.int k0 n)))) H else none) = some (.val (.int k (k.wrap n)) H) := by
    rw [show isScalA (.int k0 n) = true from rfl, if_pos rfl]
    unfold pureB
    rw [hr]
    rfl
  unfold cvV convertB
  simp only [h1, h2]
  cases D <;> exact hp
theorem cvV_bytes {src dst el : TypeId} {a : Option Addr} {len c : Nat} {l : List Value} {bs : List UInt8} (h1 : P.underlying src = some (.slice el)) (h2 : P.underlying dst = some .string) (h3 : u8T P el = true) (h4 : firstB H 1 len (.slice a len c) = some l) (h5 : bytesOf l = some bs) : cvV P H src dst (.slice a len c) = some (.val (.string ⟨bs.toArray⟩) H) := by
  unfold cvV convertB
  simp only [h1, h2, h3, h4, h5, if_true, Option.map_some]

theorem binV_shr {t : TypeId} {x y : Operand} {k k' : IntKind} {a b : Int} (hb : 0 ≤ b) : binV P H .shr t x y (.int k a) (.int k' b) = some (.val (.int k (a.fdiv (2 ^ (min b.toNat k.bits)))) H) := by
  refine binV_eq nilEq_int rfl rfl ?_ rfl
  simp only [binOp, Op.shift]
  rw [if_neg (by omega)]
  rfl
theorem binV_shl {t : TypeId} {x y : Operand} {k k' : IntKind} {a b : Int} (hb : 0 ≤ b) : binV P H .shl t x y (.int k a) (.int k' b) = some (.val (.int k (k.wrap (a * 2 ^ (min b.toNat k.bits)))) H) := by
  refine binV_eq nilEq_int rfl rfl ?_ rfl
  simp only [binOp, Op.shift]
  rw [if_neg (by omega)]
  rfl
theorem binV_bneq {t : TypeId} {x y : Operand} {a b : Bool} (hu : P.underlying t = some .bool) : binV P H .neq t x y (.bool a) (.bool b) = some (.val (.bool (a != b)) H) := by
  refine binV_eq nilEq_bool rfl rfl ?_ rfl
  simp only [binOp]
  rw [runP_bind]
  have : runP P (Op.equal t (.bool a) (.bool b)) = some (a == b) := by
    unfold Op.equal Op.maxDepth Op.equalIn
    rw [runP_bind, runP_und hu]
    rfl
  rw [this]
  rfl
theorem runP_ret {α : Type} {a : α} : runP P (pure a) = some a := rfl
theorem nilEq_iface {t : TypeId} {b : Value} : nilEq P t .nilIface .nilIface = none := by unfold nilEq; split <;> rfl
theorem aopF_min {x y : Operand} {ats : Array TypeId} {k : IntKind} {a b : Int} (hx : e x = .int k a) (hy : e y = .int k b) :
    aopF P e ⟨d, .call ⟨.builtin .min, #[x, y], ats⟩, ty, pos, af, g⟩ H = some (.val (.int k (if b < a then b else a)) H) := by
  simp only [aopF]
  have hs : (#[x, y].toList.all fun x => isScalA (e x)) = true := by simp [hx, hy, isScalA, isScal]
  rw [hs, if_pos rfl]
  unfold pureB
  have hr : runP P (execOp e ⟨d, .call ⟨.builtin .min, #[x, y], ats⟩, ty, pos, af, g⟩) = some (.value (.int k (if b < a then b else a))) := by
    simp only [execOp, resolve]
    rw [runP_bind]
    rw [runP_ret]
    simp only [Option.bind_some, invoke, builtin]
    rw [runP_bind]
    have h2 : runP P (Builtin.min_ ats ty (#[x, y].map e)) = some (.int k (if b < a then b else a)) := by
      unfold Builtin.min_
      simp only [List.map_toArray, List.map_cons, List.map_nil, hx, hy]
      rfl
    rw [h2]; rfl
  rw [hr]
  rfl
theorem aopF_max {x y : Operand} {ats : Array TypeId} {k : IntKind} {a b : Int} (hx : e x = .int k a) (hy : e y = .int k b) :
    aopF P e ⟨d, .call ⟨.builtin .max, #[x, y], ats⟩, ty, pos, af, g⟩ H = some (.val (.int k (if b > a then b else a)) H) := by
  simp only [aopF]
  have hs : (#[x, y].toList.all fun x => isScalA (e x)) = true := by simp [hx, hy, isScalA, isScal]
  rw [hs, if_pos rfl]
  unfold pureB
  have hr : runP P (execOp e ⟨d, .call ⟨.builtin .max, #[x, y], ats⟩, ty, pos, af, g⟩) = some (.value (.int k (if b > a then b else a))) := by
    simp only [execOp, resolve]
    rw [runP_bind]
    rw [runP_ret]
    simp only [Option.bind_some, invoke, builtin]
    rw [runP_bind]
    have h2 : runP P (Builtin.max_ ats ty (#[x, y].map e)) = some (.int k (if b > a then b else a)) := by
      unfold Builtin.max_
      simp only [List.map_toArray, List.map_cons, List.map_nil, hx, hy]
      rfl
    rw [h2]; rfl
  rw [hr]
  rfl
end


def cutW (P : Program) (size i o len cap : Nat) (ob : Option AObj) : Option Nat → Option Nat → Option Value
  | some l, some h => if l ≤ h ∧ h ≤ len then cutV P i o size l h (if cap = capU then capU else cap - l) ob else none
  | _, _ => none
theorem sliceB_eq {P : Program} {H : Heap} {t elem : TypeId} {i o len cap : Nat} {lo hi : Option Value} {size : Nat} (hu : P.underlying t = some (.slice elem)) (hs : szOf P elem = some size) :
    sliceB P H t (.slice (some ⟨i, o, none⟩) len cap) lo hi none = cutW P size i o len cap (H.get i) (boundB lo 0) (boundB hi len) := by
  have hm : boundB none cap = some cap := rfl
  unfold sliceB cutW
  rw [hu]
  simp only [hs, hm, Option.isNone_none, true_and, true_or, and_true, if_true]
  cases boundB lo 0 with
  | none => rfl
  | some l =>
    cases boundB hi len with
    | none => rfl
    | some h =>
      simp only
      split
      · unfold cutV
        cases H.get i with
        | none => rfl
        | some x => cases x <;> rfl
      · rfl
theorem cutW_some {P : Program} {size i o len cap l h : Nat} {ob : Option AObj} : cutW P size i o len cap ob (some l) (some h) = if l ≤ h ∧ h ≤ len then cutV P i o size l h (if cap = capU then capU else cap - l) ob else none := rfl
def strW (s : ByteArray) : Option Nat → Option Nat → Option Value
  | some l, some h => if l ≤ h ∧ h ≤ s.size then some (.string (s.extract l h)) else none
  | _, _ => none
theorem strSliceB_eq {P : Program} {t : TypeId} {s : ByteArray} {lo hi : Option Value} (hu : P.underlying t = some .string) : strSliceB P t s lo hi none = strW s (boundB lo 0) (boundB hi s.size) := by
  unfold strSliceB strW
  simp only [hu]
  cases boundB lo 0 with
  | none => rfl
  | some l => cases boundB hi s.size <;> rfl
theorem strW_some {s : ByteArray} {l h : Nat} : strW s (some l) (some h) = if l ≤ h ∧ h ≤ s.size then some (.string (s.extract l h)) else none := rfl

def firstO (H : Heap) (size : Nat) (x : Value) : Option Nat → Option (List Value)
  | some n => firstB H size n x
  | none => none
theorem firstO_some {H : Heap} {size n : Nat} {x : Value} : firstO H size x (some n) = firstB H size n x := rfl
def apX (H : Heap) (b l n : Nat) (elem : TypeId) (c : Nat) (row : List Value) : Option AObj → Option (Value × Heap)
  | some (.cells _ e false) => if e = elem ∧ c = capU then some (.slice (some ⟨H.next, 0, none⟩) (l + n) capU, (H.set b .dead).push (.cells row elem false)) else none
  | _ => none
def apW (H : Heap) (l n : Nat) (elem : TypeId) (c : Nat) (old new : List Value) : Option Addr → Option (Value × Heap)
  | none => some (.slice (some ⟨H.next, 0, none⟩) n capU, H.push (.cells new elem false))
  | some a => if c = l then some (.slice (some ⟨H.next, 0, none⟩) (l + n) capU, H.push (.cells (old ++ new) elem false)) else apX H a.block l n elem c (old ++ new) (H.get a.block)
def apV (H : Heap) (base : Option Addr) (l c : Nat) (elem : TypeId) : Option (List Value) → Option Nat → Option (List Value) → Option (Value × Heap)
  | some old, some n, some new => if n = 0 then some (.slice base l c, H) else if l + n ≤ 2 ^ 30 ∧ new.all cellOk = true then apW H l n elem c old new base else none
  | _, _, _ => none
theorem appendB_eq {P : Program} {H : Heap} {t elem : TypeId} {base : Option Addr} {x : Value} {l c size bytes : Nat} {z : Value} (hu : P.underlying t = some (.slice elem)) (hs : szOf P elem = some size) (hb : byOf P elem = some bytes) (hz : zeroOf P elem = some z) (hby : bytes ≤ 2 ^ 16) (hzs : z.cells.size = size) :
    appendB P H t (.slice base l c) x = apV H base l c elem (firstB H size l (.slice base l c)) (lenB x) (firstO H size x (lenB x)) := by
  unfold appendB apV
  simp only [hu, hs, hb, hz]
  cases lenB x with
  | none => cases firstB H size l (.slice base l c) <;> rfl
  | some n =>
    simp only [firstO]
    cases firstB H size l (.slice base l c) with
    | none => rfl
    | some old =>
      cases firstB H size n x with
      | none => rfl
      | some new =>
        simp only [hby, hzs, true_and, and_true]
        by_cases hn : n = 0
        · rw [if_pos hn, if_pos hn]
        · rw [if_neg hn, if_neg hn]
          split
          · cases base with
            | none => rfl
            | some a =>
              unfold apW
              simp only
              split
              · rfl
              · unfold apX
                cases H.get a.block with
                | none => rfl
                | some ob =>
                  cases ob with
                  | cells c2 e ro => cases ro <;> rfl
                  | map _ _ => rfl
                  | dead => rfl
          · rfl
theorem apV_some {H : Heap} {base : Option Addr} {l c n : Nat} {elem : TypeId} {old new : List Value} : apV H base l c elem (some old) (some n) (some new) = if n = 0 then some (.slice base l c, H) else if l + n ≤ 2 ^ 30 ∧ new.all cellOk = true then apW H l n elem c old new base else none := rfl
theorem apW_none {H : Heap} {l n c : Nat} {elem : TypeId} {old new : List Value} : apW H l n elem c old new none = some (.slice (some ⟨H.next, 0, none⟩) n capU, H.push (.cells new elem false)) := rfl
theorem apW_some {H : Heap} {l n c : Nat} {elem : TypeId} {old new : List Value} {a : Addr} : apW H l n elem c old new (some a) = if c = l then some (.slice (some ⟨H.next, 0, none⟩) (l + n) capU, H.push (.cells (old ++ new) elem false)) else apX H a.block l n elem c (old ++ new) (H.get a.block) := rfl
theorem apX_cells {H : Heap} {b l n c : Nat} {elem e : TypeId} {row c2 : List Value} : apX H b l n elem c row (some (.cells c2 e false)) = if e = elem ∧ c = capU then some (.slice (some ⟨H.next, 0, none⟩) (l + n) capU, (H.set b .dead).push (.cells row elem false)) else none := rfl

end Go.B

namespace Go.B
open Go
variable {P : Program}

theorem runP_isAgg {t : TypeId} {b : Bool} (h : aggOf P t = some b) : runP P (isAgg t) = some b := by
  unfold isAgg
  rw [runP_bind, runP_underlying]
  unfold aggOf at h
  obtain ⟨d, hd, hb⟩ := Option.map_eq_some_iff.mp h
  rw [hd]
  cases d <;> simp at hb <;> subst hb <;> rfl

theorem runP_sizeOf {t : TypeId} {n : Nat} (h : szOf P t = some n) : runP P (sizeOf t) = some n := by
  unfold szOf at h
  obtain ⟨i, hi, rfl⟩ := Option.map_eq_some_iff.mp h
  unfold sizeOf typeInfo
  rw [runP_bind, runP_bind]
  show ((some P).bind fun a => _).bind _ = _
  simp only [Option.bind_some, hi]
  rfl

theorem runP_part {t : TypeId} {cs : Array Value} {off : Nat} {v : Value} (h : partB P t cs off = some v) : runP P (part t cs off) = some v := by
  unfold partB at h
  unfold part
  split at h
  · rename_i n ha hn
    split at h
    · cases h
      rw [runP_bind, runP_isAgg ha]
      simp only [Option.bind_some, if_true]
      rw [runP_bind, runP_sizeOf hn]
      have : cs.extract off (off + n) = ((cs.toList.drop off).take n).toArray := by
        apply Array.ext'
        simp
      rw [← this]
      rfl
    · cases h
  · rename_i ha
    rw [runP_bind, runP_isAgg ha]
    simp only [Option.bind_some, Bool.false_eq_true, if_false, h]
    rfl
  · cases h

def lazyAnd : Option Bool → Option Bool → Option Bool
  | some true, r => r
  | some false, _ => some false
  | none, _ => none
theorem lazyAnd_some {a b : Bool} : lazyAnd (some a) (some b) = some (a && b) := by cases a <;> rfl
def allO : List (Option Bool) → Option Bool
  | [] => some true
  | x :: l => lazyAnd x (allO l)
theorem allO_nil : allO [] = some true := rfl
theorem allO_cons {x : Option Bool} {l : List (Option Bool)} : allO (x :: l) = lazyAnd x (allO l) := rfl

theorem forIn_allO {α : Type} {body : α → Option Bool × Unit → Sem (ForInStep (Option Bool × Unit))} {g : α → Option Bool} (h : ∀ a s, runP P (body a s) = (g a).map fun b => if b then ForInStep.yield (none, ()) else ForInStep.done (some false, ())) :
    ∀ l : List α, runP P (forIn l ((none, ()) : Option Bool × Unit) body) = (allO (l.map g)).map fun b => if b then (none, ()) else (some false, ()) := by
  intro l
  induction l with
  | nil => rfl
  | cons a l ih =>
    rw [List.forIn_cons, runP_bind, h]
    simp only [List.map_cons, allO]
    cases g a with
    | none => rfl
    | some b =>
      cases b with
      | true => simp only [Option.map_some, if_true, Option.bind_some, lazyAnd]; exact ih
      | false => rfl

def fldEq (P : Program) (d : Nat) (xs ys : Array Value) (f : Field) : Option Bool :=
  if f.name ≠ "_" then (partB P f.type xs f.offset).bind fun a => (partB P f.type ys f.offset).bind fun b => runP P (Op.equalIn d f.type a b) else some true

theorem eqStruct {t : TypeId} {fs : Array Field} {d : Nat} {xs ys : Array Value} {r : Bool} (hu : P.underlying t = some (.struct fs)) (hst : P.stoodInHeld t = false) (h : allO (fs.toList.map (fldEq P d xs ys)) = some r) : runP P (Op.equalIn (d + 1) t (.agg xs) (.agg ys)) = some r := by
  unfold Op.equalIn
  rw [runP_bind, runP_und hu]
  simp only [Option.bind_some]
  rw [runP_bind]
  have : runP P program = some P := rfl
  rw [this]
  simp only [Option.bind_some, hst, Bool.false_eq_true, if_false]
  rw [runP_bind, ← Array.forIn_toList]
  have key : ∀ (l : List Field) (r : Bool), allO (l.map (fldEq P d xs ys)) = some r → runP P (forIn l ((none, ()) : Option Bool × Unit) (fun f __s =>
            if f.name ≠ "_" then do
              let __do_lift ← part f.type xs f.offset
              let __do_lift_1 ← part f.type ys f.offset
              let __do_lift ← Op.equalIn d f.type __do_lift __do_lift_1
              if (!__do_lift) = true then pure (ForInStep.done (some false, ())) else pure (ForInStep.yield (none, ()))
            else pure (ForInStep.yield (none, ())))) = some (if r then (none, ()) else (some false, ())) := by
    intro l
    induction l with
    | nil => intro r h; cases h; rfl
    | cons f l ih =>
      intro r h
      simp only [List.map_cons, allO] at h
      rw [List.forIn_cons, runP_bind]
      unfold fldEq at h
      by_cases hn : f.name ≠ "_"
      · rw [if_pos hn] at h
        simp only [if_pos hn]
        cases ha : partB P f.type xs f.offset with
        | none => rw [ha] at h; cases h
        | some a =>
          cases hb : partB P f.type ys f.offset with
          | none => rw [ha, hb] at h; cases h
          | some b =>
            rw [ha, hb] at h
            simp only [Option.bind_some] at h
            rw [runP_bind, runP_part ha]
            simp only [Option.bind_some]
            rw [runP_bind, runP_part hb]
            simp only [Option.bind_some]
            rw [runP_bind]
            cases hc : runP P (Op.equalIn d f.type a b) with
            | none => rw [hc] at h; cases h
            | some c =>
              rw [hc] at h
              cases c with
              | true =>
                simp only [lazyAnd] at h
                have := ih r h
                simp only [Option.bind_some, Bool.not_true, Bool.false_eq_true, if_false]
                rw [show runP P (pure (ForInStep.yield ((none, ()) : Option Bool × Unit))) = some (ForInStep.yield (none, ())) from rfl]
                exact this
              | false => cases h; rfl
      · rw [if_neg hn] at h
        simp only [if_neg hn]
        exact ih r h
  rw [key _ _ h]
  cases r <;> rfl

def eltEq (P : Program) (d : Nat) (e : TypeId) (n : Nat) (xs ys : Array Value) (i : Nat) : Option Bool :=
  (partB P e xs (i * n)).bind fun a => (partB P e ys (i * n)).bind fun b => runP P (Op.equalIn d e a b)

theorem eqArray {t e : TypeId} {len n : Nat} {d : Nat} {xs ys : Array Value} {r : Bool} (hu : P.underlying t = some (.array len e)) (hs : szOf P e = some n) (h : allO ((List.range' 0 len).map (eltEq P d e n xs ys)) = some r) : runP P (Op.equalIn (d + 1) t (.agg xs) (.agg ys)) = some r := by
  unfold Op.equalIn
  rw [runP_bind, runP_und hu]
  simp only [Option.bind_some]
  rw [runP_bind, runP_sizeOf hs]
  simp only [Option.bind_some]
  rw [runP_bind, Std.Legacy.Range.forIn_eq_forIn_range']
  have key : ∀ (l : List Nat) (r : Bool), allO (l.map (eltEq P d e n xs ys)) = some r → runP P (forIn l ((none, ()) : Option Bool × Unit) (fun i __s => do
            let __do_lift ← part e xs (i * n)
            let __do_lift_1 ← part e ys (i * n)
            let __do_lift ← Op.equalIn d e __do_lift __do_lift_1
            if (!__do_lift) = true then pure (ForInStep.done (some false, ())) else pure (ForInStep.yield (none, ())))) = some (if r then (none, ()) else (some false, ())) := by
    intro l
    induction l with
    | nil => intro r h; cases h; rfl
    | cons i l ih =>
      intro r h
      simp only [List.map_cons, allO] at h
      rw [List.forIn_cons, runP_bind]
      unfold eltEq at h
      cases ha : partB P e xs (i * n) with
      | none => rw [ha] at h; cases h
      | some a =>
        cases hb : partB P e ys (i * n) with
        | none => rw [ha, hb] at h; cases h
        | some b =>
          rw [ha, hb] at h
          simp only [Option.bind_some] at h
          rw [runP_bind, runP_part ha]
          simp only [Option.bind_some]
          rw [runP_bind, runP_part hb]
          simp only [Option.bind_some]
          rw [runP_bind]
          cases hc : runP P (Op.equalIn d e a b) with
          | none => rw [hc] at h; cases h
          | some c =>
            rw [hc] at h
            cases c with
            | true =>
              simp only [lazyAnd] at h
              have := ih r h
              simp only [Option.bind_some, Bool.not_true, Bool.false_eq_true, if_false]
              rw [show runP P (pure (ForInStep.yield ((none, ()) : Option Bool × Unit))) = some (ForInStep.yield (none, ())) from rfl]
              exact this
            | false => cases h; rfl
  have h2 := key _ _ h
  have e1 : (List.range' 0 len) = List.range' [:len].start [:len].size [:len].step := by
    simp [Std.Legacy.Range.size]
  rw [e1] at h2
  rw [h2]
  cases r <;> rfl

theorem eqInt {t : TypeId} {d : Nat} {k k2 : IntKind} {a b : Int} (hu : P.underlying t = some (.int k2)) : runP P (Op.equalIn (d + 1) t (.int k a) (.int k b)) = some (a == b) := by
  unfold Op.equalIn
  rw [runP_bind, runP_und hu]
  simp only [Option.bind_some, if_true]
  rfl
theorem eqBool {t : TypeId} {d : Nat} {a b : Bool} (hu : P.underlying t = some .bool) : runP P (Op.equalIn (d + 1) t (.bool a) (.bool b)) = some (a == b) := by
  unfold Op.equalIn
  rw [runP_bind, runP_und hu]
  rfl
theorem eqStr {t : TypeId} {d : Nat} {a b : ByteArray} (hu : P.underlying t = some .string) : runP P (Op.equalIn (d + 1) t (.string a) (.string b)) = some (a == b) := by
  unfold Op.equalIn
  rw [runP_bind, runP_und hu]
  rfl

theorem binV_aggeq {H : Heap} {t : TypeId} {x y : Operand} {a b : Array Value} {r : Bool} (hn : nilEq P t (.agg a) (.agg b) = none) (hs : (isScalA (.agg a) && isScalA (.agg b)) = true) (hg : P.eqGuardType P.depth t = false) (h : runP P (Op.equal t (.agg a) (.agg b)) = some r) : binV P H .eql t x y (.agg a) (.agg b) = some (.val (.bool r) H) := by
  refine binV_eq hn hs ?_ ?_ rfl
  · unfold eqGuard
    simp only [Bool.not_true, Bool.false_eq_true, if_false]
    rw [runP_bind]
    show (runP P program).bind _ = _
    rw [show runP P program = some P from rfl]
    simp only [Option.bind_some]
    rw [runP_bind]
    rw [show runP P program = some P from rfl]
    simp only [Option.bind_some, hg, Bool.not_false, if_true]
    rfl
  · simp only [binOp]
    rw [runP_bind, h]
    rfl
theorem binV_aggne {H : Heap} {t : TypeId} {x y : Operand} {a b : Array Value} {r : Bool} (hn : nilEq P t (.agg a) (.agg b) = none) (hs : (isScalA (.agg a) && isScalA (.agg b)) = true) (hg : P.eqGuardType P.depth t = false) (h : runP P (Op.equal t (.agg a) (.agg b)) = some r) : binV P H .neq t x y (.agg a) (.agg b) = some (.val (.bool !r) H) := by
  refine binV_eq hn hs ?_ ?_ rfl
  · unfold eqGuard
    simp only [Bool.not_true, Bool.false_eq_true, if_false]
    rw [runP_bind]
    show (runP P program).bind _ = _
    rw [show runP P program = some P from rfl]
    simp only [Option.bind_some]
    rw [runP_bind]
    rw [show runP P program = some P from rfl]
    simp only [Option.bind_some, hg, Bool.not_false, if_true]
    rfl
  · simp only [binOp]
    rw [runP_bind, h]
    rfl
theorem nilEq_agg {t : TypeId} {a : Array Value} {b : Value} : nilEq P t (.agg a) b = none := by unfold nilEq; split <;> rfl
theorem ba_beq {a b : ByteArray} : (a == b) = decide (a = b) := by
  have h : (a == b) = (a.data == b.data) := rfl
  rw [h]
  rw [Bool.eq_iff_iff]
  simp only [beq_iff_eq, decide_eq_true_eq]
  constructor
  · intro h; cases a; cases b; simp_all
  · rintro rfl; rfl
theorem ba_lbeq {a b : ByteArray} : (a.toList == b.toList) = decide (a = b) := by
  rw [Bool.eq_iff_iff]
  simp only [beq_iff_eq, decide_eq_true_eq]
  constructor
  · intro h
    have h1 : a.data.toList = b.data.toList := by
      have e : ∀ c : ByteArray, c.toList = c.data.toList := fun c => ByteArray.toList_eq c
      rw [← e, ← e, h]
    exact bytes_ext h1
  · rintro rfl; rfl
end Go.B

namespace Go.B
open Go
section
variable {P : Program} {e : Operand → Value} {H : Heap} {d : Option Tmp} {ty : TypeId} {pos : String} {af : Array Edge} {g : Option (Nat × Bool)}

theorem aop_box0 {t : TypeId} {x : Operand} : aop P e ⟨d, .box t x, ty, pos, af, g⟩ H = pushR H (if (szOf P t).isSome then some (.pointer (some ⟨H.next, 0, none⟩), .cells (e x).cells.toList t false) else none) := by
  unfold aop
  simp only [allocB, markB]
  cases h : szOf P t <;> rfl
theorem aop_buildSlice0 {t : TypeId} {len : Nat} {ps : Array (Nat × Operand)} : aop P e ⟨d, .buildSlice t len ps, ty, pos, af, g⟩ H = pushR H (buildSliceB P H.next t len (ps.map fun (i, x) => (i, e x)).toList) := by
  unfold aop
  simp only [allocB, markB]
  cases buildSliceB P H.next t len (ps.map fun (i, x) => (i, e x)).toList <;> rfl
theorem aop_makeSlice0 {t : TypeId} {l c : Operand} : aop P e ⟨d, .makeSlice t l c, ty, pos, af, g⟩ H = pushR H (makeSliceB P H.next t (e l) (e c)) := by
  unfold aop
  simp only [allocB, markB]
  cases makeSliceB P H.next t (e l) (e c) <;> rfl
def cvM (P : Program) (H : Heap) (src dst : TypeId) (x : Value) : Option Res :=
  match markV P H src dst x with
  | some r => some r
  | none => cvV P H src dst x
theorem cvM_ne {src dst : TypeId} {x : Value} (h : src ≠ dst) : cvM P H src dst x = cvV P H src dst x := by
  have : markV P H src dst x = none := by
    unfold markV markOk
    split
    · rw [decide_eq_false (fun z => h z.1)]; rfl
    · rfl
  unfold cvM
  rw [this]
def cvR (P : Program) (H : Heap) (src dst : TypeId) (x : Value) : Option (Value × AObj) → Option Res
  | some (v, o) => some (.val v (H.push o))
  | none => cvM P H src dst x
theorem aop_convert {src dst : TypeId} {x : Operand} : aop P e ⟨d, .convert src dst x, ty, pos, af, g⟩ H = cvR P H src dst (e x) (bytesB P H.next src dst (e x)) := by
  unfold aop
  simp only [allocB, markB]
  cases bytesB P H.next src dst (e x) <;> rfl
theorem cvR_none {src dst : TypeId} {x : Value} : cvR P H src dst x none = cvM P H src dst x := rfl
theorem cvR_some {src dst : TypeId} {x v : Value} {o : AObj} : cvR P H src dst x (some (v, o)) = some (.val v (H.push o)) := rfl
def sliV (P : Program) (H : Heap) (t : TypeId) (lo hi mx : Option Value) : Value → Option Res
  | .string s => (strSliceB P t s lo hi mx).map fun v => .val v H
  | v => (sliceB P H t v lo hi mx).map fun v => .val v H
theorem aop_slice {t : TypeId} {x : Operand} {lo hi mx : Option Operand} : aop P e ⟨d, .slice t x lo hi mx, ty, pos, af, g⟩ H = sliV P H t (lo.map e) (hi.map e) (mx.map e) (e x) := by
  unfold aop
  simp only [allocB, markB, aopF]
  unfold sliV
  cases e x <;> rfl
theorem aopF_slice {t : TypeId} {x : Operand} {lo hi mx : Option Operand} : aopF P e ⟨d, .slice t x lo hi mx, ty, pos, af, g⟩ H = sliV P H t (lo.map e) (hi.map e) (mx.map e) (e x) := by
  simp only [aopF]
  unfold sliV
  cases e x <;> rfl
theorem sliV_string {t : TypeId} {s : ByteArray} {lo hi mx : Option Value} : sliV P H t lo hi mx (.string s) = (strSliceB P t s lo hi mx).map fun v => .val v H := rfl
theorem sliV_slice {t : TypeId} {a : Option Addr} {n c : Nat} {lo hi mx : Option Value} : sliV P H t lo hi mx (.slice a n c) = (sliceB P H t (.slice a n c) lo hi mx).map fun v => .val v H := rfl
theorem aop_min {x y : Operand} {ats : Array TypeId} {k : IntKind} {a b : Int} (hx : e x = .int k a) (hy : e y = .int k b) : aop P e ⟨d, .call ⟨.builtin .min, #[x, y], ats⟩, ty, pos, af, g⟩ H = some (.val (.int k (if b < a then b else a)) H) := by
  unfold aop; exact aopF_min hx hy
theorem aop_max {x y : Operand} {ats : Array TypeId} {k : IntKind} {a b : Int} (hx : e x = .int k a) (hy : e y = .int k b) : aop P e ⟨d, .call ⟨.builtin .max, #[x, y], ats⟩, ty, pos, af, g⟩ H = some (.val (.int k (if b > a then b else a)) H) := by
  unfold aop; exact aopF_max hx hy
theorem bytes_of_u8 : ∀ (l : List UInt8), bytesOf (l.map fun b => .int .u8 b.toNat) = some l
  | [] => rfl
  | b :: l => by
    simp only [List.map_cons, bytesOf, bytes_of_u8 l, Option.map_some, Option.some.injEq, List.cons.injEq, and_true]
    simp
def u8s (l : List UInt8) : List Value := l.map fun b => .int .u8 b.toNat
theorem all_cellOk_u8 (l : List UInt8) : (l.map fun b => Value.int .u8 b.toNat).all cellOk = true := by simp [cellOk]
def strs (l : List ByteArray) : List Value := l.map .string
theorem strs_length (l : List ByteArray) : (strs l).length = l.length := List.length_map _
theorem strs_append (a b : List ByteArray) : strs (a ++ b) = strs a ++ strs b := List.map_append
theorem strs_ok (l : List ByteArray) : (strs l).all cellOk = true := by simp [strs, cellOk]
end
end Go.B

namespace Go.B
open Go
variable {V : Env} {r : List It} {Q : Ex → St → Prop}

def loopQ {α : Type} (V : Env) (r : List It) (Q : Ex → St → Prop) (I : α → Tr Value → Heap → Prop) (μ : α → Nat) (n : Nat) (a : α) : Ex → St → Prop
  | .normal, s => s.n = n ∧ ∃ a', I a' s.t s.H ∧ μ a' < μ a
  | .ret, s => Q .ret s
  | .exit j, s => exitW V j r s Q
theorem loopQ_normal {α : Type} {I : α → Tr Value → Heap → Prop} {μ : α → Nat} {n m : Nat} {a : α} {t : Tr Value} {H : Heap} : loopQ V r Q I μ n a .normal ⟨m, t, H⟩ = (m = n ∧ ∃ a', I a' t H ∧ μ a' < μ a) := rfl
theorem loopQ_ret {α : Type} {I : α → Tr Value → Heap → Prop} {μ : α → Nat} {n : Nat} {a : α} {s : St} : loopQ V r Q I μ n a .ret s = Q .ret s := rfl
theorem loopQ_exit {α : Type} {I : α → Tr Value → Heap → Prop} {μ : α → Nat} {n j : Nat} {a : α} {s : St} : loopQ V r Q I μ n a (.exit j) s = exitW V j r s Q := rfl

theorem W_for {b : Code} {n : Nat} {t : Tr Value} {H : Heap} {α : Type} (I : α → Tr Value → Heap → Prop) (μ : α → Nat) (a0 : α) (h0 : I a0 t H) (step : ∀ a t H, I a t H → W V [.code b] ⟨n, t, H⟩ (loopQ V r Q I μ n a)) : W V (.code (.loop b) :: r) ⟨n, t, H⟩ Q := by
  have key : ∀ m (a : α) t H, μ a = m → I a t H → ∃ ex s', ex ≠ .normal ∧ ((ex = .ret → Q .ret s') ∧ ∀ j, ex = .exit j → exitW V j r s' Q) ∧ ∃ K, ∀ k n' q, K ≤ k → K ≤ n' → K ≤ q → loopN (exec drawRun (V.cal k) V.P n' b) q ⟨n, t, H⟩ = some (ex, s') := by
    intro m
    induction m using Nat.strongRecOn with
    | _ m ih =>
      intro a t H hm hI
      obtain ⟨ex, s1, hq, K, hk⟩ := step a t H hI
      have hb : ∀ k n', K ≤ k → K ≤ n' → exec drawRun (V.cal k) V.P n' b ⟨n, t, H⟩ = some (ex, s1) := fun k n' h1 h2 => by
        have := hk k n' h1 h2
        simp only [runIts, runIt] at this
        cases he : exec drawRun (V.cal k) V.P n' b ⟨n, t, H⟩ with
        | none => rw [he] at this; cases this
        | some p =>
          obtain ⟨e, s2⟩ := p
          rw [he] at this
          cases e <;> simpa [runIts.outIt] using this
      cases ex with
      | normal =>
        obtain ⟨hn, a', hI1, hlt⟩ := hq
        obtain ⟨n1, t1, H1⟩ := s1
        obtain rfl : n1 = n := hn
        obtain ⟨ex2, s2, h1, h2, K2, hk2⟩ := ih (μ a') (hm ▸ hlt) a' t1 H1 rfl hI1
        refine ⟨ex2, s2, h1, h2, max K K2 + 1, fun k n' q a1 a2 a3 => ?_⟩
        obtain ⟨q, rfl⟩ : ∃ q', q = q' + 1 := ⟨q - 1, by omega⟩
        simp only [loopN, hb k n' (by omega) (by omega)]
        exact hk2 k n' q (by omega) (by omega) (by omega)
      | exit j =>
        refine ⟨.exit j, s1, by simp, ⟨by simp, fun j' e => by cases e; exact hq⟩, K + 1, fun k n' q a1 a2 a3 => ?_⟩
        obtain ⟨q, rfl⟩ : ∃ q', q = q' + 1 := ⟨q - 1, by omega⟩
        simp only [loopN, hb k n' (by omega) (by omega)]
      | ret =>
        refine ⟨.ret, s1, by simp, ⟨fun _ => hq, by simp⟩, K + 1, fun k n' q a1 a2 a3 => ?_⟩
        obtain ⟨q, rfl⟩ : ∃ q', q = q' + 1 := ⟨q - 1, by omega⟩
        simp only [loopN, hb k n' (by omega) (by omega)]
  obtain ⟨ex, s', hne, ⟨h1, h2⟩, K, hk⟩ := key _ a0 t H rfl h0
  have hx : ∀ k n', K ≤ k → K ≤ n' → runIt V k n' (.code (.loop b)) ⟨n, t, H⟩ = some (ex, s') := fun k n' a1 a2 => by
    simp only [runIt, exec]
    exact hk k n' n' a1 a2 a2
  cases ex with
  | normal => exact absurd rfl hne
  | ret => exact ⟨.ret, s', h1 rfl, K, fun k n' a1 a2 => by simp only [runIts, hx k n' a1 a2]⟩
  | exit j =>
    obtain ⟨ex2, s2, hq, K2, hk2⟩ := exitW_spec.mp (h2 j rfl)
    exact ⟨ex2, s2, hq, max K K2, fun k n' a1 a2 => by simp only [runIts, hx k n' (by omega) (by omega)]; exact hk2 k n' (by omega) (by omega)⟩

theorem loopN_mono {f g : St → Option (Ex × St)} (h : ∀ s x, f s = some x → g s = some x) : ∀ (n m : Nat), n ≤ m → ∀ s x, loopN f n s = some x → loopN g m s = some x := by
  intro n
  induction n with
  | zero => intro m _ s x h; cases h
  | succ n ih =>
    intro m hm s x hx
    obtain ⟨m, rfl⟩ : ∃ m', m = m' + 1 := ⟨m - 1, by omega⟩
    simp only [loopN] at hx ⊢
    cases hf : f s with
    | none => rw [hf] at hx; cases hx
    | some p =>
      obtain ⟨e, s2⟩ := p
      rw [hf] at hx
      rw [h _ _ hf]
      cases e with
      | normal => exact ih m (by omega) s2 x hx
      | exit _ => exact hx
      | ret => exact hx

theorem exec_mono {D : Draw} {cal : Cal} {P : Program} : ∀ (c : Code) {n m : Nat}, n ≤ m → ∀ st x, exec D cal P n c st = some x → exec D cal P m c st = some x := by
  intro c
  induction c with
  | seq a b iha ihb =>
    intro n m hm st x h
    simp only [exec] at h ⊢
    cases ha : exec D cal P n a st with
    | none => rw [ha] at h; cases h
    | some p =>
      obtain ⟨e, s2⟩ := p
      rw [ha] at h
      rw [iha hm _ _ ha]
      cases e with
      | normal => exact ihb hm _ _ h
      | exit _ => exact h
      | ret => exact h
  | cond c a b iha ihb =>
    intro n m hm st x h
    simp only [exec] at h ⊢
    split at h
    · exact iha hm _ _ h
    · exact ihb hm _ _ h
    · cases h
  | block id b ih =>
    intro n m hm st x h
    simp only [exec] at h ⊢
    cases hb : exec D cal P n b st with
    | none => rw [hb] at h; cases h
    | some p =>
      rw [hb] at h
      rw [ih hm _ _ hb]
      exact h
  | loop b ih =>
    intro n m hm st x h
    simp only [exec] at h ⊢
    exact loopN_mono (fun s x hx => ih hm s x hx) n m hm st x h
  | _ => intro n m hm st x h; simpa only [exec] using h

theorem W_unroll {b : Code} {st : St} (h : W V (.code b :: .code (.loop b) :: r) st Q) : W V (.code (.loop b) :: r) st Q := by
  obtain ⟨ex, s, hq, K, hk⟩ := h
  refine ⟨ex, s, hq, K + 1, fun k n h1 h2 => ?_⟩
  obtain ⟨n, rfl⟩ : ∃ n', n = n' + 1 := ⟨n - 1, by omega⟩
  have h3 := hk k n (by omega) (by omega)
  have h4 := hk k (n + 1) (by omega) (by omega)
  simp only [runIts, runIt, exec] at h3 h4 ⊢
  simp only [loopN]
  cases hb : exec drawRun (V.cal k) V.P n b st with
  | none => rw [hb] at h3; cases h3
  | some p =>
    obtain ⟨e, s2⟩ := p
    rw [hb] at h3
    rw [exec_mono b (Nat.le_succ n) _ _ hb] at h4 ⊢
    cases e with
    | normal =>
      simp only at h3 h4 ⊢
      cases hl : loopN (exec drawRun (V.cal k) V.P n b) n s2 with
      | none => rw [hl] at h3; cases h3
      | some q =>
        rw [loopN_mono (fun s x hx => exec_mono b (Nat.le_succ n) s x hx) n (n + 1) (Nat.le_succ n) _ _ hl] at h4
        rw [loopN_mono (fun s x hx => exec_mono b (Nat.le_succ n) s x hx) n n (Nat.le_refl n) _ _ hl]
        exact h4
    | exit j => exact h4
    | ret => exact h4
end Go.B

namespace Go.B
open Go
section
variable {V : Env} {r : List It} {Q : Ex → St → Prop} {all : Array Oper} {d : Option Tmp} {ty : TypeId} {pos : String} {af : Array Edge} {l : List Oper} {n : Nat} {t : Tr Value} {H : Heap}
theorem W0_move {x0 : Operand} : W V (.ops all (⟨d, .move x0, ty, pos, af, none⟩ :: l) :: r) ⟨n, t, H⟩ Q = valW V (.ops all l :: r) Q n t d (aop V.P (ev t) ⟨d, .move x0, ty, pos, af, none⟩ H) := propext (W_op0 rfl)
theorem W0_assign {x0 : Operand} : W V (.ops all (⟨d, .assign x0, ty, pos, af, none⟩ :: l) :: r) ⟨n, t, H⟩ Q = valW V (.ops all l :: r) Q n t d (aop V.P (ev t) ⟨d, .assign x0, ty, pos, af, none⟩ H) := propext (W_op0 rfl)
theorem W0_pick {x0 : Operand} {x1 : Operand} {x2 : Operand} : W V (.ops all (⟨d, .pick x0 x1 x2, ty, pos, af, none⟩ :: l) :: r) ⟨n, t, H⟩ Q = valW V (.ops all l :: r) Q n t d (aop V.P (ev t) ⟨d, .pick x0 x1 x2, ty, pos, af, none⟩ H) := propext (W_op0 rfl)
theorem W0_alloc {x0 : TypeId} : W V (.ops all (⟨d, .alloc x0, ty, pos, af, none⟩ :: l) :: r) ⟨n, t, H⟩ Q = valW V (.ops all l :: r) Q n t d (aop V.P (ev t) ⟨d, .alloc x0, ty, pos, af, none⟩ H) := propext (W_op0 rfl)
theorem W0_box {x0 : TypeId} {x1 : Operand} : W V (.ops all (⟨d, .box x0 x1, ty, pos, af, none⟩ :: l) :: r) ⟨n, t, H⟩ Q = valW V (.ops all l :: r) Q n t d (aop V.P (ev t) ⟨d, .box x0 x1, ty, pos, af, none⟩ H) := propext (W_op0 rfl)
theorem W0_build {x0 : TypeId} {x1 : Array (Nat × Operand)} : W V (.ops all (⟨d, .build x0 x1, ty, pos, af, none⟩ :: l) :: r) ⟨n, t, H⟩ Q = valW V (.ops all l :: r) Q n t d (aop V.P (ev t) ⟨d, .build x0 x1, ty, pos, af, none⟩ H) := propext (W_op0 rfl)
theorem W0_buildSlice {x0 : TypeId} {x1 : Nat} {x2 : Array (Nat × Operand)} : W V (.ops all (⟨d, .buildSlice x0 x1 x2, ty, pos, af, none⟩ :: l) :: r) ⟨n, t, H⟩ Q = valW V (.ops all l :: r) Q n t d (aop V.P (ev t) ⟨d, .buildSlice x0 x1 x2, ty, pos, af, none⟩ H) := propext (W_op0 rfl)
theorem W0_insert {x0 : TypeId} {x1 : Operand} {x2 : Operand} {x3 : Operand} : W V (.ops all (⟨d, .insert x0 x1 x2 x3, ty, pos, af, none⟩ :: l) :: r) ⟨n, t, H⟩ Q = valW V (.ops all l :: r) Q n t d (aop V.P (ev t) ⟨d, .insert x0 x1 x2 x3, ty, pos, af, none⟩ H) := propext (W_op0 rfl)
theorem W0_load {x0 : TypeId} {x1 : Operand} : W V (.ops all (⟨d, .load x0 x1, ty, pos, af, none⟩ :: l) :: r) ⟨n, t, H⟩ Q = valW V (.ops all l :: r) Q n t d (aop V.P (ev t) ⟨d, .load x0 x1, ty, pos, af, none⟩ H) := propext (W_op0 rfl)
theorem W0_store {x0 : TypeId} {x1 : Operand} {x2 : Operand} : W V (.ops all (⟨d, .store x0 x1 x2, ty, pos, af, none⟩ :: l) :: r) ⟨n, t, H⟩ Q = valW V (.ops all l :: r) Q n t d (aop V.P (ev t) ⟨d, .store x0 x1 x2, ty, pos, af, none⟩ H) := propext (W_op0 rfl)
theorem W0_nilCheck {x0 : Operand} : W V (.ops all (⟨d, .nilCheck x0, ty, pos, af, none⟩ :: l) :: r) ⟨n, t, H⟩ Q = valW V (.ops all l :: r) Q n t d (aop V.P (ev t) ⟨d, .nilCheck x0, ty, pos, af, none⟩ H) := propext (W_op0 rfl)
theorem W0_binOp {x0 : BinOp} {x1 : TypeId} {x2 : Operand} {x3 : Operand} {x4 : TypeId} : W V (.ops all (⟨d, .binOp x0 x1 x2 x3 x4, ty, pos, af, none⟩ :: l) :: r) ⟨n, t, H⟩ Q = valW V (.ops all l :: r) Q n t d (aop V.P (ev t) ⟨d, .binOp x0 x1 x2 x3 x4, ty, pos, af, none⟩ H) := propext (W_op0 rfl)
theorem W0_unOp {x0 : UnOp} {x1 : TypeId} {x2 : Operand} : W V (.ops all (⟨d, .unOp x0 x1 x2, ty, pos, af, none⟩ :: l) :: r) ⟨n, t, H⟩ Q = valW V (.ops all l :: r) Q n t d (aop V.P (ev t) ⟨d, .unOp x0 x1 x2, ty, pos, af, none⟩ H) := propext (W_op0 rfl)
theorem W0_convert {x0 : TypeId} {x1 : TypeId} {x2 : Operand} : W V (.ops all (⟨d, .convert x0 x1 x2, ty, pos, af, none⟩ :: l) :: r) ⟨n, t, H⟩ Q = valW V (.ops all l :: r) Q n t d (aop V.P (ev t) ⟨d, .convert x0 x1 x2, ty, pos, af, none⟩ H) := propext (W_op0 rfl)
theorem W0_makeInterface {x0 : TypeId} {x1 : Operand} : W V (.ops all (⟨d, .makeInterface x0 x1, ty, pos, af, none⟩ :: l) :: r) ⟨n, t, H⟩ Q = valW V (.ops all l :: r) Q n t d (aop V.P (ev t) ⟨d, .makeInterface x0 x1, ty, pos, af, none⟩ H) := propext (W_op0 rfl)
theorem W0_makeFunc {x0 : Fn} {x1 : Array Operand} {x2 : Array Operand} : W V (.ops all (⟨d, .makeFunc x0 x1 x2, ty, pos, af, none⟩ :: l) :: r) ⟨n, t, H⟩ Q = valW V (.ops all l :: r) Q n t d (aop V.P (ev t) ⟨d, .makeFunc x0 x1 x2, ty, pos, af, none⟩ H) := propext (W_op0 rfl)
theorem W0_makeMap {x0 : TypeId} {x1 : Option Operand} : W V (.ops all (⟨d, .makeMap x0 x1, ty, pos, af, none⟩ :: l) :: r) ⟨n, t, H⟩ Q = valW V (.ops all l :: r) Q n t d (aop V.P (ev t) ⟨d, .makeMap x0 x1, ty, pos, af, none⟩ H) := propext (W_op0 rfl)
theorem W0_makeSlice {x0 : TypeId} {x1 : Operand} {x2 : Operand} : W V (.ops all (⟨d, .makeSlice x0 x1 x2, ty, pos, af, none⟩ :: l) :: r) ⟨n, t, H⟩ Q = valW V (.ops all l :: r) Q n t d (aop V.P (ev t) ⟨d, .makeSlice x0 x1 x2, ty, pos, af, none⟩ H) := propext (W_op0 rfl)
theorem W0_slice {x0 : TypeId} {x1 : Operand} {x2 : Option Operand} {x3 : Option Operand} {x4 : Option Operand} : W V (.ops all (⟨d, .slice x0 x1 x2 x3 x4, ty, pos, af, none⟩ :: l) :: r) ⟨n, t, H⟩ Q = valW V (.ops all l :: r) Q n t d (aop V.P (ev t) ⟨d, .slice x0 x1 x2 x3 x4, ty, pos, af, none⟩ H) := propext (W_op0 rfl)
theorem W0_fieldAddr {x0 : TypeId} {x1 : Operand} {x2 : Nat} : W V (.ops all (⟨d, .fieldAddr x0 x1 x2, ty, pos, af, none⟩ :: l) :: r) ⟨n, t, H⟩ Q = valW V (.ops all l :: r) Q n t d (aop V.P (ev t) ⟨d, .fieldAddr x0 x1 x2, ty, pos, af, none⟩ H) := propext (W_op0 rfl)
theorem W0_field {x0 : TypeId} {x1 : Operand} {x2 : Nat} : W V (.ops all (⟨d, .field x0 x1 x2, ty, pos, af, none⟩ :: l) :: r) ⟨n, t, H⟩ Q = valW V (.ops all l :: r) Q n t d (aop V.P (ev t) ⟨d, .field x0 x1 x2, ty, pos, af, none⟩ H) := propext (W_op0 rfl)
theorem W0_indexAddr {x0 : TypeId} {x1 : Operand} {x2 : Operand} : W V (.ops all (⟨d, .indexAddr x0 x1 x2, ty, pos, af, none⟩ :: l) :: r) ⟨n, t, H⟩ Q = valW V (.ops all l :: r) Q n t d (aop V.P (ev t) ⟨d, .indexAddr x0 x1 x2, ty, pos, af, none⟩ H) := propext (W_op0 rfl)
theorem W0_index {x0 : TypeId} {x1 : Operand} {x2 : Operand} : W V (.ops all (⟨d, .index x0 x1 x2, ty, pos, af, none⟩ :: l) :: r) ⟨n, t, H⟩ Q = valW V (.ops all l :: r) Q n t d (aop V.P (ev t) ⟨d, .index x0 x1 x2, ty, pos, af, none⟩ H) := propext (W_op0 rfl)
theorem W0_lookup {x0 : TypeId} {x1 : Operand} {x2 : Operand} {x3 : Bool} : W V (.ops all (⟨d, .lookup x0 x1 x2 x3, ty, pos, af, none⟩ :: l) :: r) ⟨n, t, H⟩ Q = valW V (.ops all l :: r) Q n t d (aop V.P (ev t) ⟨d, .lookup x0 x1 x2 x3, ty, pos, af, none⟩ H) := propext (W_op0 rfl)
theorem W0_mapUpdate {x0 : TypeId} {x1 : Operand} {x2 : Operand} {x3 : Operand} : W V (.ops all (⟨d, .mapUpdate x0 x1 x2 x3, ty, pos, af, none⟩ :: l) :: r) ⟨n, t, H⟩ Q = valW V (.ops all l :: r) Q n t d (aop V.P (ev t) ⟨d, .mapUpdate x0 x1 x2 x3, ty, pos, af, none⟩ H) := propext (W_op0 rfl)
theorem W0_extract {x0 : Operand} {x1 : Nat} : W V (.ops all (⟨d, .extract x0 x1, ty, pos, af, none⟩ :: l) :: r) ⟨n, t, H⟩ Q = valW V (.ops all l :: r) Q n t d (aop V.P (ev t) ⟨d, .extract x0 x1, ty, pos, af, none⟩ H) := propext (W_op0 rfl)
theorem W0_builtin {b : Builtin} {xs : Array Operand} {ts : Array TypeId} : W V (.ops all (⟨d, .call ⟨.builtin b, xs, ts⟩, ty, pos, af, none⟩ :: l) :: r) ⟨n, t, H⟩ Q = valW V (.ops all l :: r) Q n t d (aop V.P (ev t) ⟨d, .call ⟨.builtin b, xs, ts⟩, ty, pos, af, none⟩ H) := propext (W_op0 rfl)

def gW (V : Env) (all : Array Oper) (l : List Oper) (r : List It) (Q : Ex → St → Prop) (n : Nat) (t : Tr Value) (H : Heap) (d : Option Tmp) (op : Op) (ty : TypeId) (pos : String) (af : Array Edge) (b : Bool) : Option Bool → Prop
  | some c => if c = b then W V (.ops all (⟨d, op, ty, pos, af, none⟩ :: l) :: r) ⟨n, t, H⟩ Q else putW V (.ops all l :: r) Q n t d undef H
  | none => putW V (.ops all l :: r) Q n t d undef H
theorem W_opg {op : Op} {j : Nat} {b : Bool} : W V (.ops all (⟨d, op, ty, pos, af, some (j, b)⟩ :: l) :: r) ⟨n, t, H⟩ Q = gW V all l r Q n t H d op ty pos af b (yieldB all n t j) := by
  have skip : Region.wanted ⟨d, op, ty, pos, af, some (j, b)⟩ (yieldB all n t) = false → W V (.ops all (⟨d, op, ty, pos, af, some (j, b)⟩ :: l) :: r) ⟨n, t, H⟩ Q = putW V (.ops all l :: r) Q n t d undef H := fun hw =>
    propext (W_put ⟨0, fun k _ => by unfold step1; rw [hw]; rfl⟩)
  unfold gW
  cases hy : yieldB all n t j with
  | none => exact skip (by rw [wanted_some, hy]; rfl)
  | some c =>
    simp only
    by_cases hc : c = b
    · rw [if_pos hc]
      subst hc
      refine propext (W_eq fun k m => ?_)
      have h1 : Region.wanted ⟨d, op, ty, pos, af, some (j, c)⟩ (yieldB all n t) = true := by rw [wanted_some, hy]; simp
      have h2 : ∀ st, st = (⟨n, t, H⟩ : St) → step1 (V.cal k) V.P all ⟨d, op, ty, pos, af, some (j, c)⟩ st = step1 (V.cal k) V.P all ⟨d, op, ty, pos, af, none⟩ st := fun st hst => by
        subst hst
        unfold step1
        rw [h1]
        rfl
      simp only [runIts, runIt, opsRun, h2 _ rfl]
    · rw [if_neg hc]
      refine skip ?_
      rw [wanted_some, hy]
      cases c <;> cases b <;> simp_all
theorem gW_tt {op : Op} : gW V all l r Q n t H d op ty pos af true (some true) = W V (.ops all (⟨d, op, ty, pos, af, none⟩ :: l) :: r) ⟨n, t, H⟩ Q := by unfold gW; exact if_pos rfl
theorem gW_ff {op : Op} : gW V all l r Q n t H d op ty pos af false (some false) = W V (.ops all (⟨d, op, ty, pos, af, none⟩ :: l) :: r) ⟨n, t, H⟩ Q := by unfold gW; exact if_pos rfl
theorem gW_tf {op : Op} : gW V all l r Q n t H d op ty pos af true (some false) = putW V (.ops all l :: r) Q n t d undef H := by unfold gW; exact if_neg (by simp)
theorem gW_ft {op : Op} : gW V all l r Q n t H d op ty pos af false (some true) = putW V (.ops all l :: r) Q n t d undef H := by unfold gW; exact if_neg (by simp)
theorem gW_dec {op : Op} {b : Bool} {p : Prop} [Decidable p] (h1 : p → gW V all l r Q n t H d op ty pos af b (some true)) (h2 : ¬ p → gW V all l r Q n t H d op ty pos af b (some false)) : gW V all l r Q n t H d op ty pos af b (some (decide p)) := by
  by_cases h : p
  · rw [decide_eq_true h]; exact h1 h
  · rw [decide_eq_false h]; exact h2 h
theorem gW_bool {op : Op} {b c : Bool} (h1 : c = true → gW V all l r Q n t H d op ty pos af b (some true)) (h2 : c = false → gW V all l r Q n t H d op ty pos af b (some false)) : gW V all l r Q n t H d op ty pos af b (some c) := by
  cases c
  · exact h2 rfl
  · exact h1 rfl

def cW (V : Env) (a b : Code) (r : List It) (st : St) (Q : Ex → St → Prop) : Value → Prop
  | .bool true => W V (.code a :: r) st Q
  | .bool false => W V (.code b :: r) st Q
  | _ => False
theorem W_cond' {c : Operand} {a b : Code} {st : St} : W V (.code (.cond c a b) :: r) st Q = cW V a b r st Q (ev st.t c) := by
  refine propext ?_
  rw [W_cond]
  unfold condW cW
  cases ev st.t c with
  | bool x => cases x <;> simp
  | _ => exact Iff.rfl
theorem cW_true {a b : Code} {st : St} : cW V a b r st Q (.bool true) = W V (.code a :: r) st Q := rfl
theorem cW_false {a b : Code} {st : St} : cW V a b r st Q (.bool false) = W V (.code b :: r) st Q := rfl
theorem cW_dec {a b : Code} {st : St} {p : Prop} [Decidable p] (h1 : p → cW V a b r st Q (.bool true)) (h2 : ¬ p → cW V a b r st Q (.bool false)) : cW V a b r st Q (.bool (decide p)) := by
  by_cases h : p
  · rw [decide_eq_true h]; exact h1 h
  · rw [decide_eq_false h]; exact h2 h
theorem cW_bool {a b : Code} {st : St} {c : Bool} (h1 : c = true → cW V a b r st Q (.bool true)) (h2 : c = false → cW V a b r st Q (.bool false)) : cW V a b r st Q (.bool c) := by
  cases c
  · exact h2 rfl
  · exact h1 rfl

theorem W_callR {f : Operand} {xs : Array Operand} {ats : Array TypeId} {g : FuncId} {args : Array Value} {R : Value → Heap → Prop} (hf : ev t f = .func (.func g) #[] #[]) (ha : xs.map (ev t) = args) (hc : ∃ v H', Ca V g args H v H' ∧ R v H') (h : ∀ v H', R v H' → putW V (.ops all l :: r) Q n t d v H') :
    W V (.ops all (⟨d, .call ⟨.value f, xs, ats⟩, ty, pos, af, none⟩ :: l) :: r) ⟨n, t, H⟩ Q := by
  obtain ⟨v, H', hc, hR⟩ := hc
  exact W_call hf ha hc (h v H' hR)
end

section
variable {V : Env} {ops : Array Oper} {A : List (List Nat)} {n base : Nat} {K0 : Heap} {r : List It} {Q : Ex → St → Prop}
variable {d : Option Tmp} {op : Op} {ty : TypeId} {pos : String} {af : Array Edge} {i : Nat} {l : List Nat} {E : Tr Value} {H : Heap} {hist : List (Heap × Nat)} {dn : List Nat} {al : List (Nat × AObj)}
def gD (V : Env) (ops : Array Oper) (A : List (List Nat)) (n base : Nat) (K0 : Heap) (r : List It) (Q : Ex → St → Prop) (i : Nat) (l : List Nat) (E : Tr Value) (H : Heap) (hist : List (Heap × Nat)) (dn : List Nat) (al : List (Nat × AObj)) (d : Option Tmp) (op : Op) (ty : TypeId) (pos : String) (af : Array Edge) (b : Bool) : Option Bool → Prop
  | some c => if c = b then DOpd V ops A n base K0 r Q i l E ⟨H, hist, dn, al⟩ (some ⟨d, op, ty, pos, af, none⟩) else DWd V ops A n base K0 r Q l (setO E d undef) ⟨H, hist, i :: dn, al⟩
  | none => DWd V ops A n base K0 r Q l (setO E d undef) ⟨H, hist, i :: dn, al⟩
theorem D_opg {j : Nat} {b : Bool} : DOpd V ops A n base K0 r Q i l E ⟨H, hist, dn, al⟩ (some ⟨d, op, ty, pos, af, some (j, b)⟩) = gD V ops A n base K0 r Q i l E H hist dn al d op ty pos af b (yieldB ops n E j) := by
  have skip : Region.wanted ⟨d, op, ty, pos, af, some (j, b)⟩ (yieldB ops n E) = false → DOpd V ops A n base K0 r Q i l E ⟨H, hist, dn, al⟩ (some ⟨d, op, ty, pos, af, some (j, b)⟩) = DWd V ops A n base K0 r Q l (setO E d undef) ⟨H, hist, i :: dn, al⟩ := fun hw => by
    unfold DOpd DOp
    simp only [hw, true_implies, Bool.false_eq_true, false_implies, true_and]
  unfold gD
  cases hy : yieldB ops n E j with
  | none => exact skip (by rw [wanted_some, hy]; rfl)
  | some c =>
    simp only
    by_cases hc : c = b
    · rw [if_pos hc]
      subst hc
      have hw : Region.wanted ⟨d, op, ty, pos, af, some (j, c)⟩ (yieldB ops n E) = true := by rw [wanted_some, hy]; simp
      have h1 : ∀ H, aopF V.P (ev E) ⟨d, op, ty, pos, af, some (j, c)⟩ H = aopF V.P (ev E) ⟨d, op, ty, pos, af, none⟩ H := fun H => by
        cases op <;> rfl
      have h2 : allocB V.P (ev E) ⟨d, op, ty, pos, af, some (j, c)⟩ (base + i) = allocB V.P (ev E) ⟨d, op, ty, pos, af, none⟩ (base + i) := rfl
      have h3 : isEff ⟨d, op, ty, pos, af, some (j, c)⟩ = isEff ⟨d, op, ty, pos, af, none⟩ := rfl
      unfold DOpd DOp
      simp only [hw, wanted_none, true_implies, Bool.true_eq_false, false_implies, and_true, h2]
      generalize allocB V.P (ev E) ⟨d, op, ty, pos, af, none⟩ (base + i) = x
      cases x with
      | some p => rfl
      | none => simp only [DAll, h3, DEff, DFree, h1]
    · rw [if_neg hc]
      refine skip ?_
      rw [wanted_some, hy]
      cases c <;> cases b <;> simp_all
theorem gD_tt : gD V ops A n base K0 r Q i l E H hist dn al d op ty pos af true (some true) = DOpd V ops A n base K0 r Q i l E ⟨H, hist, dn, al⟩ (some ⟨d, op, ty, pos, af, none⟩) := by unfold gD; exact if_pos rfl
theorem gD_ff : gD V ops A n base K0 r Q i l E H hist dn al d op ty pos af false (some false) = DOpd V ops A n base K0 r Q i l E ⟨H, hist, dn, al⟩ (some ⟨d, op, ty, pos, af, none⟩) := by unfold gD; exact if_pos rfl
theorem gD_tf : gD V ops A n base K0 r Q i l E H hist dn al d op ty pos af true (some false) = DWd V ops A n base K0 r Q l (setO E d undef) ⟨H, hist, i :: dn, al⟩ := by unfold gD; exact if_neg (by simp)
theorem gD_ft : gD V ops A n base K0 r Q i l E H hist dn al d op ty pos af false (some true) = DWd V ops A n base K0 r Q l (setO E d undef) ⟨H, hist, i :: dn, al⟩ := by unfold gD; exact if_neg (by simp)
theorem gD_dec {b : Bool} {p : Prop} [Decidable p] (h1 : p → gD V ops A n base K0 r Q i l E H hist dn al d op ty pos af b (some true)) (h2 : ¬ p → gD V ops A n base K0 r Q i l E H hist dn al d op ty pos af b (some false)) : gD V ops A n base K0 r Q i l E H hist dn al d op ty pos af b (some (decide p)) := by
  by_cases h : p
  · rw [decide_eq_true h]; exact h1 h
  · rw [decide_eq_false h]; exact h2 h
theorem gD_bool {b c : Bool} (h1 : c = true → gD V ops A n base K0 r Q i l E H hist dn al d op ty pos af b (some true)) (h2 : c = false → gD V ops A n base K0 r Q i l E H hist dn al d op ty pos af b (some false)) : gD V ops A n base K0 r Q i l E H hist dn al d op ty pos af b (some c) := by
  cases c
  · exact h2 rfl
  · exact h1 rfl
theorem D0_move {x0 : Operand} : DOpd V ops A n base K0 r Q i l E ⟨H, hist, dn, al⟩ (some ⟨d, .move x0, ty, pos, af, none⟩) = DAlld V ops A n base K0 r Q i l E ⟨H, hist, dn, al⟩ ⟨d, .move x0, ty, pos, af, none⟩ (allocB V.P (ev E) ⟨d, .move x0, ty, pos, af, none⟩ (base + i)) := propext (DOpd_0 rfl)
theorem D0_assign {x0 : Operand} : DOpd V ops A n base K0 r Q i l E ⟨H, hist, dn, al⟩ (some ⟨d, .assign x0, ty, pos, af, none⟩) = DAlld V ops A n base K0 r Q i l E ⟨H, hist, dn, al⟩ ⟨d, .assign x0, ty, pos, af, none⟩ (allocB V.P (ev E) ⟨d, .assign x0, ty, pos, af, none⟩ (base + i)) := propext (DOpd_0 rfl)
theorem D0_pick {x0 : Operand} {x1 : Operand} {x2 : Operand} : DOpd V ops A n base K0 r Q i l E ⟨H, hist, dn, al⟩ (some ⟨d, .pick x0 x1 x2, ty, pos, af, none⟩) = DAlld V ops A n base K0 r Q i l E ⟨H, hist, dn, al⟩ ⟨d, .pick x0 x1 x2, ty, pos, af, none⟩ (allocB V.P (ev E) ⟨d, .pick x0 x1 x2, ty, pos, af, none⟩ (base + i)) := propext (DOpd_0 rfl)
theorem D0_alloc {x0 : TypeId} : DOpd V ops A n base K0 r Q i l E ⟨H, hist, dn, al⟩ (some ⟨d, .alloc x0, ty, pos, af, none⟩) = DAlld V ops A n base K0 r Q i l E ⟨H, hist, dn, al⟩ ⟨d, .alloc x0, ty, pos, af, none⟩ (allocB V.P (ev E) ⟨d, .alloc x0, ty, pos, af, none⟩ (base + i)) := propext (DOpd_0 rfl)
theorem D0_box {x0 : TypeId} {x1 : Operand} : DOpd V ops A n base K0 r Q i l E ⟨H, hist, dn, al⟩ (some ⟨d, .box x0 x1, ty, pos, af, none⟩) = DAlld V ops A n base K0 r Q i l E ⟨H, hist, dn, al⟩ ⟨d, .box x0 x1, ty, pos, af, none⟩ (allocB V.P (ev E) ⟨d, .box x0 x1, ty, pos, af, none⟩ (base + i)) := propext (DOpd_0 rfl)
theorem D0_build {x0 : TypeId} {x1 : Array (Nat × Operand)} : DOpd V ops A n base K0 r Q i l E ⟨H, hist, dn, al⟩ (some ⟨d, .build x0 x1, ty, pos, af, none⟩) = DAlld V ops A n base K0 r Q i l E ⟨H, hist, dn, al⟩ ⟨d, .build x0 x1, ty, pos, af, none⟩ (allocB V.P (ev E) ⟨d, .build x0 x1, ty, pos, af, none⟩ (base + i)) := propext (DOpd_0 rfl)
theorem D0_buildSlice {x0 : TypeId} {x1 : Nat} {x2 : Array (Nat × Operand)} : DOpd V ops A n base K0 r Q i l E ⟨H, hist, dn, al⟩ (some ⟨d, .buildSlice x0 x1 x2, ty, pos, af, none⟩) = DAlld V ops A n base K0 r Q i l E ⟨H, hist, dn, al⟩ ⟨d, .buildSlice x0 x1 x2, ty, pos, af, none⟩ (allocB V.P (ev E) ⟨d, .buildSlice x0 x1 x2, ty, pos, af, none⟩ (base + i)) := propext (DOpd_0 rfl)
theorem D0_insert {x0 : TypeId} {x1 : Operand} {x2 : Operand} {x3 : Operand} : DOpd V ops A n base K0 r Q i l E ⟨H, hist, dn, al⟩ (some ⟨d, .insert x0 x1 x2 x3, ty, pos, af, none⟩) = DAlld V ops A n base K0 r Q i l E ⟨H, hist, dn, al⟩ ⟨d, .insert x0 x1 x2 x3, ty, pos, af, none⟩ (allocB V.P (ev E) ⟨d, .insert x0 x1 x2 x3, ty, pos, af, none⟩ (base + i)) := propext (DOpd_0 rfl)
theorem D0_load {x0 : TypeId} {x1 : Operand} : DOpd V ops A n base K0 r Q i l E ⟨H, hist, dn, al⟩ (some ⟨d, .load x0 x1, ty, pos, af, none⟩) = DAlld V ops A n base K0 r Q i l E ⟨H, hist, dn, al⟩ ⟨d, .load x0 x1, ty, pos, af, none⟩ (allocB V.P (ev E) ⟨d, .load x0 x1, ty, pos, af, none⟩ (base + i)) := propext (DOpd_0 rfl)
theorem D0_store {x0 : TypeId} {x1 : Operand} {x2 : Operand} : DOpd V ops A n base K0 r Q i l E ⟨H, hist, dn, al⟩ (some ⟨d, .store x0 x1 x2, ty, pos, af, none⟩) = DAlld V ops A n base K0 r Q i l E ⟨H, hist, dn, al⟩ ⟨d, .store x0 x1 x2, ty, pos, af, none⟩ (allocB V.P (ev E) ⟨d, .store x0 x1 x2, ty, pos, af, none⟩ (base + i)) := propext (DOpd_0 rfl)
theorem D0_nilCheck {x0 : Operand} : DOpd V ops A n base K0 r Q i l E ⟨H, hist, dn, al⟩ (some ⟨d, .nilCheck x0, ty, pos, af, none⟩) = DAlld V ops A n base K0 r Q i l E ⟨H, hist, dn, al⟩ ⟨d, .nilCheck x0, ty, pos, af, none⟩ (allocB V.P (ev E) ⟨d, .nilCheck x0, ty, pos, af, none⟩ (base + i)) := propext (DOpd_0 rfl)
theorem D0_binOp {x0 : BinOp} {x1 : TypeId} {x2 : Operand} {x3 : Operand} {x4 : TypeId} : DOpd V ops A n base K0 r Q i l E ⟨H, hist, dn, al⟩ (some ⟨d, .binOp x0 x1 x2 x3 x4, ty, pos, af, none⟩) = DAlld V ops A n base K0 r Q i l E ⟨H, hist, dn, al⟩ ⟨d, .binOp x0 x1 x2 x3 x4, ty, pos, af, none⟩ (allocB V.P (ev E) ⟨d, .binOp x0 x1 x2 x3 x4, ty, pos, af, none⟩ (base + i)) := propext (DOpd_0 rfl)
theorem D0_unOp {x0 : UnOp} {x1 : TypeId} {x2 : Operand} : DOpd V ops A n base K0 r Q i l E ⟨H, hist, dn, al⟩ (some ⟨d, .unOp x0 x1 x2, ty, pos, af, none⟩) = DAlld V ops A n base K0 r Q i l E ⟨H, hist, dn, al⟩ ⟨d, .unOp x0 x1 x2, ty, pos, af, none⟩ (allocB V.P (ev E) ⟨d, .unOp x0 x1 x2, ty, pos, af, none⟩ (base + i)) := propext (DOpd_0 rfl)
theorem D0_convert {x0 : TypeId} {x1 : TypeId} {x2 : Operand} : DOpd V ops A n base K0 r Q i l E ⟨H, hist, dn, al⟩ (some ⟨d, .convert x0 x1 x2, ty, pos, af, none⟩) = DAlld V ops A n base K0 r Q i l E ⟨H, hist, dn, al⟩ ⟨d, .convert x0 x1 x2, ty, pos, af, none⟩ (allocB V.P (ev E) ⟨d, .convert x0 x1 x2, ty, pos, af, none⟩ (base + i)) := propext (DOpd_0 rfl)
theorem D0_makeInterface {x0 : TypeId} {x1 : Operand} : DOpd V ops A n base K0 r Q i l E ⟨H, hist, dn, al⟩ (some ⟨d, .makeInterface x0 x1, ty, pos, af, none⟩) = DAlld V ops A n base K0 r Q i l E ⟨H, hist, dn, al⟩ ⟨d, .makeInterface x0 x1, ty, pos, af, none⟩ (allocB V.P (ev E) ⟨d, .makeInterface x0 x1, ty, pos, af, none⟩ (base + i)) := propext (DOpd_0 rfl)
theorem D0_makeFunc {x0 : Fn} {x1 : Array Operand} {x2 : Array Operand} : DOpd V ops A n base K0 r Q i l E ⟨H, hist, dn, al⟩ (some ⟨d, .makeFunc x0 x1 x2, ty, pos, af, none⟩) = DAlld V ops A n base K0 r Q i l E ⟨H, hist, dn, al⟩ ⟨d, .makeFunc x0 x1 x2, ty, pos, af, none⟩ (allocB V.P (ev E) ⟨d, .makeFunc x0 x1 x2, ty, pos, af, none⟩ (base + i)) := propext (DOpd_0 rfl)
theorem D0_makeMap {x0 : TypeId} {x1 : Option Operand} : DOpd V ops A n base K0 r Q i l E ⟨H, hist, dn, al⟩ (some ⟨d, .makeMap x0 x1, ty, pos, af, none⟩) = DAlld V ops A n base K0 r Q i l E ⟨H, hist, dn, al⟩ ⟨d, .makeMap x0 x1, ty, pos, af, none⟩ (allocB V.P (ev E) ⟨d, .makeMap x0 x1, ty, pos, af, none⟩ (base + i)) := propext (DOpd_0 rfl)
theorem D0_makeSlice {x0 : TypeId} {x1 : Operand} {x2 : Operand} : DOpd V ops A n base K0 r Q i l E ⟨H, hist, dn, al⟩ (some ⟨d, .makeSlice x0 x1 x2, ty, pos, af, none⟩) = DAlld V ops A n base K0 r Q i l E ⟨H, hist, dn, al⟩ ⟨d, .makeSlice x0 x1 x2, ty, pos, af, none⟩ (allocB V.P (ev E) ⟨d, .makeSlice x0 x1 x2, ty, pos, af, none⟩ (base + i)) := propext (DOpd_0 rfl)
theorem D0_slice {x0 : TypeId} {x1 : Operand} {x2 : Option Operand} {x3 : Option Operand} {x4 : Option Operand} : DOpd V ops A n base K0 r Q i l E ⟨H, hist, dn, al⟩ (some ⟨d, .slice x0 x1 x2 x3 x4, ty, pos, af, none⟩) = DAlld V ops A n base K0 r Q i l E ⟨H, hist, dn, al⟩ ⟨d, .slice x0 x1 x2 x3 x4, ty, pos, af, none⟩ (allocB V.P (ev E) ⟨d, .slice x0 x1 x2 x3 x4, ty, pos, af, none⟩ (base + i)) := propext (DOpd_0 rfl)
theorem D0_fieldAddr {x0 : TypeId} {x1 : Operand} {x2 : Nat} : DOpd V ops A n base K0 r Q i l E ⟨H, hist, dn, al⟩ (some ⟨d, .fieldAddr x0 x1 x2, ty, pos, af, none⟩) = DAlld V ops A n base K0 r Q i l E ⟨H, hist, dn, al⟩ ⟨d, .fieldAddr x0 x1 x2, ty, pos, af, none⟩ (allocB V.P (ev E) ⟨d, .fieldAddr x0 x1 x2, ty, pos, af, none⟩ (base + i)) := propext (DOpd_0 rfl)
theorem D0_field {x0 : TypeId} {x1 : Operand} {x2 : Nat} : DOpd V ops A n base K0 r Q i l E ⟨H, hist, dn, al⟩ (some ⟨d, .field x0 x1 x2, ty, pos, af, none⟩) = DAlld V ops A n base K0 r Q i l E ⟨H, hist, dn, al⟩ ⟨d, .field x0 x1 x2, ty, pos, af, none⟩ (allocB V.P (ev E) ⟨d, .field x0 x1 x2, ty, pos, af, none⟩ (base + i)) := propext (DOpd_0 rfl)
theorem D0_indexAddr {x0 : TypeId} {x1 : Operand} {x2 : Operand} : DOpd V ops A n base K0 r Q i l E ⟨H, hist, dn, al⟩ (some ⟨d, .indexAddr x0 x1 x2, ty, pos, af, none⟩) = DAlld V ops A n base K0 r Q i l E ⟨H, hist, dn, al⟩ ⟨d, .indexAddr x0 x1 x2, ty, pos, af, none⟩ (allocB V.P (ev E) ⟨d, .indexAddr x0 x1 x2, ty, pos, af, none⟩ (base + i)) := propext (DOpd_0 rfl)
theorem D0_index {x0 : TypeId} {x1 : Operand} {x2 : Operand} : DOpd V ops A n base K0 r Q i l E ⟨H, hist, dn, al⟩ (some ⟨d, .index x0 x1 x2, ty, pos, af, none⟩) = DAlld V ops A n base K0 r Q i l E ⟨H, hist, dn, al⟩ ⟨d, .index x0 x1 x2, ty, pos, af, none⟩ (allocB V.P (ev E) ⟨d, .index x0 x1 x2, ty, pos, af, none⟩ (base + i)) := propext (DOpd_0 rfl)
theorem D0_lookup {x0 : TypeId} {x1 : Operand} {x2 : Operand} {x3 : Bool} : DOpd V ops A n base K0 r Q i l E ⟨H, hist, dn, al⟩ (some ⟨d, .lookup x0 x1 x2 x3, ty, pos, af, none⟩) = DAlld V ops A n base K0 r Q i l E ⟨H, hist, dn, al⟩ ⟨d, .lookup x0 x1 x2 x3, ty, pos, af, none⟩ (allocB V.P (ev E) ⟨d, .lookup x0 x1 x2 x3, ty, pos, af, none⟩ (base + i)) := propext (DOpd_0 rfl)
theorem D0_mapUpdate {x0 : TypeId} {x1 : Operand} {x2 : Operand} {x3 : Operand} : DOpd V ops A n base K0 r Q i l E ⟨H, hist, dn, al⟩ (some ⟨d, .mapUpdate x0 x1 x2 x3, ty, pos, af, none⟩) = DAlld V ops A n base K0 r Q i l E ⟨H, hist, dn, al⟩ ⟨d, .mapUpdate x0 x1 x2 x3, ty, pos, af, none⟩ (allocB V.P (ev E) ⟨d, .mapUpdate x0 x1 x2 x3, ty, pos, af, none⟩ (base + i)) := propext (DOpd_0 rfl)
theorem D0_extract {x0 : Operand} {x1 : Nat} : DOpd V ops A n base K0 r Q i l E ⟨H, hist, dn, al⟩ (some ⟨d, .extract x0 x1, ty, pos, af, none⟩) = DAlld V ops A n base K0 r Q i l E ⟨H, hist, dn, al⟩ ⟨d, .extract x0 x1, ty, pos, af, none⟩ (allocB V.P (ev E) ⟨d, .extract x0 x1, ty, pos, af, none⟩ (base + i)) := propext (DOpd_0 rfl)
theorem D0_builtin {b : Builtin} {xs : Array Operand} {ts : Array TypeId} : DOpd V ops A n base K0 r Q i l E ⟨H, hist, dn, al⟩ (some ⟨d, .call ⟨.builtin b, xs, ts⟩, ty, pos, af, none⟩) = DAlld V ops A n base K0 r Q i l E ⟨H, hist, dn, al⟩ ⟨d, .call ⟨.builtin b, xs, ts⟩, ty, pos, af, none⟩ (allocB V.P (ev E) ⟨d, .call ⟨.builtin b, xs, ts⟩, ty, pos, af, none⟩ (base + i)) := propext (DOpd_0 rfl)
def DNone (V : Env) (ops : Array Oper) (A : List (List Nat)) (n base : Nat) (K0 : Heap) (r : List It) (Q : Ex → St → Prop) (i : Nat) (l : List Nat) (E : Tr Value) (s : DT) (o : Oper) : Bool → Prop
  | true => (s.dn.all fun j => (A.getD i []).contains j) = true ∧ DEffv V ops A n base K0 r Q i l E s o.dst (aopF V.P (ev E) o s.cur)
  | false => DFreev V ops A n base K0 r Q i l E s o (aopF V.P (ev E) o (plusA base s.al (headK K0 s.hist) (A.getD i [])))
theorem D1_move {x0 : Operand} : DAlld V ops A n base K0 r Q i l E ⟨H, hist, dn, al⟩ ⟨d, .move x0, ty, pos, af, none⟩ none = DFreev V ops A n base K0 r Q i l E ⟨H, hist, dn, al⟩ ⟨d, .move x0, ty, pos, af, none⟩ (aopF V.P (ev E) ⟨d, .move x0, ty, pos, af, none⟩ (plusA base al (headK K0 hist) (A.getD i []))) := propext (DAlld_free rfl)
theorem D1_assign {x0 : Operand} : DAlld V ops A n base K0 r Q i l E ⟨H, hist, dn, al⟩ ⟨d, .assign x0, ty, pos, af, none⟩ none = DFreev V ops A n base K0 r Q i l E ⟨H, hist, dn, al⟩ ⟨d, .assign x0, ty, pos, af, none⟩ (aopF V.P (ev E) ⟨d, .assign x0, ty, pos, af, none⟩ (plusA base al (headK K0 hist) (A.getD i []))) := propext (DAlld_free rfl)
theorem D1_pick {x0 : Operand} {x1 : Operand} {x2 : Operand} : DAlld V ops A n base K0 r Q i l E ⟨H, hist, dn, al⟩ ⟨d, .pick x0 x1 x2, ty, pos, af, none⟩ none = DFreev V ops A n base K0 r Q i l E ⟨H, hist, dn, al⟩ ⟨d, .pick x0 x1 x2, ty, pos, af, none⟩ (aopF V.P (ev E) ⟨d, .pick x0 x1 x2, ty, pos, af, none⟩ (plusA base al (headK K0 hist) (A.getD i []))) := propext (DAlld_free rfl)
theorem D1_alloc {x0 : TypeId} : DAlld V ops A n base K0 r Q i l E ⟨H, hist, dn, al⟩ ⟨d, .alloc x0, ty, pos, af, none⟩ none = DFreev V ops A n base K0 r Q i l E ⟨H, hist, dn, al⟩ ⟨d, .alloc x0, ty, pos, af, none⟩ (aopF V.P (ev E) ⟨d, .alloc x0, ty, pos, af, none⟩ (plusA base al (headK K0 hist) (A.getD i []))) := propext (DAlld_free rfl)
theorem D1_box {x0 : TypeId} {x1 : Operand} : DAlld V ops A n base K0 r Q i l E ⟨H, hist, dn, al⟩ ⟨d, .box x0 x1, ty, pos, af, none⟩ none = DFreev V ops A n base K0 r Q i l E ⟨H, hist, dn, al⟩ ⟨d, .box x0 x1, ty, pos, af, none⟩ (aopF V.P (ev E) ⟨d, .box x0 x1, ty, pos, af, none⟩ (plusA base al (headK K0 hist) (A.getD i []))) := propext (DAlld_free rfl)
theorem D1_build {x0 : TypeId} {x1 : Array (Nat × Operand)} : DAlld V ops A n base K0 r Q i l E ⟨H, hist, dn, al⟩ ⟨d, .build x0 x1, ty, pos, af, none⟩ none = DFreev V ops A n base K0 r Q i l E ⟨H, hist, dn, al⟩ ⟨d, .build x0 x1, ty, pos, af, none⟩ (aopF V.P (ev E) ⟨d, .build x0 x1, ty, pos, af, none⟩ (plusA base al (headK K0 hist) (A.getD i []))) := propext (DAlld_free rfl)
theorem D1_buildSlice {x0 : TypeId} {x1 : Nat} {x2 : Array (Nat × Operand)} : DAlld V ops A n base K0 r Q i l E ⟨H, hist, dn, al⟩ ⟨d, .buildSlice x0 x1 x2, ty, pos, af, none⟩ none = DFreev V ops A n base K0 r Q i l E ⟨H, hist, dn, al⟩ ⟨d, .buildSlice x0 x1 x2, ty, pos, af, none⟩ (aopF V.P (ev E) ⟨d, .buildSlice x0 x1 x2, ty, pos, af, none⟩ (plusA base al (headK K0 hist) (A.getD i []))) := propext (DAlld_free rfl)
theorem D1_insert {x0 : TypeId} {x1 : Operand} {x2 : Operand} {x3 : Operand} : DAlld V ops A n base K0 r Q i l E ⟨H, hist, dn, al⟩ ⟨d, .insert x0 x1 x2 x3, ty, pos, af, none⟩ none = ((dn.all fun j => (A.getD i []).contains j) = true ∧ DEffv V ops A n base K0 r Q i l E ⟨H, hist, dn, al⟩ d (aopF V.P (ev E) ⟨d, .insert x0 x1 x2 x3, ty, pos, af, none⟩ H)) := propext (DAlld_eff rfl rfl)
theorem D1_load {x0 : TypeId} {x1 : Operand} : DAlld V ops A n base K0 r Q i l E ⟨H, hist, dn, al⟩ ⟨d, .load x0 x1, ty, pos, af, none⟩ none = DFreev V ops A n base K0 r Q i l E ⟨H, hist, dn, al⟩ ⟨d, .load x0 x1, ty, pos, af, none⟩ (aopF V.P (ev E) ⟨d, .load x0 x1, ty, pos, af, none⟩ (plusA base al (headK K0 hist) (A.getD i []))) := propext (DAlld_free rfl)
theorem D1_store {x0 : TypeId} {x1 : Operand} {x2 : Operand} : DAlld V ops A n base K0 r Q i l E ⟨H, hist, dn, al⟩ ⟨d, .store x0 x1 x2, ty, pos, af, none⟩ none = ((dn.all fun j => (A.getD i []).contains j) = true ∧ DEffv V ops A n base K0 r Q i l E ⟨H, hist, dn, al⟩ d (aopF V.P (ev E) ⟨d, .store x0 x1 x2, ty, pos, af, none⟩ H)) := propext (DAlld_eff rfl rfl)
theorem D1_nilCheck {x0 : Operand} : DAlld V ops A n base K0 r Q i l E ⟨H, hist, dn, al⟩ ⟨d, .nilCheck x0, ty, pos, af, none⟩ none = DFreev V ops A n base K0 r Q i l E ⟨H, hist, dn, al⟩ ⟨d, .nilCheck x0, ty, pos, af, none⟩ (aopF V.P (ev E) ⟨d, .nilCheck x0, ty, pos, af, none⟩ (plusA base al (headK K0 hist) (A.getD i []))) := propext (DAlld_free rfl)
theorem D1_binOp {x0 : BinOp} {x1 : TypeId} {x2 : Operand} {x3 : Operand} {x4 : TypeId} : DAlld V ops A n base K0 r Q i l E ⟨H, hist, dn, al⟩ ⟨d, .binOp x0 x1 x2 x3 x4, ty, pos, af, none⟩ none = DFreev V ops A n base K0 r Q i l E ⟨H, hist, dn, al⟩ ⟨d, .binOp x0 x1 x2 x3 x4, ty, pos, af, none⟩ (aopF V.P (ev E) ⟨d, .binOp x0 x1 x2 x3 x4, ty, pos, af, none⟩ (plusA base al (headK K0 hist) (A.getD i []))) := propext (DAlld_free rfl)
theorem D1_unOp {x0 : UnOp} {x1 : TypeId} {x2 : Operand} : DAlld V ops A n base K0 r Q i l E ⟨H, hist, dn, al⟩ ⟨d, .unOp x0 x1 x2, ty, pos, af, none⟩ none = DFreev V ops A n base K0 r Q i l E ⟨H, hist, dn, al⟩ ⟨d, .unOp x0 x1 x2, ty, pos, af, none⟩ (aopF V.P (ev E) ⟨d, .unOp x0 x1 x2, ty, pos, af, none⟩ (plusA base al (headK K0 hist) (A.getD i []))) := propext (DAlld_free rfl)
theorem D1_convert {x0 : TypeId} {x1 : TypeId} {x2 : Operand} : DAlld V ops A n base K0 r Q i l E ⟨H, hist, dn, al⟩ ⟨d, .convert x0 x1 x2, ty, pos, af, none⟩ none = DFreev V ops A n base K0 r Q i l E ⟨H, hist, dn, al⟩ ⟨d, .convert x0 x1 x2, ty, pos, af, none⟩ (aopF V.P (ev E) ⟨d, .convert x0 x1 x2, ty, pos, af, none⟩ (plusA base al (headK K0 hist) (A.getD i []))) := propext (DAlld_free rfl)
theorem D1_makeInterface {x0 : TypeId} {x1 : Operand} : DAlld V ops A n base K0 r Q i l E ⟨H, hist, dn, al⟩ ⟨d, .makeInterface x0 x1, ty, pos, af, none⟩ none = DFreev V ops A n base K0 r Q i l E ⟨H, hist, dn, al⟩ ⟨d, .makeInterface x0 x1, ty, pos, af, none⟩ (aopF V.P (ev E) ⟨d, .makeInterface x0 x1, ty, pos, af, none⟩ (plusA base al (headK K0 hist) (A.getD i []))) := propext (DAlld_free rfl)
theorem D1_makeFunc {x0 : Fn} {x1 : Array Operand} {x2 : Array Operand} : DAlld V ops A n base K0 r Q i l E ⟨H, hist, dn, al⟩ ⟨d, .makeFunc x0 x1 x2, ty, pos, af, none⟩ none = DFreev V ops A n base K0 r Q i l E ⟨H, hist, dn, al⟩ ⟨d, .makeFunc x0 x1 x2, ty, pos, af, none⟩ (aopF V.P (ev E) ⟨d, .makeFunc x0 x1 x2, ty, pos, af, none⟩ (plusA base al (headK K0 hist) (A.getD i []))) := propext (DAlld_free rfl)
theorem D1_makeMap {x0 : TypeId} {x1 : Option Operand} : DAlld V ops A n base K0 r Q i l E ⟨H, hist, dn, al⟩ ⟨d, .makeMap x0 x1, ty, pos, af, none⟩ none = DFreev V ops A n base K0 r Q i l E ⟨H, hist, dn, al⟩ ⟨d, .makeMap x0 x1, ty, pos, af, none⟩ (aopF V.P (ev E) ⟨d, .makeMap x0 x1, ty, pos, af, none⟩ (plusA base al (headK K0 hist) (A.getD i []))) := propext (DAlld_free rfl)
theorem D1_makeSlice {x0 : TypeId} {x1 : Operand} {x2 : Operand} : DAlld V ops A n base K0 r Q i l E ⟨H, hist, dn, al⟩ ⟨d, .makeSlice x0 x1 x2, ty, pos, af, none⟩ none = DFreev V ops A n base K0 r Q i l E ⟨H, hist, dn, al⟩ ⟨d, .makeSlice x0 x1 x2, ty, pos, af, none⟩ (aopF V.P (ev E) ⟨d, .makeSlice x0 x1 x2, ty, pos, af, none⟩ (plusA base al (headK K0 hist) (A.getD i []))) := propext (DAlld_free rfl)
theorem D1_slice {x0 : TypeId} {x1 : Operand} {x2 : Option Operand} {x3 : Option Operand} {x4 : Option Operand} : DAlld V ops A n base K0 r Q i l E ⟨H, hist, dn, al⟩ ⟨d, .slice x0 x1 x2 x3 x4, ty, pos, af, none⟩ none = DFreev V ops A n base K0 r Q i l E ⟨H, hist, dn, al⟩ ⟨d, .slice x0 x1 x2 x3 x4, ty, pos, af, none⟩ (aopF V.P (ev E) ⟨d, .slice x0 x1 x2 x3 x4, ty, pos, af, none⟩ (plusA base al (headK K0 hist) (A.getD i []))) := propext (DAlld_free rfl)
theorem D1_fieldAddr {x0 : TypeId} {x1 : Operand} {x2 : Nat} : DAlld V ops A n base K0 r Q i l E ⟨H, hist, dn, al⟩ ⟨d, .fieldAddr x0 x1 x2, ty, pos, af, none⟩ none = DFreev V ops A n base K0 r Q i l E ⟨H, hist, dn, al⟩ ⟨d, .fieldAddr x0 x1 x2, ty, pos, af, none⟩ (aopF V.P (ev E) ⟨d, .fieldAddr x0 x1 x2, ty, pos, af, none⟩ (plusA base al (headK K0 hist) (A.getD i []))) := propext (DAlld_free rfl)
theorem D1_field {x0 : TypeId} {x1 : Operand} {x2 : Nat} : DAlld V ops A n base K0 r Q i l E ⟨H, hist, dn, al⟩ ⟨d, .field x0 x1 x2, ty, pos, af, none⟩ none = DFreev V ops A n base K0 r Q i l E ⟨H, hist, dn, al⟩ ⟨d, .field x0 x1 x2, ty, pos, af, none⟩ (aopF V.P (ev E) ⟨d, .field x0 x1 x2, ty, pos, af, none⟩ (plusA base al (headK K0 hist) (A.getD i []))) := propext (DAlld_free rfl)
theorem D1_indexAddr {x0 : TypeId} {x1 : Operand} {x2 : Operand} : DAlld V ops A n base K0 r Q i l E ⟨H, hist, dn, al⟩ ⟨d, .indexAddr x0 x1 x2, ty, pos, af, none⟩ none = DFreev V ops A n base K0 r Q i l E ⟨H, hist, dn, al⟩ ⟨d, .indexAddr x0 x1 x2, ty, pos, af, none⟩ (aopF V.P (ev E) ⟨d, .indexAddr x0 x1 x2, ty, pos, af, none⟩ (plusA base al (headK K0 hist) (A.getD i []))) := propext (DAlld_free rfl)
theorem D1_index {x0 : TypeId} {x1 : Operand} {x2 : Operand} : DAlld V ops A n base K0 r Q i l E ⟨H, hist, dn, al⟩ ⟨d, .index x0 x1 x2, ty, pos, af, none⟩ none = DFreev V ops A n base K0 r Q i l E ⟨H, hist, dn, al⟩ ⟨d, .index x0 x1 x2, ty, pos, af, none⟩ (aopF V.P (ev E) ⟨d, .index x0 x1 x2, ty, pos, af, none⟩ (plusA base al (headK K0 hist) (A.getD i []))) := propext (DAlld_free rfl)
theorem D1_lookup {x0 : TypeId} {x1 : Operand} {x2 : Operand} {x3 : Bool} : DAlld V ops A n base K0 r Q i l E ⟨H, hist, dn, al⟩ ⟨d, .lookup x0 x1 x2 x3, ty, pos, af, none⟩ none = DFreev V ops A n base K0 r Q i l E ⟨H, hist, dn, al⟩ ⟨d, .lookup x0 x1 x2 x3, ty, pos, af, none⟩ (aopF V.P (ev E) ⟨d, .lookup x0 x1 x2 x3, ty, pos, af, none⟩ (plusA base al (headK K0 hist) (A.getD i []))) := propext (DAlld_free rfl)
theorem D1_mapUpdate {x0 : TypeId} {x1 : Operand} {x2 : Operand} {x3 : Operand} : DAlld V ops A n base K0 r Q i l E ⟨H, hist, dn, al⟩ ⟨d, .mapUpdate x0 x1 x2 x3, ty, pos, af, none⟩ none = ((dn.all fun j => (A.getD i []).contains j) = true ∧ DEffv V ops A n base K0 r Q i l E ⟨H, hist, dn, al⟩ d (aopF V.P (ev E) ⟨d, .mapUpdate x0 x1 x2 x3, ty, pos, af, none⟩ H)) := propext (DAlld_eff rfl rfl)
theorem D1_extract {x0 : Operand} {x1 : Nat} : DAlld V ops A n base K0 r Q i l E ⟨H, hist, dn, al⟩ ⟨d, .extract x0 x1, ty, pos, af, none⟩ none = DFreev V ops A n base K0 r Q i l E ⟨H, hist, dn, al⟩ ⟨d, .extract x0 x1, ty, pos, af, none⟩ (aopF V.P (ev E) ⟨d, .extract x0 x1, ty, pos, af, none⟩ (plusA base al (headK K0 hist) (A.getD i []))) := propext (DAlld_free rfl)
theorem DAlld_b {b : Builtin} {xs : Array Operand} {ts : Array TypeId} : DAlld V ops A n base K0 r Q i l E ⟨H, hist, dn, al⟩ ⟨d, .call ⟨.builtin b, xs, ts⟩, ty, pos, af, none⟩ none = DNone V ops A n base K0 r Q i l E ⟨H, hist, dn, al⟩ ⟨d, .call ⟨.builtin b, xs, ts⟩, ty, pos, af, none⟩ (isEff ⟨d, .call ⟨.builtin b, xs, ts⟩, ty, pos, af, none⟩) := by
  refine propext ?_
  cases he : isEff ⟨d, .call ⟨.builtin b, xs, ts⟩, ty, pos, af, none⟩ with
  | true => exact DAlld_eff rfl he
  | false => exact DAlld_free he
theorem DNone_true {o : Oper} : DNone V ops A n base K0 r Q i l E ⟨H, hist, dn, al⟩ o true = ((dn.all fun j => (A.getD i []).contains j) = true ∧ DEffv V ops A n base K0 r Q i l E ⟨H, hist, dn, al⟩ o.dst (aopF V.P (ev E) o H)) := rfl
theorem DNone_false {o : Oper} : DNone V ops A n base K0 r Q i l E ⟨H, hist, dn, al⟩ o false = DFreev V ops A n base K0 r Q i l E ⟨H, hist, dn, al⟩ o (aopF V.P (ev E) o (plusA base al (headK K0 hist) (A.getD i []))) := rfl

theorem DOpd_callR {f : Operand} {xs : Array Operand} {ats : Array TypeId} {g : FuncId} {args : Array Value} {R : Value → Heap → Prop} (hd : (dn.all fun j => (A.getD i []).contains j) = true) (hf : ev E f = .func (.func g) #[] #[]) (ha : xs.map (ev E) = args) (hc : ∃ v H', Ca V g args H v H' ∧ R v H')
    (h : ∀ v H', R v H' → isV v ∧ KeepB base ops.size H H' ∧ DWd V ops A n base K0 r Q l (setO E d v) ⟨H', (H', i) :: hist, i :: dn, al⟩) : DOpd V ops A n base K0 r Q i l E ⟨H, hist, dn, al⟩ (some ⟨d, .call ⟨.value f, xs, ats⟩, ty, pos, af, none⟩) := by
  obtain ⟨v, H', hc, hR⟩ := hc
  obtain ⟨h1, h2, h3⟩ := h v H' hR
  exact DOpd_call hd hf ha hc h1 h2 h3
end
end Go.B

namespace Go.B
open Go

theorem flat_length {α : Type} (f : α → List Value) (n : Nat) (hf : ∀ x, (f x).length = n) : ∀ l : List α, (l.flatMap f).length = l.length * n
  | [] => by simp
  | a :: l => by simp [List.flatMap_cons, hf, flat_length f n hf l, Nat.succ_mul, Nat.add_comm]
theorem flat_get {α : Type} (f : α → List Value) (n : Nat) (hf : ∀ x, (f x).length = n) : ∀ (l : List α) (i : Nat) (x : α), l[i]? = some x → ((l.flatMap f).drop (i * n)).take n = f x
  | [], i, x, h => by simp at h
  | a :: l, 0, x, h => by
    simp at h; subst h
    simp [List.flatMap_cons, hf]
  | a :: l, i + 1, x, h => by
    have h2 := flat_get f n hf l i x (by simpa using h)
    rw [List.flatMap_cons, Nat.succ_mul, Nat.add_comm, ← List.drop_drop, List.drop_append_of_le_length (by rw [hf]; exact Nat.le_refl _)]
    rw [show (f a).drop n = [] from List.drop_eq_nil_of_le (by rw [hf]; exact Nat.le_refl _)]
    simpa using h2
theorem gcV_flat {α : Type} (f : α → List Value) (n : Nat) (hf : ∀ x, (f x).length = n) {l : List α} {i : Nat} {x : α} (h : l[i]? = some x) {e : TypeId} {ro : Bool} : gcV (i * n) n (some (.cells (l.flatMap f) e ro)) = some (f x) := by
  have hi : i < l.length := (List.getElem?_eq_some_iff.mp h).1
  have h2 : i * n + n ≤ (l.flatMap f).length := by
    rw [flat_length f n hf]
    have : (i + 1) * n ≤ l.length * n := Nat.mul_le_mul_right _ hi
    rw [Nat.succ_mul] at this
    exact this
  rw [gcV_cells, if_pos h2, flat_get f n hf l i x h]
theorem map_get1 {α : Type} (f : α → Value) {l : List α} {i : Nat} {x : α} (h : l[i]? = some x) {e : TypeId} {ro : Bool} : gcV i 1 (some (.cells (l.map f) e ro)) = some [f x] := by
  have hi : i < l.length := (List.getElem?_eq_some_iff.mp h).1
  rw [gcV_cells, if_pos (by simp; omega)]
  have : (l.map f).drop i = f x :: (l.map f).drop (i + 1) := by
    rw [List.drop_eq_getElem_cons (by simpa using hi)]
    simp only [List.getElem_map]
    have := (List.getElem?_eq_some_iff.mp h).2
    rw [this]
  rw [this]
  rfl

theorem wrap_i64 {n : Int} (h1 : -9223372036854775808 ≤ n) (h2 : n < 9223372036854775808) : IntKind.wrap .i64 n = n := by
  have e : (2 : Int) ^ IntKind.i64.bits = 18446744073709551616 := by decide
  have e2 : (2 : Int) ^ (IntKind.i64.bits - 1) = 9223372036854775808 := by decide
  simp only [IntKind.wrap, e, e2, IntKind.signed, Bool.true_and, decide_eq_true_eq]
  split <;> omega
theorem wrap_u8 {n : Int} (h1 : 0 ≤ n) (h2 : n < 256) : IntKind.wrap .u8 n = n := by
  have e : (2 : Int) ^ IntKind.u8.bits = 256 := by decide
  simp only [IntKind.wrap, e, IntKind.signed, Bool.false_and, Bool.false_eq_true, if_false]
  omega
theorem wrap_u16 {n : Int} (h1 : 0 ≤ n) (h2 : n < 65536) : IntKind.wrap .u16 n = n := by
  have e : (2 : Int) ^ IntKind.u16.bits = 65536 := by decide
  simp only [IntKind.wrap, e, IntKind.signed, Bool.false_and, Bool.false_eq_true, if_false]
  omega
theorem wrap_u32 {n : Int} (h1 : 0 ≤ n) (h2 : n < 4294967296) : IntKind.wrap .u32 n = n := by
  have e : (2 : Int) ^ IntKind.u32.bits = 4294967296 := by decide
  simp only [IntKind.wrap, e, IntKind.signed, Bool.false_and, Bool.false_eq_true, if_false]
  omega
theorem wrap_u64 {n : Int} (h1 : 0 ≤ n) (h2 : n < 18446744073709551616) : IntKind.wrap .u64 n = n := by
  have e : (2 : Int) ^ IntKind.u64.bits = 18446744073709551616 := by decide
  simp only [IntKind.wrap, e, IntKind.signed, Bool.false_and, Bool.false_eq_true, if_false]
  omega
theorem wrap_u16e (n : Int) : IntKind.wrap .u16 n = n % 65536 := by
  have e : (2 : Int) ^ IntKind.u16.bits = 65536 := by decide
  simp only [IntKind.wrap, e, IntKind.signed, Bool.false_and, Bool.false_eq_true, if_false]
theorem wrap_u32e (n : Int) : IntKind.wrap .u32 n = n % 4294967296 := by
  have e : (2 : Int) ^ IntKind.u32.bits = 4294967296 := by decide
  simp only [IntKind.wrap, e, IntKind.signed, Bool.false_and, Bool.false_eq_true, if_false]
theorem wrap_u8e (n : Int) : IntKind.wrap .u8 n = n % 256 := by
  have e : (2 : Int) ^ IntKind.u8.bits = 256 := by decide
  simp only [IntKind.wrap, e, IntKind.signed, Bool.false_and, Bool.false_eq_true, if_false]

theorem Same.pushed {H H2 : Heap} {ps : List Nat} (h : Same H H2 ps) (o : AObj) : Same H (H2.push o) ps := h.push o
theorem Same.put {H H2 : Heap} {ps : List Nat} (h : Same H H2 ps) {i : Nat} {o : AObj} (hi : (H2.get i).isSome = true) (hn : i < H.next → i ∈ ps) : Same H (H2.set i o) ps := by
  obtain ⟨o', ho⟩ := Option.isSome_iff_exists.mp hi
  exact h.set ho hn
def Heap.room (H : Heap) (k : Nat) : Heap := ⟨H.next + k, H.tr⟩
theorem Heap.get_room {H : Heap} {k i : Nat} : (H.room k).get i = H.get i := rfl
theorem Heap.next_room {H : Heap} {k : Nat} : (H.room k).next = H.next + k := rfl
theorem W_drawR {V : Env} {r : List It} {Q : Ex → St → Prop} {id : Nat} {ops : Array Oper} {n : Nat} {t : Tr Value} {H : Heap} (A : List (List Nat)) (C : List Nat) (hs : drawStatic V.P ops n A C = true) (hfree : Ok H)
    (h : DWd V ops A n H.next (H.room ops.size) r Q C t ⟨H.room ops.size, [], [], []⟩) : W V (.code (.region id ops true) :: r) ⟨n, t, H⟩ Q := W_drawnd A C hs hfree h
theorem W_drawLR {V : Env} {r : List It} {Q : Ex → St → Prop} {id : Nat} {ops : Array Oper} {n : Nat} {t : Tr Value} {H : Heap} (A : List (List Nat)) (C : List Nat) (hs : drawStaticL V.P ops n A C = true) (hfree : Ok H)
    (h : DWd V (offL ops.toList).toArray A n H.next (H.room (offL ops.toList).length) (.ops ops (ops.toList.drop (ops.size - 1)) :: r) Q C t ⟨H.room (offL ops.toList).length, [], [], []⟩) : W V (.code (.region id ops true) :: r) ⟨n, t, H⟩ Q := W_drawnL A C hs hfree h
theorem offL_one {o : Oper} : offL [o] = [{ o with dst := none }] := rfl
theorem offL_cons {o o' : Oper} {l : List Oper} : offL (o :: o' :: l) = o :: offL (o' :: l) := rfl
theorem Ok.put {H : Heap} (ok : Ok H) {i : Nat} (o : AObj) (h : (H.get i).isSome = true) : Ok (H.set i o) := by
  obtain ⟨o', ho⟩ := Option.isSome_iff_exists.mp h
  exact ok.set o (ok.lt ho)
theorem Ok.room {H : Heap} (ok : Ok H) (k : Nat) : Ok (H.room k) := fun a ha => ok a (by simp only [Heap.next_room] at ha; omega)
theorem Same.room {H H2 : Heap} {ps : List Nat} (h : Same H H2 ps) (k : Nat) : Same H (H2.room k) ps := ⟨Nat.le_trans h.le (Nat.le_add_right _ _), h.ok.room k, h.get, h.live⟩
theorem Same.make {H H2 : Heap} {ps : List Nat} (h : Same H H2 ps) {i : Nat} {o : AObj} (h1 : H.next ≤ i) (h2 : i < H2.next) : Same H (H2.set i o) ps :=
  ⟨h.le, h.ok.set o h2, fun j hj hp => by rw [Heap.get_set, if_neg (by omega)]; exact h.get j hj hp, fun j hj => by rw [Heap.get_set, if_neg (by omega)]; exact h.live j hj⟩
def hite (a b : Nat) (x y : Option AObj) : Option AObj := if a = b then x else y
theorem hite_same {a : Nat} {x y : Option AObj} : hite a a x y = x := if_pos rfl
theorem hite_ne {a b : Nat} {x y : Option AObj} (h : a ≠ b) : hite a b x y = y := if_neg h
theorem hite_eq {a b : Nat} {x y : Option AObj} (h : a = b) : hite a b x y = x := if_pos h
theorem Heap.get_setH {H : Heap} {i j : Nat} {o : AObj} : (H.set i o).get j = hite j i (some o) (H.get j) := Heap.get_set _ _ _ _
theorem Heap.get_pushH {H : Heap} {j : Nat} {o : AObj} : (H.push o).get j = hite j H.next (some o) (H.get j) := Heap.get_push _ _ _
theorem KeepB_set' {base size j : Nat} {H : Heap} {ob : AObj} : KeepB base size H (H.set j ob) = (base ≤ j → j < base + size → (H.get j).isSome = true) := by
  refine propext ⟨fun h h1 h2 => ?_, fun h => ⟨Nat.le_refl _, fun a ha => ?_⟩⟩
  · have := h.2 (j - base) (by omega)
    rw [show base + (j - base) = j by omega, Heap.get_set, if_pos rfl] at this
    rw [← this]; rfl
  · rw [Heap.get_set]
    split
    · rename_i e; rw [e, h (by omega) (by omega)]; rfl
    · rfl
theorem ite_some {α : Type} {c : Prop} [Decidable c] {x : Option α} (h : c) : (if c then x else none) = x := if_pos h
theorem itev_pos {c : Prop} [Decidable c] {a b : Value} (h : c) : (if c then a else b) = a := if_pos h
theorem itev_neg {c : Prop} [Decidable c] {a b : Value} (h : ¬ c) : (if c then a else b) = b := if_neg h

theorem isVs_iff : ∀ {l : List Value}, veqL l l = true ↔ isVs l
  | [] => ⟨fun _ => trivial, fun _ => rfl⟩
  | v :: l => by simp only [veqL, Bool.and_eq_true, isVs, isVs_iff]
theorem isV_agg' {l : List Value} : isV (.agg l.toArray) = isVs l := propext isVs_iff
theorem isV_tuple' {l : List Value} : isV (.tuple l.toArray) = isVs l := propext isVs_iff
theorem isVs_int' {k : IntKind} {n : Int} {l : List Value} : isVs (.int k n :: l) = isVs l := propext ⟨fun h => h.2, fun h => isVs_int h⟩
theorem isVs_bool' {b : Bool} {l : List Value} : isVs (.bool b :: l) = isVs l := propext ⟨fun h => h.2, fun h => isVs_bool h⟩
theorem isVs_string' {s : ByteArray} {l : List Value} : isVs (.string s :: l) = isVs l := propext ⟨fun h => h.2, fun h => isVs_string h⟩
theorem isVs_pointer' {a : Option Addr} {l : List Value} : isVs (.pointer a :: l) = isVs l := propext ⟨fun h => h.2, fun h => isVs_pointer h⟩
theorem isVs_slice' {a : Option Addr} {m c : Nat} {l : List Value} : isVs (.slice a m c :: l) = isVs l := propext ⟨fun h => h.2, fun h => isVs_slice h⟩
theorem isVs_map' {a : Option Nat} {l : List Value} : isVs (.map a :: l) = isVs l := propext ⟨fun h => h.2, fun h => isVs_map h⟩
theorem isVs_nif' {l : List Value} : isVs (.nilIface :: l) = isVs l := propext ⟨fun h => h.2, fun h => isVs_nif h⟩
theorem Same.same {H : Heap} (ok : Ok H) {ps : List Nat} : Same H H ps := (Same.refl ok).mono (fun _ h => by cases h)
theorem binV_eqlD {P : Program} {H : Heap} {t : TypeId} {x y : Operand} {k : IntKind} {a b : Int} : binV P H .eql t x y (.int k a) (.int k b) = some (.val (.bool (decide (a = b))) H) := by
  rw [binV_eql]; congr 3
theorem binV_neqD {P : Program} {H : Heap} {t : TypeId} {x y : Operand} {k : IntKind} {a b : Int} : binV P H .neq t x y (.int k a) (.int k b) = some (.val (.bool (decide (¬ a = b))) H) := by
  rw [binV_neq]
  have : (a != b) = decide (¬ a = b) := by
    rw [Bool.eq_iff_iff]; simp
  rw [this]
theorem binV_seqlD {P : Program} {H : Heap} {t : TypeId} {x y : Operand} {a b : ByteArray} : binV P H .eql t x y (.string a) (.string b) = some (.val (.bool (decide (a = b))) H) := by
  rw [binV_seql, ba_lbeq]
theorem binV_sneqD {P : Program} {H : Heap} {t : TypeId} {x y : Operand} {a b : ByteArray} : binV P H .neq t x y (.string a) (.string b) = some (.val (.bool (decide (¬ a = b))) H) := by
  rw [binV_sneq, ba_lbeq, decide_not]
theorem unV_notD {P : Program} {H : Heap} {p : Prop} [Decidable p] : unV P H .not (.bool (decide p)) = some (.val (.bool (decide (¬ p))) H) := by
  rw [unV_not, decide_not]

def cutQ (V : Env) (r : List It) (Q : Ex → St → Prop) (n : Nat) (I : Tr Value → Heap → Prop) : Ex → St → Prop
  | .normal, s => s.n = n ∧ I s.t s.H
  | .ret, s => Q .ret s
  | .exit j, s => exitW V j r s Q
theorem cutQ_normal {V : Env} {r : List It} {Q : Ex → St → Prop} {n m : Nat} {I : Tr Value → Heap → Prop} {t : Tr Value} {H : Heap} : cutQ V r Q n I .normal ⟨m, t, H⟩ = (m = n ∧ I t H) := rfl
theorem cutQ_ret {V : Env} {r : List It} {Q : Ex → St → Prop} {n : Nat} {I : Tr Value → Heap → Prop} {s : St} : cutQ V r Q n I .ret s = Q .ret s := rfl
theorem cutQ_exit {V : Env} {r : List It} {Q : Ex → St → Prop} {n j : Nat} {I : Tr Value → Heap → Prop} {s : St} : cutQ V r Q n I (.exit j) s = exitW V j r s Q := rfl
def contR (V : Env) (k n : Nat) (r : List It) : Option (Ex × St) → Option (Ex × St)
  | some (.normal, s) => runIts V k n r s
  | some (.exit i, s) => runIts.outIt V k n i r s
  | o => o
theorem runIts_append {V : Env} {k n : Nat} {r : List It} : ∀ (pre : List It), (∀ st, runIts V k n (pre ++ r) st = contR V k n r (runIts V k n pre st)) ∧ ∀ j st, runIts.outIt V k n j (pre ++ r) st = contR V k n r (runIts.outIt V k n j pre st)
  | [] => ⟨fun st => rfl, fun j st => rfl⟩
  | i :: p => by
    obtain ⟨h1, h2⟩ := runIts_append (V := V) (k := k) (n := n) (r := r) p
    constructor
    · intro st
      simp only [List.cons_append, runIts]
      cases runIt V k n i st with
      | none => rfl
      | some q =>
        obtain ⟨e, s⟩ := q
        cases e with
        | normal => exact h1 s
        | exit j => exact h2 j s
        | ret => rfl
    · intro j st
      cases i with
      | code c => exact h2 j st
      | ops a l => exact h2 j st
      | blk id =>
        simp only [List.cons_append, runIts.outIt]
        split
        · exact h1 st
        · exact h2 j st
theorem W_cutL {V : Env} {Q : Ex → St → Prop} (pre : List It) {r : List It} {n : Nat} {t : Tr Value} {H : Heap} (I : Tr Value → Heap → Prop) (h1 : W V pre ⟨n, t, H⟩ (cutQ V r Q n I)) (h2 : ∀ t H, I t H → W V r ⟨n, t, H⟩ Q) : W V (pre ++ r) ⟨n, t, H⟩ Q := by
  obtain ⟨ex, s, hq, K, hk⟩ := h1
  cases ex with
  | normal =>
    obtain ⟨hn, hI⟩ := hq
    obtain ⟨n', t', H'⟩ := s
    obtain rfl : n' = n := hn
    obtain ⟨ex2, s2, hq2, K2, hk2⟩ := h2 t' H' hI
    exact ⟨ex2, s2, hq2, max K K2, fun k n a b => by rw [(runIts_append pre).1, hk k n (by omega) (by omega)]; exact hk2 k n (by omega) (by omega)⟩
  | ret => exact ⟨.ret, s, hq, K, fun k n a b => by rw [(runIts_append pre).1, hk k n a b]; rfl⟩
  | exit j =>
    obtain ⟨ex2, s2, hq2, K2, hk2⟩ := exitW_spec.mp hq
    exact ⟨ex2, s2, hq2, max K K2, fun k n a b => by rw [(runIts_append pre).1, hk k n (by omega) (by omega)]; exact hk2 k n (by omega) (by omega)⟩

theorem tmod_pos {a b : Int} (h : 0 ≤ a) : a.tmod b = a % b := Int.tmod_eq_emod_of_nonneg h
theorem tdiv_pos {a b : Int} (h : 0 ≤ a) : a.tdiv b = a / b := Int.tdiv_eq_ediv_of_nonneg h
theorem binV_quoD {P : Program} {H : Heap} {t : TypeId} {x y : Operand} {k : IntKind} {a b : Int} (hb : b ≠ 0) : binV P H .quo t x y (.int k a) (.int k b) = some (.val (.int k (k.wrap (a.tdiv b))) H) := binV_quo hb
theorem binV_remD {P : Program} {H : Heap} {t : TypeId} {x y : Operand} {k : IntKind} {a b : Int} (hb : b ≠ 0) : binV P H .rem t x y (.int k a) (.int k b) = some (.val (.int k (a.tmod b)) H) := binV_rem hb

section
variable {P : Program} {e : Operand → Value} {H : Heap} {d : Option Tmp} {ty : TypeId} {pos : String} {af : Array Edge} {g : Option (Nat × Bool)} {x y : Operand} {ats : Array TypeId}
def aop0 (P : Program) (e : Operand → Value) (o : Oper) (H : Heap) : Option Res := aop P e o H
def aopF0 (P : Program) (e : Operand → Value) (o : Oper) (H : Heap) : Option Res := aopF P e o H
def mxV (orig : Option Res) (H : Heap) : Value → Value → Option Res
  | .int k a, .int k2 b => if k = k2 then some (.val (.int k (if b > a then b else a)) H) else orig
  | _, _ => orig
def mnV (orig : Option Res) (H : Heap) : Value → Value → Option Res
  | .int k a, .int k2 b => if k = k2 then some (.val (.int k (if b < a then b else a)) H) else orig
  | _, _ => orig
theorem aopF_maxD : aopF P e ⟨d, .call ⟨.builtin .max, #[x, y], ats⟩, ty, pos, af, g⟩ H = mxV (aopF0 P e ⟨d, .call ⟨.builtin .max, #[x, y], ats⟩, ty, pos, af, g⟩ H) H (e x) (e y) := by
  unfold mxV
  split
  · rename_i k a k2 b h1 h2
    split
    · rename_i hk; subst hk; exact aopF_max h1 h2
    · rfl
  · rfl
theorem aopF_minD : aopF P e ⟨d, .call ⟨.builtin .min, #[x, y], ats⟩, ty, pos, af, g⟩ H = mnV (aopF0 P e ⟨d, .call ⟨.builtin .min, #[x, y], ats⟩, ty, pos, af, g⟩ H) H (e x) (e y) := by
  unfold mnV
  split
  · rename_i k a k2 b h1 h2
    split
    · rename_i hk; subst hk; exact aopF_min h1 h2
    · rfl
  · rfl
theorem aop_maxD : aop P e ⟨d, .call ⟨.builtin .max, #[x, y], ats⟩, ty, pos, af, g⟩ H = mxV (aop0 P e ⟨d, .call ⟨.builtin .max, #[x, y], ats⟩, ty, pos, af, g⟩ H) H (e x) (e y) := by
  unfold mxV
  split
  · rename_i k a k2 b h1 h2
    split
    · rename_i hk; subst hk; exact aop_max h1 h2
    · rfl
  · rfl
theorem aop_minD : aop P e ⟨d, .call ⟨.builtin .min, #[x, y], ats⟩, ty, pos, af, g⟩ H = mnV (aop0 P e ⟨d, .call ⟨.builtin .min, #[x, y], ats⟩, ty, pos, af, g⟩ H) H (e x) (e y) := by
  unfold mnV
  split
  · rename_i k a k2 b h1 h2
    split
    · rename_i hk; subst hk; exact aop_min h1 h2
    · rfl
  · rfl
theorem mxV_int {o : Option Res} {k : IntKind} {a b : Int} : mxV o H (.int k a) (.int k b) = some (.val (.int k (if b > a then b else a)) H) := if_pos rfl
theorem mnV_int {o : Option Res} {k : IntKind} {a b : Int} : mnV o H (.int k a) (.int k b) = some (.val (.int k (if b < a then b else a)) H) := if_pos rfl
end
end Go.B

namespace Go.B
open Go

structure KeyEq (P : Program) (kt : TypeId) {α : Type} [DecidableEq α] (enc : α → Value) : Prop where
  eq : ∀ (a : α) (es : List MapEntry) (l : List (α × Value)), es.map (fun e => (e.key, e.val)) = l.map (fun p => (enc p.1, p.2)) → keyAt P kt (enc a) es = some (l.findIdx? fun p => decide (a = p.1))
  ok : ∀ a emp, keyOk P kt (enc a) emp = true
  bits : ∀ a, Instr.sameBits 10000 (enc a) (enc a) = true

def MapIs {α : Type} (enc : α → Value) (es : List MapEntry) (l : List (α × Value)) : Prop := es.map (fun e => (e.key, e.val)) = l.map (fun p => (enc p.1, p.2))

def aget {α : Type} [DecidableEq α] (l : List (α × Value)) (a : α) : Option Value := (l.find? fun p => decide (a = p.1)).map (·.2)
def aset {α : Type} [DecidableEq α] (l : List (α × Value)) (a : α) (v : Value) : List (α × Value) :=
  match l with
  | [] => [(a, v)]
  | p :: l => if a = p.1 then (a, v) :: l else p :: aset l a v

section
variable {P : Program} {α : Type} [DecidableEq α] {enc : α → Value}

theorem find_idx {β : Type} {f : β → Bool} : ∀ {l : List β}, l.find? f = (l.findIdx? f).bind fun i => l[i]?
  | [] => rfl
  | a :: l => by
    rw [List.find?_cons, List.findIdx?_cons]
    cases f a with
    | true => rfl
    | false =>
      simp only [Bool.false_eq_true, if_false]
      rw [find_idx (l := l)]
      cases l.findIdx? f <;> simp

omit [DecidableEq α] in
theorem MapIs.get {es : List MapEntry} {l : List (α × Value)} (h : MapIs enc es l) {i : Nat} {p : α × Value} (hp : l[i]? = some p) : ∃ en, es[i]? = some en ∧ en.key = enc p.1 ∧ en.val = p.2 := by
  have := congrArg (fun x => x[i]?) h
  simp only [List.getElem?_map, hp, Option.map_some] at this
  obtain ⟨en, h1, h2⟩ := Option.map_eq_some_iff.mp this
  simp only [Prod.mk.injEq] at h2
  exact ⟨en, h1, h2.1, h2.2⟩
omit [DecidableEq α] in
theorem MapIs.length {es : List MapEntry} {l : List (α × Value)} (h : MapIs enc es l) : es.length = l.length := by
  have := congrArg List.length h
  simpa using this

def lkV (ok : Bool) (z : Value) : Option Value → Value
  | some v => if ok then .tuple #[v, .bool true] else v
  | none => if ok then .tuple #[z, .bool false] else z

theorem lookup_is {H : Heap} {t kt et : TypeId} {m : Nat} {es : List MapEntry} {clk : Nat} {l : List (α × Value)} {a : α} {ok : Bool} {z : Value} (hE : KeyEq P kt enc) (hu : P.underlying t = some (.map kt et)) (hz : zeroOf P et = some z) (hzs : isScalA z = true)
    (hm : H.get m = some (.map es clk)) (h : MapIs enc es l) : lookupB P H t (.map (some m)) (enc a) ok = some (lkV ok z (aget l a)) := by
  have hme : entsOf H (.map (some m)) = some es := by simp only [entsOf, mapOf, hm, Option.map_some]
  unfold lookupB
  rw [hu, hme]
  simp only [hE.ok, if_true, hE.eq a es l h, hz, hzs]
  unfold aget
  rw [find_idx]
  cases hi : l.findIdx? (fun p => decide (a = p.1)) with
  | none => cases ok <;> rfl
  | some i =>
    have hlt := (List.findIdx?_eq_some_iff_getElem.mp hi).1
    obtain ⟨en, h1, h2, h3⟩ := h.get (List.getElem?_eq_getElem hlt)
    simp only [h1, Option.map_some, Option.bind_some, List.getElem?_eq_getElem hlt, h3]
    cases ok <;> rfl

theorem lookup_nil {H : Heap} {t kt et : TypeId} {a : α} {ok : Bool} {z : Value} (hE : KeyEq P kt enc) (hu : P.underlying t = some (.map kt et)) (hz : zeroOf P et = some z) (hzs : isScalA z = true) :
    lookupB P H t (.map none) (enc a) ok = some (lkV ok z none) := by
  unfold lookupB
  rw [hu]
  simp only [entsOf, hE.ok, if_true, hE.eq a [] [] rfl, hz, hzs, List.findIdx?_nil]
  cases ok <;> rfl

theorem aset_none {l : List (α × Value)} {a : α} {v : Value} (h : l.findIdx? (fun p => decide (a = p.1)) = none) : aset l a v = l ++ [(a, v)] := by
  induction l with
  | nil => rfl
  | cons p l ih =>
    rw [List.findIdx?_cons] at h
    by_cases he : a = p.1
    · simp [he] at h
    · simp only [he, decide_false, Bool.false_eq_true, if_false, Option.map_eq_none_iff] at h
      simp only [aset, if_neg he, ih h, List.cons_append]
theorem aset_some {l : List (α × Value)} {a : α} {v : Value} {i : Nat} (h : l.findIdx? (fun p => decide (a = p.1)) = some i) : aset l a v = l.set i (a, v) := by
  induction l generalizing i with
  | nil => simp at h
  | cons p l ih =>
    rw [List.findIdx?_cons] at h
    by_cases he : a = p.1
    · simp [he] at h
      subst h
      simp only [aset, if_pos he, List.set_cons_zero]
    · simp only [he, decide_false, Bool.false_eq_true, if_false] at h
      obtain ⟨j, hj, rfl⟩ := Option.map_eq_some_iff.mp h
      simp only [aset, if_neg he, ih hj, List.set_cons_succ]

theorem update_is {H : Heap} {t kt et : TypeId} {m : Nat} {es : List MapEntry} {clk : Nat} {l : List (α × Value)} {a : α} {v : Value} (hE : KeyEq P kt enc) (hu : P.underlying t = some (.map kt et)) (hm : H.get m = some (.map es clk)) (h : MapIs enc es l) :
    ∃ es' clk', updateB P H t (.map (some m)) (enc a) v = some (H.set m (.map es' clk')) ∧ MapIs enc es' (aset l a v) := by
  have hme : mapOf H m = some (es, clk) := by unfold mapOf; rw [hm]
  unfold updateB
  rw [hu]
  simp only [hme, hE.ok, if_true, hE.eq a es l h]
  cases hi : l.findIdx? (fun p => decide (a = p.1)) with
  | none =>
    refine ⟨_, _, rfl, ?_⟩
    unfold MapIs at *
    rw [aset_none hi, List.map_append, List.map_append, h]
    rfl
  | some i =>
    obtain ⟨hlt, h4, _⟩ := List.findIdx?_eq_some_iff_getElem.mp hi
    have hai : a = (l[i]).1 := by simpa using h4
    obtain ⟨en, h1, h2, h3⟩ := h.get (List.getElem?_eq_getElem hlt)
    rw [← hai] at h2
    simp only [h1]
    rw [if_pos (by rw [h2]; exact hE.bits a)]
    refine ⟨_, _, rfl, ?_⟩
    unfold MapIs at *
    rw [aset_some hi]
    apply List.ext_getElem?
    intro j
    simp only [List.getElem?_map, List.getElem?_modify, List.getElem?_set]
    have hj := congrArg (fun x => x[j]?) h
    simp only [List.getElem?_map] at hj
    by_cases hij : i = j
    · subst hij
      simp [hlt, h1]
    · rw [if_neg hij]
      rw [← hj]
      cases es[j]? <;> simp [hij]

theorem keyAt_now {kt : TypeId} {D : TypeDesc} {k : Value} (hu : P.underlying kt = some D) {es : List MapEntry} {r : Option (Nat × Value)} (h : Instr.findNow D k (es.map fun e => { e with val := undef }) 0 = some r) : keyAt P kt k es = some (r.map (·.1)) := by
  unfold keyAt Instr.findKey
  rw [runP_bind, runP_und hu]
  simp only [Option.bind_some, h]
  rfl

theorem findNow_is {D : TypeDesc} (hs : ∀ a b, Instr.sameNow D (enc a) (enc b) = some (decide (a = b))) (a : α) : ∀ (es : List MapEntry) (l : List (α × Value)) (i : Nat), es.map (fun e => (e.key, e.val)) = l.map (fun p => (enc p.1, p.2)) →
    ∃ r, Instr.findNow D (enc a) (es.map fun e => { e with val := undef }) i = some r ∧ r.map (·.1) = (l.findIdx? fun p => decide (a = p.1)).map (· + i) := by
  intro es
  induction es with
  | nil => intro l i h; cases l with | nil => exact ⟨none, rfl, rfl⟩ | cons _ _ => simp at h
  | cons e es ih =>
    intro l i h
    cases l with
    | nil => simp at h
    | cons p l =>
      simp only [List.map_cons, List.cons.injEq, Prod.mk.injEq] at h
      obtain ⟨⟨h1, h2⟩, h3⟩ := h
      simp only [List.map_cons, Instr.findNow, h1, hs]
      rw [List.findIdx?_cons]
      by_cases he : a = p.1
      · simp [he]
      · simp only [he, decide_false, Bool.false_eq_true, if_false]
        obtain ⟨r, hr1, hr2⟩ := ih l (i + 1) h3
        refine ⟨r, hr1, ?_⟩
        rw [hr2]
        cases l.findIdx? (fun p => decide (a = p.1)) with
        | none => rfl
        | some j => simp; omega

theorem KeyEq.now {kt : TypeId} {D : TypeDesc} (hu : P.underlying kt = some D) (hs : ∀ a b, Instr.sameNow D (enc a) (enc b) = some (decide (a = b))) (hok : ∀ a emp, keyOk P kt (enc a) emp = true) (hb : ∀ a, Instr.sameBits 10000 (enc a) (enc a) = true) : KeyEq P kt enc where
  eq a es l h := by
    obtain ⟨r, h1, h2⟩ := findNow_is hs a es l 0 h
    rw [keyAt_now hu h1, h2]
    cases l.findIdx? (fun p => decide (a = p.1)) <;> simp
  ok := hok
  bits := hb

theorem keyOk_scal {kt : TypeId} {D : TypeDesc} {v : Value} {emp : Bool} (hu : P.underlying kt = some D) (hs : isScalA v = true) (hD : (match D with | .interface _ | .array _ _ | .struct _ => false | _ => true) = true) : keyOk P kt v emp = true := by
  unfold keyOk
  rw [hs, Bool.true_and]
  have : runP P (Instr.checkKey emp 10000 kt v) = some () := by
    unfold Instr.checkKey
    rw [runP_bind, runP_und hu]
    simp only [Option.bind_some]
    cases D <;> first | rfl | cases hD
  rw [this]; rfl

theorem KeyEq.string {kt : TypeId} (hu : P.underlying kt = some .string) : KeyEq P kt Value.string :=
  KeyEq.now hu (fun a b => by simp only [Instr.sameNow, ba_beq]) (fun a emp => keyOk_scal hu rfl rfl) (fun a => by simp only [Instr.sameBits, ba_beq, decide_true])
theorem KeyEq.int {kt : TypeId} {k : IntKind} (hu : P.underlying kt = some (.int k)) : KeyEq P kt (Value.int k) :=
  KeyEq.now hu (fun a b => by simp only [Instr.sameNow, if_true]; congr 1) (fun a emp => keyOk_scal hu rfl rfl) (fun a => by simp [Instr.sameBits])
end
end Go.B

namespace Go.B
open Go

inductive Dat where
  | int (n : Int)
  | bool (b : Bool)
  | str (s : ByteArray)
  | slice (l : List Dat)
  | agg (l : List Dat)

inductive Enc (P : Program) (H : Heap) : TypeId → List Value → Dat → Prop
  | int {t : TypeId} {k : IntKind} {n : Int} (hu : P.underlying t = some (.int k)) (hw : (Lit.int k n).wf = true) : Enc P H t [.int k n] (.int n)
  | bool {t : TypeId} {b : Bool} (hu : P.underlying t = some .bool) : Enc P H t [.bool b] (.bool b)
  | str {t : TypeId} {s : ByteArray} (hu : P.underlying t = some .string) (hl : s.size ≤ maxLen) : Enc P H t [.string s] (.str s)
  | nil {t e : TypeId} (hu : P.underlying t = some (.slice e)) : Enc P H t [.slice none 0 0] (.slice [])
  | emp {t e : TypeId} (hu : P.underlying t = some (.slice e)) : Enc P H t [.slice (some empA) 0 capU] (.slice [])
  | slice {t e : TypeId} {i : Nat} {c : List Value} {l : List Dat} (hu : P.underlying t = some (.slice e)) (hg : H.get i = some (.cells c e true)) (hl : l.length ≤ maxLen) (hc : c.length = l.length * P.cellsOf e)
      (h : ∀ (j : Nat) (x : Dat), l[j]? = some x → Enc P H e ((c.drop (j * P.cellsOf e)).take (P.cellsOf e)) x) : Enc P H t [.slice (some ⟨i, 0, none⟩) l.length capU] (.slice l)
  | struct {t : TypeId} {fs : Array Field} {cs : List Value} {l : List Dat} (hu : P.underlying t = some (.struct fs)) (hc : cs.length = P.cellsOf t) (hl : l.length = fs.size)
      (h : ∀ (j : Nat) (f : Field) (x : Dat), fs[j]? = some f → l[j]? = some x → Enc P H f.type ((cs.drop f.offset).take (P.cellsOf f.type)) x) : Enc P H t cs (.agg l)
  | array {t e : TypeId} {n : Nat} {cs : List Value} {l : List Dat} (hu : P.underlying t = some (.array n e)) (hc : cs.length = P.cellsOf t) (hl : l.length = n)
      (h : ∀ (j : Nat) (x : Dat), l[j]? = some x → Enc P H e ((cs.drop (j * P.cellsOf e)).take (P.cellsOf e)) x) : Enc P H t cs (.agg l)

theorem Enc.mono {P : Program} {H H' : Heap} (hg : ∀ i o, H.get i = some o → H'.get i = some o) {t : TypeId} {cs : List Value} {d : Dat} (h : Enc P H t cs d) : Enc P H' t cs d := by
  induction h with
  | int hu hw => exact .int hu hw
  | bool hu => exact .bool hu
  | str hu hl => exact .str hu hl
  | nil hu => exact .nil hu
  | emp hu => exact .emp hu
  | slice hu h1 hl hc _ ih => exact .slice hu (hg _ _ h1) hl hc ih
  | struct hu hc hl _ ih => exact .struct hu hc hl ih
  | array hu hc hl _ ih => exact .array hu hc hl ih

theorem flatten_seg {α : Type} : ∀ (A : List (List α)) (j : Nat) (a : List α), A[j]? = some a → (A.flatten.drop ((A.take j).map List.length).sum).take a.length = a
  | [], j, a, h => by simp at h
  | x :: A, 0, a, h => by simp at h; subst h; simp
  | x :: A, j + 1, a, h => by
    have := flatten_seg A j a (by simpa using h)
    simp only [List.take_succ_cons, List.map_cons, List.sum_cons, List.flatten_cons]
    rw [← List.drop_drop, List.drop_left]
    exact this
theorem sum_const {α : Type} {n : Nat} : ∀ (A : List (List α)), (∀ a ∈ A, a.length = n) → (A.map List.length).sum = A.length * n
  | [], _ => by simp
  | a :: A, h => by simp [h a (by simp), sum_const A fun b hb => h b (by simp [hb]), Nat.succ_mul, Nat.add_comm]
def segs : List Nat → List Value → List (List Value)
  | [], _ => []
  | n :: s, cs => cs.take n :: segs s (cs.drop n)
theorem segs_flatten : ∀ (s : List Nat) (cs : List Value), cs.length = s.sum → (segs s cs).flatten = cs
  | [], cs, h => by simp at h; simp [segs, h]
  | n :: s, cs, h => by
    simp only [List.sum_cons] at h
    simp only [segs, List.flatten_cons]
    rw [segs_flatten s _ (by simp; omega), List.take_append_drop]
theorem segs_length : ∀ (s : List Nat) (cs : List Value), (segs s cs).length = s.length
  | [], _ => rfl
  | n :: s, cs => by simp [segs, segs_length s]
theorem segs_get : ∀ (s : List Nat) (cs : List Value) (j n : Nat), s[j]? = some n → (segs s cs)[j]? = some ((cs.drop (s.take j).sum).take n)
  | [], _, j, n, h => by simp at h
  | m :: s, cs, 0, n, h => by simp at h; subst h; simp [segs]
  | m :: s, cs, j + 1, n, h => by
    have := segs_get s (cs.drop m) j n (by simpa using h)
    simp only [segs, List.getElem?_cons_succ, this, List.take_succ_cons, List.sum_cons, List.drop_drop]

theorem LRel.flatten {ρ : Ren} : ∀ {A B : List (List Value)}, A.length = B.length → (∀ (j : Nat) (a b : List Value), A[j]? = some a → B[j]? = some b → LRel ρ a b) → LRel ρ A.flatten B.flatten
  | [], [], _, _ => LRel.nil
  | a :: A, b :: B, hl, h => by
    simp only [List.flatten_cons]
    exact LRel.append (h 0 a b rfl rfl) (LRel.flatten (by simpa using hl) fun j x y hx hy => h (j + 1) x y (by simpa using hx) (by simpa using hy))
  | [], _ :: _, hl, _ => by simp at hl
  | _ :: _, [], hl, _ => by simp at hl

structure Laid (P : Program) [Dem P] (W : World) (ρ : Ren) (H : Heap) (ρ' : Ren) (H' : Heap) : Prop where
  ext : Ext ρ ρ'
  rel : WRel P ρ' H' W
  same : Same H H' []
  ro : ∀ i, ¬ Mut H' i

def chk (P : Program) (ts : List TypeId) (t : TypeId) : Bool :=
  match P.underlying t with
  | some (.int _) | some .bool | some .string => P.cellsOf t == 1
  | some (.slice e) => (P.cellsOf t == 1) && (ts.contains e && (decide (0 < P.cellsOf e) && (szOf P e).isSome))
  | some (.array n e) => ts.contains e && (P.cellsOf t == n * P.cellsOf e)
  | some (.struct fs) => (fs.toList.all fun f => ts.contains f.type) && ((P.cellsOf t == (fs.toList.map fun f => P.cellsOf f.type).sum) &&
      (List.range fs.size).all fun j => match fs[j]? with | some f => f.offset == ((fs.toList.map fun f => P.cellsOf f.type).take j).sum | none => true)
  | _ => false

section
variable {P : Program} [Dem P] {W : World} {HH : Type} {enc : TypeId × Value → HH} {base : Nat} {held : Bool}

theorem Laid.refl {ρ : Ren} {H : Heap} (ok : Ok H) (hr : WRel P ρ H W) (hm : ∀ i, ¬ Mut H i) : Laid P W ρ H ρ H := ⟨Ext.refl ρ, hr, Same.refl ok, hm⟩
theorem Laid.trans {ρ ρ' ρ'' : Ren} {H H' H'' : Heap} (h : Laid P W ρ H ρ' H') (k : Laid P W ρ' H' ρ'' H'') : Laid P W ρ H ρ'' H'' := ⟨h.ext.trans k.ext, k.rel, h.same.trans k.same (fun q hq => by cases hq), k.ro⟩
theorem Same.keeps {H H' : Heap} (ok : Ok H) (h : Same H H' []) : ∀ i o, H.get i = some o → H'.get i = some o := fun i o hg => by rw [h.get i (ok.lt hg) (by simp)]; exact hg

theorem Laid.push {ρ : Ren} {H : Heap} (ok : Ok H) (hr : WRel P ρ H W) (hm : ∀ i, ¬ Mut H i) {c : List Value} {e : TypeId} {L : Loc} (hL : L.blk < W.heap.size) (hc : CellsAt P ρ W L c e true) : Laid P W ρ H (ρ.put H.next L) (H.push (.cells c e true)) := by
  have hx : Ext ρ (ρ.put H.next L) := Ren.put_ext hr.fresh
  have hmut : ∀ i, ¬ Mut (H.push (.cells c e true)) i := fun i hi => by
    by_cases e' : i = H.next
    · unfold Mut at hi
      rw [Heap.get_push, if_pos e'] at hi
      rcases hi with ⟨_, _, hi⟩ | ⟨_, _, hi⟩ <;> simp at hi
    · refine hm i ?_
      unfold Mut at *
      simpa only [Heap.get_push, if_neg e'] using hi
  refine ⟨hx, ?_, (Same.refl ok).push _, hmut⟩
  exact {
    ren := fun i M hi => by
      by_cases e' : i = H.next
      · subst e'; rw [Ren.put_same] at hi; cases hi; exact ⟨Nat.lt_succ_self _, hL⟩
      · rw [Ren.put_other e'] at hi; have := hr.ren i M hi; exact ⟨Nat.lt_succ_of_lt this.1, this.2⟩
    cells := fun i c2 e2 ro hi => by
      rw [Heap.get_push] at hi
      by_cases e' : i = H.next
      · rw [if_pos e'] at hi; cases hi; subst e'
        exact ⟨L, Ren.put_same, hc.mono hx rfl⟩
      · rw [if_neg e'] at hi
        obtain ⟨M, hM, h2⟩ := hr.cells i c2 e2 ro hi
        exact ⟨M, hx _ _ hM, h2.mono hx rfl⟩
    maps := fun i es clk hi => by
      rw [Heap.get_push] at hi
      by_cases e' : i = H.next
      · rw [if_pos e'] at hi; cases hi
      · rw [if_neg e'] at hi
        exact absurd (.inr ⟨es, clk, hi⟩) (hm i)
    inj := fun i j M N hi => absurd hi (hmut i)
    inv := hr.inv
    size := hr.size
    base := fun i M hi => absurd hi (hmut i) }

theorem cell_block {W : World} {a : Addr} {v : Value} (h : W.cell? (a.add 0) = some v) : ∃ cc e' fr, W.heap[a.block]? = some (.cells cc e' fr) ∧ a.spot = none ∧ ∀ i, W.cell? (a.add i) = cc[a.off + i]? := by
  have h0 : a.add 0 = a := by unfold Addr.add; exact if_pos rfl
  rw [h0] at h
  unfold World.cell? at h
  cases hw : W.heap[a.block]? with
  | none => rw [hw] at h; cases h
  | some o =>
    rw [hw] at h
    cases o with
    | cells cc e' fr =>
      have hs : a.spot = none := by
        cases hsp : a.spot with
        | none => rfl
        | some _ => rw [hsp] at h; simp at h
      refine ⟨cc, e', fr, rfl, hs, fun i => ?_⟩
      have hi : a.add i = ⟨a.block, a.off + i, none⟩ := by
        unfold Addr.add
        split
        · rename_i h0; subst h0; cases a; simp_all
        · rfl
      rw [hi]
      unfold World.cell?
      rw [hw]
      rfl
    | _ => cases h

theorem lay {ts : List TypeId} (hts : ∀ t ∈ ts, chk P ts t = true) : ∀ (fuel : Nat) (t : TypeId) (cs : List Value) (x : DataW HH × List MemPlace), t ∈ ts → cs.length = P.cellsOf t → DataW.trod enc P W base (fun _ => true) held fuel t cs = some x →
    ∀ (ρ : Ren) (H : Heap), Ok H → WRel P ρ H W → (∀ i, ¬ Mut H i) → ∃ ρ' H' acs y, Laid P W ρ H ρ' H' ∧ LRel ρ' acs cs ∧ acs.length = cs.length ∧ Enc P H' t acs y := by
  intro fuel
  induction fuel with
  | zero => intro t cs x _ _ h; simp [DataW.trod] at h
  | succ fuel ih =>
    -- many at once
    have many : ∀ (L : List (TypeId × List Value)), (∀ p ∈ L, p.1 ∈ ts ∧ p.2.length = P.cellsOf p.1 ∧ ∃ x, DataW.trod enc P W base (fun _ => true) held fuel p.1 p.2 = some x) → ∀ (ρ : Ren) (H : Heap), Ok H → WRel P ρ H W → (∀ i, ¬ Mut H i) →
        ∃ (ρ' : Ren) (H' : Heap) (A : List (List Value)) (ys : List Dat), Laid P W ρ H ρ' H' ∧ A.length = L.length ∧ ys.length = L.length ∧ ∀ (j : Nat) (p : TypeId × List Value), L[j]? = some p → ∃ a y, A[j]? = some a ∧ ys[j]? = some y ∧ LRel ρ' a p.2 ∧ a.length = p.2.length ∧ Enc P H' p.1 a y := by
      intro L
      induction L with
      | nil => intro _ ρ H ok hr hm; exact ⟨ρ, H, [], [], Laid.refl ok hr hm, rfl, rfl, fun j p h => by simp at h⟩
      | cons p L ihL =>
        intro hL ρ H ok hr hm
        obtain ⟨h1, h2, x, h3⟩ := hL p (by simp)
        obtain ⟨ρ1, H1, a, y, l1, r1, n1, e1⟩ := ih p.1 p.2 x h1 h2 h3 ρ H ok hr hm
        obtain ⟨ρ2, H2, A, ys, l2, n2, n3, h4⟩ := ihL (fun q hq => hL q (by simp [hq])) ρ1 H1 l1.same.ok l1.rel l1.ro
        refine ⟨ρ2, H2, a :: A, y :: ys, l1.trans l2, by simp [n2], by simp [n3], fun j q hj => ?_⟩
        cases j with
        | zero =>
          simp at hj; subst hj
          exact ⟨a, y, rfl, rfl, r1.mono l2.ext, n1, e1.mono (l2.same.keeps l1.same.ok)⟩
        | succ j => exact h4 j q (by simpa using hj)
    intro t cs x ht hlen h ρ H ok hr hm
    have hck := hts t ht
    unfold chk at hck
    split at hck
    · rename_i k hu
      obtain ⟨n, rfl, _, hw⟩ := DataW.trod_int hu h
      exact ⟨ρ, H, [.int k n], .int n, Laid.refl ok hr hm, LRel.cons (.int k n) LRel.nil, rfl, .int hu hw⟩
    · rename_i hu
      obtain ⟨b, rfl, _⟩ := DataW.trod_bool hu h
      exact ⟨ρ, H, [.bool b], .bool b, Laid.refl ok hr hm, LRel.cons (.bool b) LRel.nil, rfl, .bool hu⟩
    · rename_i hu
      obtain ⟨s, rfl, _, hl⟩ := DataW.trod_string hu h
      exact ⟨ρ, H, [.string s], .str s, Laid.refl ok hr hm, LRel.cons (.string s) LRel.nil, rfl, .str hu hl⟩
    · rename_i e hu
      simp only [Bool.and_eq_true, decide_eq_true_eq] at hck
      obtain ⟨_, he, hpos, hsz⟩ := hck
      have he : e ∈ ts := by simpa using he
      rcases DataW.trod_slice hu h with ⟨rfl, _⟩ | ⟨a, len, cap, elems, rest, n, hn, rfl, _, hb, hle, hcm, hel, hget, hsp, _⟩
      · exact ⟨ρ, H, [.slice none 0 0], .slice [], Laid.refl ok hr hm, LRel.cons .sliceNil LRel.nil, rfl, .nil hu⟩
      · cases hn
        obtain ⟨hrl, hrest⟩ := hsp rfl
        by_cases hc0 : cap = 0
        · subst hc0
          obtain rfl : len = 0 := by omega
          exact ⟨ρ, H, [.slice (some empA) 0 capU], .slice [], Laid.refl ok hr hm, LRel.cons (.slice0 (.inr rfl)) LRel.nil, rfl, .emp hu⟩
        · -- every element that is there
          have hall : ∀ i, i < cap → ∃ c, W.cells? base (a.add (i * P.cellsOf e)) (P.cellsOf e) = some c ∧ ∃ y, DataW.trod enc P W base (fun _ => true) held fuel e c = some y := by
            intro i hi
            by_cases hil : i < len
            · have := hget i hil
              rw [List.getElem?_eq_getElem (by omega)] at this
              obtain ⟨c, h1, h2⟩ := Option.bind_eq_some_iff.1 this
              exact ⟨c, h1, _, h2⟩
            · have := hrest (i - len) (by omega)
              rw [show len + (i - len) = i by omega, List.getElem?_eq_getElem (by omega)] at this
              obtain ⟨c, h1, h2⟩ := Option.bind_eq_some_iff.1 this
              exact ⟨c, h1, _, h2⟩
          -- the block
          have hcell : ∀ i, i < cap * P.cellsOf e → ∃ v, W.cell? (a.add i) = some v := by
            intro i hi
            have hq : i / P.cellsOf e < cap := Nat.div_lt_of_lt_mul (by rw [Nat.mul_comm]; exact hi)
            obtain ⟨c, h1, _⟩ := hall _ hq
            obtain ⟨_, h2, h3⟩ := World.cells?_some h1
            have hm2 : i % P.cellsOf e < P.cellsOf e := Nat.mod_lt _ hpos
            have h4 := h3 _ hm2
            rw [Addr.add_add, Nat.mul_comm, Nat.div_add_mod] at h4
            exact ⟨_, h4.trans (List.getElem?_eq_getElem (by omega))⟩
          have hbig : 0 < cap * P.cellsOf e := Nat.mul_pos (by omega) hpos
          obtain ⟨v0, hv0⟩ := hcell 0 hbig
          obtain ⟨cc, e', fr, hw, hspot, hcellc⟩ := cell_block hv0
          have hroom : a.off + cap * P.cellsOf e ≤ cc.size := by
            obtain ⟨v, hv⟩ := hcell (cap * P.cellsOf e - 1) (by omega)
            rw [hcellc] at hv
            have := (Array.getElem?_eq_some_iff.mp hv).1
            omega
          -- the elements
          let C : Nat → List Value := fun i => ((W.cells? base (a.add (i * P.cellsOf e)) (P.cellsOf e)).getD [])
          have hC : ∀ i, i < len → W.cells? base (a.add (i * P.cellsOf e)) (P.cellsOf e) = some (C i) ∧ (C i).length = P.cellsOf e ∧ ∃ y, DataW.trod enc P W base (fun _ => true) held fuel e (C i) = some y := by
            intro i hi
            obtain ⟨c, h1, y, h2⟩ := hall i (by omega)
            have : C i = c := by simp only [C, h1, Option.getD_some]
            rw [this]
            exact ⟨h1, (World.cells?_some h1).2.1, y, h2⟩
          obtain ⟨ρ1, H1, A, ys, l1, n1, n2, h4⟩ := many ((List.range len).map fun i => (e, C i)) (fun p hp => by
            obtain ⟨i, hi, rfl⟩ := List.mem_map.mp hp
            obtain ⟨_, h2, h3⟩ := hC i (by simpa using hi)
            exact ⟨he, h2, h3⟩) ρ H ok hr hm
          simp only [List.length_map, List.length_range] at n1 n2
          have hA : ∀ j, j < len → ∃ a' y, A[j]? = some a' ∧ ys[j]? = some y ∧ LRel ρ1 a' (C j) ∧ a'.length = P.cellsOf e ∧ Enc P H1 e a' y := fun j hj => by
            obtain ⟨a', y, h5, h6, h7, h8, h9⟩ := h4 j (e, C j) (by simp [hj])
            exact ⟨a', y, h5, h6, h7, h8.trans (hC j hj).2.1, h9⟩
          have hAl : ∀ x ∈ A, x.length = P.cellsOf e := fun x hx => by
            obtain ⟨j, hj, rfl⟩ := List.mem_iff_getElem.mp hx
            obtain ⟨a', y, h5, _, _, h8, _⟩ := hA j (by omega)
            rw [List.getElem?_eq_getElem hj] at h5
            cases h5; exact h8
          have hfl : A.flatten.length = len * P.cellsOf e := by rw [List.length_flatten, sum_const A hAl, n1]
          have hle2 : len * P.cellsOf e ≤ cap * P.cellsOf e := Nat.mul_le_mul_right _ hle
          obtain ⟨sz, hsz⟩ := Option.isSome_iff_exists.mp hsz
          have hszc : sz = P.cellsOf e := by
            unfold szOf at hsz
            unfold Program.cellsOf
            rw [hsz]; rfl
          have hcellsat : CellsAt P ρ1 W ⟨a.block, a.off, cc.size - a.off, sz⟩ A.flatten e true := by
            refine ⟨cc, fr, e', hw, (fun z => by cases z), (by show cc.size = a.off + (cc.size - a.off); omega), (by rw [hfl]; show len * P.cellsOf e ≤ cc.size - a.off; omega), hsz, fun o v hv => ?_, (fun z => by cases z)⟩
            have ho : o < len * P.cellsOf e := by rw [← hfl]; exact (List.getElem?_eq_some_iff.mp hv).1
            have hq : o / P.cellsOf e < len := Nat.div_lt_of_lt_mul (by rw [Nat.mul_comm]; exact ho)
            have hm2 : o % P.cellsOf e < P.cellsOf e := Nat.mod_lt _ hpos
            obtain ⟨a', y, h5, h6, h7, h8, h9⟩ := hA _ hq
            have hs := flatten_seg A (o / P.cellsOf e) a' h5
            rw [sum_const _ (fun x hx => hAl x (List.mem_of_mem_take hx)), List.length_take, h8, Nat.min_eq_left (by omega)] at hs
            have hv2 : a'[o % P.cellsOf e]? = some v := by
              rw [← hs, List.getElem?_take_of_lt hm2, List.getElem?_drop, Nat.mul_comm, Nat.div_add_mod]
              exact hv
            obtain ⟨v', h10, h11⟩ := h7.get hv2
            obtain ⟨_, _, h12⟩ := World.cells?_some (hC _ hq).1
            have h13 := h12 _ hm2
            rw [Addr.add_add, Nat.mul_comm, Nat.div_add_mod, hcellc, h10] at h13
            exact ⟨v', h13, h11⟩
          have hblt : a.block < W.heap.size := (Array.getElem?_eq_some_iff.mp hw).1
          have l2 := Laid.push l1.same.ok l1.rel l1.ro (L := ⟨a.block, a.off, cc.size - a.off, sz⟩) hblt hcellsat
          have hae : a = ⟨a.block, a.off, none⟩ := by cases a; simp_all
          refine ⟨_, _, [.slice (some ⟨H1.next, 0, none⟩) ys.length capU], .slice ys, l1.trans l2, ?_, rfl, ?_⟩
          · refine LRel.cons ?_ LRel.nil
            rw [n2, hae]
            have := VRel.slice (ρ := ρ1.put H1.next ⟨a.block, a.off, cc.size - a.off, sz⟩) (i := H1.next) (o := 0) (l := len) (c := capU) (c' := cap) (L := ⟨a.block, a.off, cc.size - a.off, sz⟩) Ren.put_same hle (.inr rfl) (by simp only [hszc]; omega)
            exact this
          · refine .slice hu (c := A.flatten) (by rw [Heap.get_push, if_pos rfl]) (by rw [n2]; omega) (by rw [hfl, n2]) (fun j y hj => ?_)
            have hjl : j < len := by have := (List.getElem?_eq_some_iff.mp hj).1; omega
            obtain ⟨a', y', h5, h6, h7, h8, h9⟩ := hA j hjl
            rw [hj] at h6; cases h6
            have hs := flatten_seg A j a' h5
            rw [sum_const _ (fun x hx => hAl x (List.mem_of_mem_take hx)), List.length_take, h8, Nat.min_eq_left (by omega)] at hs
            rw [hs]
            exact h9.mono (l2.same.keeps l1.same.ok)
    · rename_i n e hu
      simp only [Bool.and_eq_true, beq_iff_eq] at hck
      obtain ⟨he, hsum⟩ := hck
      have he : e ∈ ts := by simpa using he
      have h := h
      unfold DataW.trod at h
      rw [hu] at h
      simp only [hlen, if_true] at h
      obtain ⟨xs, hx, _⟩ := Option.map_eq_some_iff.mp h
      have hx2 : ∀ i, i < n → ∃ y, DataW.trod enc P W base (fun _ => true) held fuel e ((cs.drop (i * P.cellsOf e)).take (P.cellsOf e)) = some y := fun i hi => by
        have h1 := mapM_some_get hx i i (by simp [hi])
        have h2 : i < xs.length := by rw [mapM_some_length hx]; simpa using hi
        rw [List.getElem?_eq_getElem h2] at h1
        exact ⟨_, h1⟩
      have hseg : ∀ i, i < n → ((cs.drop (i * P.cellsOf e)).take (P.cellsOf e)).length = P.cellsOf e := fun i hi => by
        have : (i + 1) * P.cellsOf e ≤ n * P.cellsOf e := Nat.mul_le_mul_right _ hi
        rw [Nat.succ_mul] at this
        simp only [List.length_take, List.length_drop]
        omega
      obtain ⟨ρ1, H1, A, ys, l1, n1, n2, h4⟩ := many ((List.range n).map fun i => (e, (cs.drop (i * P.cellsOf e)).take (P.cellsOf e))) (fun p hp => by
        obtain ⟨i, hi, rfl⟩ := List.mem_map.mp hp
        have hi : i < n := by simpa using hi
        exact ⟨he, hseg i hi, hx2 i hi⟩) ρ H ok hr hm
      simp only [List.length_map, List.length_range] at n1 n2
      have hA : ∀ j, j < n → ∃ a' y, A[j]? = some a' ∧ ys[j]? = some y ∧ LRel ρ1 a' ((cs.drop (j * P.cellsOf e)).take (P.cellsOf e)) ∧ a'.length = P.cellsOf e ∧ Enc P H1 e a' y := fun j hj => by
        obtain ⟨a', y, h5, h6, h7, h8, h9⟩ := h4 j _ (by simp [hj]; rfl)
        exact ⟨a', y, h5, h6, h7, h8.trans (hseg j hj), h9⟩
      have hAl : ∀ x ∈ A, x.length = P.cellsOf e := fun x hx => by
        obtain ⟨j, hj, rfl⟩ := List.mem_iff_getElem.mp hx
        obtain ⟨a', y, h5, _, _, h8, _⟩ := hA j (by omega)
        rw [List.getElem?_eq_getElem hj] at h5
        cases h5; exact h8
      have hfl : A.flatten.length = n * P.cellsOf e := by rw [List.length_flatten, sum_const A hAl, n1]
      have hcs : (segs (List.replicate n (P.cellsOf e)) cs).flatten = cs := segs_flatten _ _ (by rw [List.sum_replicate_nat]; omega)
      refine ⟨ρ1, H1, A.flatten, .agg ys, l1, ?_, by rw [hfl]; omega, .array hu (by rw [hfl]; omega) n2 (fun j y hj => ?_)⟩
      · rw [← hcs]
        refine LRel.flatten (by rw [segs_length, n1]; simp) (fun j a b ha hb => ?_)
        have hj : j < n := by have := (List.getElem?_eq_some_iff.mp ha).1; omega
        obtain ⟨a', y, h5, h6, h7, _⟩ := hA j hj
        rw [ha] at h5; cases h5
        rw [segs_get _ _ j (P.cellsOf e) (by simp [hj])] at hb
        cases hb
        rw [List.take_replicate, List.sum_replicate_nat, Nat.min_eq_left (by omega)]
        exact h7
      · have hjl : j < n := by have := (List.getElem?_eq_some_iff.mp hj).1; omega
        obtain ⟨a', y', h5, h6, h7, h8, h9⟩ := hA j hjl
        rw [hj] at h6; cases h6
        have hs := flatten_seg A j a' h5
        rw [sum_const _ (fun x hx => hAl x (List.mem_of_mem_take hx)), List.length_take, h8, Nat.min_eq_left (by omega)] at hs
        rw [hs]
        exact h9
    · rename_i fs hu
      simp only [Bool.and_eq_true, beq_iff_eq, List.all_eq_true] at hck
      obtain ⟨hin, hsum, hoff⟩ := hck
      obtain ⟨xs, n, hn, _, _, hxl, hx⟩ := DataW.trod_struct hu h
      cases hn
      have hoff2 : ∀ (j : Nat) (f : Field), fs[j]? = some f → f.offset = ((fs.toList.map fun f => P.cellsOf f.type).take j).sum := fun j f hf => by
        have := hoff j (by simpa using (Array.getElem?_eq_some_iff.mp hf).1)
        rw [hf] at this
        simpa using this
      have hx2 : ∀ (j : Nat) (f : Field), fs[j]? = some f → ∃ y, DataW.trod enc P W base (fun _ => true) held fuel f.type ((cs.drop f.offset).take (P.cellsOf f.type)) = some y := fun j f hf => by
        have h1 := hx j f hf
        have h2 : j < xs.length := by rw [hxl]; exact (Array.getElem?_eq_some_iff.mp hf).1
        rw [List.getElem?_eq_getElem h2] at h1
        exact ⟨_, h1⟩
      have hle : ∀ (j : Nat) (f : Field), fs[j]? = some f → f.offset + P.cellsOf f.type ≤ cs.length := fun j f hf => by
        rw [hoff2 j f hf, hlen, hsum]
        have hj : (fs.toList.map fun f => P.cellsOf f.type)[j]? = some (P.cellsOf f.type) := by simp [hf]
        have h1 := List.take_append_drop (j + 1) (fs.toList.map fun f => P.cellsOf f.type)
        have h2 := congrArg List.sum h1
        rw [List.sum_append_nat, List.take_add_one, hj] at h2
        simp only [Option.toList_some, List.sum_append_nat, List.sum_cons, List.sum_nil] at h2
        omega
      have hseg : ∀ (j : Nat) (f : Field), fs[j]? = some f → ((cs.drop f.offset).take (P.cellsOf f.type)).length = P.cellsOf f.type := fun j f hf => by
        have := hle j f hf
        simp only [List.length_take, List.length_drop]
        omega
      obtain ⟨ρ1, H1, A, ys, l1, n1, n2, h4⟩ := many (fs.toList.map fun f => (f.type, (cs.drop f.offset).take (P.cellsOf f.type))) (fun p hp => by
        obtain ⟨f, hf, rfl⟩ := List.mem_map.mp hp
        obtain ⟨j, hj, rfl⟩ := List.mem_iff_getElem.mp hf
        have hf' : fs[j]? = some fs.toList[j] := by simp at hj; simp [hj]
        exact ⟨by simpa using hin _ hf, hseg j _ hf', hx2 j _ hf'⟩) ρ H ok hr hm
      simp only [List.length_map, Array.length_toList] at n1 n2
      have hA : ∀ (j : Nat) (f : Field), fs[j]? = some f → ∃ a' y, A[j]? = some a' ∧ ys[j]? = some y ∧ LRel ρ1 a' ((cs.drop f.offset).take (P.cellsOf f.type)) ∧ a'.length = P.cellsOf f.type ∧ Enc P H1 f.type a' y := fun j f hf => by
        obtain ⟨a', y, h5, h6, h7, h8, h9⟩ := h4 j _ (by simp [hf]; rfl)
        exact ⟨a', y, h5, h6, h7, h8.trans (hseg j f hf), h9⟩
      have hmap : A.map List.length = fs.toList.map fun f => P.cellsOf f.type := by
        apply List.ext_getElem?
        intro j
        simp only [List.getElem?_map]
        by_cases hj : j < fs.size
        · have hf : fs[j]? = some fs[j] := by simp [hj]
          obtain ⟨a', y, h5, _, _, h8, _⟩ := hA j _ hf
          rw [h5]
          simp [hj, h8]
        · have h1 : A[j]? = none := List.getElem?_eq_none (by omega)
          have h2 : fs.toList[j]? = none := List.getElem?_eq_none (by simpa using hj)
          rw [h1, h2]
          rfl
      have hfl : A.flatten.length = cs.length := by rw [List.length_flatten, hmap, hlen, hsum]
      have hcs : (segs (fs.toList.map fun f => P.cellsOf f.type) cs).flatten = cs := segs_flatten _ _ (by rw [hlen, hsum])
      have hpart : ∀ (j : Nat) (f : Field) (a' : List Value), fs[j]? = some f → A[j]? = some a' → a'.length = P.cellsOf f.type → (A.flatten.drop f.offset).take (P.cellsOf f.type) = a' := fun j f a' hf ha hl => by
        have hs := flatten_seg A j a' ha
        rw [List.map_take, hmap, ← hoff2 j f hf, hl] at hs
        exact hs
      refine ⟨ρ1, H1, A.flatten, .agg ys, l1, ?_, hfl, .struct hu (by rw [hfl, hlen]) (by rw [n2]) (fun j f y hf hj => ?_)⟩
      · rw [← hcs]
        refine LRel.flatten (by rw [segs_length, n1]; simp) (fun j a b ha hb => ?_)
        have hj : j < fs.size := by have := (List.getElem?_eq_some_iff.mp ha).1; omega
        have hf : fs[j]? = some fs[j] := by simp [hj]
        obtain ⟨a', y, h5, h6, h7, _⟩ := hA j _ hf
        rw [ha] at h5; cases h5
        rw [segs_get _ _ j (P.cellsOf fs[j].type) (by simp [hj])] at hb
        cases hb
        rw [← hoff2 j _ hf]
        exact h7
      · obtain ⟨a', y', h5, h6, h7, h8, h9⟩ := hA j f hf
        rw [hj] at h6; cases h6
        rw [hpart j f a' hf h5 h8]
        exact h9
    · cases hck
end
end Go.B

namespace Go.B
open Go Go.RowKit

def isAggT (P : Program) (t : TypeId) : Bool :=
  match P.underlying t with
  | some (.struct _) | some (.array _ _) => true
  | _ => false

def EncV (P : Program) (H : Heap) (t : TypeId) (v : Value) (d : Dat) : Prop :=
  if isAggT P t = true then ∃ acs : List Value, v = .agg acs.toArray ∧ Enc P H t acs d else Enc P H t [v] d
def AllEnc (P : Program) (H : Heap) : List TypeId → List Value → List Dat → Prop
  | [], [], [] => True
  | t :: ts, v :: vs, d :: ds => EncV P H t v d ∧ AllEnc P H ts vs ds
  | _, _, _ => False

theorem EncV.mono {P : Program} {H H' : Heap} (hg : ∀ i o, H.get i = some o → H'.get i = some o) {t : TypeId} {v : Value} {d : Dat} (h : EncV P H t v d) : EncV P H' t v d := by
  unfold EncV at *
  by_cases ha : isAggT P t = true
  · rw [if_pos ha] at h ⊢
    obtain ⟨acs, h1, h2⟩ := h; exact ⟨acs, h1, h2.mono hg⟩
  · rw [if_neg ha] at h ⊢
    exact h.mono hg
theorem AllEnc.mono {P : Program} {H H' : Heap} (hg : ∀ i o, H.get i = some o → H'.get i = some o) : ∀ {ts : List TypeId} {vs : List Value} {ds : List Dat}, AllEnc P H ts vs ds → AllEnc P H' ts vs ds
  | [], [], [], _ => trivial
  | _ :: _, _ :: _, _ :: _, h => ⟨h.1.mono hg, AllEnc.mono hg h.2⟩

section
variable {P : Program} [Dem P] {W : World} {HH : Type} {enc : TypeId × Value → HH} {base : Nat} {held : Bool}

theorem layV {ts : List TypeId} (hts : ∀ t ∈ ts, chk P ts t = true) {t : TypeId} {v : Value} {x : DataW HH} {ps : List MemPlace} (ht : t ∈ ts) (hok : Value.okWide P W .any base t v) (h : DataW.Trod enc P W 0 (fun _ => true) held t v x ps) {ρ : Ren} {H : Heap} (ok : Ok H) (hr : WRel P ρ H W) (hm : ∀ i, ¬ Mut H i) :
    ∃ ρ' H' av d, Laid P W ρ H ρ' H' ∧ VRel ρ' av v ∧ EncV P H' t av d := by
  obtain ⟨fuel, hf⟩ := h
  have hck := hts t ht
  by_cases ha : isAggT P t = true
  · have hv : ∃ cs : Array Value, v = .agg cs ∧ cs.size = P.cellsOf t := by
      unfold isAggT at ha
      unfold Value.okWide at hok
      split at ha
      · rename_i fs hu; rw [hu] at hok; obtain ⟨cs, h1, h2, _⟩ := hok; exact ⟨cs, h1, h2⟩
      · rename_i n e hu; rw [hu] at hok; obtain ⟨cs, h1, h2, _⟩ := hok; exact ⟨cs, h1, h2⟩
      · cases ha
    obtain ⟨cs, rfl, hcs⟩ := hv
    obtain ⟨ρ', H', acs, y, l1, r1, n1, e1⟩ := lay hts fuel t cs.toList _ ht (by simpa using hcs) hf ρ H ok hr hm
    refine ⟨ρ', H', .agg acs.toArray, y, l1, LRel.agg (by simpa using r1), ?_⟩
    unfold EncV
    rw [if_pos ha]
    exact ⟨acs, rfl, e1⟩
  · have h1 : ∀ w : Value, v.cells.toList = [w] → (∀ c, w ≠ .agg c) → (∀ c, v ≠ .agg c) → v = w := fun w hw hna hnb => by
      cases v <;> simp [Value.cells] at hw <;> first | exact hw | (exact absurd rfl (hnb _)) | skip
    have hna : ∀ c, v ≠ .agg c := fun c hc => by
      subst hc
      unfold isAggT at ha
      unfold Value.okWide Cell.okWide Cell.ok at hok
      unfold chk at hck
      cases hu : P.underlying t with
      | none => rw [hu] at hck; cases hck
      | some d => rw [hu] at hok ha hck; cases d <;> simp at hok ha hck
    have hcs : ∃ w, v.cells.toList = [w] ∧ ∀ c, w ≠ .agg c := by
      unfold isAggT at ha
      unfold chk at hck
      split at hck
      · rename_i k hu; obtain ⟨n, h2, _⟩ := DataW.trod_int hu hf; exact ⟨_, h2, fun c => by simp⟩
      · rename_i hu; obtain ⟨n, h2, _⟩ := DataW.trod_bool hu hf; exact ⟨_, h2, fun c => by simp⟩
      · rename_i hu; obtain ⟨n, h2, _⟩ := DataW.trod_string hu hf; exact ⟨_, h2, fun c => by simp⟩
      · rename_i e hu
        rcases DataW.trod_slice hu hf with ⟨h2, _⟩ | ⟨a, len, cap, elems, rest, n, hn, h2, _⟩
        · exact ⟨_, h2, fun c => by simp⟩
        · exact ⟨_, h2, fun c => by simp⟩
      · rename_i n e hu; rw [hu] at ha; simp at ha
      · rename_i fs hu; rw [hu] at ha; simp at ha
      · cases hck
    obtain ⟨w, hw, hwa⟩ := hcs
    have hvw : v = w := h1 w hw hwa hna
    subst hvw
    rw [hw] at hf
    by_cases hl : 1 = P.cellsOf t
    · obtain ⟨ρ', H', acs, y, l1, r1, n1, e1⟩ := lay hts fuel t [v] _ ht (by simpa using hl) hf ρ H ok hr hm
      obtain ⟨a, rfl⟩ : ∃ a, acs = [a] := by
        match acs, n1 with
        | [a], _ => exact ⟨a, rfl⟩
      refine ⟨ρ', H', a, y, l1, r1.head, ?_⟩
      unfold EncV
      rw [if_neg ha]
      exact e1
    · exfalso
      unfold isAggT at ha
      unfold chk at hck
      split at hck
      · exact hl (Eq.symm (by simpa using hck))
      · exact hl (Eq.symm (by simpa using hck))
      · exact hl (Eq.symm (by simpa using hck))
      · simp only [Bool.and_eq_true, beq_iff_eq] at hck; exact hl hck.1.symm
      · rename_i n e hu; rw [hu] at ha; simp at ha
      · rename_i fs hu; rw [hu] at ha; simp at ha
      · cases hck

theorem layArgs {ts : List TypeId} (hts : ∀ t ∈ ts, chk P ts t = true) : ∀ (tys : List TypeId) (vs : List Value) (xs : List (DataW HH)) (ps : List MemPlace), (∀ t ∈ tys, t ∈ ts) → (∀ (j : Nat) t v, tys[j]? = some t → vs[j]? = some v → Value.okWide P W .any base t v) →
    DataW.TrodAll enc P W 0 (fun _ => true) held tys vs xs ps → ∀ (ρ : Ren) (H : Heap), Ok H → WRel P ρ H W → (∀ i, ¬ Mut H i) → ∃ ρ' H' avs ds, Laid P W ρ H ρ' H' ∧ LRel ρ' avs vs ∧ AllEnc P H' tys avs ds := by
  intro tys
  induction tys with
  | nil =>
    intro vs xs ps _ _ h ρ H ok hr hm
    cases vs with
    | nil => exact ⟨ρ, H, [], [], Laid.refl ok hr hm, LRel.nil, trivial⟩
    | cons v vs => cases xs <;> simp [DataW.TrodAll] at h
  | cons t tys ih =>
    intro vs xs ps hin hok h ρ H ok hr hm
    cases vs with
    | nil => cases xs <;> simp [DataW.TrodAll] at h
    | cons v vs =>
      cases xs with
      | nil => simp [DataW.TrodAll] at h
      | cons x xs =>
        obtain ⟨p, q, h1, h2, _⟩ := h
        obtain ⟨ρ1, H1, av, d, l1, r1, e1⟩ := layV hts (hin t (by simp)) (hok 0 t v rfl rfl) h1 ok hr hm
        obtain ⟨ρ2, H2, avs, ds, l2, r2, e2⟩ := ih vs xs q (fun u hu => hin u (by simp [hu])) (fun j u w hu hw => hok (j + 1) u w (by simpa using hu) (by simpa using hw)) h2 ρ1 H1 l1.same.ok l1.rel l1.ro
        exact ⟨ρ2, H2, av :: avs, d :: ds, l1.trans l2, LRel.cons (r1.mono l2.ext) r2, e1.mono (l2.same.keeps l1.same.ok), e2⟩

theorem law_calls {V : Env} (hV : V.P = P) (hT : TabOk P V.T) (hX : ExtOk P V.X) {ts tys : List TypeId} (hts : ∀ t ∈ ts, chk P ts t = true) (hin : ∀ t ∈ tys, t ∈ ts) {f : FuncId} {args : Array Value} {xs : List (DataW HH)} {ps : List MemPlace}
    (hok : ∀ (j : Nat) t v, tys[j]? = some t → args[j]? = some v → Value.okWide P W .any base t v) (h : DataW.TrodAll enc P W 0 (fun _ => true) held tys args.toList xs ps) (hI : Dem.I P W) (hG : Dem.G P ≤ W.heap.size)
    (spec : ∀ (H : Heap) (avs : List Value) (ds : List Dat), Ok H → AllEnc P H tys avs ds → ∃ v H', Ca V f avs.toArray H v H' ∧ v = .bool true) :
    Calls P f args W fun e W' => e = .returned (.bool true) ∧ Below W.heap.size W W' := by
  subst hV
  obtain ⟨ρ, H, avs, ds, l, hr, he⟩ := layArgs hts tys args.toList xs ps hin (fun j t v h1 h2 => hok j t v h1 (by simpa using h2)) h (fun _ => none) H0 (fun a _ => rfl) (WRel.empty hI hG) (fun i hi => by rcases hi with ⟨c, e, h⟩ | ⟨es, clk, h⟩ <;> cases h)
  obtain ⟨v, H', hc, rfl⟩ := spec H avs ds l.same.ok he
  refine (Ca_sound hT hX hc l.rel (by simpa using hr)).mono ?_
  rintro e W' ⟨ρ', v', rfl, hm, hv⟩
  cases hv
  exact ⟨rfl, hm.began l.ro⟩
end
end Go.B

namespace Go.B
open Go
theorem W_gen {V : Env} {r : List It} {Q : Ex → St → Prop} {n : Nat} {t : Tr Value} {H : Heap} (I : Tr Value → Heap → Prop) (h : I t H) (h2 : ∀ t H, I t H → W V r ⟨n, t, H⟩ Q) : W V r ⟨n, t, H⟩ Q := h2 t H h

def landV (k : IntKind) (x y : Int) : Int := k.wrap (BitVec.ofInt k.bits x &&& BitVec.ofInt k.bits y).toNat
def lorV (k : IntKind) (x y : Int) : Int := k.wrap (BitVec.ofInt k.bits x ||| BitVec.ofInt k.bits y).toNat
def lxorV (k : IntKind) (x y : Int) : Int := k.wrap (BitVec.ofInt k.bits x ^^^ BitVec.ofInt k.bits y).toNat
section
variable {P : Program} {H : Heap} {t : TypeId} {x y : Operand} {k : IntKind} {a b : Int}
theorem binV_and : binV P H .and t x y (.int k a) (.int k b) = some (.val (.int k (landV k a b)) H) := binV_arith (by simp) (by simp only [binOp, ne_eq, not_true_eq_false, if_false, Op.intBits]; rfl) rfl
theorem binV_or : binV P H .or t x y (.int k a) (.int k b) = some (.val (.int k (lorV k a b)) H) := binV_arith (by simp) (by simp only [binOp, ne_eq, not_true_eq_false, if_false, Op.intBits]; rfl) rfl
theorem binV_xor : binV P H .xor t x y (.int k a) (.int k b) = some (.val (.int k (lxorV k a b)) H) := binV_arith (by simp) (by simp only [binOp, ne_eq, not_true_eq_false, if_false, Op.intBits]; rfl) rfl
end

def asB : Value → Option Bool
  | .bool b => some b
  | _ => none
theorem asB_bool {b : Bool} : asB (.bool b) = some b := rfl
theorem asB_undef : asB undef = none := rfl
def yieldO (n : Nat) (t : Tr Value) : Option Tmp → Option Bool
  | some d => if d < n then asB ((t.get d).getD undef) else none
  | none => none
theorem yieldO_some {n : Nat} {t : Tr Value} {d : Tmp} : yieldO n t (some d) = if d < n then asB ((t.get d).getD undef) else none := rfl
theorem yieldB_eq {ops : Array Oper} {n : Nat} {t : Tr Value} {j : Nat} : yieldB ops n t j = yieldO n t ((ops[j]?).bind (·.dst)) := by
  unfold yieldB yieldO asB
  cases (ops[j]?).bind (·.dst) <;> rfl
theorem gD_none {V : Env} {ops : Array Oper} {A : List (List Nat)} {n base : Nat} {K0 : Heap} {r : List It} {Q : Ex → St → Prop} {i : Nat} {l : List Nat} {E : Tr Value} {H : Heap} {hist : List (Heap × Nat)} {dn : List Nat} {al : List (Nat × AObj)} {d : Option Tmp} {op : Op} {ty : TypeId} {pos : String} {af : Array Edge} {b : Bool} : gD V ops A n base K0 r Q i l E H hist dn al d op ty pos af b none = DWd V ops A n base K0 r Q l (setO E d undef) ⟨H, hist, i :: dn, al⟩ := rfl
theorem gW_none {V : Env} {all : Array Oper} {l : List Oper} {r : List It} {Q : Ex → St → Prop} {n : Nat} {t : Tr Value} {H : Heap} {d : Option Tmp} {op : Op} {ty : TypeId} {pos : String} {af : Array Edge} {b : Bool} : gW V all l r Q n t H d op ty pos af b none = putW V (.ops all l :: r) Q n t d undef H := rfl

theorem opsRun_append {cal : Cal} {P : Program} {all : Array Oper} : ∀ (a b : List Oper) (st : St), opsRun cal P all (a ++ b) st = (opsRun cal P all a st).bind (opsRun cal P all b)
  | [], b, st => rfl
  | o :: a, b, st => by
    simp only [List.cons_append, opsRun]
    cases step1 cal P all o st with
    | none => rfl
    | some s => exact opsRun_append a b s
theorem W_ops2 {V : Env} {all : Array Oper} {a b : List Oper} {r : List It} {st : St} {Q : Ex → St → Prop} (h : W V (.ops all a :: .ops all b :: r) st Q) : W V (.ops all (a ++ b) :: r) st Q := by
  obtain ⟨ex, s, hq, K, hk⟩ := h
  refine ⟨ex, s, hq, K, fun k n h1 h2 => ?_⟩
  have h3 := hk k n h1 h2
  simp only [runIts, runIt, opsRun_append] at h3 ⊢
  cases ha : opsRun (V.cal k) V.P all a st with
  | none => rw [ha] at h3; cases h3
  | some s1 => rw [ha] at h3; exact h3
theorem W_cutO {V : Env} {Q : Ex → St → Prop} (j : Nat) {all : Array Oper} {l : List Oper} {r : List It} {n : Nat} {t : Tr Value} {H : Heap} (I : Tr Value → Heap → Prop) (h1 : W V [.ops all (l.take j)] ⟨n, t, H⟩ (cutQ V (.ops all (l.drop j) :: r) Q n I)) (h2 : ∀ t H, I t H → W V (.ops all (l.drop j) :: r) ⟨n, t, H⟩ Q) : W V (.ops all l :: r) ⟨n, t, H⟩ Q := by
  have h := W_ops2 (W_cutL [.ops all (l.take j)] I h1 h2)
  rw [List.take_append_drop] at h
  exact h

theorem cW_merge {V : Env} {Q : Ex → St → Prop} {a b : Code} {r : List It} {n : Nat} {t : Tr Value} {H : Heap} {c : Bool} (I : Tr Value → Heap → Prop) (h1 : c = true → W V [.code a] ⟨n, t, H⟩ (cutQ V r Q n I)) (h2 : c = false → W V [.code b] ⟨n, t, H⟩ (cutQ V r Q n I)) (h3 : ∀ t H, I t H → W V r ⟨n, t, H⟩ Q) : cW V a b r ⟨n, t, H⟩ Q (.bool c) := by
  cases c
  · exact W_cutL [.code b] I (h2 rfl) h3
  · exact W_cutL [.code a] I (h1 rfl) h3

structure Row (P : Program) (H : Heap) (b : Option Addr) (n sz : Nat) (cells : List Value) : Prop where
  len : cells.length = n * sz
  at_ : n = 0 ∨ ∃ i o c e ro, b = some ⟨i, o, none⟩ ∧ H.get i = some (.cells c e ro) ∧ o + cells.length ≤ c.length ∧ (c.drop o).take cells.length = cells ∧ szOf P e = some sz
theorem Row.mono {P : Program} {H H' : Heap} (ok : Ok H) {ps : List Nat} (hs : Same H H' ps) {b : Option Addr} {n sz : Nat} {cells : List Value} (hp : ∀ i o, b = some ⟨i, o, none⟩ → i ∉ ps) (h : Row P H b n sz cells) : Row P H' b n sz cells := by
  refine ⟨h.len, ?_⟩
  rcases h.at_ with h0 | ⟨i, o, c, e, ro, h1, h2, h3⟩
  · exact .inl h0
  · exact .inr ⟨i, o, c, e, ro, h1, by rw [hs.get i (ok.lt h2) (hp i o h1)]; exact h2, h3⟩
theorem Row.get {P : Program} {H : Heap} {b : Option Addr} {n sz : Nat} {cells : List Value} (h : Row P H b n sz cells) {j : Nat} (hj : j < n) : ∃ i o, b = some ⟨i, o, none⟩ ∧ gcV (o + j * sz) sz (H.get i) = some ((cells.drop (j * sz)).take sz) := by
  rcases h.at_ with h0 | ⟨i, o, c, e, ro, h1, h2, h3, h4, _⟩
  · omega
  · refine ⟨i, o, h1, ?_⟩
    · rw [h2, gcV_cells]
      have h5 : (j + 1) * sz ≤ n * sz := Nat.mul_le_mul_right _ hj
      rw [Nat.succ_mul] at h5
      have h6 := h.len
      rw [if_pos (by omega)]
      congr 1
      rw [← h4, List.drop_take, List.take_take, List.drop_drop]
      congr 1
      omega

theorem Row.mono' {P : Program} {H H' : Heap} (ok : Ok H) {ps : List Nat} (hs : Same H H' ps) {b : Option Addr} {n sz : Nat} {cells : List Value} (hp : ∀ p ∈ ps, ∀ c e ro, H.get p ≠ some (.cells c e ro)) (h : Row P H b n sz cells) : Row P H' b n sz cells := by
  refine ⟨h.len, ?_⟩
  rcases h.at_ with h0 | ⟨i, o, c, e, ro, h1, h2, h3⟩
  · exact .inl h0
  · exact .inr ⟨i, o, c, e, ro, h1, by rw [hs.get i (ok.lt h2) (fun z => hp i z _ _ _ h2)]; exact h2, h3⟩
theorem Row.whole {P : Program} {H : Heap} {i n sz : Nat} {cells : List Value} {e : TypeId} {ro : Bool} (h : H.get i = some (.cells cells e ro)) (hl : cells.length = n * sz) (hs : szOf P e = some sz) : Row P H (some ⟨i, 0, none⟩) n sz cells :=
  ⟨hl, .inr ⟨i, 0, cells, e, ro, rfl, h, by omega, by rw [List.drop_zero, List.take_of_length_le (Nat.le_refl _)], hs⟩⟩

theorem one_get {α : Type} (f : α → Value) {l : List α} {i : Nat} {x : α} (h : l[i]? = some x) : ((l.map f).drop (i * 1)).take 1 = [f x] := by
  rw [Nat.mul_one]
  have hi : i < l.length := (List.getElem?_eq_some_iff.mp h).1
  rw [List.drop_eq_getElem_cons (by simpa using hi)]
  simp only [List.getElem_map, List.take_succ_cons, List.take_zero]
  rw [(List.getElem?_eq_some_iff.mp h).2]
inductive MRow (H : Heap) (lo : Nat) (e : TypeId) : Option Addr → Nat → Nat → List Value → Prop
  | nil : MRow H lo e none 0 0 []
  | own {i n : Nat} {cells : List Value} (h : Heap.get H i = some (.cells cells e false)) (hlo : lo ≤ i) (hn : n ≠ 0) : MRow H lo e (some ⟨i, 0, none⟩) n capU cells

theorem MRow.mono {H H2 : Heap} {lo n c : Nat} {e : TypeId} {b : Option Addr} {cells : List Value} (h : MRow H lo e b n c cells) (hg : ∀ i, b = some (Addr.mk i 0 none) → H2.get i = H.get i) : MRow H2 lo e b n c cells := by
  cases h with
  | nil => exact .nil
  | own h1 h2 h3 => exact .own ((hg _ rfl).trans h1) h2 h3

theorem MRow.ways {H : Heap} {lo n c : Nat} {e : TypeId} {b : Option Addr} {cells : List Value} (h : MRow H lo e b n c cells) :
    (b = none ∧ n = 0 ∧ c = 0 ∧ cells = []) ∨ ∃ i, b = some (Addr.mk i 0 none) ∧ c = capU ∧ n ≠ 0 ∧ lo ≤ i ∧ H.get i = some (.cells cells e false) := by
  cases h with
  | nil => exact .inl ⟨rfl, rfl, rfl, rfl⟩
  | own h1 h2 h3 => exact .inr ⟨_, rfl, rfl, h3, h2, h1⟩

section
variable {P : Program} {H : Heap} {t : TypeId} {cs : List Value} {d : Dat}
theorem Enc.int_inv {k : IntKind} (h : Enc P H t cs d) (hu : P.underlying t = some (.int k)) : ∃ n, cs = [.int k n] ∧ (Lit.int k n).wf = true := by
  cases h with
  | int hu2 hw => rw [hu] at hu2; cases hu2; exact ⟨_, rfl, hw⟩
  | bool hu2 => rw [hu] at hu2; cases hu2
  | str hu2 => rw [hu] at hu2; cases hu2
  | nil hu2 => rw [hu] at hu2; cases hu2
  | emp hu2 => rw [hu] at hu2; cases hu2
  | slice hu2 => rw [hu] at hu2; cases hu2
  | struct hu2 => rw [hu] at hu2; cases hu2
  | array hu2 => rw [hu] at hu2; cases hu2
theorem Enc.str_inv (h : Enc P H t cs d) (hu : P.underlying t = some .string) : ∃ s, cs = [.string s] ∧ s.size ≤ maxLen := by
  cases h with
  | str hu2 hw => exact ⟨_, rfl, hw⟩
  | bool hu2 => rw [hu] at hu2; cases hu2
  | int hu2 => rw [hu] at hu2; cases hu2
  | nil hu2 => rw [hu] at hu2; cases hu2
  | emp hu2 => rw [hu] at hu2; cases hu2
  | slice hu2 => rw [hu] at hu2; cases hu2
  | struct hu2 => rw [hu] at hu2; cases hu2
  | array hu2 => rw [hu] at hu2; cases hu2
theorem Enc.struct_inv {fs : Array Field} (h : Enc P H t cs d) (hu : P.underlying t = some (.struct fs)) : cs.length = P.cellsOf t ∧ ∃ l : List Dat, l.length = fs.size ∧ ∀ (j : Nat) (f : Field) (x : Dat), fs[j]? = some f → l[j]? = some x → Enc P H f.type ((cs.drop f.offset).take (P.cellsOf f.type)) x := by
  cases h with
  | struct hu2 hc hl hh => rw [hu] at hu2; cases hu2; exact ⟨hc, _, hl, hh⟩
  | bool hu2 => rw [hu] at hu2; cases hu2
  | int hu2 => rw [hu] at hu2; cases hu2
  | nil hu2 => rw [hu] at hu2; cases hu2
  | emp hu2 => rw [hu] at hu2; cases hu2
  | slice hu2 => rw [hu] at hu2; cases hu2
  | str hu2 => rw [hu] at hu2; cases hu2
  | array hu2 => rw [hu] at hu2; cases hu2
theorem Enc.array_inv {n : Nat} {e : TypeId} (h : Enc P H t cs d) (hu : P.underlying t = some (.array n e)) : cs.length = P.cellsOf t ∧ ∃ l : List Dat, l.length = n ∧ ∀ (j : Nat) (x : Dat), l[j]? = some x → Enc P H e ((cs.drop (j * P.cellsOf e)).take (P.cellsOf e)) x := by
  cases h with
  | array hu2 hc hl hh => rw [hu] at hu2; cases hu2; exact ⟨hc, _, hl, hh⟩
  | bool hu2 => rw [hu] at hu2; cases hu2
  | int hu2 => rw [hu] at hu2; cases hu2
  | nil hu2 => rw [hu] at hu2; cases hu2
  | emp hu2 => rw [hu] at hu2; cases hu2
  | slice hu2 => rw [hu] at hu2; cases hu2
  | str hu2 => rw [hu] at hu2; cases hu2
  | struct hu2 => rw [hu] at hu2; cases hu2
theorem Enc.slice_inv {e : TypeId} (h : Enc P H t cs d) (hu : P.underlying t = some (.slice e)) : ∃ (b : Option Addr) (n c : Nat) (l : List Dat), cs = [.slice b n c] ∧ n = l.length ∧ n ≤ maxLen ∧
    (n = 0 ∨ ∃ (i : Nat) (row : List Value), b = some ⟨i, 0, none⟩ ∧ H.get i = some (.cells row e true) ∧ row.length = n * P.cellsOf e ∧ ∀ (j : Nat) (x : Dat), l[j]? = some x → Enc P H e ((row.drop (j * P.cellsOf e)).take (P.cellsOf e)) x) := by
  cases h with
  | nil hu2 => exact ⟨_, _, _, [], rfl, rfl, Nat.zero_le _, .inl rfl⟩
  | emp hu2 => exact ⟨_, _, _, [], rfl, rfl, Nat.zero_le _, .inl rfl⟩
  | slice hu2 hg hl hc hh => rw [hu] at hu2; cases hu2; exact ⟨_, _, _, _, rfl, rfl, hl, .inr ⟨_, _, rfl, hg, hc, hh⟩⟩
  | bool hu2 => rw [hu] at hu2; cases hu2
  | int hu2 => rw [hu] at hu2; cases hu2
  | str hu2 => rw [hu] at hu2; cases hu2
  | struct hu2 => rw [hu] at hu2; cases hu2
  | array hu2 => rw [hu] at hu2; cases hu2

theorem Enc.slice_inv3 {e : TypeId} (h : Enc P H t cs d) (hu : P.underlying t = some (.slice e)) : ∃ (b : Option Addr) (n c : Nat) (l : List Dat), cs = [.slice b n c] ∧ n = l.length ∧ n ≤ maxLen ∧
    ((n = 0 ∧ (b = none ∧ c = 0 ∨ b = some empA ∧ c = capU)) ∨ ∃ (i : Nat) (row : List Value), b = some ⟨i, 0, none⟩ ∧ c = capU ∧ H.get i = some (.cells row e true) ∧ row.length = n * P.cellsOf e ∧ ∀ (j : Nat) (x : Dat), l[j]? = some x → Enc P H e ((row.drop (j * P.cellsOf e)).take (P.cellsOf e)) x) := by
  cases h with
  | nil hu2 => exact ⟨_, _, _, [], rfl, rfl, Nat.zero_le _, .inl ⟨rfl, .inl ⟨rfl, rfl⟩⟩⟩
  | emp hu2 => exact ⟨_, _, _, [], rfl, rfl, Nat.zero_le _, .inl ⟨rfl, .inr ⟨rfl, rfl⟩⟩⟩
  | slice hu2 hg hl hc hh => rw [hu] at hu2; cases hu2; exact ⟨_, _, _, _, rfl, rfl, hl, .inr ⟨_, _, rfl, rfl, hg, hc, hh⟩⟩
  | bool hu2 => rw [hu] at hu2; cases hu2
  | int hu2 => rw [hu] at hu2; cases hu2
  | str hu2 => rw [hu] at hu2; cases hu2
  | struct hu2 => rw [hu] at hu2; cases hu2
  | array hu2 => rw [hu] at hu2; cases hu2

theorem rows_of {e : TypeId} {α : Type} (f : α → List Value) (Q : α → Prop) {sz : Nat} (dec : ∀ cs d, cs.length = sz → Enc P H e cs d → ∃ x, cs = f x ∧ Q x) : ∀ (n : Nat) (row : List Value) (l : List Dat), l.length = n → row.length = n * sz →
    (∀ (j : Nat) (x : Dat), l[j]? = some x → Enc P H e ((row.drop (j * sz)).take sz) x) → ∃ xs : List α, xs.length = n ∧ row = xs.flatMap f ∧ ∀ x ∈ xs, Q x
  | 0, row, l, h1, h2, _ => ⟨[], rfl, by simpa using h2, by simp⟩
  | n + 1, row, [], h1, _, _ => by simp at h1
  | n + 1, row, d :: l, h1, h2, h3 => by
    have h0 := h3 0 d rfl
    rw [Nat.zero_mul, List.drop_zero] at h0
    rw [Nat.succ_mul] at h2
    obtain ⟨x, hx, hq⟩ := dec _ _ (by rw [List.length_take]; omega) h0
    obtain ⟨xs, hl, hr, hqs⟩ := rows_of f Q dec n (row.drop sz) l (by simpa using h1) (by rw [List.length_drop]; omega) (fun j y hy => by
      have := h3 (j + 1) y (by simpa using hy)
      rw [Nat.succ_mul, Nat.add_comm] at this
      rw [List.drop_drop]; exact this)
    refine ⟨x :: xs, by simp [hl], ?_, ?_⟩
    · rw [List.flatMap_cons, ← hx, ← hr, List.take_append_drop]
    · intro y hy
      rcases List.mem_cons.mp hy with rfl | h
      · exact hq
      · exact hqs y h
theorem AllEnc.cons_inv {ts : List TypeId} {vs : List Value} {ds : List Dat} (h : AllEnc P H (t :: ts) vs ds) : ∃ v vs' d ds', vs = v :: vs' ∧ ds = d :: ds' ∧ EncV P H t v d ∧ AllEnc P H ts vs' ds' := by
  cases vs with
  | nil => unfold AllEnc at h; exact absurd h (by simp)
  | cons v vs =>
    cases ds with
    | nil => unfold AllEnc at h; exact absurd h (by simp)
    | cons d ds => exact ⟨v, vs, d, ds, rfl, rfl, h.1, h.2⟩
theorem AllEnc.nil_inv {vs : List Value} {ds : List Dat} (h : AllEnc P H [] vs ds) : vs = [] := by
  cases vs with
  | nil => rfl
  | cons v vs => unfold AllEnc at h; exact absurd h (by simp)
theorem list1 {l : List Value} (h : l.length = 1) : ∃ a, l = [a] := by match l, h with | [a], _ => exact ⟨a, rfl⟩
end
theorem wf_u8 {n : Int} (h : (Lit.int .u8 n).wf = true) : 0 ≤ n ∧ n < 256 := by
  simp only [Lit.wf, Bool.and_eq_true, decide_eq_true_eq] at h
  have h1 : IntKind.u8.min = 0 := by decide
  have h2 : IntKind.u8.max = 255 := by decide
  omega
theorem wf_u16 {n : Int} (h : (Lit.int .u16 n).wf = true) : 0 ≤ n ∧ n < 65536 := by
  simp only [Lit.wf, Bool.and_eq_true, decide_eq_true_eq] at h
  have h1 : IntKind.u16.min = 0 := by decide
  have h2 : IntKind.u16.max = 65535 := by decide
  omega
theorem wf_u32 {n : Int} (h : (Lit.int .u32 n).wf = true) : 0 ≤ n ∧ n < 4294967296 := by
  simp only [Lit.wf, Bool.and_eq_true, decide_eq_true_eq] at h
  have h1 : IntKind.u32.min = 0 := by decide
  have h2 : IntKind.u32.max = 4294967295 := by decide
  omega
theorem wf_i64 {n : Int} (h : (Lit.int .i64 n).wf = true) : -9223372036854775808 ≤ n ∧ n ≤ 9223372036854775807 := by
  simp only [Lit.wf, Bool.and_eq_true, decide_eq_true_eq] at h
  have h1 : IntKind.i64.min = -9223372036854775808 := by decide
  have h2 : IntKind.i64.max = 9223372036854775807 := by decide
  omega
theorem encV_int {P : Program} {H : Heap} {t : TypeId} {k : IntKind} {v : Value} {d : Dat} (hu : P.underlying t = some (.int k)) (h : EncV P H t v d) : ∃ n, v = .int k n ∧ (Lit.int k n).wf = true := by
  unfold EncV at h
  rw [if_neg (by unfold isAggT; rw [hu]; simp)] at h
  obtain ⟨n, h1, h2⟩ := h.int_inv hu
  simp at h1
  exact ⟨n, h1, h2⟩
end Go.B
