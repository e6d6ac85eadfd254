import Derived.Calls
import Derived.Orders
import Derived.Below
import Derived.Laws.BytesArg
import Derived.Laws.Sem
/- An abstract machine over the translated program: values, heaps, code; and its soundness over the model, for what draws nothing. -/
set_option linter.unusedVariables false
set_option linter.unusedSimpArgs false
namespace Go.B
open Go

inductive Tr (α : Type) where
  | nil
  | node (l : Tr α) (v : Option α) (r : Tr α)

def Tr.get {α : Type} : Tr α → Nat → Option α
  | .nil, _ => none
  | .node l v r, n => if n = 0 then v else if n % 2 = 1 then l.get (n / 2) else r.get (n / 2 - 1)

def Tr.left {α : Type} : Tr α → Tr α
  | .nil => .nil
  | .node l _ _ => l
def Tr.top {α : Type} : Tr α → Option α
  | .nil => none
  | .node _ v _ => v
def Tr.right {α : Type} : Tr α → Tr α
  | .nil => .nil
  | .node _ _ r => r

def Tr.setF {α : Type} : Nat → Tr α → Nat → α → Tr α
  | 0, t, _, _ => t
  | k + 1, t, n, x => if n = 0 then .node t.left (some x) t.right else if n % 2 = 1 then .node (Tr.setF k t.left (n / 2) x) t.top t.right else .node t.left t.top (Tr.setF k t.right (n / 2 - 1) x)

def Tr.set {α : Type} (t : Tr α) (n : Nat) (x : α) : Tr α := Tr.setF (n + 1) t n x

theorem Tr.get_nil {α : Type} (n : Nat) : (Tr.nil : Tr α).get n = none := rfl

theorem Tr.get_setF {α : Type} : ∀ (k : Nat) (t : Tr α) (n m : Nat) (x : α), n < k → (Tr.setF k t n x).get m = if m = n then some x else t.get m := by
  intro k
  induction k with
  | zero => intro t n m x h; omega
  | succ k ih =>
    intro t n m x h
    have hg : t.get m = if m = 0 then t.top else if m % 2 = 1 then t.left.get (m / 2) else t.right.get (m / 2 - 1) := by
      cases t with
      | nil => simp [Tr.get, Tr.top, Tr.left, Tr.right]
      | node l v r => rfl
    rw [hg]
    unfold Tr.setF
    by_cases hn : n = 0
    · subst hn
      rw [if_pos rfl]
      by_cases hm : m = 0
      · subst hm; simp [Tr.get]
      · simp [Tr.get, hm]
    · rw [if_neg hn]
      by_cases hp : n % 2 = 1
      · rw [if_pos hp]
        by_cases hm : m = 0
        · subst hm; simp [Tr.get, show ¬ (0 = n) from fun e => hn e.symm]
        · by_cases hq : m % 2 = 1
          · simp only [Tr.get, hm, hq, if_true, if_false]
            rw [ih _ _ _ _ (by omega)]
            by_cases he : m / 2 = n / 2
            · rw [if_pos he, if_pos (by omega)]
            · rw [if_neg he, if_neg (by omega)]
          · simp only [Tr.get, hm, hq, if_false]
            rw [if_neg (by omega)]
      · rw [if_neg hp]
        by_cases hm : m = 0
        · subst hm; simp [Tr.get, show ¬ (0 = n) from fun e => hn e.symm]
        · by_cases hq : m % 2 = 1
          · simp only [Tr.get, hm, hq, if_true, if_false]
            rw [if_neg (by omega)]
          · simp only [Tr.get, hm, hq, if_false]
            rw [ih _ _ _ _ (by omega)]
            by_cases he : m / 2 - 1 = n / 2 - 1
            · rw [if_pos he, if_pos (by omega)]
            · rw [if_neg he, if_neg (by omega)]

theorem Tr.get_set {α : Type} (t : Tr α) (n m : Nat) (x : α) : (t.set n x).get m = if m = n then some x else t.get m := Tr.get_setF _ _ _ _ _ (Nat.lt_succ_self n)
theorem Tr.get_set_same {α : Type} (t : Tr α) (n : Nat) (x : α) : (t.set n x).get n = some x := by rw [Tr.get_set, if_pos rfl]
theorem Tr.get_set_other {α : Type} (t : Tr α) {n m : Nat} (x : α) (h : m ≠ n) : (t.set n x).get m = t.get m := by rw [Tr.get_set, if_neg h]

inductive AObj where
  | cells (c : List Value) (elem : TypeId) (ro : Bool)
  | map (es : List MapEntry) (clock : Nat)
  | dead

structure Heap where
  next : Nat
  tr : Tr AObj

def Heap.get (H : Heap) (i : Nat) : Option AObj := H.tr.get i
def Heap.set (H : Heap) (i : Nat) (o : AObj) : Heap := { H with tr := H.tr.set i o }
def Heap.push (H : Heap) (o : AObj) : Heap := { next := H.next + 1, tr := H.tr.set H.next o }

theorem Heap.get_set (H : Heap) (i j : Nat) (o : AObj) : (H.set i o).get j = if j = i then some o else H.get j := Tr.get_set _ _ _ _
theorem Heap.get_push (H : Heap) (j : Nat) (o : AObj) : (H.push o).get j = if j = H.next then some o else H.get j := Tr.get_set _ _ _ _
theorem Heap.next_set (H : Heap) (i : Nat) (o : AObj) : (H.set i o).next = H.next := rfl
theorem Heap.next_push (H : Heap) (o : AObj) : (H.push o).next = H.next + 1 := rfl

def capU : Nat := 2 ^ 64

def isScal : Value → Bool
  | .bool _ | .int _ _ | .string _ | .pointer none | .slice none 0 0 | .map none | .nilFunc | .nilIface => true
  | .iface _ (.int _ _) | .iface _ (.string _) => true
  | _ => false

def isScalA : Value → Bool
  | .agg cs => cs.toList.all isScal
  | .tuple cs => cs.toList.all isScal
  | v => isScal v

def runP {α : Type} (P : Program) : Sem α → Option α
  | .pure a => some a
  | .program k => runP P (k P)
  | .mark _ k => runP P k
  | _ => none

structure St where
  n : Nat
  t : Tr Value
  H : Heap

def ev (t : Tr Value) : Operand → Value
  | .tmp i => (t.get i).getD undef
  | .const v => if isScalA v then v else undef
  | .global _ => .chan none
  | .func f => .func (.func f) #[] #[]

def St.put (st : St) (dst : Option Tmp) (v : Value) (H : Heap) : Option St :=
  match dst with
  | none => some { st with H }
  | some d => if d < st.n then some { st with t := st.t.set d v, H } else none

inductive Res where
  | val (v : Value) (H : Heap)
  | enter (f : FuncId) (args : Array Value)

def zeroOf (P : Program) (t : TypeId) : Option Value := (P.info? t).bind (·.zero)
def szOf (P : Program) (t : TypeId) : Option Nat := (P.info? t).map (·.size)
def byOf (P : Program) (t : TypeId) : Option Nat := (P.info? t).map (·.bytes)
def aggOf (P : Program) (t : TypeId) : Option Bool := (P.underlying t).map fun d => match d with | .struct _ | .array _ _ => true | _ => false

def cellOk : Value → Bool
  | .agg _ | .tuple _ => false
  | _ => true

def getCells (H : Heap) (i o n : Nat) : Option (List Value) :=
  match H.get i with
  | some (.cells c _ _) => if o + n ≤ c.length then some ((c.drop o).take n) else none
  | _ => none

def loadB (P : Program) (H : Heap) (t : TypeId) : Value → Option Value
  | .pointer (some ⟨i, o, none⟩) =>
    match aggOf P t, szOf P t with
    | some true, some n => (getCells H i o n).map fun l => .agg l.toArray
    | some false, _ => (getCells H i o 1).bind (·.head?)
    | _, _ => none
  | _ => none

def setCells (c : List Value) (o : Nat) : List Value → List Value
  | [] => c
  | v :: l => setCells (c.set o v) (o + 1) l

def putCells (H : Heap) (i o : Nat) (l : List Value) : Option Heap :=
  match H.get i with
  | some (.cells c e false) => if o + l.length ≤ c.length ∧ l.all cellOk = true then some (H.set i (.cells (setCells c o l) e false)) else none
  | _ => none

def storeB (P : Program) (H : Heap) (t : TypeId) (a v : Value) : Option Heap :=
  match a, szOf P t with
  | .pointer (some ⟨i, o, none⟩), some n => if v.cells.size = n then putCells H i o v.cells.toList else none
  | _, _ => none

def firstB (H : Heap) (size n : Nat) : Value → Option (List Value)
  | .slice (some ⟨i, o, none⟩) l _ => if n ≤ l then (if n = 0 then some [] else getCells H i o (n * size)) else none
  | .slice none l _ => if n = 0 ∧ l = 0 then some [] else none
  | .slice (some ⟨_, _, some _⟩) l _ => if n = 0 ∧ l = 0 then some [] else none
  | .string s => if n ≤ s.size ∧ size = 1 then some ((s.extract 0 n).data.toList.map fun b => .int .u8 b.toNat) else none
  | _ => none

def lenB : Value → Option Nat
  | .slice _ n _ => some n
  | .string s => some s.size
  | _ => none

def appendB (P : Program) (H : Heap) (sType : TypeId) (s x : Value) : Option (Value × Heap) :=
  match P.underlying sType, s with
  | some (.slice elem), .slice base sLen sCap =>
    match szOf P elem, byOf P elem, lenB x, zeroOf P elem with
    | some size, some bytes, some n, some z =>
      match firstB H size sLen s, firstB H size n x with
      | some old, some new =>
        if n = 0 then some (s, H)
        else if sLen + n ≤ 2 ^ 30 ∧ bytes ≤ 2 ^ 16 ∧ new.all cellOk = true ∧ z.cells.size = size then
          match base with
          | none => some (.slice (some ⟨H.next, 0, none⟩) n capU, H.push (.cells new elem false))
          | some a =>
            if sCap = sLen then some (.slice (some ⟨H.next, 0, none⟩) (sLen + n) capU, H.push (.cells (old ++ new) elem false))
            else match H.get a.block with
              | some (.cells _ e false) => if e = elem ∧ sCap = capU then some (.slice (some ⟨H.next, 0, none⟩) (sLen + n) capU, (H.set a.block .dead).push (.cells (old ++ new) elem false)) else none
              | _ => none
        else none
      | _, _ => none
    | _, _, _, _ => none
  | _, _ => none

def copyB (P : Program) (H : Heap) (dType : TypeId) (d x : Value) : Option (Value × Heap) :=
  match P.underlying dType, d with
  | some (.slice elem), .slice base dLen _ =>
    match szOf P elem, lenB x with
    | some size, some m =>
      let n := Nat.min m dLen
      match firstB H size n x, base with
      | some _, none => some (goInt n, H)
      | some l, some a => if n = 0 then some (goInt n, H) else if a.spot = none ∧ l.length = n * size then (putCells H a.block a.off l).map fun H => (goInt n, H) else none
      | _, _ => none
    | _, _ => none
  | _, _ => none

def boundB (v : Option Value) (d : Nat) : Option Nat :=
  match v with
  | none => some d
  | some (.int _ n) => if 0 ≤ n then some n.toNat else none
  | _ => none

def empA : Addr := ⟨0, 0, some 0⟩
def sliceB (P : Program) (H : Heap) (t : TypeId) (x : Value) (lo hi mx : Option Value) : Option Value :=
  match P.underlying t, x with
  | some (.slice elem), .slice a len cap =>
    match szOf P elem, boundB lo 0, boundB hi len, boundB mx cap with
    | some size, some l, some h, some m =>
      if l ≤ h ∧ h ≤ len ∧ (mx.isNone ∨ h ≤ m ∧ m ≤ len ∧ hi.isSome) then
        match a with
        | none => some (.slice none 0 0)
        | some ⟨i, o, none⟩ =>
          match H.get i with
          | some (.cells _ e _) => if szOf P e = some size then some (.slice (some ⟨i, o + l * size, none⟩) (h - l) (if mx.isNone ∧ cap = capU then capU else m - l)) else none
          | _ => none
        | some ⟨i, o, some x⟩ => if len = 0 ∧ mx.isNone = true ∧ cap = capU then some (.slice (some ⟨i, o, some x⟩) 0 capU) else none
      else none
    | _, _, _, _ => none
  | _, _ => none

def fieldB (P : Program) (s : TypeId) (a : Value) (f : Nat) : Option Value :=
  match P.underlying s, a with
  | some (.struct fs), .pointer (some ⟨i, o, none⟩) =>
    match fs[f]? with
    | some fd => match szOf P fd.type with
      | some n => if n = 0 then none else some (.pointer (some ⟨i, o + fd.offset, none⟩))
      | none => none
    | none => none
  | _, _ => none

def indexAddrB (P : Program) (t : TypeId) (x ix : Value) : Option Value :=
  match ix, P.underlying t, x with
  | .int _ i, some (.array len elem), .pointer (some ⟨b, o, none⟩) => if 0 ≤ i ∧ i < len then (szOf P elem).map fun n => .pointer (some ⟨b, o + i.toNat * n, none⟩) else none
  | .int _ i, some (.slice elem), .slice (some ⟨b, o, none⟩) len _ => if 0 ≤ i ∧ i < len then (szOf P elem).map fun n => .pointer (some ⟨b, o + i.toNat * n, none⟩) else none
  | _, _, _ => none

def partB (P : Program) (t : TypeId) (cs : Array Value) (off : Nat) : Option Value :=
  match aggOf P t, szOf P t with
  | some true, some n => if off + n ≤ cs.size then some (.agg ((cs.toList.drop off).take n).toArray) else none
  | some false, _ => cs[off]?
  | _, _ => none

def placesB (P : Program) (t : TypeId) : Option (Nat → Option (Nat × Nat)) :=
  match P.underlying t with
  | some (.struct fs) => (runP P (fs.mapM fun f => do pure (f.offset, ← sizeOf f.type))).map fun l i => l[i]?
  | some (.array _ elem) => (szOf P elem).map fun n i => some (i * n, n)
  | _ => none

def strOf : Value → Option ByteArray
  | .string s => some s
  | _ => none

def bytesOf : List Value → Option (List UInt8)
  | [] => some []
  | .int .u8 n :: l => (bytesOf l).map (UInt8.ofNat n.toNat :: ·)
  | _ => none

def keyAt (P : Program) (kt : TypeId) (k : Value) (es : List MapEntry) : Option (Option Nat) :=
  (runP P (Instr.findKey kt k (es.map fun e => { e with val := undef }))).map fun r => r.map (·.1)

def keyOk (P : Program) (kt : TypeId) (k : Value) (emp : Bool) : Bool := isScalA k && (runP P (Instr.checkKey emp 10000 kt k)).isSome

def appendable (P : Program) (xt : TypeId) : Bool :=
  match P.underlying xt with
  | some (.int _) | none => false
  | _ => true

def mapOf (H : Heap) (i : Nat) : Option (List MapEntry × Nat) :=
  match H.get i with
  | some (.map es clk) => some (es, clk)
  | _ => none

def lenIn (P : Program) (H : Heap) (t : TypeId) (x : Value) : Option Int :=
  match P.underlying t with
  | some .string => (match x with | .string s => some s.size | _ => none)
  | some (.array n _) => some n
  | some (.slice _) => (match x with | .slice _ n _ => some n | _ => none)
  | some (.map _ _) => (match x with
    | .map none => some 0
    | .map (some r) => (mapOf H r).map fun p => p.1.length
    | _ => none)
  | _ => none

def deleteB (P : Program) (H : Heap) (t : TypeId) (m k : Value) : Option Heap :=
  match P.underlying t, m with
  | some (.map kt _), .map (some i) => match mapOf H i with
    | some (es, clk) => if keyOk P kt k es.isEmpty then match keyAt P kt k es with
        | some (some j) => some (H.set i (.map (es.eraseIdx j) clk))
        | some none => some H
        | none => none
      else none
    | none => none
  | _, _ => none

def builtinB (P : Program) (H : Heap) (b : Builtin) (ats : Array TypeId) (args : List Value) : Option (Value × Heap) :=
  match b with
  | .append => (match args with
    | [s, x] => (match ats[0]?, ats[1]? with
      | some t, some xt => if appendable P xt then appendB P H t s x else none
      | _, _ => none)
    | _ => none)
  | .copy => (match args with
    | [d, x] => (match ats[0]? with
      | some t => copyB P H t d x
      | none => none)
    | _ => none)
  | .len => (match args with
    | [x] => (match ats[0]? with
      | some t => (lenIn P H t x).map fun n => (goInt n, H)
      | none => none)
    | _ => none)
  | .delete => (match args with
    | [m, k] => (match ats[0]? with
      | some t => (deleteB P H t m k).map fun H => (.tuple #[], H)
      | none => none)
    | _ => none)
  | _ => none

def entsOf (H : Heap) : Value → Option (List MapEntry)
  | .map none => some []
  | .map (some i) => (mapOf H i).map Prod.fst
  | _ => none

def lookupB (P : Program) (H : Heap) (t : TypeId) (m k : Value) (ok : Bool) : Option Value :=
  match P.underlying t, entsOf H m with
  | some (.map kt et), some es =>
    if keyOk P kt k es.isEmpty then match keyAt P kt k es with
      | some (some i) => (es[i]?).map fun en => if ok then .tuple #[en.val, .bool true] else en.val
      | some none => (match zeroOf P et with
        | some z => if isScalA z then some (if ok then .tuple #[z, .bool false] else z) else none
        | none => none)
      | none => none
    else none
  | _, _ => none

def updateB (P : Program) (H : Heap) (t : TypeId) (m k x : Value) : Option Heap :=
  match P.underlying t, m with
  | some (.map kt _), .map (some i) => match mapOf H i with
    | some (es, clk) => if keyOk P kt k false then match keyAt P kt k es with
        | some (some j) => (match es[j]? with
          | some en => if Instr.sameBits 10000 en.key k then some (H.set i (.map (es.modify j fun en => { en with key := k, val := x }) clk)) else none
          | none => none)
        | some none => some (H.set i (.map (es ++ [{ key := k, val := x, born := clk }]) (clk + 1)))
        | none => none
      else none
    | none => none
  | _, _ => none

def nilEq (P : Program) (t : TypeId) (x y : Value) : Option Bool :=
  match P.underlying t with
  | some (.pointer _) => (match x, y with
    | .pointer none, .pointer (some _) | .pointer (some _), .pointer none => some false
    | _, _ => none)
  | some (.slice _) => (match x, y with
    | .slice none _ _, .slice (some _) _ _ | .slice (some _) _ _, .slice none _ _ => some false
    | _, _ => none)
  | some (.interface _) => (match x, y with
    | .nilIface, .iface _ _ | .iface _ _, .nilIface => some false
    | _, _ => none)
  | some (.map _ _) => (match x, y with
    | .map none, .map (some _) | .map (some _), .map none => some false
    | _, _ => none)
  | _ => none

def pureB (P : Program) (s : Sem Next) (H : Heap) : Option Res :=
  match runP P s with
  | some (.value v) => if isScalA v then some (.val v H) else none
  | _ => none

def strSliceB (P : Program) (t : TypeId) (s : ByteArray) (lo hi mx : Option Value) : Option Value :=
  match P.underlying t, boundB lo 0, boundB hi s.size, mx with
  | some .string, some l, some h, none => if l ≤ h ∧ h ≤ s.size then some (.string (s.extract l h)) else none
  | _, _, _, _ => none

def indexB (P : Program) (t : TypeId) (x ix : Value) : Option Value :=
  match P.underlying t, x, ix with
  | some (.array len elem), .agg cs, .int _ i => if 0 ≤ i ∧ i < len then (szOf P elem).bind fun n => partB P elem cs (i.toNat * n) else none
  | some .string, .string s, .int _ i => if 0 ≤ i then (s[i.toNat]?).map fun b => .int .u8 b.toNat else none
  | _, _, _ => none

def fieldOf (P : Program) (t : TypeId) (x : Value) (f : Nat) : Option Value :=
  match P.underlying t, x with
  | some (.struct fs), .agg cs => (match fs[f]? with
    | some fd => partB P fd.type cs fd.offset
    | none => none)
  | _, _ => none

def makeSliceB (P : Program) (j : Nat) (t : TypeId) (l c : Value) : Option (Value × AObj) :=
  match P.underlying t, l, c with
  | some (.slice elem), .int _ l, .int _ c => match szOf P elem, byOf P elem, zeroOf P elem with
    | some size, some bytes, some z => if 0 ≤ l ∧ l ≤ c ∧ c ≤ 2 ^ 24 ∧ bytes ≤ 2 ^ 16 ∧ isScalA z = true ∧ z.cells.size = size then
        some (.slice (some ⟨j, 0, none⟩) l.toNat c.toNat, .cells (((Array.range (c.toNat * size)).map (z.cells[· % z.cells.size]!)).toList) elem false)
      else none
    | _, _, _ => none
  | _, _, _ => none

def buildSliceB (P : Program) (j : Nat) (t : TypeId) (len : Nat) (ps : List (Nat × Value)) : Option (Value × AObj) :=
  match P.underlying t with
  | some (.slice elem) => match szOf P elem, zeroOf P elem with
    | some size, some z => if isScalA z = true ∧ len * size ≤ 2 ^ 24 ∧ z.cells.size = size then
        (Instr.fill (fun i => some (i * size, size)) ((Array.range (len * size)).map (z.cells[· % z.cells.size]!)) ps).map fun cs =>
          (.slice (some ⟨j, 0, none⟩) len len, .cells cs.toList elem false)
      else none
    | _, _ => none
  | _ => none

def buildB (P : Program) (t : TypeId) (ps : List (Nat × Value)) : Option Value :=
  match zeroOf P t, placesB P t with
  | some z, some pl => if isScalA z then (Instr.fill pl z.cells ps).map .agg else none
  | _, _ => none

def u8T (P : Program) (t : TypeId) : Bool :=
  match P.underlying t with
  | some (.int .u8) => true
  | _ => false

def convertB (P : Program) (H : Heap) (src dst : TypeId) (x : Value) (s : Sem Next) : Option Res :=
  match x with
  | .slice _ len _ => (match P.underlying src, P.underlying dst with
    | some (.slice el), some .string => if u8T P el then (match firstB H 1 len x with
        | some l => (bytesOf l).map fun bs => .val (.string ⟨bs.toArray⟩) H
        | none => none) else none
    | _, _ => none)
  | _ => match P.underlying src, P.underlying dst, x with
    | some .string, some (.slice _), .string _ => none
    | _, _, _ => if isScalA x then pureB P s H else none

def ifaceT (P : Program) (t : TypeId) : Bool :=
  match P.underlying t with
  | some (.interface _) | none => true
  | _ => false

def bytesB (P : Program) (j : Nat) (src dst : TypeId) (x : Value) : Option (Value × AObj) :=
  match P.underlying src, P.underlying dst, x with
  | some .string, some (.slice el), .string s => if u8T P el = true ∧ szOf P el = some 1 then some (.slice (some ⟨j, 0, none⟩) s.size capU, .cells (s.data.toList.map fun b => .int .u8 b.toNat) el false) else none
  | _, _, _ => none

def allocB (P : Program) (e : Operand → Value) (o : Oper) (j : Nat) : Option (Value × AObj) :=
  match o.op with
  | .alloc elem => (match zeroOf P elem with
    | some z => if isScalA z then some (.pointer (some ⟨j, 0, none⟩), .cells z.cells.toList elem false) else none
    | none => none)
  | .box elem x => if (szOf P elem).isSome then some (.pointer (some ⟨j, 0, none⟩), .cells (e x).cells.toList elem false) else none
  | .buildSlice t len parts => buildSliceB P j t len (parts.map fun (i, x) => (i, e x)).toList
  | .makeMap _ none => some (.map (some j), .map [] 0)
  | .makeSlice t l c => makeSliceB P j t (e l) (e c)
  | .convert src dst x => bytesB P j src dst (e x)
  | _ => none

def aopF (P : Program) (e : Operand → Value) (o : Oper) (H : Heap) : Option Res :=
  match o.op with
  | .move x => some (.val (e x) H)
  | .assign x => some (.val (e x) H)
  | .pick c a b => (match e c with
    | .bool t => some (.val (if t then e a else e b) H)
    | _ => none)
  | .load t a => (loadB P H t (e a)).map fun v => .val v H
  | .store t a x => (storeB P H t (e a) (e x)).map fun H => .val undef H
  | .nilCheck x => (match e x with
    | .pointer (some a) => some (.val (.pointer (some a)) H)
    | .func (.func f) a b => some (.val (.func (.func f) a b) H)
    | _ => none)
  | .fieldAddr s x f => (fieldB P s (e x) f).map fun v => .val v H
  | .indexAddr t x ix => (indexAddrB P t (e x) (e ix)).map fun v => .val v H
  | .field t x f => (fieldOf P t (e x) f).map fun v => .val v H
  | .extract x ix => (match e x with
    | .tuple vs => (vs[ix]?).map fun v => .val v H
    | _ => none)
  | .index t x ix => (indexB P t (e x) (e ix)).map fun v => .val v H
  | .build t parts => (buildB P t (parts.map fun (i, x) => (i, e x)).toList).map fun v => .val v H
  | .makeFunc fn first captured => some (.val (.func fn (first.map e) (captured.map e)) H)
  | .makeInterface t x => if ifaceT P t then none else some (.val (.iface t (e x)) H)
  | .slice t x lo hi mx => (match e x with
    | .string s => (strSliceB P t s (lo.map e) (hi.map e) (mx.map e)).map fun v => .val v H
    | v => (sliceB P H t v (lo.map e) (hi.map e) (mx.map e)).map fun v => .val v H)
  | .convert src dst x => convertB P H src dst (e x) (execOp e { o with op := .convert src dst x })
  | .binOp op t x y yt => (match op, nilEq P t (e x) (e y) with
    | .eql, some b => some (.val (.bool b) H)
    | .neq, some b => some (.val (.bool !b) H)
    | _, _ => if isScalA (e x) && isScalA (e y) then pureB P (execOp e { o with op := .binOp op t x y yt }) H else none)
  | .unOp op t x => if isScalA (e x) then pureB P (execOp e { o with op := .unOp op t x }) H else none
  | .lookup t m k ok => (lookupB P H t (e m) (e k) ok).map fun v => .val v H
  | .mapUpdate t m k x => (updateB P H t (e m) (e k) (e x)).map fun H => .val undef H
  | .insert t m k x => (updateB P H t (e m) (e k) (e x)).map fun H => .val undef H
  | .call c =>
    (match c.callee with
    | .value f => (match e f with
      | .func (.func g) first captured => some (.enter g (first ++ c.args.map e ++ captured))
      | _ => none)
    | .builtin b => (match b with
      | .min => if c.args.toList.all fun x => isScalA (e x) then pureB P (execOp e { o with op := .call c }) H else none
      | .max => if c.args.toList.all fun x => isScalA (e x) then pureB P (execOp e { o with op := .call c }) H else none
      | b => (builtinB P H b c.argTypes (c.args.map e).toList).map fun p => .val p.1 p.2)
    | _ => none)
  | _ => none

def markOk (P : Program) (src dst : TypeId) (l : Nat) : Bool := decide (src = dst ∧ l ≠ 0) && match P.underlying src with
  | some (.slice el) => u8T P el
  | _ => false
def markR (H : Heap) (i o l c : Nat) : Option AObj → Option Res
  | some (.cells cs et false) => some (.val (.slice (some ⟨i, o, none⟩) l c) (H.set i (.cells cs et true)))
  | _ => none
def markV (P : Program) (H : Heap) (src dst : TypeId) : Value → Option Res
  | .slice (some ⟨i, o, none⟩) l c => if markOk P src dst l = true then markR H i o l c (H.get i) else none
  | _ => none
def markB (P : Program) (e : Operand → Value) (o : Oper) (H : Heap) : Option Res :=
  match o.op with
  | .convert src dst x => markV P H src dst (e x)
  | _ => none
def aop (P : Program) (e : Operand → Value) (o : Oper) (H : Heap) : Option Res :=
  match allocB P e o H.next with
  | some p => some (.val p.1 (H.push p.2))
  | none => match markB P e o H with
    | some r => some r
    | none => aopF P e o H

def yieldB (ops : Array Oper) (n : Nat) (t : Tr Value) (j : Nat) : Option Bool :=
  match (ops[j]?).bind (·.dst) with
  | some d => if d < n then (match (t.get d).getD undef with | .bool b => some b | _ => none) else none
  | none => none

abbrev Cal := FuncId → Array Value → Heap → Option (Value × Heap)

def step1 (cal : Cal) (P : Program) (ops : Array Oper) (o : Oper) (st : St) : Option St :=
  if Region.wanted o (yieldB ops st.n st.t) then
    match aop P (ev st.t) o st.H with
    | some (.val v H) => st.put o.dst v H
    | some (.enter f args) => match cal f args st.H with
      | some (v, H) => st.put o.dst v H
      | none => none
    | none => none
  else st.put o.dst undef st.H

def opsRun (cal : Cal) (P : Program) (ops : Array Oper) : List Oper → St → Option St
  | [], st => some st
  | o :: l, st => match step1 cal P ops o st with
    | some st' => opsRun cal P ops l st'
    | none => none

inductive Ex where
  | normal
  | exit (id : Nat)
  | ret

def loopN (f : St → Option (Ex × St)) : Nat → St → Option (Ex × St)
  | 0, _ => none
  | n + 1, st => match f st with
    | some (.normal, st') => loopN f n st'
    | r => r

abbrev Draw := Cal → Program → Array Oper → St → Option St

def exec (D : Draw) (cal : Cal) (P : Program) (n : Nat) : Code → St → Option (Ex × St)
  | .skip, st => some (.normal, st)
  | .label _, st => some (.normal, st)
  | .region _ ops draw, st => (if draw then D cal P ops st else opsRun cal P ops ops.toList st).map fun st => (.normal, st)
  | .seq a b, st => match exec D cal P n a st with
    | some (.normal, st') => exec D cal P n b st'
    | r => r
  | .cond c a b, st => match ev st.t c with
    | .bool true => exec D cal P n a st
    | .bool false => exec D cal P n b st
    | _ => none
  | .block id b, st => match exec D cal P n b st with
    | some (.exit i, st') => if i = id then some (.normal, st') else some (.exit i, st')
    | r => r
  | .loop b, st => loopN (exec D cal P n b) n st
  | .exit id, st => some (.exit id, st)
  | .ret, st => some (.ret, st)
  | _, _ => none

def setArgs (t : Tr Value) : Nat → List Value → Tr Value
  | _, [] => t
  | i, v :: l => setArgs (t.set i v) (i + 1) l

def resB (P : Program) (st : St) : List ResultVar → Option (List Value)
  | [] => some []
  | .tmp t :: l => (resB P st l).map (((st.t.get t).getD undef) :: ·)
  | .cell a t :: l => match loadB P st.H t ((st.t.get a).getD undef) with
    | some v => (resB P st l).map (v :: ·)
    | none => none

def oneOf : List Value → Value
  | [v] => v
  | l => .tuple l.toArray

abbrev Exts := FuncId → Option (Array Value → Heap → Option (Value × Heap))

def callB (D : Draw) (P : Program) (T : FuncId → Option Func) (X : Exts) : Nat → Cal
  | 0, _, _, _ => none
  | k + 1, f, args, H =>
    match X f with
    | some g => g args H
    | none => match T f with
      | some fn => match fn.body with
        | some c => match exec D (callB D P T X k) P k c { n := args.size + (fn.ntmps - args.size), t := setArgs .nil 0 args.toList, H } with
          | some (.normal, st) => (resB P st fn.results.toList).map fun l => (oneOf l, st.H)
          | some (.ret, st) => (resB P st fn.results.toList).map fun l => (oneOf l, st.H)
          | _ => none
        | none => none
      | none => none

def operOk : Operand → Bool
  | .const v => isScalA v
  | _ => true

def opOk (o : Oper) : Bool := o.op.operands.toList.all operOk && (match o.op with | .select _ _ => false | _ => true)

def codeOk : Code → Bool
  | .region _ ops _ => ops.toList.all opOk
  | .seq a b => codeOk a && codeOk b
  | .cond c a b => operOk c && (codeOk a && codeOk b)
  | .block _ b => codeOk b
  | .loop b => codeOk b
  | _ => true

end Go.B

namespace Go.B
open Go

structure Loc where
  blk : Nat
  sh : Nat
  tot : Nat
  esz : Nat

abbrev Ren := Nat → Option Loc

inductive VRel (ρ : Ren) : Value → Value → Prop
  | bool (b : Bool) : VRel ρ (.bool b) (.bool b)
  | int (k : IntKind) (n : Int) : VRel ρ (.int k n) (.int k n)
  | string (s : ByteArray) : VRel ρ (.string s) (.string s)
  | ptrNil : VRel ρ (.pointer none) (.pointer none)
  | ptr {i o : Nat} {L : Loc} (h : ρ i = some L) : VRel ρ (.pointer (some ⟨i, o, none⟩)) (.pointer (some ⟨L.blk, L.sh + o, none⟩))
  | glob (a : Addr) : VRel ρ (.chan none) (.pointer (some a))
  | sliceNil : VRel ρ (.slice none 0 0) (.slice none 0 0)
  | slice {i o l c c' : Nat} {L : Loc} (h : ρ i = some L) (hl : l ≤ c') (hc : c = c' ∨ c = capU) (ht : o + c' * L.esz ≤ L.tot) : VRel ρ (.slice (some ⟨i, o, none⟩) l c) (.slice (some ⟨L.blk, L.sh + o, none⟩) l c')
  | slice0 {a a' : Addr} {c : Nat} (hc : c = 0 ∨ c = capU) : VRel ρ (.slice (some a) 0 c) (.slice (some a') 0 0)
  | mapNil : VRel ρ (.map none) (.map none)
  | map {r : Nat} {L : Loc} (h : ρ r = some L) : VRel ρ (.map (some r)) (.map (some L.blk))
  | func (fn : Fn) {f g c d : Array Value} (hf : f.size = g.size) (hfg : ∀ (i : Nat) (h : i < f.size) (h' : i < g.size), VRel ρ f[i] g[i]) (hc : c.size = d.size) (hcd : ∀ (i : Nat) (h : i < c.size) (h' : i < d.size), VRel ρ c[i] d[i]) : VRel ρ (.func fn f c) (.func fn g d)
  | nilFunc : VRel ρ .nilFunc .nilFunc
  | nilIface : VRel ρ .nilIface .nilIface
  | iface (t : TypeId) {v v' : Value} (h : VRel ρ v v') : VRel ρ (.iface t v) (.iface t v')
  | agg {x y : Array Value} (hs : x.size = y.size) (h : ∀ (i : Nat) (h : i < x.size) (h' : i < y.size), VRel ρ x[i] y[i]) : VRel ρ (.agg x) (.agg y)
  | tuple {x y : Array Value} (hs : x.size = y.size) (h : ∀ (i : Nat) (h : i < x.size) (h' : i < y.size), VRel ρ x[i] y[i]) : VRel ρ (.tuple x) (.tuple y)

def LRel (ρ : Ren) (x y : List Value) : Prop := x.length = y.length ∧ ∀ (i : Nat) (h : i < x.length) (h' : i < y.length), VRel ρ x[i] y[i]

def Ext (ρ ρ' : Ren) : Prop := ∀ i L, ρ i = some L → ρ' i = some L

theorem Ext.refl (ρ : Ren) : Ext ρ ρ := fun _ _ h => h
theorem Ext.trans {a b c : Ren} (h : Ext a b) (k : Ext b c) : Ext a c := fun i L x => k i L (h i L x)

theorem VRel.mono {ρ ρ' : Ren} (hx : Ext ρ ρ') {v v' : Value} (h : VRel ρ v v') : VRel ρ' v v' := by
  induction h with
  | bool b => exact .bool b
  | int k n => exact .int k n
  | string s => exact .string s
  | ptrNil => exact .ptrNil
  | ptr h => exact .ptr (hx _ _ h)
  | glob a => exact .glob a
  | sliceNil => exact .sliceNil
  | slice h hl hc ht => exact .slice (hx _ _ h) hl hc ht
  | slice0 hc => exact .slice0 hc
  | mapNil => exact .mapNil
  | map h => exact .map (hx _ _ h)
  | func fn hf _ hc _ ih1 ih2 => exact .func fn hf ih1 hc ih2
  | nilFunc => exact .nilFunc
  | nilIface => exact .nilIface
  | iface t _ ih => exact .iface t ih
  | agg hs _ ih => exact .agg hs ih
  | tuple hs _ ih => exact .tuple hs ih

theorem LRel.mono {ρ ρ' : Ren} (hx : Ext ρ ρ') {x y : List Value} (h : LRel ρ x y) : LRel ρ' x y := ⟨h.1, fun i a b => (h.2 i a b).mono hx⟩

theorem VRel.of_scal {ρ : Ren} {v v' : Value} (hs : isScal v = true) (h : VRel ρ v v') : v' = v := by
  cases h <;> simp [isScal] at hs <;> try rfl
  rename_i t v v' h
  cases v <;> simp at hs <;> cases h <;> rfl

theorem VRel.scal {ρ : Ren} {v : Value} (hs : isScal v = true) : VRel ρ v v := by
  unfold isScal at hs
  split at hs
  · exact .bool _
  · exact .int _ _
  · exact .string _
  · exact .ptrNil
  · exact .sliceNil
  · exact .mapNil
  · exact .nilFunc
  · exact .nilIface
  · exact .iface _ (.int _ _)
  · exact .iface _ (.string _)
  · simp at hs

theorem all_scal {cs : Array Value} (h : cs.toList.all isScal = true) (i : Nat) (hi : i < cs.size) : isScal cs[i] = true := by
  have := List.all_eq_true.mp h cs[i] (by simp)
  exact this

theorem VRel.of_scalA {ρ : Ren} {v v' : Value} (hs : isScalA v = true) (h : VRel ρ v v') : v' = v := by
  have h0 := h
  cases h
  case agg x y hz h =>
    congr 1
    exact Array.ext hz.symm (fun i h1 h2 => VRel.of_scal (all_scal hs i h2) (h i h2 h1))
  case tuple x y hz h =>
    congr 1
    exact Array.ext hz.symm (fun i h1 h2 => VRel.of_scal (all_scal hs i h2) (h i h2 h1))
  all_goals exact VRel.of_scal (by simpa only [isScalA] using hs) h0

theorem VRel.scalA {ρ : Ren} {v : Value} (hs : isScalA v = true) : VRel ρ v v := by
  unfold isScalA at hs
  split at hs
  · exact .agg rfl fun i h _ => .scal (all_scal hs i h)
  · exact .tuple rfl fun i h _ => .scal (all_scal hs i h)
  · exact .scal hs

theorem VRel.undef {ρ : Ren} : VRel ρ Go.undef Go.undef := .tuple rfl fun i h _ => absurd h (by simp)

theorem VRel.cells {ρ : Ren} {v v' : Value} (h : VRel ρ v v') : LRel ρ v.cells.toList v'.cells.toList := by
  cases h <;> first
    | (refine ⟨rfl, fun i h _ => ?_⟩; simp [Value.cells] at h; subst h; simp only [Value.cells, List.getElem_toArray]; first | (exact .tuple ‹_› ‹_›) | (constructor <;> assumption))
    | skip
  case agg x y hs h => exact ⟨by simpa [Value.cells] using hs, fun i a b => by simp only [Value.cells, Array.getElem_toList]; exact h i (by simpa [Value.cells] using a) (by simpa [Value.cells] using b)⟩

theorem LRel.get {ρ : Ren} {x y : List Value} (h : LRel ρ x y) {i : Nat} {v : Value} (hv : x[i]? = some v) : ∃ v', y[i]? = some v' ∧ VRel ρ v v' := by
  obtain ⟨hi, rfl⟩ := List.getElem?_eq_some_iff.mp hv
  have hi' : i < y.length := h.1 ▸ hi
  exact ⟨y[i], List.getElem?_eq_getElem hi', h.2 i hi hi'⟩

theorem LRel.nil {ρ : Ren} : LRel ρ [] [] := ⟨rfl, fun i h _ => absurd h (by simp)⟩
theorem LRel.cons {ρ : Ren} {a b : Value} {x y : List Value} (h : VRel ρ a b) (hs : LRel ρ x y) : LRel ρ (a :: x) (b :: y) := by
  refine ⟨by simp [hs.1], fun i h1 h2 => ?_⟩
  cases i with
  | zero => exact h
  | succ i => exact hs.2 i (by simpa using h1) (by simpa using h2)
theorem LRel.head {ρ : Ren} {a b : Value} {x y : List Value} (h : LRel ρ (a :: x) (b :: y)) : VRel ρ a b := h.2 0 (by simp) (by simp)
theorem LRel.tail {ρ : Ren} {a b : Value} {x y : List Value} (h : LRel ρ (a :: x) (b :: y)) : LRel ρ x y := ⟨by simpa using h.1, fun i h1 h2 => h.2 (i + 1) (by simpa using h1) (by simpa using h2)⟩
theorem LRel.append {ρ : Ren} {x y x' y' : List Value} (h : LRel ρ x y) (k : LRel ρ x' y') : LRel ρ (x ++ x') (y ++ y') := by
  refine ⟨by simp [h.1, k.1], fun i h1 h2 => ?_⟩
  by_cases hi : i < x.length
  · rw [List.getElem_append_left hi, List.getElem_append_left (h.1 ▸ hi)]; exact h.2 i hi (h.1 ▸ hi)
  · rw [List.getElem_append_right (by omega), List.getElem_append_right (by have := h.1; omega)]
    simp only [h.1]
    exact k.2 _ (by simp at h1; have := h.1; omega) (by simp at h2; have := h.1; omega)
theorem LRel.drop {ρ : Ren} {x y : List Value} (h : LRel ρ x y) (n : Nat) : LRel ρ (x.drop n) (y.drop n) :=
  ⟨by simp [h.1], fun i h1 h2 => by simpa using h.2 (n + i) (by simp at h1; omega) (by simp at h2; omega)⟩
theorem LRel.take {ρ : Ren} {x y : List Value} (h : LRel ρ x y) (n : Nat) : LRel ρ (x.take n) (y.take n) :=
  ⟨by simp [h.1], fun i h1 h2 => by simpa using h.2 i (by simp at h1; omega) (by simp at h2; omega)⟩
theorem LRel.agg {ρ : Ren} {x y : Array Value} (h : LRel ρ x.toList y.toList) : VRel ρ (.agg x) (.agg y) := .agg (by simpa using h.1) fun i a b => by have := h.2 i (by simpa using a) (by simpa using b); simpa only [Array.getElem_toList] using this
theorem LRel.tuple {ρ : Ren} {x y : Array Value} (h : LRel ρ x.toList y.toList) : VRel ρ (.tuple x) (.tuple y) := .tuple (by simpa using h.1) fun i a b => by have := h.2 i (by simpa using a) (by simpa using b); simpa only [Array.getElem_toList] using this
theorem LRel.of_agg {ρ : Ren} {x y : Array Value} (h : VRel ρ (.agg x) (.agg y)) : LRel ρ x.toList y.toList := by
  cases h with | agg hs h => exact ⟨by simpa using hs, fun i a b => by simpa using h i (by simpa using a) (by simpa using b)⟩
theorem LRel.of_tuple {ρ : Ren} {x y : Array Value} (h : VRel ρ (.tuple x) (.tuple y)) : LRel ρ x.toList y.toList := by
  cases h with | tuple hs h => exact ⟨by simpa using hs, fun i a b => by simpa using h i (by simpa using a) (by simpa using b)⟩
theorem LRel.scal {ρ : Ren} {x : List Value} (h : x.all isScal = true) : LRel ρ x x := ⟨rfl, fun i hi _ => .scal (List.all_eq_true.mp h _ (List.getElem_mem hi))⟩
theorem LRel.map {ρ : Ren} {α : Type} {f g : α → Value} (l : List α) (h : ∀ x, VRel ρ (f x) (g x)) : LRel ρ (l.map f) (l.map g) := ⟨by simp, fun i h1 h2 => by simpa using h _⟩

theorem VRel.cellOk {ρ : Ren} {v v' : Value} (h : VRel ρ v v') (hk : cellOk v = true) : cellOk v' = true := by
  cases h <;> simp_all [Go.B.cellOk]


def CellsAt (P : Program) (ρ : Ren) (w : World) (L : Loc) (c : List Value) (e : TypeId) (ro : Bool) : Prop :=
  ∃ cc fr e', w.heap[L.blk]? = some (.cells cc e' fr) ∧ (ro = false → e' = e) ∧ cc.size = L.sh + L.tot ∧ c.length ≤ L.tot ∧ szOf P e = some L.esz ∧
    (∀ (o : Nat) (v : Value), c[o]? = some v → ∃ v', cc[L.sh + o]? = some v' ∧ VRel ρ v v') ∧ (ro = false → ∀ o, o < L.tot → ¬ (fr.1 ≤ L.sh + o ∧ L.sh + o < fr.2))

def EnRel (ρ : Ren) (a b : MapEntry) : Prop := b.key = a.key ∧ b.born = a.born ∧ VRel ρ a.val b.val

def MapAt (ρ : Ren) (w : World) (L : Loc) (es : List MapEntry) (clk : Nat) : Prop :=
  ∃ es' : Array MapEntry, w.heap[L.blk]? = some (.map es' clk) ∧ es.length = es'.size ∧ ∀ (i : Nat) (h : i < es.length) (h' : i < es'.size), EnRel ρ es[i] es'[i]

def Mut (H : Heap) (i : Nat) : Prop := (∃ c e, H.get i = some (.cells c e false)) ∨ ∃ es clk, H.get i = some (.map es clk)
def Live (H : Heap) (i : Nat) : Prop := (∃ c e ro, H.get i = some (.cells c e ro)) ∨ ∃ es clk, H.get i = some (.map es clk)

theorem Mut.live {H : Heap} {i : Nat} (h : Mut H i) : Live H i := by
  rcases h with ⟨c, e, h⟩ | h
  · exact .inl ⟨c, e, false, h⟩
  · exact .inr h

class Dem (P : Program) where
  G : Nat
  I : World → Prop
  stab : ∀ w w', G ≤ w.heap.size → Go.RowKit.Below G w w' → I w → I w'

structure WRel (P : Program) [Dem P] (ρ : Ren) (H : Heap) (w : World) : Prop where
  ren : ∀ i L, ρ i = some L → i < H.next ∧ L.blk < w.heap.size
  cells : ∀ i c e ro, H.get i = some (.cells c e ro) → ∃ L, ρ i = some L ∧ CellsAt P ρ w L c e ro
  maps : ∀ i es clk, H.get i = some (.map es clk) → ∃ L, ρ i = some L ∧ MapAt ρ w L es clk
  inj : ∀ i j L M, Mut H i → Live H j → ρ i = some L → ρ j = some M → L.blk = M.blk → i = j
  inv : Dem.I P w
  size : Dem.G P ≤ w.heap.size
  base : ∀ i L, Mut H i → ρ i = some L → Dem.G P ≤ L.blk

structure Mv (P : Program) [Dem P] (ρ : Ren) (H : Heap) (w : World) (ρ' : Ren) (H' : Heap) (w' : World) : Prop where
  ext : Ext ρ ρ'
  rel : WRel P ρ' H' w'
  next : H.next ≤ H'.next
  keep : ∀ i, (H.get i).isSome = true → (H'.get i).isSome = true
  new : ∀ i L, ρ i = none → ρ' i = some L → (H'.get i).isSome = true
  os : w'.os = w.os
  tape : w'.tape = w.tape
  output : w'.output = w.output
  size : w.heap.size ≤ w'.heap.size
  frame : ∀ b, b < w.heap.size → (¬ ∃ i L, Mut H i ∧ ρ i = some L ∧ L.blk = b) → w'.heap[b]? = w.heap[b]?
  own : ∀ i L, Live H' i → ρ' i = some L → L.blk < w.heap.size → ∃ j M, Live H j ∧ (Mut H' i → Mut H j) ∧ ρ j = some M ∧ M.blk = L.blk

theorem Mv.refl {P : Program} [Dem P] {ρ : Ren} {H : Heap} {w : World} (h : WRel P ρ H w) : Mv P ρ H w ρ H w :=
  ⟨Ext.refl ρ, h, Nat.le_refl _, fun _ a => a, fun i L a b => (by rw [a] at b; cases b), rfl, rfl, rfl, Nat.le_refl _, fun _ _ _ => rfl, fun i L a b _ => ⟨i, L, a, id, b, rfl⟩⟩

theorem Mv.trans {P : Program} [Dem P] {ρ ρ' ρ'' : Ren} {H H' H'' : Heap} {w w' w'' : World} (h : Mv P ρ H w ρ' H' w') (k : Mv P ρ' H' w' ρ'' H'' w'') : Mv P ρ H w ρ'' H'' w'' where
  ext := h.ext.trans k.ext
  rel := k.rel
  next := Nat.le_trans h.next k.next
  keep i a := k.keep i (h.keep i a)
  new i L a b := by
    cases hm : ρ' i with
    | none => exact k.new i L hm b
    | some M => exact k.keep i (h.new i M a hm)
  os := k.os.trans h.os
  tape := k.tape.trans h.tape
  output := k.output.trans h.output
  size := Nat.le_trans h.size k.size
  frame b hb hn := by
    rw [k.frame b (Nat.lt_of_lt_of_le hb h.size) (fun ⟨i, L, hm, hr, he⟩ => hn (by
      obtain ⟨j, M, a, m, b', c⟩ := h.own i L hm.live hr (he ▸ hb)
      exact ⟨j, M, m hm, b', c.trans he⟩)), h.frame b hb hn]
  own i L hm hr hb := by
    obtain ⟨j, M, a, m, b, c⟩ := k.own i L hm hr (Nat.lt_of_lt_of_le hb h.size)
    obtain ⟨j', M', a', m', b', c'⟩ := h.own j M a b (c ▸ hb)
    exact ⟨j', M', a', fun z => m' (m z), b', c'.trans c⟩

theorem WRel.heap {P : Program} [Dem P] {ρ : Ren} {H : Heap} {w w' : World} (h : WRel P ρ H w) (e : w'.heap = w.heap) (h1 : w'.os = w.os := by rfl) (h2 : w'.tape = w.tape := by rfl) (h3 : w'.output = w.output := by rfl) : WRel P ρ H w' where
  ren i L a := by rw [e]; exact h.ren i L a
  cells i c t ro a := by obtain ⟨L, hL, x⟩ := h.cells i c t ro a; exact ⟨L, hL, by unfold CellsAt at *; rw [e]; exact x⟩
  maps i es clk a := by obtain ⟨L, hL, x⟩ := h.maps i es clk a; exact ⟨L, hL, by unfold MapAt at *; rw [e]; exact x⟩
  inj := h.inj
  inv := Dem.stab w w' h.size ⟨h1, h2, h3, by rw [e]; exact Nat.le_refl _, fun b _ => by rw [e]⟩ h.inv
  size := by rw [e]; exact h.size
  base := h.base

theorem Mv.drew {P : Program} [Dem P] {ρ : Ren} {H : Heap} {w : World} (h : WRel P ρ H w) (n : Nat) : Mv P ρ H w ρ H { w with drawn := n } :=
  { Mv.refl h with rel := h.heap rfl }

def Ren.put (ρ : Ren) (i : Nat) (L : Loc) : Ren := fun j => if j = i then some L else ρ j

theorem WRel.fresh {P : Program} [Dem P] {ρ : Ren} {H : Heap} {w : World} (h : WRel P ρ H w) : ρ H.next = none := by
  cases e : ρ H.next with
  | none => rfl
  | some L => exact absurd (h.ren _ _ e).1 (Nat.lt_irrefl _)

theorem WRel.get_lt {P : Program} [Dem P] {ρ : Ren} {H : Heap} {w : World} (h : WRel P ρ H w) {i : Nat} (hl : Live H i) : i < H.next := by
  rcases hl with ⟨c, e, ro, hg⟩ | ⟨es, clk, hg⟩
  · obtain ⟨L, hL, _⟩ := h.cells _ _ _ _ hg; exact (h.ren _ _ hL).1
  · obtain ⟨L, hL, _⟩ := h.maps _ _ _ hg; exact (h.ren _ _ hL).1

theorem Ren.put_ext {ρ : Ren} {i : Nat} {L : Loc} (h : ρ i = none) : Ext ρ (ρ.put i L) := by
  intro j M hj
  unfold Ren.put
  by_cases e : j = i
  · subst e; rw [h] at hj; cases hj
  · rw [if_neg e]; exact hj
theorem Ren.put_same {ρ : Ren} {i : Nat} {L : Loc} : (ρ.put i L) i = some L := if_pos rfl
theorem Ren.put_other {ρ : Ren} {i j : Nat} {L : Loc} (h : j ≠ i) : (ρ.put i L) j = ρ j := if_neg h

theorem CellsAt.mono {P : Program} {ρ ρ' : Ren} (hx : Ext ρ ρ') {w w' : World} {L : Loc} {c : List Value} {e : TypeId} {ro : Bool} (h : CellsAt P ρ w L c e ro) (hb : w'.heap[L.blk]? = w.heap[L.blk]?) : CellsAt P ρ' w' L c e ro := by
  obtain ⟨cc, fr, e', h1, h0, h2, h3, h4, h5, h6⟩ := h
  exact ⟨cc, fr, e', hb.trans h1, h0, h2, h3, h4, fun o v hv => let ⟨v', a, b⟩ := h5 o v hv; ⟨v', a, b.mono hx⟩, h6⟩

theorem MapAt.mono {ρ ρ' : Ren} (hx : Ext ρ ρ') {w w' : World} {L : Loc} {es : List MapEntry} {clk : Nat} (h : MapAt ρ w L es clk) (hb : w'.heap[L.blk]? = w.heap[L.blk]?) : MapAt ρ' w' L es clk := by
  obtain ⟨es', h1, h2, h3⟩ := h
  exact ⟨es', hb.trans h1, h2, fun i a b => let ⟨x, y, z⟩ := h3 i a b; ⟨x, y, z.mono hx⟩⟩

structure Adds (ρ : Ren) (H H2 : Heap) (j : Nat) (o : AObj) : Prop where
  get : ∀ i, H2.get i = if i = j then some o else H.get i
  free : ρ j = none
  lt : j < H2.next
  le : H.next ≤ H2.next

theorem Adds.push {P : Program} [Dem P] {ρ : Ren} {H : Heap} {w : World} (h : WRel P ρ H w) (o : AObj) : Adds ρ H (H.push o) H.next o :=
  ⟨fun i => Heap.get_push _ _ _, h.fresh, Nat.lt_succ_self _, Nat.le_succ _⟩

theorem Mv.newObj {P : Program} [Dem P] {ρ : Ren} {H H2 : Heap} {w w' : World} (h : WRel P ρ H w) {j : Nat} {o : AObj} (ha : Adds ρ H H2 j o) {b : Obj} {L : Loc} (hLb : L.blk = w.heap.size)
    (ho : ∀ w2 : World, ∀ ρ2, Ext ρ ρ2 → w2.heap[L.blk]? = some b → (∀ c e ro, o = .cells c e ro → CellsAt P ρ2 w2 L c e ro) ∧ ∀ es clk, o = .map es clk → MapAt ρ2 w2 L es clk)
    (hw : w'.heap = w.heap.push b) (h1 : w'.os = w.os) (h2 : w'.tape = w.tape) (h3 : w'.output = w.output) :
    Mv P ρ H w (ρ.put j L) H2 w' := by
  have hx : Ext ρ (ρ.put j L) := Ren.put_ext ha.free
  have old : ∀ b, b < w.heap.size → w'.heap[b]? = w.heap[b]? := fun b hb => by rw [hw, Array.getElem?_push, if_neg (by omega)]
  have hnew : w'.heap[L.blk]? = some b := by rw [hw, hLb]; simp
  have liveOf : ∀ i, i ≠ j → Live H2 i → Live H i := fun i hi hl => by
    unfold Live at *; simpa only [ha.get, if_neg hi] using hl
  have mutOf : ∀ i, i ≠ j → Mut H2 i → Mut H i := fun i hi hl => by
    unfold Mut at *; simpa only [ha.get, if_neg hi] using hl
  exact {
    ext := hx
    rel := {
      ren := fun i M hi => by
        by_cases e' : i = j
        · subst e'; rw [Ren.put_same] at hi; cases hi; exact ⟨ha.lt, by rw [hw, hLb]; simp⟩
        · rw [Ren.put_other e'] at hi; have := h.ren i M hi; exact ⟨Nat.lt_of_lt_of_le this.1 ha.le, by rw [hw]; simp; omega⟩
      cells := fun i c2 e2 ro hi => by
        rw [ha.get] at hi
        by_cases e' : i = j
        · rw [if_pos e'] at hi; subst e'
          exact ⟨L, Ren.put_same, (ho w' _ hx hnew).1 _ _ _ (Option.some.inj hi)⟩
        · rw [if_neg e'] at hi
          obtain ⟨M, hM, hc⟩ := h.cells i c2 e2 ro hi
          exact ⟨M, hx _ _ hM, hc.mono hx (old _ (h.ren _ _ hM).2)⟩
      maps := fun i es clk hi => by
        rw [ha.get] at hi
        by_cases e' : i = j
        · rw [if_pos e'] at hi; subst e'
          exact ⟨L, Ren.put_same, (ho w' _ hx hnew).2 _ _ (Option.some.inj hi)⟩
        · rw [if_neg e'] at hi
          obtain ⟨M, hM, hc⟩ := h.maps i es clk hi
          exact ⟨M, hx _ _ hM, hc.mono hx (old _ (h.ren _ _ hM).2)⟩
      inj := fun i k M N hi hk hM hN hb => by
        by_cases ei : i = j
        · by_cases ek : k = j
          · rw [ei, ek]
          · rw [ei, Ren.put_same] at hM; cases hM
            rw [Ren.put_other ek] at hN
            have := (h.ren _ _ hN).2
            omega
        · by_cases ek : k = j
          · rw [ek, Ren.put_same] at hN; cases hN
            rw [Ren.put_other ei] at hM
            have := (h.ren _ _ hM).2
            omega
          · rw [Ren.put_other ei] at hM; rw [Ren.put_other ek] at hN
            exact h.inj i k M N (mutOf i ei hi) (liveOf k ek hk) hM hN hb
      inv := Dem.stab w w' h.size ⟨h1, h2, h3, by rw [hw]; simp, fun b hb => old b (Nat.lt_of_lt_of_le hb h.size)⟩ h.inv
      size := by rw [hw]; simp; exact Nat.le_succ_of_le h.size
      base := fun i M hi hM => by
        by_cases ei : i = j
        · rw [ei, Ren.put_same] at hM; cases hM; rw [hLb]; exact h.size
        · rw [Ren.put_other ei] at hM
          refine h.base i M ?_ hM
          unfold Mut at *; simpa only [ha.get, if_neg ei] using hi }
    next := ha.le
    keep := fun i hi => by rw [ha.get]; split <;> simp_all
    new := fun i M a b => by
      by_cases e' : i = j
      · rw [ha.get, if_pos e']; rfl
      · rw [Ren.put_other e', a] at b; cases b
    os := h1, tape := h2, output := h3
    size := by rw [hw]; simp
    frame := fun b hb _ => old b hb
    own := fun i M hm hr hb => by
      by_cases e' : i = j
      · rw [e', Ren.put_same] at hr; cases hr; omega
      · rw [Ren.put_other e'] at hr
        refine ⟨i, M, liveOf i e' hm, fun hq => ?_, hr, rfl⟩
        unfold Mut at *; simpa only [ha.get, if_neg e'] using hq }

theorem Mv.newRow {P : Program} [Dem P] {ρ : Ren} {H H2 : Heap} {w w' : World} (h : WRel P ρ H w) {c : List Value} {cc : Array Value} {e : TypeId} {sz j : Nat} (ha : Adds ρ H H2 j (.cells c e false)) (hsz : szOf P e = some sz)
    (hl : c.length ≤ cc.size) (hr : ∀ (o : Nat) (v : Value), c[o]? = some v → ∃ v', cc[o]? = some v' ∧ VRel ρ v v') {fr : Nat × Nat} (hfr : ∀ o, o < cc.size → ¬ (fr.1 ≤ o ∧ o < fr.2))
    (hw : w'.heap = w.heap.push (.cells cc e fr)) (h1 : w'.os = w.os) (h2 : w'.tape = w.tape) (h3 : w'.output = w.output) :
    Mv P ρ H w (ρ.put j ⟨w.heap.size, 0, cc.size, sz⟩) H2 w' :=
  Mv.newObj h ha (L := ⟨w.heap.size, 0, cc.size, sz⟩) rfl (fun w2 ρ2 hx hb => ⟨fun c2 e2 ro2 he => (by
    cases he
    exact ⟨cc, fr, _, hb, fun _ => rfl, by simp, hl, hsz, fun o v hv => let ⟨v', a, b⟩ := hr o v hv; ⟨v', by simpa using a, b.mono hx⟩, fun _ o ho => by simpa using hfr o ho⟩), fun es clk he => (by cases he)⟩) hw h1 h2 h3

theorem Mv.newMap {P : Program} [Dem P] {ρ : Ren} {H H2 : Heap} {w w' : World} (h : WRel P ρ H w) {j : Nat} (ha : Adds ρ H H2 j (.map [] 0)) (hw : w'.heap = w.heap.push (.map #[] 0)) (h1 : w'.os = w.os) (h2 : w'.tape = w.tape) (h3 : w'.output = w.output) :
    Mv P ρ H w (ρ.put j ⟨w.heap.size, 0, 0, 0⟩) H2 w' :=
  Mv.newObj h ha (L := ⟨w.heap.size, 0, 0, 0⟩) rfl (fun w2 ρ2 hx hb => ⟨fun c2 e2 ro2 he => (by cases he), fun es clk he => (by
    cases he
    exact ⟨#[], hb, rfl, fun i a _ => absurd a (by simp)⟩)⟩) hw h1 h2 h3

theorem Mv.setObj {P : Program} [Dem P] {ρ : Ren} {H : Heap} {w w' : World} (h : WRel P ρ H w) {i : Nat} {L : Loc} (hi : Mut H i) (hL : ρ i = some L) {o' : AObj} (b' : Obj)
    (hw : w'.heap = w.heap.setIfInBounds L.blk b') (ho : ∀ w2 : World, w2.heap[L.blk]? = some b' → (∀ c e ro, o' = .cells c e ro → (ro = false ∨ ro = true) ∧ CellsAt P ρ w2 L c e ro) ∧ ∀ es clk, o' = .map es clk → MapAt ρ w2 L es clk)
    (h1 : w'.os = w.os) (h2 : w'.tape = w.tape) (h3 : w'.output = w.output) : Mv P ρ H w ρ (H.set i o') w' := by
  have hlt := (h.ren i L hL).2
  have hnew : w'.heap[L.blk]? = some b' := by rw [hw]; simp [Array.getElem?_setIfInBounds, hlt]
  have other : ∀ b, b ≠ L.blk → w'.heap[b]? = w.heap[b]? := fun b hb => by rw [hw, Array.getElem?_setIfInBounds, if_neg (fun e => hb e.symm)]
  have liveOf : ∀ j, Live (H.set i o') j → Live H j := fun j hl => by
    by_cases e : j = i
    · rw [e]; exact hi.live
    · unfold Live at *; simpa only [Heap.get_set, if_neg e] using hl
  have mutOf : ∀ j, Mut (H.set i o') j → Mut H j := fun j hl => by
    by_cases e : j = i
    · rw [e]; exact hi
    · unfold Mut at *; simpa only [Heap.get_set, if_neg e] using hl
  have hne : ∀ j M, j ≠ i → Live H j → ρ j = some M → M.blk ≠ L.blk := fun j M e hl hM he => e (h.inj i j L M hi hl hL hM he.symm).symm
  exact {
    ext := Ext.refl ρ
    rel := {
      ren := fun j M hj => by have := h.ren j M hj; rw [hw]; simpa [Heap.next_set] using this
      cells := fun j c e ro hj => by
        rw [Heap.get_set] at hj
        by_cases ej : j = i
        · rw [if_pos ej] at hj; cases hj; subst ej
          exact ⟨L, hL, ((ho w' hnew).1 _ _ _ rfl).2⟩
        · rw [if_neg ej] at hj
          obtain ⟨M, hM, hc⟩ := h.cells j c e ro hj
          exact ⟨M, hM, hc.mono (Ext.refl ρ) (other _ (hne j M ej (.inl ⟨c, e, ro, hj⟩) hM))⟩
      maps := fun j es clk hj => by
        rw [Heap.get_set] at hj
        by_cases ej : j = i
        · rw [if_pos ej] at hj; cases hj; subst ej
          exact ⟨L, hL, (ho w' hnew).2 _ _ rfl⟩
        · rw [if_neg ej] at hj
          obtain ⟨M, hM, hc⟩ := h.maps j es clk hj
          exact ⟨M, hM, hc.mono (Ext.refl ρ) (other _ (hne j M ej (.inr ⟨es, clk, hj⟩) hM))⟩
      inj := fun j k M N hj hk hM hN hb => h.inj j k M N (mutOf j hj) (liveOf k hk) hM hN hb
      inv := Dem.stab w w' h.size ⟨h1, h2, h3, by rw [hw]; simp, fun b hb => other b (fun e => by have := h.base i L hi hL; omega)⟩ h.inv
      size := by rw [hw]; simpa using h.size
      base := fun j M hj hM => by
        by_cases e : j = i
        · subst e; exact h.base j M hi hM
        · refine h.base j M ?_ hM
          unfold Mut at *; simpa only [Heap.get_set, if_neg e] using hj }
    next := Nat.le_refl _
    keep := fun k hk => by rw [Heap.get_set]; split <;> simp_all
    new := fun k M a b => by rw [a] at b; cases b
    os := h1, tape := h2, output := h3
    size := by rw [hw]; simp
    frame := fun b hb hn => other b (fun e => hn ⟨i, L, hi, hL, e.symm⟩)
    own := fun j M hm hr _ => by
      by_cases e : j = i
      · subst e; rw [hL] at hr; cases hr; exact ⟨j, L, hi.live, fun _ => hi, hL, rfl⟩
      · refine ⟨j, M, liveOf j hm, fun hq => ?_, hr, rfl⟩
        unfold Mut at *; simpa only [Heap.get_set, if_neg e] using hq }

theorem Mv.kill {P : Program} [Dem P] {ρ : Ren} {H : Heap} {w : World} (h : WRel P ρ H w) (i : Nat) : Mv P ρ H w ρ (H.set i .dead) w := by
  have mutOf : ∀ j, Mut (H.set i .dead) j → Mut H j := fun j hl => by
    by_cases e : j = i
    · subst e; unfold Mut at hl; simp [Heap.get_set] at hl
    · unfold Mut at *; simpa only [Heap.get_set, if_neg e] using hl
  have liveOf : ∀ j, Live (H.set i .dead) j → Live H j := fun j hl => by
    by_cases e : j = i
    · subst e; unfold Live at hl; simp [Heap.get_set] at hl
    · unfold Live at *; simpa only [Heap.get_set, if_neg e] using hl
  exact { Mv.refl h with
    keep := fun k hk => by rw [Heap.get_set]; split <;> simp_all
    new := fun k M a b => by rw [a] at b; cases b
    rel := {
      ren := h.ren
      cells := fun j c e ro hj => by
        rw [Heap.get_set] at hj
        by_cases ej : j = i
        · rw [if_pos ej] at hj; cases hj
        · rw [if_neg ej] at hj; exact h.cells j c e ro hj
      maps := fun j es clk hj => by
        rw [Heap.get_set] at hj
        by_cases ej : j = i
        · rw [if_pos ej] at hj; cases hj
        · rw [if_neg ej] at hj; exact h.maps j es clk hj
      inj := fun j k M N hj hk hM hN hb => h.inj j k M N (mutOf j hj) (liveOf k hk) hM hN hb
      inv := h.inv
      size := h.size
      base := fun j M hj hM => by
        by_cases e : j = i
        · subst e; unfold Mut at hj; simp [Heap.get_set] at hj
        · refine h.base j M ?_ hM
          unfold Mut at *; simpa only [Heap.get_set, if_neg e] using hj }
    own := fun j M hm hr _ => by
      by_cases e : j = i
      · subst e; unfold Live at hm; simp [Heap.get_set] at hm
      · refine ⟨j, M, liveOf j hm, fun hq => ?_, hr, rfl⟩
        unfold Mut at *; simpa only [Heap.get_set, if_neg e] using hq }

theorem WRel.sub {P : Program} [Dem P] {ρ : Ren} {H X : Heap} {w : World} (h : WRel P ρ H w) (hX : ∀ i o, X.get i = some o → H.get i = some o) (hn : X.next = H.next) : WRel P ρ X w where
  ren i L a := by rw [hn]; exact h.ren i L a
  cells i c e ro a := h.cells i c e ro (hX _ _ a)
  maps i es clk a := h.maps i es clk (hX _ _ a)
  inj i j L M hi hj := h.inj i j L M (by
    rcases hi with ⟨c, e, hi⟩ | ⟨es, clk, hi⟩
    · exact .inl ⟨c, e, hX _ _ hi⟩
    · exact .inr ⟨es, clk, hX _ _ hi⟩) (by
    rcases hj with ⟨c, e, ro, hj⟩ | ⟨es, clk, hj⟩
    · exact .inl ⟨c, e, ro, hX _ _ hj⟩
    · exact .inr ⟨es, clk, hX _ _ hj⟩)
  inv := h.inv
  size := h.size
  base i L hi := h.base i L (by
    rcases hi with ⟨c, e, hi⟩ | ⟨es, clk, hi⟩
    · exact .inl ⟨c, e, hX _ _ hi⟩
    · exact .inr ⟨es, clk, hX _ _ hi⟩)

theorem Live.some {H : Heap} {i : Nat} (h : Live H i) : ∃ o, H.get i = some o := by
  rcases h with ⟨c, e, ro, h⟩ | ⟨es, clk, h⟩
  · exact ⟨_, h⟩
  · exact ⟨_, h⟩

theorem Live.of_get {H X : Heap} {i : Nat} (e : H.get i = X.get i) (h : Live H i) : Live X i := by unfold Live at *; rwa [e] at h
theorem Mut.of_get {H X : Heap} {i : Nat} (e : H.get i = X.get i) (h : Mut H i) : Mut X i := by unfold Mut at *; rwa [e] at h

theorem WRel.live_ren {P : Program} [Dem P] {ρ : Ren} {H : Heap} {w : World} (h : WRel P ρ H w) {i : Nat} (hl : Live H i) : ∃ L, ρ i = some L := by
  rcases hl with ⟨c, e, ro, hl⟩ | ⟨es, clk, hl⟩
  · obtain ⟨L, hL, _⟩ := h.cells _ _ _ _ hl; exact ⟨L, hL⟩
  · obtain ⟨L, hL, _⟩ := h.maps _ _ _ hl; exact ⟨L, hL⟩

theorem Mv.frame_add {P : Program} [Dem P] {ρ ρ' : Ren} {HS X X' HS' : Heap} {w w' : World} (h : WRel P ρ HS w) (hn : X.next = HS.next) (hm : Mv P ρ X w ρ' X' w') (hn' : HS'.next = X'.next) (Z : Nat → Prop) (hZ : ∀ i, Z i → X.get i = none ∧ X'.get i = none)
    (hS : ∀ i, ¬ Z i → HS.get i = X.get i) (hS1 : ∀ i, Z i → HS'.get i = HS.get i) (hS2 : ∀ i, ¬ Z i → HS'.get i = X'.get i) : Mv P ρ HS w ρ' HS' w' := by
  have notZ : ∀ i, Live X i → ¬ Z i := fun i hl hz => by obtain ⟨o, ho⟩ := hl.some; rw [(hZ i hz).1] at ho; cases ho
  have liveX : ∀ i, Live X i → Live HS i := fun i hl => hl.of_get (hS i (notZ i hl)).symm
  have mutX : ∀ i, Mut X i → Mut HS i := fun i hl => hl.of_get (hS i (notZ i hl.live)).symm
  have zkeep : ∀ i L, Z i → Live HS i → ρ i = some L → w'.heap[L.blk]? = w.heap[L.blk]? := fun i L hz hl hL => hm.frame _ (h.ren i L hL).2 (fun ⟨k, M, hk, hM, he⟩ => by
    have := h.inj k i M L (mutX k hk) hl hM hL he
    subst this
    exact notZ k hk.live hz)
  exact {
    ext := hm.ext
    rel := {
      ren := fun i L hi => by rw [hn']; exact hm.rel.ren i L hi
      cells := fun i c e ro hi => by
        by_cases hz : Z i
        · rw [hS1 i hz] at hi
          obtain ⟨L, hL, hc⟩ := h.cells i c e ro hi
          exact ⟨L, hm.ext _ _ hL, hc.mono hm.ext (zkeep i L hz (.inl ⟨c, e, ro, hi⟩) hL)⟩
        · rw [hS2 i hz] at hi
          exact hm.rel.cells i c e ro hi
      maps := fun i es clk hi => by
        by_cases hz : Z i
        · rw [hS1 i hz] at hi
          obtain ⟨L, hL, hc⟩ := h.maps i es clk hi
          exact ⟨L, hm.ext _ _ hL, hc.mono hm.ext (zkeep i L hz (.inr ⟨es, clk, hi⟩) hL)⟩
        · rw [hS2 i hz] at hi
          exact hm.rel.maps i es clk hi
      inj := fun i j L M hi hj hL hM he => by
        have mixed : ∀ i j L M, Z i → ¬ Z j → Live HS' i → Live HS' j → (Mut HS' i ∨ Mut HS' j) → ρ' i = some L → ρ' j = some M → L.blk = M.blk → False := by
          intro i j L M hz hz' hi hj hmm hL hM he
          have hi' : Live HS i := hi.of_get (hS1 i hz)
          obtain ⟨L0, hL0⟩ := h.live_ren hi'
          have := hm.ext _ _ hL0
          rw [hL] at this; cases this
          obtain ⟨k, N, hk, hmu, hN, hb⟩ := hm.own j M (hj.of_get (hS2 j hz')) hM (he ▸ (h.ren i L hL0).2)
          have : k = i := by
            rcases hmm with hmm | hmm
            · exact (h.inj i k L N (hmm.of_get (hS1 i hz)) (liveX k hk) hL0 hN (he.trans hb.symm)).symm
            · exact h.inj k i N L (mutX k (hmu (hmm.of_get (hS2 j hz')))) hi' hN hL0 (hb.trans he.symm)
          subst this
          exact notZ k hk hz
        by_cases hz : Z i
        · by_cases hz' : Z j
          · have hi' : Mut HS i := hi.of_get (hS1 i hz)
            have hj' : Live HS j := hj.of_get (hS1 j hz')
            obtain ⟨L0, hL0⟩ := h.live_ren hi'.live
            obtain ⟨M0, hM0⟩ := h.live_ren hj'
            have h1 := hm.ext _ _ hL0
            have h2 := hm.ext _ _ hM0
            rw [hL] at h1; cases h1
            rw [hM] at h2; cases h2
            exact h.inj i j L M hi' hj' hL0 hM0 he
          · exact (mixed i j L M hz hz' hi.live hj (.inl hi) hL hM he).elim
        · by_cases hz' : Z j
          · exact (mixed j i M L hz' hz hj hi.live (.inr hi) hM hL he.symm).elim
          · exact hm.rel.inj i j L M (hi.of_get (hS2 i hz)) (hj.of_get (hS2 j hz')) hL hM he
      inv := hm.rel.inv
      size := hm.rel.size
      base := fun i L hi hL => by
        by_cases hz : Z i
        · have hi' : Mut HS i := hi.of_get (hS1 i hz)
          obtain ⟨L0, hL0⟩ := h.live_ren hi'.live
          have := hm.ext _ _ hL0
          rw [hL] at this; cases this
          exact h.base i L hi' hL0
        · exact hm.rel.base i L (hi.of_get (hS2 i hz)) hL }
    next := by rw [← hn, hn']; exact hm.next
    keep := fun i hi => by
      by_cases hz : Z i
      · rw [hS1 i hz]; exact hi
      · rw [hS2 i hz]; rw [hS i hz] at hi; exact hm.keep i hi
    new := fun i L a b => by
      have := hm.new i L a b
      by_cases hz : Z i
      · rw [(hZ i hz).2] at this; cases this
      · rw [hS2 i hz]; exact this
    os := hm.os, tape := hm.tape, output := hm.output, size := hm.size
    frame := fun b hb hno => hm.frame b hb (fun ⟨k, M, hk, hM, he⟩ => hno ⟨k, M, mutX k hk, hM, he⟩)
    own := fun i L hi hL hb => by
      by_cases hz : Z i
      · have hi' : Live HS i := hi.of_get (hS1 i hz)
        obtain ⟨L0, hL0⟩ := h.live_ren hi'
        have := hm.ext _ _ hL0
        rw [hL] at this; cases this
        exact ⟨i, L, hi', fun hmu => hmu.of_get (hS1 i hz), hL0, rfl⟩
      · obtain ⟨k, N, hk, hmu, hN, he⟩ := hm.own i L (hi.of_get (hS2 i hz)) hL hb
        exact ⟨k, N, liveX k hk, fun hq => mutX k (hmu (hq.of_get (hS2 i hz))), hN, he⟩ }

end Go.B

namespace Go.B
open Go

section
variable {P : Program} {w : World}

theorem run_bind {α β : Type} (s : Sem α) (f : α → Sem β) (w : World) :
    (s >>= f).run P w = match s.run P w with
      | .ok a w' => (f a).run P w'
      | .halt h w' => .halt h w' := by
  show (s.bind f).run P w = _
  induction s generalizing w with
  | pure a => rfl
  | load m a k ih =>
    simp only [Sem.bind, Sem.run]
    split
    · exact ih _ _
    · split
      · exact ih _ _
      · rfl
  | store m a v k ih =>
    cases v <;> simp only [Sem.bind, Sem.run] <;> (first | rfl | (split <;> split <;> first | rfl | exact ih _))
  | new o k ih => simp only [Sem.bind, Sem.run]; exact ih _ _
  | shape r k ih => simp only [Sem.bind, Sem.run]; exact ih _ _
  | freeze a n k ih => simp only [Sem.bind, Sem.run]; exact ih _
  | frozen a k ih => simp only [Sem.bind, Sem.run]; exact ih _ _
  | getObj r k ih =>
    simp only [Sem.bind, Sem.run]
    split <;> first | rfl | exact ih _ _
  | setObj r o k ih =>
    simp only [Sem.bind, Sem.run]
    split <;> first | rfl | exact ih _
  | choose q k ih =>
    simp only [Sem.bind, Sem.run]
    split <;> exact ih _ _
  | sys c k ih => simp only [Sem.bind, Sem.run]; exact ih _ _
  | program k ih => simp only [Sem.bind, Sem.run]; exact ih _ _
  | mark m k ih => simp only [Sem.bind, Sem.run]; exact ih _
  | halt h => rfl

theorem run_pure {α : Type} (a : α) (w : World) : (pure a : Sem α).run P w = .ok a w := rfl

theorem bind_ok {α β : Type} {s : Sem α} {f : α → Sem β} {w w' : World} {a : α} (h : s.run P w = .ok a w') : (s >>= f).run P w = (f a).run P w' := by rw [run_bind, h]

theorem runP_run {α : Type} {s : Sem α} {a : α} (h : runP P s = some a) (w : World) : s.run P w = .ok a w := by
  induction s with
  | pure b => simp only [runP, Option.some.injEq] at h; subst h; rfl
  | program k ih => simp only [runP] at h; simp only [Sem.run]; exact ih _ h
  | mark m k ih => simp only [runP] at h; simp only [Sem.run]; exact ih h
  | _ => simp [runP] at h

theorem runP_bind {α β : Type} (s : Sem α) (f : α → Sem β) : runP P (s >>= f) = (runP P s).bind fun a => runP P (f a) := by
  show runP P (s.bind f) = _
  induction s with
  | pure a => rfl
  | program k ih => simp only [Sem.bind, runP]; exact ih _
  | mark m k ih => simp only [Sem.bind, runP]; exact ih
  | store m a v k ih => cases v <;> rfl
  | _ => rfl

theorem runP_underlying {t : TypeId} : runP P (underlying t) = P.underlying t := by
  unfold underlying
  rw [runP_bind]
  show (some P).bind _ = _
  simp only [Option.bind_some]
  cases P.underlying t <;> rfl

theorem run_program (w : World) : (program : Sem Program).run P w = .ok P w := rfl

theorem run_underlying {t : TypeId} {d : TypeDesc} (h : P.underlying t = some d) (w : World) : (underlying t).run P w = .ok d w := by
  unfold underlying
  rw [bind_ok (run_program w), h]
  rfl

theorem run_typeInfo {t : TypeId} {i : TypeInfo} (h : P.info? t = some i) (w : World) : (typeInfo t).run P w = .ok i w := by
  unfold typeInfo
  rw [bind_ok (run_program w), h]
  rfl

theorem run_sizeOf {t : TypeId} {n : Nat} (h : szOf P t = some n) (w : World) : (sizeOf t).run P w = .ok n w := by
  unfold szOf at h
  cases hi : P.info? t with
  | none => rw [hi] at h; cases h
  | some i => rw [hi] at h; cases h; unfold sizeOf; rw [bind_ok (run_typeInfo hi w)]; rfl

theorem run_bytes {t : TypeId} {n : Nat} (h : byOf P t = some n) (w : World) : ∃ i, (typeInfo t).run P w = .ok i w ∧ i.bytes = n := by
  unfold byOf at h
  cases hi : P.info? t with
  | none => rw [hi] at h; cases h
  | some i => rw [hi] at h; cases h; exact ⟨i, run_typeInfo hi w, rfl⟩

theorem run_zeroValue {t : TypeId} {z : Value} (h : zeroOf P t = some z) (w : World) : (zeroValue t).run P w = .ok z w := by
  unfold zeroOf at h
  cases hi : P.info? t with
  | none => rw [hi] at h; cases h
  | some i =>
    rw [hi] at h
    unfold zeroValue
    rw [bind_ok (run_typeInfo hi w)]
    rw [show i.zero = some z from h]
    rfl

theorem szOf_of_zero {t : TypeId} {z : Value} (h : zeroOf P t = some z) : ∃ n, szOf P t = some n := by
  unfold zeroOf at h
  cases hi : P.info? t with
  | none => rw [hi] at h; cases h
  | some i => exact ⟨i.size, by unfold szOf; rw [hi]; rfl⟩

theorem run_isAgg {t : TypeId} {b : Bool} (h : aggOf P t = some b) (w : World) : (isAgg t).run P w = .ok b w := by
  unfold aggOf at h
  cases hd : P.underlying t with
  | none => rw [hd] at h; cases h
  | some d =>
    rw [hd] at h
    unfold isAgg
    rw [bind_ok (run_underlying hd w)]
    simp only [Option.map_some, Option.some.injEq] at h
    cases d <;> simp at h <;> subst h <;> rfl

theorem add_none (b o n : Nat) : (⟨b, o, none⟩ : Addr).add n = ⟨b, o + n, none⟩ := by
  unfold Addr.add
  split
  · rename_i h; subst h; rfl
  · rfl

theorem run_load {a : Addr} {v : Value} (h : w.cell? a = some v) : (load a).run P w = .ok v w := by
  show (Sem.load .plain a Sem.pure).run P w = _
  simp only [Sem.run, h]

theorem run_loadCellsFrom {a : Addr} : ∀ (l : List Value) (i : Nat) (acc : Array Value), (∀ (j : Nat) (v : Value), l[j]? = some v → w.cell? (a.add (i + j)) = some v) →
    (loadCellsFrom a i l.length acc).run P w = .ok (acc ++ l.toArray) w := by
  intro l
  induction l with
  | nil => intro i acc _; simp [loadCellsFrom, run_pure]
  | cons v l ih =>
    intro i acc h
    simp only [List.length_cons, loadCellsFrom]
    have h0 : w.cell? (a.add i) = some v := h 0 v rfl
    rw [bind_ok (run_load h0), ih (i + 1) (acc.push v) (fun j u hj => by rw [show i + 1 + j = i + (j + 1) by omega]; exact h (j + 1) u (by simpa using hj))]
    simp

theorem run_loadCells {a : Addr} {l : List Value} (h : ∀ (j : Nat) (v : Value), l[j]? = some v → w.cell? (a.add j) = some v) : (loadCells a l.length).run P w = .ok l.toArray w := by
  unfold loadCells
  rw [run_loadCellsFrom l 0 #[] (fun j v hj => by rw [Nat.zero_add]; exact h j v hj)]
  simp

theorem modify_eq {α : Type} {x : Array α} {b : Nat} {o : α} (f : α → α) (h : x[b]? = some o) : x.modify b f = x.setIfInBounds b (f o) := by
  apply Array.ext
  · simp
  · intro i h1 h2
    rw [Array.getElem_modify]
    have hb : b < x.size := (Array.getElem?_eq_some_iff.mp h).1
    by_cases e : b = i
    · subst e
      rw [if_pos rfl]
      simp only [Array.getElem_setIfInBounds_self]
      congr 1
      exact (Array.getElem?_eq_some_iff.mp h).2
    · rw [if_neg e, Array.getElem_setIfInBounds_ne _ e]

def setA (cc : Array Value) (o : Nat) : List Value → Array Value
  | [] => cc
  | v :: l => setA (cc.setIfInBounds o v) (o + 1) l

theorem setA_size : ∀ (l : List Value) (cc : Array Value) (o : Nat), (setA cc o l).size = cc.size := by
  intro l
  induction l with
  | nil => intro cc o; rfl
  | cons v l ih => intro cc o; simp [setA, ih]

theorem setA_get : ∀ (l : List Value) (cc : Array Value) (o j : Nat), o + l.length ≤ cc.size → (setA cc o l)[j]? = if o ≤ j ∧ j < o + l.length then l[j - o]? else cc[j]? := by
  intro l
  induction l with
  | nil => intro cc o j h; simp [setA]; omega
  | cons v l ih =>
    intro cc o j h
    simp only [List.length_cons] at h
    rw [setA, ih (cc.setIfInBounds o v) (o + 1) j (by simp; omega)]
    simp only [List.length_cons]
    by_cases h1 : o + 1 ≤ j ∧ j < o + 1 + l.length
    · rw [if_pos h1, if_pos (by omega), show j - o = (j - (o + 1)) + 1 by omega]; rfl
    · rw [if_neg h1]
      by_cases h2 : o = j
      · subst h2; rw [if_pos (by omega)]; simp [show o < cc.size by omega]
      · rw [if_neg (by omega), Array.getElem?_setIfInBounds_ne h2]

theorem setCells_length : ∀ (l c : List Value) (o : Nat), (setCells c o l).length = c.length := by
  intro l
  induction l with
  | nil => intro c o; rfl
  | cons v l ih => intro c o; simp [setCells, ih]

theorem setCells_get : ∀ (l c : List Value) (o j : Nat), o + l.length ≤ c.length → (setCells c o l)[j]? = if o ≤ j ∧ j < o + l.length then l[j - o]? else c[j]? := by
  intro l
  induction l with
  | nil => intro c o j h; simp [setCells]; omega
  | cons v l ih =>
    intro c o j h
    simp only [List.length_cons] at h
    rw [setCells, ih (c.set o v) (o + 1) j (by simp; omega)]
    simp only [List.length_cons]
    by_cases h1 : o + 1 ≤ j ∧ j < o + 1 + l.length
    · rw [if_pos h1, if_pos (by omega), show j - o = (j - (o + 1)) + 1 by omega]; rfl
    · rw [if_neg h1]
      by_cases h2 : o = j
      · subst h2; rw [if_pos (by omega)]; simp [show o < c.length by omega]
      · rw [if_neg (by omega), List.getElem?_set_ne h2]

theorem run_store {b o : Nat} {v : Value} {cc : Array Value} {e : TypeId} {fr : Nat × Nat} (hb : w.heap[b]? = some (.cells cc e fr)) (ho : o < cc.size) (hf : ¬ (fr.1 ≤ o ∧ o < fr.2)) (hv : cellOk v = true) :
    (store ⟨b, o, none⟩ v).run P w = .ok () { w with heap := w.heap.setIfInBounds b (.cells (cc.setIfInBounds o v) e fr) } := by
  show (Sem.store .plain ⟨b, o, none⟩ v (.pure ())).run P w = _
  have hc : w.cell? ⟨b, o, none⟩ = some cc[o] := by
    unfold World.cell?
    simp only [hb, Option.isSome_none, Bool.false_eq_true, if_false]
    exact Array.getElem?_eq_getElem ho
  have hfz : w.frozen? ⟨b, o, none⟩ = false := by
    unfold World.frozen?
    simp only [hb]
    obtain ⟨lo, hi⟩ := fr
    simp only [Bool.and_eq_false_iff, decide_eq_false_iff_not]
    have := hf
    simp only at this
    omega
  have key : ∀ k : Sem Unit, (match w.cell? ⟨b, o, none⟩ with
      | some _ => if w.frozen? ⟨b, o, none⟩ then Result.halt (.unsupported (.unsafePointer "a write to bytes that a string shares")) w else k.run P (w.setCell ⟨b, o, none⟩ v)
      | none => match w.farStore P ⟨b, o, none⟩ v (Mode.plain == .atomic) with
        | .ok (w, _) => k.run P w
        | .error h => .halt h w) = k.run P { w with heap := w.heap.setIfInBounds b (.cells (cc.setIfInBounds o v) e fr) } := by
    intro k
    simp only [hc, hfz, Bool.false_eq_true, if_false]
    congr 1
    unfold World.setCell
    congr 1
    rw [modify_eq _ hb]
    simp
  cases v <;> first
    | (simp [cellOk] at hv; done)
    | (simp only [Sem.run]; exact key (.pure ()))

theorem run_storeCells {b o : Nat} {e : TypeId} {fr : Nat × Nat} : ∀ (l : List Value) (i : Nat) (w : World) (cc : Array Value), w.heap[b]? = some (.cells cc e fr) → o + i + l.length ≤ cc.size →
    (∀ j, o + i ≤ j → j < o + i + l.length → ¬ (fr.1 ≤ j ∧ j < fr.2)) → l.all cellOk = true →
    (storeCells ⟨b, o, none⟩ l i).run P w = .ok () { w with heap := w.heap.setIfInBounds b (.cells (setA cc (o + i) l) e fr) } := by
  intro l
  induction l with
  | nil =>
    intro i w cc hb _ _ _
    simp only [storeCells, setA, run_pure]
    congr 1
    have : w.heap.setIfInBounds b (.cells cc e fr) = w.heap := by
      apply Array.ext
      · simp
      · intro j h1 h2
        by_cases ej : b = j
        · subst ej; simp only [Array.getElem_setIfInBounds_self]; exact ((Array.getElem?_eq_some_iff.mp hb).2).symm
        · rw [Array.getElem_setIfInBounds_ne _ ej]
    rw [this]
  | cons v l ih =>
    intro i w cc hb hs hf hk
    simp only [List.length_cons] at hs hf
    simp only [List.all_cons, Bool.and_eq_true] at hk
    have hlt : b < w.heap.size := (Array.getElem?_eq_some_iff.mp hb).1
    simp only [storeCells, add_none]
    rw [bind_ok (run_store hb (by omega) (hf _ (by omega) (by omega)) hk.1)]
    rw [ih (i + 1) _ (cc.setIfInBounds (o + i) v) (by simp [hlt]) (by simp; omega) (fun j h1 h2 => hf j (by omega) (by omega)) hk.2]
    simp only [setA, Array.setIfInBounds_setIfInBounds]
    rfl

end

variable {P : Program} [Dem P] {ρ : Ren} {H : Heap} {w : World}

theorem cell_at {b o : Nat} {cc : Array Value} {e : TypeId} {fr : Nat × Nat} (hb : w.heap[b]? = some (.cells cc e fr)) : w.cell? ⟨b, o, none⟩ = cc[o]? := by
  unfold World.cell?
  simp [hb]

theorem getCells_run (h : WRel P ρ H w) {i o n : Nat} {l : List Value} (hg : getCells H i o n = some l) :
    ∃ L l', ρ i = some L ∧ LRel ρ l l' ∧ l.length = n ∧ l'.length = n ∧ (∀ (j : Nat) (v : Value), l'[j]? = some v → w.cell? ⟨L.blk, L.sh + o + j, none⟩ = some v) := by
  unfold getCells at hg
  split at hg
  · rename_i c e ro hc
    split at hg
    · rename_i hle
      obtain ⟨L, hL, cc, fr, e9, hb, he9, hs, hl, hsz, hr, hf⟩ := h.cells _ _ _ _ hc
      simp only [Option.some.injEq] at hg
      subst hg
      refine ⟨L, ((cc.toList.drop (L.sh + o)).take n), hL, ⟨by simp; omega, fun j h1 h2 => ?_⟩, by simp; omega, by simp; omega, fun j v hj => ?_⟩
      · simp only [List.length_take, List.length_drop] at h1 h2
        obtain ⟨v', a, b⟩ := hr (o + j) c[o + j] (List.getElem?_eq_getElem (by omega))
        have e1 : ((c.drop o).take n)[j]'(by simp; omega) = c[o + j] := by simp
        have e2 : ((cc.toList.drop (L.sh + o)).take n)[j]'(by simp; omega) = v' := by
          simp only [List.getElem_take, List.getElem_drop, Array.getElem_toList]
          have := (Array.getElem?_eq_some_iff.mp a).2
          simpa [Nat.add_assoc] using this
        rw [e1, e2]
        exact b
      · rw [cell_at hb]
        have hj' := List.getElem?_eq_some_iff.mp hj
        obtain ⟨hlt, hv⟩ := hj'
        simp only [List.length_take, List.length_drop, Array.length_toList] at hlt
        simp only [List.getElem_take, List.getElem_drop, Array.getElem_toList] at hv
        rw [Array.getElem?_eq_getElem (by omega), hv]
    · cases hg
  · cases hg

theorem loadCells_run (h : WRel P ρ H w) {i o n : Nat} {l : List Value} (hg : getCells H i o n = some l) :
    ∃ L l', ρ i = some L ∧ LRel ρ l l' ∧ l.length = n ∧ l'.length = n ∧ (loadCells ⟨L.blk, L.sh + o, none⟩ n).run P w = .ok l'.toArray w := by
  obtain ⟨L, l', hL, hr, hn, hn', hc⟩ := getCells_run h hg
  refine ⟨L, l', hL, hr, hn, hn', ?_⟩
  rw [← hn']
  exact run_loadCells fun j v hj => by rw [add_none]; exact hc j v hj

theorem loadB_run (h : WRel P ρ H w) {t : TypeId} {x x' v : Value} (hx : VRel ρ x x') (hl : loadB P H t x = some v) :
    ∃ v', (Instr.loadAt t x').run P w = .ok v' w ∧ VRel ρ v v' := by
  unfold loadB at hl
  split at hl
  · rename_i i o
    cases hx with | ptr hL =>
    rename_i L
    unfold Instr.loadAt
    rw [bind_ok (show (Instr.sureAddr (.pointer (some ⟨L.blk, L.sh + o, none⟩))).run P w = .ok ⟨L.blk, L.sh + o, none⟩ w from rfl)]
    unfold loadVar
    split at hl
    · rename_i n ha hn
      cases hg : getCells H i o n with
      | none => rw [hg] at hl; cases hl
      | some l =>
        rw [hg] at hl
        simp only [Option.map_some, Option.some.injEq] at hl
        subst hl
        obtain ⟨L', l', hL', hr, _, _, hrun⟩ := loadCells_run h hg
        rw [hL] at hL'; cases hL'
        refine ⟨.agg l'.toArray, ?_, LRel.agg hr⟩
        rw [bind_ok (run_isAgg ha w), if_pos rfl, bind_ok (run_sizeOf hn w), bind_ok hrun]
        rfl
    · rename_i ha
      cases hg : getCells H i o 1 with
      | none => rw [hg] at hl; cases hl
      | some l =>
        rw [hg] at hl
        obtain ⟨L', l', hL', hr, hn, hn', hc⟩ := getCells_run h hg
        rw [hL] at hL'; cases hL'
        match l, l', hn, hn' with
        | [a], [b], _, _ =>
          simp only [Option.bind_some, List.head?_cons, Option.some.injEq] at hl
          subst hl
          refine ⟨b, ?_, hr.head⟩
          rw [bind_ok (run_isAgg ha w), if_neg (by simp)]
          exact run_load (hc 0 b rfl)
    · cases hl
  · cases hl

theorem putCells_run (h : WRel P ρ H w) {i o : Nat} {l l' : List Value} {H' : Heap} (hr : LRel ρ l l') (hp : putCells H i o l = some H') :
    ∃ L w', ρ i = some L ∧ (storeCells ⟨L.blk, L.sh + o, none⟩ l').run P w = .ok () w' ∧ Mv P ρ H w ρ H' w' := by
  unfold putCells at hp
  split at hp
  · rename_i c e hc
    split at hp
    · rename_i hk
      obtain ⟨hle, hok⟩ := hk
      cases hp
      obtain ⟨L, hL, cc, fr, e9, hb, he9, hs, hl, hsz, hrc, hf⟩ := h.cells _ _ _ _ hc
      have he9 := (he9 rfl).symm; subst he9
      have hlen := hr.1
      have hok' : l'.all cellOk = true := List.all_eq_true.mpr fun x hx => by
        obtain ⟨j, hj, rfl⟩ := List.mem_iff_getElem.mp hx
        have := hr.2 j (by omega) hj
        exact this.cellOk (List.all_eq_true.mp hok _ (List.getElem_mem _))
      have hrun := run_storeCells (P := P) (o := L.sh + o) l' 0 w cc hb (by omega) (fun j h1 h2 => by
        have := hf rfl (j - L.sh) (by omega)
        rw [show L.sh + (j - L.sh) = j by omega] at this
        exact this) hok'
      refine ⟨L, _, hL, hrun, ?_⟩
      refine Mv.setObj h (.inl ⟨c, e, hc⟩) hL (.cells (setA cc (L.sh + o + 0) l') e fr) rfl (fun w2 hw2 => ⟨fun c2 e2 ro2 he => ?_, fun es clk he => by cases he⟩) rfl rfl rfl
      cases he
      refine ⟨.inl rfl, setA cc (L.sh + o + 0) l', fr, _, hw2, fun _ => rfl, by rw [setA_size]; exact hs, by rw [setCells_length]; exact hl, hsz, fun j v hj => ?_, hf⟩
      rw [setCells_get _ _ _ _ hle] at hj
      rw [setA_get _ _ _ _ (by omega)]
      by_cases hin : o ≤ j ∧ j < o + l.length
      · rw [if_pos hin] at hj
        rw [if_pos (by omega), show L.sh + j - (L.sh + o + 0) = j - o by omega]
        exact hr.get hj
      · rw [if_neg hin] at hj
        rw [if_neg (by omega)]
        exact hrc j v hj
    · cases hp
  · cases hp

theorem storeB_run (h : WRel P ρ H w) {t : TypeId} {x x' v v' : Value} {H' : Heap} (hx : VRel ρ x x') (hv : VRel ρ v v') (hs : storeB P H t x v = some H') :
    ∃ w', (Instr.storeAt t x' v').run P w = .ok () w' ∧ Mv P ρ H w ρ H' w' := by
  unfold storeB at hs
  split at hs
  · rename_i i o n hn
    cases hx with | ptr hL =>
    rename_i L
    split at hs
    · rename_i hsz
      have hc := hv.cells
      obtain ⟨L', w', hL', hrun, hm⟩ := putCells_run h hc hs
      rw [hL] at hL'; cases hL'
      refine ⟨w', ?_, hm⟩
      unfold Instr.storeAt
      rw [bind_ok (show (Instr.sureAddr (.pointer (some ⟨L.blk, L.sh + o, none⟩))).run P w = .ok ⟨L.blk, L.sh + o, none⟩ w from rfl)]
      unfold storeVar
      rw [bind_ok (run_sizeOf hn w)]
      have : v'.cells.size = n := by have := hc.1; simp at this; omega
      rw [if_neg (by simp [this])]
      exact hrun
    · cases hs
  · cases hs

end Go.B

namespace Go.B
open Go

variable {P : Program} [Dem P] {ρ : Ren} {H : Heap} {w : World}

def Lands (P : Program) [Dem P] (ρ : Ren) (H : Heap) (w : World) (s : Result Next) (v : Value) (H' : Heap) : Prop :=
  ∃ ρ' v' w', (s = .ok (.value v') w' ∨ (s = .ok .skip w' ∧ v' = undef)) ∧ Mv P ρ H w ρ' H' w' ∧ VRel ρ' v v'

theorem Lands.val (h : WRel P ρ H w) {s : Sem Value} {v v' : Value} (hs : s.run P w = .ok v' w) (hv : VRel ρ v v') :
    Lands P ρ H w ((do pure (Next.value (← s)) : Sem Next).run P w) v H :=
  ⟨ρ, v', w, .inl (by rw [bind_ok hs]; rfl), Mv.refl h, hv⟩

theorem Lands.mv {s : Sem Value} {v v' : Value} {ρ' : Ren} {H' : Heap} {w' : World} (hs : s.run P w = .ok v' w') (hm : Mv P ρ H w ρ' H' w') (hv : VRel ρ' v v') :
    Lands P ρ H w ((do pure (Next.value (← s)) : Sem Next).run P w) v H' :=
  ⟨ρ', v', w', .inl (by rw [bind_ok hs]; rfl), hm, hv⟩

theorem Lands.unit {s : Sem Unit} {ρ' : Ren} {H' : Heap} {w' : World} (hs : s.run P w = .ok () w') (hm : Mv P ρ H w ρ' H' w') :
    Lands P ρ H w ((do s; pure Next.skip : Sem Next).run P w) undef H' :=
  ⟨ρ', undef, w', .inr ⟨by rw [bind_ok hs]; rfl, rfl⟩, hm, .undef⟩

omit [Dem P] in
theorem run_newObj (o : Obj) (w : World) : (newObj o).run P w = .ok w.heap.size { w with heap := w.heap.push o } := rfl

omit [Dem P] in
theorem run_newRow (e : TypeId) (cc : Array Value) (w : World) : (newRow e cc).run P w = .ok ⟨w.heap.size, 0, none⟩ { w with heap := w.heap.push (.cells cc e) } := rfl

theorem LRel.arr {x : List Value} {y : Array Value} (h : LRel ρ x y.toList) : ∀ (o : Nat) (v : Value), x[o]? = some v → ∃ v', y[o]? = some v' ∧ VRel ρ v v' := fun o v hv => by
  obtain ⟨v', a, b⟩ := h.get hv
  exact ⟨v', by simpa using a, b⟩

theorem newRow_mv (h : WRel P ρ H w) {H2 : Heap} {j : Nat} {c : List Value} {cc : Array Value} {e : TypeId} {sz : Nat} (ha : Adds ρ H H2 j (.cells c e false)) (hsz : szOf P e = some sz) (hr : LRel ρ c cc.toList) :
    Mv P ρ H w (ρ.put j ⟨w.heap.size, 0, cc.size, sz⟩) H2 { w with heap := w.heap.push (.cells cc e) } :=
  Mv.newRow h ha hsz (by have := hr.1; simp at this; omega) hr.arr (fr := (0, 0)) (fun o _ hh => by simp at hh) rfl rfl rfl rfl

theorem newPtr {L : Loc} {i : Nat} {ρ : Ren} (h : L.sh = 0) : VRel (ρ.put i L) (.pointer (some ⟨i, 0, none⟩)) (.pointer (some ⟨L.blk, 0, none⟩)) := by
  have := VRel.ptr (ρ := ρ.put i L) (i := i) (o := 0) (L := L) Ren.put_same
  rw [h] at this
  exact this

theorem newSlice {L : Loc} {i l c c' : Nat} {ρ : Ren} (h : L.sh = 0) (hl : l ≤ c') (hc : c = c' ∨ c = capU) (ht : c' * L.esz ≤ L.tot) : VRel (ρ.put i L) (.slice (some ⟨i, 0, none⟩) l c) (.slice (some ⟨L.blk, 0, none⟩) l c') := by
  have := VRel.slice (ρ := ρ.put i L) (i := i) (o := 0) (L := L) Ren.put_same hl hc (by omega)
  rw [h] at this
  exact this

theorem scalA_cells {z : Value} (hz : isScalA z = true) (hu : ∀ vs, z ≠ .tuple vs) : LRel ρ z.cells.toList z.cells.toList := (VRel.scalA hz).cells

theorem alloc_lands (h : WRel P ρ H w) {H2 : Heap} {j : Nat} {elem : TypeId} {z : Value} (ha : Adds ρ H H2 j (.cells z.cells.toList elem false)) (hz : zeroOf P elem = some z) (hs : isScalA z = true) :
    Lands P ρ H w ((do pure (Next.value (← Instr.alloc elem true (.tuple #[]))) : Sem Next).run P w) (.pointer (some ⟨j, 0, none⟩)) H2 := by
  obtain ⟨sz, hsz⟩ := szOf_of_zero hz
  refine Lands.mv (s := Instr.alloc elem true (.tuple #[])) (v' := .pointer (some ⟨w.heap.size, 0, none⟩)) ?_ (newRow_mv h ha hsz (VRel.scalA hs).cells) (newPtr rfl)
  unfold Instr.alloc
  rw [bind_ok (run_zeroValue hz w)]
  simp only []
  rw [bind_ok (show (newVar elem z).run P w = _ from run_newRow elem z.cells w)]
  rfl

theorem box_lands (h : WRel P ρ H w) {H2 : Heap} {j : Nat} {elem : TypeId} {v v' : Value} {sz : Nat} (ha : Adds ρ H H2 j (.cells v.cells.toList elem false)) (hz : szOf P elem = some sz) (hv : VRel ρ v v') :
    Lands P ρ H w ((do pure (Next.value (← Instr.box elem v')) : Sem Next).run P w) (.pointer (some ⟨j, 0, none⟩)) H2 := by
  refine Lands.mv (s := Instr.box elem v') (v' := .pointer (some ⟨w.heap.size, 0, none⟩)) ?_ (newRow_mv h ha hz hv.cells) (newPtr rfl)
  unfold Instr.box
  rw [bind_ok (show (newVar elem v').run P w = _ from run_newRow elem v'.cells w)]
  rfl

omit [Dem P] in
theorem fieldB_run {s : TypeId} {x x' v : Value} {f : Nat} (hx : VRel ρ x x') (hb : fieldB P s x f = some v) : ∃ v', (Instr.fieldAt s x' f).run P w = .ok v' w ∧ VRel ρ v v' := by
  unfold fieldB at hb
  split at hb
  · rename_i fs i o hu
    split at hb
    · rename_i fd hf
      split at hb
      · rename_i n hn
        split at hb
        · cases hb
        · rename_i hz
          cases hb
          cases hx with | ptr hL =>
          rename_i L
          refine ⟨_, ?_, VRel.ptr hL⟩
          unfold Instr.fieldAt fieldPlace
          rw [bind_ok (run_underlying hu w)]
          simp only [hf]
          rw [bind_ok (show (Instr.sureAddr (.pointer (some ⟨L.blk, L.sh + o, none⟩))).run P w = .ok ⟨L.blk, L.sh + o, none⟩ w from rfl)]
          rw [run_bind, bind_ok (run_sizeOf hn w), if_neg hz]
          simp only [run_pure, add_none, Nat.add_assoc]
      · cases hb
    · cases hb
  · cases hb

theorem indexAddrB_run {t : TypeId} {x x' ix ix' v : Value} (hx : VRel ρ x x') (hi : VRel ρ ix ix') (hb : indexAddrB P t x ix = some v) (h : WRel P ρ H w) :
    ∃ v', (Instr.indexAt t x' ix').run P w = .ok v' w ∧ VRel ρ v v' := by
  unfold indexAddrB at hb
  split at hb
  · rename_i k i len elem b o hu
    cases hi
    split at hb
    · rename_i hlt
      cases hn : szOf P elem with
      | none => rw [hn] at hb; cases hb
      | some n =>
        rw [hn] at hb; cases hb
        cases hx with | ptr hL =>
        rename_i L
        refine ⟨_, ?_, VRel.ptr hL⟩
        unfold Instr.indexAt
        simp only [run_bind, asIntOf, run_pure, run_underlying hu, Instr.sureAddr, hlt, and_self, if_true, run_sizeOf hn, add_none, Nat.add_assoc]
    · cases hb
  · rename_i k i elem b o len c hu
    cases hi
    split at hb
    · rename_i hlt
      cases hn : szOf P elem with
      | none => rw [hn] at hb; cases hb
      | some n =>
        rw [hn] at hb; cases hb
        cases hx with
        | slice hL _ _ _ =>
          rename_i c' L
          refine ⟨_, ?_, VRel.ptr hL⟩
          unfold Instr.indexAt
          simp only [run_bind, asIntOf, run_pure, run_underlying hu, hlt, and_self, if_true, run_sizeOf hn, add_none, Nat.add_assoc]
        | slice0 => omega
    · cases hb
  · cases hb

omit [Dem P] in
theorem partB_run {t : TypeId} {cs cs' : Array Value} {off : Nat} {v : Value} (hc : LRel ρ cs.toList cs'.toList) (hb : partB P t cs off = some v) :
    ∃ v', (part t cs' off).run P w = .ok v' w ∧ VRel ρ v v' := by
  have hsz := hc.1
  simp only [Array.length_toList] at hsz
  unfold partB at hb
  split at hb
  · rename_i n ha hn
    split at hb
    · rename_i hle
      cases hb
      refine ⟨.agg (cs'.extract off (off + n)), ?_, LRel.agg ?_⟩
      · unfold part
        rw [bind_ok (run_isAgg ha w), if_pos rfl, bind_ok (run_sizeOf hn w)]
        rfl
      · have : (cs'.extract off (off + n)).toList = (cs'.toList.drop off).take n := by
          rw [Array.toList_extract, List.extract_eq_take_drop]
          congr 1
          omega
        rw [this]
        exact (hc.drop off).take n
    · cases hb
  · rename_i ha
    obtain ⟨v', hv', hr⟩ := hc.get (i := off) (by simpa using hb)
    refine ⟨v', ?_, hr⟩
    unfold part
    rw [bind_ok (run_isAgg ha w), if_neg (by simp)]
    rw [show cs'[off]? = some v' by simpa using hv']
    rfl
  · cases hb


theorem foldl_zip {l : List Value} : ∀ {l' : List Value} (k off : Nat) {c c' : Array Value}, LRel ρ l l' → LRel ρ c.toList c'.toList →
    LRel ρ ((l.zipIdx k).foldl (fun cs x => cs.setIfInBounds (off + x.2) x.1) c).toList ((l'.zipIdx k).foldl (fun cs x => cs.setIfInBounds (off + x.2) x.1) c').toList := by
  induction l with
  | nil =>
    intro l' k off c c' hl hc
    cases l' with
    | nil => exact hc
    | cons a b => have := hl.1; simp at this
  | cons v l ih =>
    intro l' k off c c' hl hc
    cases l' with
    | nil => have := hl.1; simp at this
    | cons v' l' =>
      simp only [List.zipIdx_cons, List.foldl_cons]
      refine ih (k + 1) off hl.tail ⟨by simpa using hc.1, fun i h1 h2 => ?_⟩
      simp only [Array.toList_setIfInBounds] at h1 h2 ⊢
      simp only [List.getElem_set]
      split
      · exact hl.head
      · exact hc.2 i (by simpa using h1) (by simpa using h2)

theorem fill_rel {pl : Nat → Option (Nat × Nat)} : ∀ (ps ps' : List (Nat × Value)) (c c' : Array Value) (r : Array Value), ps.map (·.1) = ps'.map (·.1) → LRel ρ (ps.map (·.2)) (ps'.map (·.2)) → LRel ρ c.toList c'.toList →
    Instr.fill pl c ps = some r → ∃ r', Instr.fill pl c' ps' = some r' ∧ LRel ρ r.toList r'.toList := by
  intro ps
  induction ps with
  | nil =>
    intro ps' c c' r h1 h2 hc hf
    cases ps' with
    | nil => simp only [Instr.fill, Option.some.injEq] at hf; subst hf; exact ⟨c', rfl, hc⟩
    | cons a b => simp at h1
  | cons p ps ih =>
    intro ps' c c' r h1 h2 hc hf
    cases ps' with
    | nil => simp at h1
    | cons p' ps' =>
      obtain ⟨i, v⟩ := p
      obtain ⟨i', v'⟩ := p'
      simp only [List.map_cons, List.cons.injEq] at h1
      obtain ⟨rfl, h1⟩ := h1
      simp only [List.map_cons] at h2
      have hv := h2.head
      have hvc := hv.cells
      have hlen := hvc.1
      have hcl := hc.1
      simp only [Array.length_toList] at hlen hcl
      simp only [Instr.fill] at hf ⊢
      cases hp : pl i with
      | none => rw [hp] at hf; cases hf
      | some os =>
        obtain ⟨off, size⟩ := os
        rw [hp] at hf
        simp only at hf ⊢
        rw [← hlen, ← hcl]
        split at hf
        · cases hf
        · rename_i hcond
          rw [if_neg hcond]
          refine ih ps' _ _ r h1 h2.tail ?_ hf
          rw [← Array.foldl_toList, ← Array.foldl_toList, Array.toList_zipIdx, Array.toList_zipIdx]
          exact foldl_zip 0 off hvc hc

theorem parts_map {e e' : Operand → Value} (he : ∀ x, VRel ρ (e x) (e' x)) (parts : Array (Nat × Operand)) :
    ((parts.map fun (i, x) => (i, e x)).toList.map (·.1)) = ((parts.map fun (i, x) => (i, e' x)).toList.map (·.1)) ∧
    LRel ρ ((parts.map fun (i, x) => (i, e x)).toList.map (·.2)) ((parts.map fun (i, x) => (i, e' x)).toList.map (·.2)) := by
  constructor
  · simp
  · simp only [Array.toList_map, List.map_map]
    exact LRel.map _ fun x => he _

omit [Dem P] in
theorem build_run {t : TypeId} {z : Value} {pl : Nat → Option (Nat × Nat)} {ps ps' : Array (Nat × Value)} {cs : Array Value} (hz : zeroOf P t = some z) (hpl : placesB P t = some pl) (hs : isScalA z = true)
    (h1 : ps.toList.map (·.1) = ps'.toList.map (·.1)) (h2 : LRel ρ (ps.toList.map (·.2)) (ps'.toList.map (·.2))) (hf : Instr.fill pl z.cells ps.toList = some cs) :
    ∃ v', (Instr.build t ps').run P w = .ok v' w ∧ VRel ρ (.agg cs) v' := by
  obtain ⟨r', hr', hrel⟩ := fill_rel _ _ _ _ _ h1 h2 (VRel.scalA (ρ := ρ) hs).cells hf
  refine ⟨.agg r', ?_, LRel.agg hrel⟩
  unfold Instr.build
  rw [bind_ok (run_zeroValue hz w)]
  unfold placesB at hpl
  split at hpl
  · rename_i fs hu
    rw [bind_ok (run_underlying hu w)]
    simp only []
    cases hq : runP P (fs.mapM fun f => do pure (f.offset, ← sizeOf f.type)) with
    | none => rw [hq] at hpl; cases hpl
    | some q =>
      rw [hq] at hpl; cases hpl
      rw [bind_ok (runP_run hq w)]
      simp only [hr']
      rfl
  · rename_i n elem hu
    rw [bind_ok (run_underlying hu w)]
    simp only []
    cases hn : szOf P elem with
    | none => rw [hn] at hpl; cases hpl
    | some n =>
      rw [hn] at hpl; cases hpl
      rw [bind_ok (run_sizeOf hn w)]
      simp only [hr']
      rfl
  · cases hpl

theorem zeros_rel {z : Value} {size n : Nat} (hs : isScalA z = true) (hz : z.cells.size = size) : LRel ρ ((Array.range n).map (z.cells[· % z.cells.size]!)).toList ((Array.range n).map (z.cells[· % z.cells.size]!)).toList := by
  have hc := (VRel.scalA (ρ := ρ) hs).cells
  have key : ∀ q : Nat, VRel ρ (z.cells[q % z.cells.size]!) (z.cells[q % z.cells.size]!) := fun q => by
    by_cases hp : 0 < z.cells.size
    · have hlt : q % z.cells.size < z.cells.size := Nat.mod_lt _ hp
      rw [getElem!_pos z.cells _ hlt]
      have := hc.2 (q % z.cells.size) (by simpa using hlt) (by simpa using hlt)
      rw [Array.getElem_toList] at this
      exact this
    · rw [getElem!_neg z.cells _ (by omega)]
      exact VRel.bool _
  refine ⟨rfl, fun i h1 _ => ?_⟩
  simp only [Array.toList_map, List.getElem_map]
  exact key _

end Go.B

namespace Go.B
open Go

variable {P : Program} [Dem P] {ρ : Ren} {H : Heap} {w : World}

def ORel (ρ : Ren) : Option Value → Option Value → Prop
  | none, none => True
  | some a, some b => VRel ρ a b
  | _, _ => False

theorem ORel.map {e e' : Operand → Value} (he : ∀ x, VRel ρ (e x) (e' x)) (o : Option Operand) : ORel ρ (o.map e) (o.map e') := by
  cases o with
  | none => trivial
  | some x => exact he x

theorem boundB_same {o o' : Option Value} {d m : Nat} (h : ORel ρ o o') (hb : boundB o d = some m) : o = o' ∧ ((o = none ∧ m = d) ∨ ∃ k n, o = some (.int k n) ∧ 0 ≤ n ∧ m = n.toNat) := by
  cases o with
  | none =>
    cases o' with
    | none => exact ⟨rfl, .inl ⟨rfl, by simpa [boundB] using hb.symm⟩⟩
    | some b => exact h.elim
  | some a =>
    cases o' with
    | none => exact h.elim
    | some b =>
      cases a <;> simp only [boundB] at hb <;> try (cases hb; done)
      rename_i k n
      cases h
      split at hb
      · rename_i h0
        exact ⟨rfl, .inr ⟨k, n, rfl, h0, by simpa using hb.symm⟩⟩
      · cases hb

omit [Dem P] in
theorem sliceBound_run {k : IntKind} {n : Int} {y : Nat} {c : BoundsCode} (h0 : 0 ≤ n) (h1 : n.toNat ≤ y) (w : World) : (Instr.sliceBound (.int k n) y c).run P w = .ok n.toNat w := by
  unfold Instr.sliceBound
  simp only [run_bind, asIntOf, run_pure]
  rw [if_pos (by omega)]
  rfl

omit [Dem P] in
theorem sliceBounds_run {b : Bool} {len cap cap' l h m : Nat} {lo hi mx : Option Value} (hl : boundB lo 0 = some l) (hh : boundB hi len = some h) (hm : boundB mx cap = some m) (hlh : l ≤ h) (hhl : h ≤ len) (hcap : len ≤ cap') (hc : mx.isNone = true ∨ h ≤ m ∧ m ≤ len ∧ hi.isSome = true)
    (w : World) : (Instr.sliceBounds b len cap' lo hi mx).run P w = .ok (l, h, if mx.isNone then cap' else m) w := by
  have bnd : ∀ {o : Option Value} {d m : Nat}, boundB o d = some m → (o = none ∧ m = d) ∨ ∃ k n, o = some (.int k n) ∧ 0 ≤ n ∧ m = n.toNat := by
    intro o d m ho
    cases o with
    | none => exact .inl ⟨rfl, by simpa [boundB] using ho.symm⟩
    | some a =>
      cases a <;> simp only [boundB] at ho <;> try (cases ho; done)
      rename_i k n
      split at ho
      · rename_i h0; exact .inr ⟨k, n, rfl, h0, by simpa using ho.symm⟩
      · cases ho
  unfold Instr.sliceBounds
  rcases bnd hm with ⟨rfl, rfl⟩ | ⟨k, n, rfl, hn, rfl⟩
  · rcases bnd hh with ⟨rfl, rfl⟩ | ⟨k, n, rfl, hn, rfl⟩
    · rcases bnd hl with ⟨rfl, rfl⟩ | ⟨k, n, rfl, hn, rfl⟩
      · rfl
      · simp only [run_bind, run_pure, sliceBound_run hn hlh]; rfl
    · have h2 := sliceBound_run (P := P) (k := k) (c := if b = true then BoundsCode.sliceAcap else BoundsCode.sliceAlen) hn (Nat.le_trans hhl hcap) w
      rcases bnd hl with ⟨rfl, rfl⟩ | ⟨k', n', rfl, hn', rfl⟩
      · simp only [run_bind, run_pure, h2]; rfl
      · simp only [run_bind, run_pure, h2, sliceBound_run hn' hlh]; rfl
  · obtain ⟨h1, h2, h3⟩ := hc.resolve_left (by simp)
    have g1 := sliceBound_run (P := P) (k := k) (c := if b = true then BoundsCode.slice3Acap else BoundsCode.slice3Alen) hn (Nat.le_trans h2 hcap) w
    rcases bnd hh with ⟨rfl, rfl⟩ | ⟨k', n', rfl, hn', rfl⟩
    · simp at h3
    · rcases bnd hl with ⟨rfl, rfl⟩ | ⟨k2, n2, rfl, hn2, rfl⟩
      · simp only [run_bind, run_pure, g1, sliceBound_run hn' h1]; rfl
      · simp only [run_bind, run_pure, g1, sliceBound_run hn' h1, sliceBound_run hn2 hlh]; rfl

theorem sliceB_run (h : WRel P ρ H w) {t : TypeId} {x x' v : Value} {lo hi mx lo' hi' mx' : Option Value} (hx : VRel ρ x x') (hlo : ORel ρ lo lo') (hhi : ORel ρ hi hi') (hmx : ORel ρ mx mx')
    (hb : sliceB P H t x lo hi mx = some v) : ∃ v', (Instr.sliceAt t x' lo' hi' mx').run P w = .ok v' w ∧ VRel ρ v v' := by
  unfold sliceB at hb
  split at hb
  · rename_i elem a len cap hu
    split at hb
    · rename_i size l h' m hsz hl hh hm
      split at hb
      · rename_i hc
        obtain ⟨h1, h2, h3⟩ := hc
        obtain ⟨rfl, -⟩ := boundB_same hlo hl
        obtain ⟨rfl, -⟩ := boundB_same hhi hh
        obtain ⟨rfl, -⟩ := boundB_same hmx hm
        have hrun : ∀ (a' : Option Addr) (c' : Nat), len ≤ c' → (Instr.sliceAt t (.slice a' len c') lo hi mx).run P w =
            .ok (.slice (if (if mx.isNone then c' else m) = l then a' else a'.map (·.add (l * size))) (h' - l) ((if mx.isNone then c' else m) - l)) w := by
          intro a' c' hle
          unfold Instr.sliceAt Instr.slice
          simp only [run_bind, run_underlying hu, sliceBounds_run (P := P) hl hh hm h1 h2 hle h3 w, run_sizeOf hsz, run_pure]
        split at hb
        · cases hb
          cases hx
          refine ⟨_, hrun none 0 (Nat.le_refl _), ?_⟩
          have e1 : h' = 0 := by omega
          have e2 : l = 0 := by omega
          subst e1 e2
          have e3 : (if mx.isNone = true then 0 else m) - 0 = 0 := by
            split
            · rfl
            · rename_i hn; have := (h3.resolve_left hn).2.1; omega
          rw [e3]
          simp only [Option.map_none, ite_self, Nat.sub_zero]
          exact .sliceNil
        · rename_i i o
          split at hb
          · rename_i c e ro hg
            split at hb
            · rename_i hsz2
              cases hb
              obtain ⟨L, hL, cc, fr, _, _, _, _, _, hesz, _, _⟩ := h.cells _ _ _ _ hg
              rw [hsz2] at hesz
              cases hesz
              cases hx with
              | slice hL' hlc hcc ht =>
                rename_i c' L'
                rw [hL] at hL'; cases hL'
                refine ⟨_, hrun _ c' hlc, ?_⟩
                by_cases hn : mx.isNone = true
                · simp only [hn, if_true, true_and]
                  have hm' : m = cap := by
                    cases mx with
                    | none => simpa [boundB] using hm.symm
                    | some _ => simp at hn
                  by_cases he : c' = l
                  · rw [if_pos he]
                    have : h' - l = 0 := by omega
                    rw [this, he, Nat.sub_self]
                    refine .slice0 ?_
                    by_cases hk : cap = capU
                    · rw [if_pos hk]; exact .inr rfl
                    · rw [if_neg hk, hm', hcc.resolve_right hk, he, Nat.sub_self]; exact .inl rfl
                  · rw [if_neg he]
                    simp only [Option.map_some, add_none, Nat.add_assoc]
                    refine .slice hL (by omega) ?_ ?_
                    · by_cases hk : cap = capU
                      · rw [if_pos hk]; exact .inr rfl
                      · rw [if_neg hk, hm', hcc.resolve_right hk]; exact .inl rfl
                    · have : l * L.esz + (c' - l) * L.esz = c' * L.esz := by rw [← Nat.add_mul]; congr 1; omega
                      omega
                · obtain ⟨h4, h5, h6⟩ := h3.resolve_left hn
                  simp only [hn, Bool.false_eq_true, if_false, false_and]
                  by_cases he : m = l
                  · rw [if_pos he]
                    have : h' - l = 0 := by omega
                    rw [this, he, Nat.sub_self]
                    exact .slice0 (.inl rfl)
                  · rw [if_neg he]
                    simp only [Option.map_some, add_none, Nat.add_assoc]
                    refine .slice hL (by omega) (.inl rfl) ?_
                    have : l * L.esz + (m - l) * L.esz = m * L.esz := by rw [← Nat.add_mul]; congr 1; omega
                    have : m * L.esz ≤ c' * L.esz := Nat.mul_le_mul_right _ (by omega)
                    omega
              | slice0 hcc =>
                refine ⟨_, hrun _ 0 (Nat.le_refl _), ?_⟩
                have e1 : h' = 0 := by omega
                have e2 : l = 0 := by omega
                subst e1 e2
                have e3 : (if mx.isNone = true then 0 else m) = 0 := by
                  split
                  · rfl
                  · rename_i hn; have := (h3.resolve_left hn).2.1; omega
                rw [e3, if_pos rfl]
                refine .slice0 ?_
                by_cases hn : mx.isNone = true
                · have hm' : m = cap := by
                    cases mx with
                    | none => simpa [boundB] using hm.symm
                    | some _ => simp at hn
                  by_cases hk : cap = capU
                  · rw [if_pos ⟨hn, hk⟩]; exact .inr rfl
                  · rw [if_neg (fun z => hk z.2), hm', hcc.resolve_right hk]; exact .inl rfl
                · rw [if_neg (fun z => hn z.1)]
                  have := (h3.resolve_left hn).2.1
                  exact .inl (by omega)
            · cases hb
          · cases hb
        · split at hb
          · rename_i hq
            obtain ⟨hl0, hn, hk⟩ := hq
            cases hb
            cases hx with
            | slice0 hcc =>
              refine ⟨_, hrun _ 0 (Nat.le_refl _), ?_⟩
              have e1 : h' = 0 := by omega
              have e2 : l = 0 := by omega
              subst e1 e2
              rw [if_pos hn, if_pos rfl]
              exact .slice0 (.inr rfl)
          · cases hb
      · cases hb
    · cases hb
  · cases hb

omit [Dem P] in
theorem strSlice_run {t : TypeId} {s : ByteArray} {lo hi lo' hi' : Option Value} {l h : Nat} (hu : P.underlying t = some .string) (hlo : ORel ρ lo lo') (hhi : ORel ρ hi hi') (hl : boundB lo 0 = some l) (hh : boundB hi s.size = some h) (h1 : l ≤ h) (h2 : h ≤ s.size) (w : World) :
    (Instr.sliceAt t (.string s) lo' hi' none).run P w = .ok (.string (s.extract l h)) w := by
  obtain ⟨rfl, -⟩ := boundB_same hlo hl
  obtain ⟨rfl, -⟩ := boundB_same hhi hh
  unfold Instr.sliceAt Instr.slice
  simp only [run_bind, run_underlying hu, Option.isSome_none, Bool.false_eq_true, if_false, sliceBounds_run (P := P) hl hh (show boundB none s.size = some s.size from rfl) h1 h2 (Nat.le_refl _) (.inl rfl) w, run_pure]


theorem firstB_run (h : WRel P ρ H w) {size n : Nat} {x x' : Value} {l : List Value} (hx : VRel ρ x x') (hb : firstB H size n x = some l) :
    ∃ l', (Builtin.firstCells size n x').run P w = .ok l'.toArray w ∧ LRel ρ l l' ∧ l.length = n * size := by
  unfold firstB at hb
  split at hb
  · rename_i i o len cap
    split at hb
    · rename_i hle
      by_cases hn : n = 0
      · rw [if_pos hn] at hb
        cases hb; subst hn
        refine ⟨[], ?_, .nil, by simp⟩
        cases hx with
        | slice hL _ _ _ => simp only [Builtin.firstCells, Nat.zero_mul, loadCells, loadCellsFrom]; rfl
        | slice0 => simp only [Builtin.firstCells, Nat.zero_mul, loadCells, loadCellsFrom]; rfl
      · rw [if_neg hn] at hb
        cases hx with
        | slice hL _ _ _ =>
          rename_i c' L
          obtain ⟨L', l', hL', hr, hn1, hn2, hrun⟩ := loadCells_run h hb
          rw [hL] at hL'; cases hL'
          exact ⟨l', by simp only [Builtin.firstCells]; exact hrun, hr, hn1⟩
        | slice0 => omega
    · cases hb
  · rename_i len cap
    split at hb
    · rename_i hle
      cases hb
      obtain ⟨rfl, rfl⟩ := hle
      cases hx
      exact ⟨[], rfl, .nil, by simp⟩
    · cases hb
  · split at hb
    · rename_i hle
      cases hb
      obtain ⟨rfl, rfl⟩ := hle
      cases hx with
      | slice0 => exact ⟨[], by simp only [Builtin.firstCells, Nat.zero_mul, loadCells, loadCellsFrom]; rfl, .nil, by simp⟩
    · cases hb
  · rename_i s
    split at hb
    · rename_i hle
      cases hb
      cases hx
      refine ⟨_, ?_, LRel.map _ fun _ => .int _ _, ?_⟩
      · simp only [Builtin.firstCells, run_pure]
        congr 1
        rw [← Array.toList_map]
      · simp only [List.length_map, Array.length_toList]
        rw [hle.2, Nat.mul_one]
        have : (s.extract 0 n).data.size = (s.extract 0 n).size := rfl
        rw [this, ByteArray.size_extract]
        omega
    · cases hb
  · cases hb

omit [Dem P] in
theorem lenB_run {x x' : Value} {n : Nat} (hx : VRel ρ x x') (hb : lenB x = some n) (w : World) : (Builtin.lenOf x').run P w = .ok n w := by
  cases hx <;> simp [lenB] at hb <;> subst hb <;> rfl

theorem copyB_run (h : WRel P ρ H w) {t : TypeId} {d d' x x' v : Value} {H' : Heap} {ats : Array TypeId} {ty : TypeId} (hd : VRel ρ d d') (hx : VRel ρ x x') (hat : ats[0]? = some t) (hb : copyB P H t d x = some (v, H')) :
    ∃ v' w', (Builtin.copy_ ats ty #[d', x']).run P w = .ok v' w' ∧ Mv P ρ H w ρ H' w' ∧ VRel ρ v v' := by
  unfold copyB at hb
  split at hb
  · rename_i elem base dLen cap hu
    split at hb
    · rename_i size m hsz hm
      simp only at hb
      split at hb
      · rename_i l hf
        cases hb
        cases hd
        obtain ⟨l', hrun, hr, hn⟩ := firstB_run h hx hf
        refine ⟨_, w, ?_, Mv.refl h, .int _ _⟩
        unfold Builtin.copy_
        simp only [hat, List.getElem?_toArray, List.getElem?_cons_zero, List.getElem?_cons_succ, run_bind, run_underlying hu, lenB_run hx hm, run_sizeOf hsz, hrun, run_pure]
        rfl
      · rename_i l a hf
        obtain ⟨l', hrun, hr, hn⟩ := firstB_run h hx hf
        split at hb
        · rename_i h0
          cases hb
          have hl' : l' = [] := by have := hr.1; rw [hn, h0, Nat.zero_mul] at this; exact List.eq_nil_of_length_eq_zero this.symm
          subst hl'
          cases hd with
          | slice hL _ _ _ =>
            refine ⟨_, w, ?_, Mv.refl h, .int _ _⟩
            unfold Builtin.copy_
            simp only [hat, List.getElem?_toArray, List.getElem?_cons_zero, List.getElem?_cons_succ, run_bind, run_underlying hu, lenB_run hx hm, run_sizeOf hsz, hrun, run_pure, storeCells]
            rfl
          | slice0 =>
            refine ⟨_, w, ?_, Mv.refl h, .int _ _⟩
            unfold Builtin.copy_
            simp only [hat, List.getElem?_toArray, List.getElem?_cons_zero, List.getElem?_cons_succ, run_bind, run_underlying hu, lenB_run hx hm, run_sizeOf hsz, hrun, run_pure, storeCells]
            rfl
        · rename_i h0
          split at hb
          · rename_i hspot
            cases hp : putCells H a.block a.off l with
            | none => rw [hp] at hb; cases hb
            | some H2 =>
              rw [hp] at hb; cases hb
              cases hd with
              | slice hL _ _ _ =>
                obtain ⟨L', w', hL', hst, hm'⟩ := putCells_run h hr hp
                rw [hL] at hL'; cases hL'
                refine ⟨_, w', ?_, hm', .int _ _⟩
                unfold Builtin.copy_
                simp only [hat, List.getElem?_toArray, List.getElem?_cons_zero, List.getElem?_cons_succ, run_bind, run_underlying hu, lenB_run hx hm, run_sizeOf hsz, hrun, run_pure]
                simp only [hst]
                rfl
              | slice0 => exact absurd (Nat.le_zero.mp (Nat.min_le_right _ _)) h0
          · cases hb
      · cases hb
    · cases hb
  · cases hb

end Go.B

namespace Go.B
open Go

variable {P : Program} [Dem P] {ρ : Ren} {H : Heap} {w : World}

theorem Mv.move (h : WRel P ρ H w) {i : Nat} {L : Loc} {c : List Value} {e : TypeId} (hi : H.get i = some (.cells c e false)) (hL : ρ i = some L) {w' : World} {cc' : Array Value} {fr : Nat × Nat}
    (hw : w'.heap = w.heap.setIfInBounds L.blk (.cells cc' e fr)) (h1 : w'.os = w.os) (h2 : w'.tape = w.tape) (h3 : w'.output = w.output) {L' : Loc} (hb : L'.blk = L.blk) (hs : cc'.size = L'.sh + L'.tot)
    {c' : List Value} (hc' : c'.length ≤ L'.tot) (hsz : szOf P e = some L'.esz) (hr : ∀ (o : Nat) (v : Value), c'[o]? = some v → ∃ v', cc'[L'.sh + o]? = some v' ∧ VRel ρ v v') (hf : ∀ o, o < L'.tot → ¬ (fr.1 ≤ L'.sh + o ∧ L'.sh + o < fr.2)) :
    Mv P ρ H w (ρ.put H.next L') ((H.set i .dead).push (.cells c' e false)) w' := by
  have hx : Ext ρ (ρ.put H.next L') := Ren.put_ext h.fresh
  have hlt := (h.ren i L hL).2
  have hin := (h.ren i L hL).1
  have hget : ∀ j, ((H.set i .dead).push (.cells c' e false)).get j = if j = H.next then some (.cells c' e false) else if j = i then some .dead else H.get j := fun j => by rw [Heap.get_push, Heap.get_set]; rfl
  have hnew : w'.heap[L'.blk]? = some (.cells cc' e fr) := by rw [hw, hb]; simp [hlt]
  have other : ∀ b, b ≠ L.blk → w'.heap[b]? = w.heap[b]? := fun b hb => by rw [hw, Array.getElem?_setIfInBounds, if_neg (fun e => hb e.symm)]
  have live_i : Live H i := .inl ⟨c, e, false, hi⟩
  have liveOf : ∀ j, j ≠ H.next → Live ((H.set i .dead).push (.cells c' e false)) j → j ≠ i ∧ Live H j := fun j hj hl => by
    by_cases ei : j = i
    · exact absurd hl (by unfold Live; rw [hget, if_neg hj, if_pos ei]; simp)
    · exact ⟨ei, by unfold Live at *; simpa only [hget, if_neg hj, if_neg ei] using hl⟩
  have mutOf : ∀ j, j ≠ H.next → Mut ((H.set i .dead).push (.cells c' e false)) j → j ≠ i ∧ Mut H j := fun j hj hl => by
    by_cases ei : j = i
    · exact absurd hl (by unfold Mut; rw [hget, if_neg hj, if_pos ei]; simp)
    · exact ⟨ei, by unfold Mut at *; simpa only [hget, if_neg hj, if_neg ei] using hl⟩
  have hne : ∀ j M, j ≠ i → Live H j → ρ j = some M → M.blk ≠ L.blk := fun j M e' hl hM he => e' (h.inj i j L M (.inl ⟨c, e, hi⟩) hl hL hM he.symm).symm
  exact {
    ext := hx
    rel := {
      ren := fun j M hj => by
        by_cases e' : j = H.next
        · subst e'; rw [Ren.put_same] at hj; cases hj; exact ⟨Nat.lt_succ_self _, by rw [hw, hb]; simpa using hlt⟩
        · rw [Ren.put_other e'] at hj; have := h.ren j M hj; exact ⟨Nat.lt_succ_of_lt this.1, by rw [hw]; simpa using this.2⟩
      cells := fun j c2 e2 ro hj => by
        rw [hget] at hj
        by_cases e' : j = H.next
        · rw [if_pos e'] at hj; cases hj; subst e'
          exact ⟨_, Ren.put_same, cc', fr, e, hnew, fun _ => rfl, hs, hc', hsz, fun o v hv => let ⟨v', a, b⟩ := hr o v hv; ⟨v', a, b.mono hx⟩, fun _ => hf⟩
        · rw [if_neg e'] at hj
          by_cases ei : j = i
          · rw [if_pos ei] at hj; cases hj
          · rw [if_neg ei] at hj
            obtain ⟨M, hM, hc⟩ := h.cells j c2 e2 ro hj
            exact ⟨M, hx _ _ hM, hc.mono hx (other _ (hne j M ei (.inl ⟨_, _, _, hj⟩) hM))⟩
      maps := fun j es clk hj => by
        rw [hget] at hj
        by_cases e' : j = H.next
        · rw [if_pos e'] at hj; cases hj
        · rw [if_neg e'] at hj
          by_cases ei : j = i
          · rw [if_pos ei] at hj; cases hj
          · rw [if_neg ei] at hj
            obtain ⟨M, hM, hc⟩ := h.maps j es clk hj
            exact ⟨M, hx _ _ hM, hc.mono hx (other _ (hne j M ei (.inr ⟨_, _, hj⟩) hM))⟩
      inj := fun j k M N hj hk hM hN hbb => by
        by_cases ej : j = H.next
        · by_cases ek : k = H.next
          · rw [ej, ek]
          · obtain ⟨k1, k2⟩ := liveOf k ek hk
            rw [ej, Ren.put_same] at hM; cases hM
            rw [Ren.put_other ek] at hN
            exact absurd (hbb.symm.trans hb) (hne k N k1 k2 hN)
        · obtain ⟨j1, j2⟩ := mutOf j ej hj
          rw [Ren.put_other ej] at hM
          by_cases ek : k = H.next
          · rw [ek, Ren.put_same] at hN; cases hN
            exact absurd (hbb.trans hb) (hne j M j1 j2.live hM)
          · obtain ⟨k1, k2⟩ := liveOf k ek hk
            rw [Ren.put_other ek] at hN
            exact h.inj j k M N j2 k2 hM hN hbb
      inv := Dem.stab w w' h.size ⟨h1, h2, h3, by rw [hw]; simp, fun b hb => other b (fun e => by have := h.base i L (.inl ⟨_, _, hi⟩) hL; omega)⟩ h.inv
      size := by rw [hw]; simpa using h.size
      base := fun j M hj hM => by
        by_cases ej : j = H.next
        · rw [ej, Ren.put_same] at hM; cases hM; rw [hb]; exact h.base i L (.inl ⟨_, _, hi⟩) hL
        · obtain ⟨j1, j2⟩ := liveOf j ej hj.live
          rw [Ren.put_other ej] at hM
          refine h.base j M ?_ hM
          unfold Mut at *; simpa only [hget, if_neg ej, if_neg j1] using hj }
    next := Nat.le_succ _
    keep := fun j hj => by rw [hget]; split <;> (try split) <;> simp_all
    new := fun j M a b => by
      by_cases e' : j = H.next
      · rw [hget, if_pos e']; rfl
      · rw [Ren.put_other e', a] at b; cases b
    os := h1, tape := h2, output := h3
    size := by rw [hw]; simp
    frame := fun b hbl hn => other b (fun e => hn ⟨i, L, .inl ⟨c, _, hi⟩, hL, e.symm⟩)
    own := fun j M hm hr' _ => by
      by_cases ej : j = H.next
      · rw [ej, Ren.put_same] at hr'; cases hr'; exact ⟨i, L, live_i, fun _ => .inl ⟨c, e, hi⟩, hL, hb.symm⟩
      · obtain ⟨j1, j2⟩ := liveOf j ej hm
        rw [Ren.put_other ej] at hr'
        refine ⟨j, M, j2, fun hq => ?_, hr', rfl⟩
        unfold Mut at *; simpa only [hget, if_neg ej, if_neg j1] using hq }


theorem growBy_le (nl : Nat) : ∀ (r c : Nat), c ≤ nl + (nl + 768) / 4 → Builtin.growBy nl r c ≤ nl + (nl + 768) / 4 := by
  intro r
  induction r with
  | zero => intro c h; exact h
  | succ r ih =>
    intro c h
    simp only [Builtin.growBy]
    split
    · exact h
    · exact ih _ (by omega)

theorem nextcap_le {need cap : Nat} (h : cap < need) : Builtin.nextslicecap need cap ≤ 2 * need + 1000 := by
  unfold Builtin.nextslicecap
  split
  · omega
  · split
    · omega
    · exact Nat.le_trans (growBy_le need 4 cap (by omega)) (by omega)

omit [Dem P] in
theorem run_askRoom (n : Nat) (w : World) : (askRoom n).run P w = .ok () w := by
  unfold askRoom
  split <;> rfl

omit [Dem P] in
theorem run_cap (need old : Nat) (e : TypeId) (w : World) : (choose (.appendCap need old e)).run P w = .ok (need + w.tape w.drawn (.appendCap need old e) % (2 ^ 63 - need)) { w with drawn := w.drawn + 1 } := rfl

omit [Dem P] in
theorem app_in {ats : Array TypeId} {ty t xt elem : TypeId} {d : TypeDesc} {size n sLen c' : Nat} {a' : Option Addr} {x' : Value} {l' : List Value} {w' : World} (h0 : ats[0]? = some t) (h1 : ats[1]? = some xt) (hu : P.underlying t = some (.slice elem))
    (hd : P.underlying xt = some d) (hnd : ∀ k, d ≠ .int k) (hsz : szOf P elem = some size) (hn : (Builtin.lenOf x').run P w = .ok n w) (hle : sLen + n ≤ c') (hf : (Builtin.firstCells size n x').run P w = .ok l'.toArray w)
    (hs : ∀ a, a' = some a → (storeCells (a.add (sLen * size)) l').run P w = .ok () w') (hw : a' = none → w' = w) : (Builtin.append_ ats ty #[.slice a' sLen c', x']).run P w = .ok (.slice a' (sLen + n) c') w' := by
  unfold Builtin.append_
  have hz : (match d with | .int _ => true | _ => false) = false := by cases d <;> first | rfl | exact absurd rfl (hnd _)
  simp only [h0, h1, List.getElem?_toArray, List.getElem?_cons_zero, List.getElem?_cons_succ, run_bind, run_underlying hu, run_sizeOf hsz, run_underlying hd, run_pure, hz, Bool.false_eq_true, if_false, hn, hle, if_true, Bool.not_false, hf]
  cases a' with
  | none => simp only [run_pure, hw rfl]
  | some a => simp only [run_bind, hs a rfl, run_pure]

omit [Dem P] in
theorem app_re {ats : Array TypeId} {ty t xt elem : TypeId} {d : TypeDesc} {size bytes n sLen c' : Nat} {s' : Value} {a' : Option Addr} {x' z : Value} {old' l' : List Value} (h0 : ats[0]? = some t) (h1 : ats[1]? = some xt) (hu : P.underlying t = some (.slice elem))
    (hd : P.underlying xt = some d) (hnd : ∀ k, d ≠ .int k) (hsz : szOf P elem = some size) (hby : byOf P elem = some bytes) (hz : zeroOf P elem = some z) (hs' : s' = .slice a' sLen c') (hn : ∀ w, (Builtin.lenOf x').run P w = .ok n w) (hle : c' < sLen + n) (hk : sLen + n ≤ 2 ^ 30) (hkb : bytes ≤ 2 ^ 16)
    (hfo : (Builtin.firstCells size sLen s').run P { w with drawn := w.drawn + 1 } = .ok old'.toArray { w with drawn := w.drawn + 1 }) (hf : (Builtin.firstCells size n x').run P { w with drawn := w.drawn + 1 } = .ok l'.toArray { w with drawn := w.drawn + 1 }) :
    ∃ nc rest, sLen + n ≤ nc ∧ rest.size = (nc - (sLen + n)) * z.cells.size ∧ (Builtin.append_ ats ty #[s', x']).run P w = .ok (.slice (some ⟨w.heap.size, 0, none⟩) (sLen + n) nc) { w with drawn := w.drawn + 1, heap := w.heap.push (.cells (old'.toArray ++ l'.toArray ++ rest) elem) } := by
  refine ⟨(sLen + n) + w.tape w.drawn (.appendCap (sLen + n) c' elem) % (2 ^ 63 - (sLen + n)), Builtin.zeroCells z.cells ((sLen + n) + w.tape w.drawn (.appendCap (sLen + n) c' elem) % (2 ^ 63 - (sLen + n)) - (sLen + n)), Nat.le_add_right _ _, by simp [Builtin.zeroCells], ?_⟩
  subst hs'
  unfold Builtin.append_
  have hzf : (match d with | .int _ => true | _ => false) = false := by cases d <;> first | rfl | exact absurd rfl (hnd _)
  obtain ⟨inf, hinf, rfl⟩ : ∃ i, (∀ w, (typeInfo elem).run P w = .ok i w) ∧ i.bytes = bytes := by
    unfold byOf at hby
    cases hi : P.info? elem with
    | none => rw [hi] at hby; cases hby
    | some i => rw [hi] at hby; cases hby; exact ⟨i, fun w => run_typeInfo hi w, rfl⟩
  have hmul : ¬ (Builtin.nextslicecap (sLen + n) c' * inf.bytes > 2 ^ 48) := by
    have := Nat.mul_le_mul (nextcap_le hle) hkb
    have : (2 * (sLen + n) + 1000) * 2 ^ 16 ≤ 2 ^ 48 := by omega
    omega
  have hmax : ¬ (((sLen + n : Nat) : Int) > IntKind.i64.max ∧ (False ∨ inf.bytes = 0)) := by
    intro hh
    have h2 : IntKind.i64.max = 9223372036854775807 := by decide
    rw [h2] at hh
    omega
  simp only [h0, h1, List.getElem?_toArray, List.getElem?_cons_zero, List.getElem?_cons_succ, run_bind, run_underlying hu, run_sizeOf hsz, run_underlying hd, run_pure, hzf, Bool.false_eq_true, if_false, hn, show ¬ (sLen + n ≤ c') from by omega, Bool.not_false, if_true,
    hinf, hmax, hmul, run_cap, run_askRoom, hfo, hf, run_zeroValue hz, run_newRow]

theorem appendB_run (h : WRel P ρ H w) {ats : Array TypeId} {ty t xt : TypeId} {d : TypeDesc} {s s' x x' v : Value} {H' : Heap} (h0 : ats[0]? = some t) (h1 : ats[1]? = some xt) (hd : P.underlying xt = some d) (hnd : ∀ k, d ≠ .int k)
    (hs : VRel ρ s s') (hx : VRel ρ x x') (hb : appendB P H t s x = some (v, H')) : ∃ ρ' v' w', (Builtin.append_ ats ty #[s', x']).run P w = .ok v' w' ∧ Mv P ρ H w ρ' H' w' ∧ VRel ρ' v v' := by
  unfold appendB at hb
  split at hb
  · rename_i elem base sLen sCap hu
    split at hb
    · rename_i size bytes n z hsz hby hn hz
      split at hb
      · rename_i old new hfo hfn
        have h' : WRel P ρ H { w with drawn := w.drawn + 1 } := h.heap rfl
        obtain ⟨old', hfo', hro, hlo⟩ := firstB_run h' hs hfo
        obtain ⟨new', hfn', hrn, hln⟩ := firstB_run h' hx hfn
        obtain ⟨new2, hfn2, hrn2, hln2⟩ := firstB_run h hx hfn
        split at hb
        · rename_i hn0
          cases hb
          have hl2 : new2 = [] := by have := hrn2.1; rw [hln2, hn0, Nat.zero_mul] at this; exact List.eq_nil_of_length_eq_zero this.symm
          subst hl2
          subst hn0
          have hgo : ∀ a' c', s' = .slice a' sLen c' → sLen ≤ c' → ∃ ρ' v' w', (Builtin.append_ ats ty #[s', x']).run P w = .ok v' w' ∧ Mv P ρ H w ρ' H w' ∧ VRel ρ' (.slice base sLen sCap) v' := by
            intro a' c' he hle
            refine ⟨ρ, s', w, ?_, Mv.refl h, hs⟩
            rw [he]
            have := app_in (P := P) (w := w) (w' := w) (ty := ty) (a' := a') (sLen := sLen) (c' := c') h0 h1 hu hd hnd hsz (lenB_run hx hn w) (by omega) hfn2 (fun _ _ => rfl) (fun _ => rfl)
            simpa using this
          cases hs with
          | sliceNil => exact hgo none 0 rfl (Nat.le_refl _)
          | slice hL hl hc ht => exact hgo _ _ rfl hl
          | slice0 hc => exact hgo _ _ rfl (Nat.le_refl _)
        · rename_i hn0
          split at hb
          · rename_i hcond
            obtain ⟨hk, hkb, hok, hzs⟩ := hcond
            -- the way that takes a new row
            have re : ∀ a' c' (H2 : Heap), s' = .slice a' sLen c' → c' < sLen + n → H2.next = H.next → WRel P ρ H2 w → Mv P ρ H w ρ H2 w →
                ∃ ρ' v' w', (Builtin.append_ ats ty #[s', x']).run P w = .ok v' w' ∧ Mv P ρ H w ρ' (H2.push (.cells (old ++ new) elem false)) w' ∧ VRel ρ' (.slice (some ⟨H.next, 0, none⟩) (sLen + n) capU) v' := by
              intro a' c' H2 he hlt hnx hw2 hm2
              obtain ⟨nc, rest, hnc, hrest, hrun⟩ := app_re (P := P) (w := w) (ty := ty) h0 h1 hu hd hnd hsz hby hz he (fun w => lenB_run hx hn w) hlt hk hkb hfo' hfn'
              refine ⟨_, _, _, hrun, hm2.trans (Mv.newRow hw2 (Adds.push hw2 _) (c := old ++ new) (fr := (0, 0)) (cc := old'.toArray ++ new'.toArray ++ rest) hsz (by simp; have := hro.1; have := hrn.1; omega) (fun o v hv => ?_) (fun o _ hh => by simp at hh) rfl rfl rfl rfl), ?_⟩
              · have hrr := hro.append hrn
                obtain ⟨v', hv', hr'⟩ := hrr.get hv
                refine ⟨v', ?_, hr'⟩
                have hlt' := (List.getElem?_eq_some_iff.mp hv').1
                rw [Array.getElem?_append_left (by simpa using hlt')]
                rw [show (old'.toArray ++ new'.toArray) = (old' ++ new').toArray by simp]
                simpa using hv'
              · rw [hnx]
                refine newSlice (L := ⟨w.heap.size, 0, _, size⟩) rfl hnc (.inr rfl) ?_
                simp only [Array.size_append, List.size_toArray, hrest, hzs]
                have e1 : old'.length = sLen * size := by rw [← hro.1, hlo]
                have e2 : new'.length = n * size := by rw [← hrn.1, hln]
                rw [e1, e2, ← Nat.add_mul, ← Nat.add_mul]
                exact Nat.mul_le_mul_right _ (by omega)
            have reSame : ∀ a' c', s' = .slice a' sLen c' → c' < sLen + n → ∃ ρ' v' w', (Builtin.append_ ats ty #[s', x']).run P w = .ok v' w' ∧ Mv P ρ H w ρ' (H.push (.cells (old ++ new) elem false)) w' ∧ VRel ρ' (.slice (some ⟨H.next, 0, none⟩) (sLen + n) capU) v' :=
              fun a' c' he hlt => re a' c' H he hlt rfl h (Mv.refl h)
            split at hb
            · cases hb
              cases hs
              have e1 : old = [] := List.eq_nil_of_length_eq_zero (by rw [hlo]; simp)
              have := reSame none 0 rfl (by omega)
              rw [e1] at this
              simpa using this
            · rename_i a
              split at hb
              · rename_i hfull
                cases hb
                cases hs with
                | slice hL hl hc ht =>
                  rcases hc with hc | hc
                  · exact reSame _ _ rfl (by omega)
                  · rw [hc] at hfull
                    have : capU = 2 ^ 64 := rfl
                    omega
                | slice0 hc => exact reSame _ 0 rfl (by omega)
              · rename_i hfull
                split at hb
                · rename_i c e hg
                  split at hb
                  · rename_i hce
                    obtain ⟨rfl, hcap⟩ := hce
                    cases hb
                    obtain ⟨L, hL, cc, fr, e9, hblk, he9, hcs, hcl, hesz, hcr, hcf⟩ := h.cells _ _ _ _ hg
                    have he9 := (he9 rfl).symm; subst he9
                    rw [hsz] at hesz
                    cases hesz
                    have hkill := Mv.kill h a.block
                    cases hs with
                    | slice0 hc => exact re _ 0 _ rfl (by omega) rfl hkill.rel hkill
                    | slice hL' hl hc ht =>
                      rename_i i o c' L'
                      rw [show (⟨i, o, none⟩ : Addr).block = i from rfl] at hL
                      rw [hL'] at hL; cases hL
                      by_cases hfit : c' < sLen + n
                      · exact re _ c' _ rfl hfit rfl hkill.rel hkill
                      · -- the way that stays in its row
                        have hmul : (sLen + n) * L.esz ≤ c' * L.esz := Nat.mul_le_mul_right _ (by omega)
                        rw [Nat.add_mul] at hmul
                        have hl2 : new2.length = n * L.esz := by rw [← hrn2.1, hln2]
                        have hok2 : new2.all cellOk = true := List.all_eq_true.mpr fun y hy => by
                          obtain ⟨j, hj, rfl⟩ := List.mem_iff_getElem.mp hy
                          exact (hrn2.2 j (by have := hrn2.1; omega) hj).cellOk (List.all_eq_true.mp hok _ (List.getElem_mem _))
                        have hst := run_storeCells (P := P) (o := L.sh + o + sLen * L.esz) new2 0 w cc hblk (by omega) (fun j j1 j2 => by
                          have := hcf rfl (j - L.sh) (by omega)
                          rw [show L.sh + (j - L.sh) = j by omega] at this
                          exact this) hok2
                        refine ⟨ρ.put H.next ⟨L.blk, L.sh + o, L.tot - o, L.esz⟩, _, _, app_in (P := P) (w := w) (ty := ty) h0 h1 hu hd hnd hsz (lenB_run hx hn w) (by omega) hfn2 (fun b hb => by cases hb; rw [add_none]; exact hst) (fun hb => by cases hb), ?_, ?_⟩
                        · have hold : ∀ (j : Nat) (v : Value), old[j]? = some v → c[o + j]? = some v := by
                            intro j v hj
                            simp only [firstB, Nat.le_refl, if_true] at hfo
                            split at hfo
                            · cases hfo; simp at hj
                            · unfold getCells at hfo
                              simp only [hg] at hfo
                              split at hfo
                              · cases hfo
                                rw [List.getElem?_take] at hj
                                split at hj
                                · rwa [List.getElem?_drop] at hj
                                · cases hj
                              · cases hfo
                          refine Mv.move h hg hL' (w' := { w with heap := w.heap.setIfInBounds L.blk (.cells (setA cc (L.sh + o + sLen * L.esz + 0) new2) e fr) }) (L' := ⟨L.blk, L.sh + o, L.tot - o, L.esz⟩) (cc' := setA cc (L.sh + o + sLen * L.esz + 0) new2) (fr := fr) rfl rfl rfl rfl rfl (by rw [setA_size]; simp only; omega) (by simp only [List.length_append, hlo, hln]; omega) hsz (fun j v hj => ?_) (fun j hj => by
                            have := hcf rfl (o + j) (by simp only at hj; omega)
                            rw [show L.sh + (o + j) = L.sh + o + j by omega] at this
                            exact this)
                          rw [setA_get _ _ _ _ (by omega)]
                          simp only
                          by_cases hin : j < old.length
                          · rw [List.getElem?_append_left hin] at hj
                            rw [if_neg (by omega)]
                            have := hcr _ _ (hold j v hj)
                            rwa [show L.sh + (o + j) = L.sh + o + j by omega] at this
                          · rw [List.getElem?_append_right (by omega)] at hj
                            have hj2 := (List.getElem?_eq_some_iff.mp hj).1
                            rw [if_pos (by omega), show L.sh + o + j - (L.sh + o + sLen * L.esz + 0) = j - old.length by omega]
                            exact hrn2.get hj
                        · have := VRel.slice (ρ := ρ.put H.next ⟨L.blk, L.sh + o, L.tot - o, L.esz⟩) (i := H.next) (o := 0) (l := sLen + n) (c := capU) (c' := c') (L := ⟨L.blk, L.sh + o, L.tot - o, L.esz⟩) Ren.put_same (by omega) (.inr rfl) (by simp only; omega)
                          simpa using this
                  · cases hb
                · cases hb
          · cases hb
      · cases hb
    · cases hb
  · cases hb

end Go.B

namespace Go.B
open Go

variable {P : Program} [Dem P] {ρ : Ren} {H : Heap} {w : World}

theorem bytesOf_spec : ∀ {l : List Value} {bs : List UInt8}, bytesOf l = some bs → ∃ ns : List Int, l = ns.map (Value.int .u8) ∧ bs = ns.map fun n => UInt8.ofNat n.toNat := by
  intro l
  induction l with
  | nil => intro bs h; cases h; exact ⟨[], rfl, rfl⟩
  | cons v l ih =>
    intro bs h
    unfold bytesOf at h
    split at h
    · rename_i h2; cases h2
    · rename_i n l' h2
      cases h2
      cases hb : bytesOf l with
      | none => rw [hb] at h; cases h
      | some bs' =>
        rw [hb] at h; cases h
        obtain ⟨ns, h1, h2⟩ := ih hb
        exact ⟨n :: ns, by rw [h1]; rfl, by rw [h2]; rfl⟩
    · cases h

theorem LRel.of_ints {k : IntKind} : ∀ {ns : List Int} {l' : List Value}, LRel ρ (ns.map (Value.int k)) l' → l' = ns.map (Value.int k) := by
  intro ns
  induction ns with
  | nil => intro l' h; exact List.eq_nil_of_length_eq_zero h.1.symm
  | cons n ns ih =>
    intro l' h
    cases l' with
    | nil => have := h.1; simp at this
    | cons v l' =>
      simp only [List.map_cons] at h ⊢
      have h1 := h.head
      cases h1
      rw [ih h.tail]

theorem toString_run (h : WRel P ρ H w) {src dst el : TypeId} {x x' : Value} {base : Option Addr} {len cap : Nat} {l : List Value} {bs : List UInt8} (hs : P.underlying src = some (.slice el)) (hd : P.underlying dst = some .string) (he : P.underlying el = some (.int .u8))
    (hxe : x = .slice base len cap) (hx : VRel ρ x x') (hf : firstB H 1 len x = some l) (hb : bytesOf l = some bs) : (convert src dst x').run P w = .ok (.string ⟨bs.toArray⟩) w := by
  obtain ⟨ns, rfl, rfl⟩ := bytesOf_spec hb
  obtain ⟨l', hrun, hr, hn⟩ := firstB_run h hx hf
  have hl' := hr.of_ints
  subst hl'
  subst hxe
  cases hx with
  | sliceNil =>
    rw [run_convert_bytes_nil w src el hs he 0 0 dst hd]
    simp only [List.length_map, Nat.zero_mul] at hn
    rw [List.eq_nil_of_length_eq_zero hn]
    rfl
  | slice hL hl hc ht =>
    simp only [Builtin.firstCells, Nat.mul_one] at hrun
    rw [run_convert_bytes_string w src dst el _ _ _ hs he hd, run_bytesToString w _ _ _ ns (by rw [hrun]), foldl_push_bytes]
    simp [ByteArray.empty, ByteArray.emptyWithCapacity]
    rfl
  | slice0 hc =>
    simp only [Builtin.firstCells, Nat.mul_one] at hrun
    rw [run_convert_bytes_string w src dst el _ _ _ hs he hd, run_bytesToString w _ _ _ ns (by rw [hrun]), foldl_push_bytes]
    simp [ByteArray.empty, ByteArray.emptyWithCapacity]
    rfl

theorem push_set {α : Type} (x : Array α) (a b : α) : (x.push a).setIfInBounds x.size b = x.push b := by
  apply Array.ext
  · simp
  · intro i h1 h2
    by_cases e : x.size = i
    · subst e; simp
    · have h3 : i < x.size := by simp at h2; omega
      rw [Array.getElem_setIfInBounds_ne (by simp; omega) e, Array.getElem_push_lt h3, Array.getElem_push_lt h3]

omit [Dem P] in
theorem run_mark (cc : Array Value) (e : TypeId) (w : World) : (markStringish ⟨w.heap.size, 0, none⟩).run P { w with heap := w.heap.push (.cells cc e) } = .ok () { w with heap := w.heap.push (.cells cc e (cc.size, cc.size + 1)) } := by
  have hb : (w.heap.push (.cells cc e))[w.heap.size]? = some (.cells cc e) := by simp
  unfold markStringish
  rw [run_bind]
  have hs : (shape w.heap.size).run P { w with heap := w.heap.push (.cells cc e) } = .ok (some (e, cc.size)) { w with heap := w.heap.push (.cells cc e) } := by
    show Result.ok (World.shape? { w with heap := w.heap.push (.cells cc e) } w.heap.size) _ = _
    unfold World.shape?
    simp only [hb]
  simp only [hs]
  show Result.ok () (World.freeze { w with heap := w.heap.push (.cells cc e) } ⟨w.heap.size, cc.size, none⟩ 1) = _
  unfold World.freeze
  rw [if_neg (by decide)]
  simp only []
  rw [modify_eq _ hb, push_set]
  simp

theorem toBytes_run (h : WRel P ρ H w) {H2 : Heap} {j : Nat} {src dst el : TypeId} {s : ByteArray} (ha : Adds ρ H H2 j (.cells (s.data.toList.map fun b : UInt8 => .int .u8 b.toNat) el false)) (hs : P.underlying src = some .string) (hd : P.underlying dst = some (.slice el)) (he : P.underlying el = some (.int .u8)) (hsz : szOf P el = some 1) :
    ∃ ρ' v' w', (convert src dst (.string s)).run P w = .ok v' w' ∧ Mv P ρ H w ρ' H2 w' ∧ VRel ρ' (.slice (some ⟨j, 0, none⟩) s.size capU) v' := by
  have hsize : s.data.size = s.size := rfl
  obtain ⟨q, hq⟩ : ∃ q, w.tape w.drawn (.appendCap s.size 0 el) % (2 ^ 63 - s.size) = q := ⟨_, rfl⟩
  have e : ((s.data.map fun b : UInt8 => Value.int .u8 b.toNat) ++ Array.replicate (s.size + q - s.size) (Value.int .u8 0)).size = s.size + q := by simp only [Array.size_append, Array.size_map, Array.size_replicate, hsize]; omega
  refine ⟨ρ.put j ⟨w.heap.size, 0, s.size + q, 1⟩, .slice (some ⟨w.heap.size, 0, none⟩) s.size (s.size + q),
    { w with drawn := w.drawn + 1, heap := w.heap.push (.cells ((s.data.map fun b : UInt8 => Value.int .u8 b.toNat) ++ Array.replicate (s.size + q - s.size) (.int .u8 0)) el (s.size + q, s.size + q + 1)) }, ?_, ?_, ?_⟩
  · unfold convert
    simp only [run_bind, run_underlying hs, run_underlying hd, run_underlying he]
    unfold Conv.stringToBytes
    simp only [run_bind, run_cap, run_newRow, run_pure, hq]
    have := run_mark (P := P) ((s.data.map fun b : UInt8 => Value.int .u8 b.toNat) ++ Array.replicate (s.size + q - s.size) (.int .u8 0)) el { w with drawn := w.drawn + 1 }
    rw [e] at this
    rw [this]
  · have hm := Mv.newRow (w' := { w with drawn := w.drawn + 1, heap := w.heap.push (.cells ((s.data.map fun b : UInt8 => Value.int .u8 b.toNat) ++ Array.replicate (s.size + q - s.size) (.int .u8 0)) el (s.size + q, s.size + q + 1)) }) h ha
      (c := s.data.toList.map fun b : UInt8 => Value.int .u8 b.toNat) (cc := (s.data.map fun b : UInt8 => Value.int .u8 b.toNat) ++ Array.replicate (s.size + q - s.size) (.int .u8 0)) (fr := (s.size + q, s.size + q + 1)) hsz (by simp) (fun o v hv => by
        have h0 : LRel ρ (s.data.toList.map fun b : UInt8 => Value.int .u8 b.toNat) (s.data.map fun b : UInt8 => Value.int .u8 b.toNat).toList := by
          rw [Array.toList_map]
          exact LRel.map _ fun _ => .int _ _
        obtain ⟨v', a, b⟩ := h0.arr o v hv
        refine ⟨v', ?_, b⟩
        rw [Array.getElem?_append_left ((Array.getElem?_eq_some_iff.mp a).1)]
        exact a) (fun o ho => by rw [e] at ho; simp only; omega) rfl rfl rfl rfl
    rw [e] at hm
    exact hm
  · exact newSlice (L := ⟨w.heap.size, 0, _, 1⟩) rfl (Nat.le_add_right _ _) (.inr rfl) (by simp)


def strip (es : List MapEntry) : List MapEntry := es.map fun e => { e with val := undef }

def KRel (es es' : List MapEntry) : Prop := es.map (·.key) = es'.map (·.key)

theorem findNow_rel (kind : TypeDesc) (k : Value) : ∀ (es es' : List MapEntry) (i : Nat), KRel es es' → ∀ r, Instr.findNow kind k (strip es) i = some r →
    Instr.findNow kind k es' i = some (r.bind fun p => (es'[p.1 - i]?).map fun e => (p.1, e.val)) ∧ ∀ p, r = some p → i ≤ p.1 ∧ p.1 - i < es'.length := by
  intro es
  induction es with
  | nil =>
    intro es' i hk r h
    cases es' with
    | nil => simp only [strip, List.map_nil, Instr.findNow, Option.some.injEq] at h; subst h; exact ⟨rfl, fun p hp => by cases hp⟩
    | cons a b => simp [KRel] at hk
  | cons e es ih =>
    intro es' i hk r h
    cases es' with
    | nil => simp [KRel] at hk
    | cons e' es' =>
      simp only [KRel, List.map_cons, List.cons.injEq] at hk
      obtain ⟨h1, h2⟩ := hk
      simp only [strip, List.map_cons, Instr.findNow] at h ⊢
      rw [h1] at h
      cases hs : Instr.sameNow kind k e'.key with
      | none => rw [hs] at h; cases h
      | some b =>
        rw [hs] at h
        cases b with
        | true => simp only [Option.some.injEq] at h; subst h; exact ⟨by simp, fun p hp => by cases hp; exact ⟨Nat.le_refl _, by simp⟩⟩
        | false =>
          simp only at h ⊢
          obtain ⟨h3, h4⟩ := ih es' (i + 1) h2 r h
          refine ⟨?_, fun p hp => ?_⟩
          · rw [h3]
            cases r with
            | none => rfl
            | some p =>
              obtain ⟨h5, h6⟩ := h4 p rfl
              simp only [Option.bind_some]
              rw [show p.1 - i = (p.1 - (i + 1)) + 1 by omega]
              rfl
          · obtain ⟨h5, h6⟩ := h4 p hp
            exact ⟨by omega, by simp; omega⟩

theorem findNow_none (kind : TypeDesc) (k : Value) : ∀ (es es' : List MapEntry) (i : Nat), KRel es es' → Instr.findNow kind k (strip es) i = none → Instr.findNow kind k es' i = none := by
  intro es
  induction es with
  | nil => intro es' i hk h; simp [strip, Instr.findNow] at h
  | cons e es ih =>
    intro es' i hk h
    cases es' with
    | nil => simp [KRel] at hk
    | cons e' es' =>
      simp only [KRel, List.map_cons, List.cons.injEq] at hk
      obtain ⟨h1, h2⟩ := hk
      simp only [strip, List.map_cons, Instr.findNow] at h ⊢
      rw [h1] at h
      cases hs : Instr.sameNow kind k e'.key with
      | none => rfl
      | some b =>
        rw [hs] at h
        cases b with
        | true => cases h
        | false => exact ih es' (i + 1) h2 h

omit [Dem P] in
theorem findAsking_rel (kt : TypeId) (k : Value) : ∀ (es es' : List MapEntry) (i : Nat), KRel es es' → ∀ r, runP P (Instr.findAsking kt k (strip es) i) = some r →
    (∀ w, (Instr.findAsking kt k es' i).run P w = .ok (r.bind fun p => (es'[p.1 - i]?).map fun e => (p.1, e.val)) w) ∧ ∀ p, r = some p → i ≤ p.1 ∧ p.1 - i < es'.length := by
  intro es
  induction es with
  | nil =>
    intro es' i hk r h
    cases es' with
    | nil =>
      simp only [strip, List.map_nil, Instr.findAsking] at h
      cases (show some none = some r from h)
      exact ⟨fun _ => rfl, fun p hp => by cases hp⟩
    | cons a b => simp [KRel] at hk
  | cons e es ih =>
    intro es' i hk r h
    cases es' with
    | nil => simp [KRel] at hk
    | cons e' es' =>
      simp only [KRel, List.map_cons, List.cons.injEq] at hk
      obtain ⟨h1, h2⟩ := hk
      simp only [strip, List.map_cons, Instr.findAsking] at h ⊢
      rw [runP_bind, h1] at h
      cases hs : runP P (Op.equal kt k e'.key) with
      | none => rw [hs] at h; cases h
      | some b =>
        rw [hs] at h
        simp only [Option.bind_some] at h
        cases b with
        | true =>
          cases (show some (some (i, undef)) = some r from h)
          exact ⟨fun w => by rw [bind_ok (runP_run hs w)]; simp [run_pure], fun p hp => by cases hp; exact ⟨Nat.le_refl _, by simp⟩⟩
        | false =>
          rw [if_neg (by simp)] at h
          obtain ⟨h3, h4⟩ := ih es' (i + 1) h2 r h
          refine ⟨fun w => ?_, fun p hp => ?_⟩
          · rw [bind_ok (runP_run hs w), if_neg (by simp), h3]
            cases r with
            | none => rfl
            | some p =>
              obtain ⟨h5, h6⟩ := h4 p rfl
              simp only [Option.bind_some]
              rw [show p.1 - i = (p.1 - (i + 1)) + 1 by omega]
              rfl
          · obtain ⟨h5, h6⟩ := h4 p hp
            exact ⟨by omega, by simp; omega⟩

omit [Dem P] in
theorem keyAt_run {kt : TypeId} {k : Value} {es es' : List MapEntry} {r : Option Nat} (hk : KRel es es') (h : keyAt P kt k es = some r) :
    (∀ w, (Instr.findKey kt k es').run P w = .ok (r.bind fun i => (es'[i]?).map fun e => (i, e.val)) w) ∧ ∀ i, r = some i → i < es'.length := by
  unfold keyAt at h
  cases hq : runP P (Instr.findKey kt k (es.map fun e => { e with val := undef })) with
  | none => rw [hq] at h; cases h
  | some q =>
    rw [hq] at h
    simp only [Option.map_some, Option.some.injEq] at h
    subst h
    have hs : (es.map fun e => { e with val := undef }) = strip es := rfl
    rw [hs] at hq
    unfold Instr.findKey at hq ⊢
    rw [runP_bind, runP_underlying] at hq
    cases hu : P.underlying kt with
    | none => rw [hu] at hq; cases hq
    | some d =>
      rw [hu] at hq
      simp only [Option.bind_some] at hq
      cases hn : Instr.findNow d k (strip es) 0 with
      | some r =>
        rw [hn] at hq
        obtain rfl : r = q := Option.some.inj (show some r = some q from hq)
        obtain ⟨h3, h4⟩ := findNow_rel d k es es' 0 hk r hn
        refine ⟨fun w => ?_, fun i hi => ?_⟩
        · rw [bind_ok (run_underlying hu w), h3]
          simp only [run_pure]
          cases r <;> simp
        · cases r with
          | none => cases hi
          | some p => simp only [Option.map_some, Option.some.injEq] at hi; subst hi; have := h4 p rfl; omega
      | none =>
        rw [hn] at hq
        obtain ⟨h3, h4⟩ := findAsking_rel kt k es es' 0 hk q hq
        refine ⟨fun w => ?_, fun i hi => ?_⟩
        · rw [bind_ok (run_underlying hu w), findNow_none d k es es' 0 hk hn]
          simp only [h3]
          cases q <;> simp
        · cases q with
          | none => cases hi
          | some p => simp only [Option.map_some, Option.some.injEq] at hi; subst hi; have := h4 p rfl; omega

end Go.B

namespace Go.B
open Go

variable {P : Program} [Dem P] {ρ : Ren} {H : Heap} {w : World}

def ERel (ρ : Ren) (x y : List MapEntry) : Prop := x.length = y.length ∧ ∀ (i : Nat) (h : i < x.length) (h' : i < y.length), EnRel ρ x[i] y[i]

theorem MapAt.erel {L : Loc} {es : List MapEntry} {clk : Nat} (h : MapAt ρ w L es clk) : ∃ es' : Array MapEntry, w.heap[L.blk]? = some (.map es' clk) ∧ ERel ρ es es'.toList := by
  obtain ⟨es', h1, h2, h3⟩ := h
  exact ⟨es', h1, by simpa using h2, fun i a b => by rw [Array.getElem_toList]; exact h3 i a (by simpa using b)⟩

theorem ERel.mapAt {L : Loc} {es : List MapEntry} {es' : Array MapEntry} {clk : Nat} (hb : w.heap[L.blk]? = some (.map es' clk)) (h : ERel ρ es es'.toList) : MapAt ρ w L es clk :=
  ⟨es', hb, by simpa using h.1, fun i a b => by have := h.2 i a (by simpa using b); rwa [Array.getElem_toList] at this⟩

theorem ERel.keys {x y : List MapEntry} (h : ERel ρ x y) : KRel x y := by
  unfold KRel
  apply List.ext_getElem
  · simp [h.1]
  · intro i h1 h2
    simp only [List.getElem_map]
    exact (h.2 i (by simpa using h1) (by simpa using h2)).1.symm

theorem ERel.get {x y : List MapEntry} (h : ERel ρ x y) {i : Nat} {a : MapEntry} (ha : x[i]? = some a) : ∃ b, y[i]? = some b ∧ EnRel ρ a b := by
  obtain ⟨hi, rfl⟩ := List.getElem?_eq_some_iff.mp ha
  have hi' : i < y.length := h.1 ▸ hi
  exact ⟨y[i], List.getElem?_eq_getElem hi', h.2 i hi hi'⟩

omit [Dem P] in
theorem run_getObj {r : Nat} {es : Array MapEntry} {clk : Nat} (h : w.heap[r]? = some (.map es clk)) : (getObj r).run P w = .ok (.map es clk) w := by
  show (Sem.getObj r Sem.pure).run P w = _
  simp only [Sem.run, h]

omit [Dem P] in
theorem run_setObj {r : Nat} {es : Array MapEntry} {clk : Nat} (h : w.heap[r]? = some (.map es clk)) (o : Obj) : (setObj r o).run P w = .ok () { w with heap := w.heap.setIfInBounds r o } := by
  show (Sem.setObj r o (.pure ())).run P w = _
  simp only [Sem.run, h]

omit [Dem P] in
theorem keyOk_spec {kt : TypeId} {k k' : Value} {b : Bool} (hk : VRel ρ k k') (h : keyOk P kt k b = true) : k' = k ∧ ∀ w, (Instr.checkKey b 10000 kt k).run P w = .ok () w := by
  unfold keyOk at h
  simp only [Bool.and_eq_true] at h
  refine ⟨VRel.of_scalA h.1 hk, fun w => ?_⟩
  cases hq : runP P (Instr.checkKey b 10000 kt k) with
  | none => rw [hq] at h; simp at h
  | some u => exact runP_run hq w

theorem isEmpty_same {x : List MapEntry} {y : Array MapEntry} (h : x.length = y.toList.length) : y.isEmpty = x.isEmpty := by
  cases x with
  | nil => simp at h; simp; exact Array.eq_empty_of_size_eq_zero h.symm
  | cons a b =>
    simp at h
    have : y ≠ #[] := by intro e; subst e; simp at h
    simp [this]

theorem lookup_run (h : WRel P ρ H w) {t kt et : TypeId} {m m' k k' v : Value} {es : List MapEntry} {ok : Bool} (hu : P.underlying t = some (.map kt et)) (hm : VRel ρ m m') (hk : VRel ρ k k')
    (hes : m = .map none ∧ es = [] ∨ ∃ i clk, m = .map (some i) ∧ H.get i = some (.map es clk)) (hko : keyOk P kt k es.isEmpty = true)
    (hv : (∃ i en, keyAt P kt k es = some (some i) ∧ es[i]? = some en ∧ v = if ok then .tuple #[en.val, .bool true] else en.val) ∨ (∃ z, keyAt P kt k es = some none ∧ zeroOf P et = some z ∧ isScalA z = true ∧ v = if ok then .tuple #[z, .bool false] else z)) :
    ∃ v', (Instr.lookup t m' k' ok).run P w = .ok v' w ∧ VRel ρ v v' := by
  obtain ⟨rfl, hck⟩ := keyOk_spec hk hko
  have fin : ∀ es' : Array MapEntry, ERel ρ es es'.toList → ∃ r : Option (Nat × Value), (Instr.findKey kt k' es'.toList).run P w = .ok r w ∧
      ((∃ j en', r = some (j, en') ∧ VRel ρ v (if ok then .tuple #[en', .bool true] else en')) ∨ (∃ z, r = none ∧ zeroOf P et = some z ∧ VRel ρ v (if ok then .tuple #[z, .bool false] else z))) := by
    intro es' hE
    rcases hv with ⟨i, en, h1, h2, rfl⟩ | ⟨z, h1, h2, h3, rfl⟩
    · obtain ⟨hf, hlt⟩ := keyAt_run hE.keys h1
      obtain ⟨en', he', hr⟩ := hE.get h2
      refine ⟨_, hf w, .inl ⟨i, en'.val, by simp only [Option.bind_some, he', Option.map_some], ?_⟩⟩
      cases ok with
      | true => exact LRel.tuple (.cons hr.2.2 (.cons (.bool _) .nil))
      | false => exact hr.2.2
    · obtain ⟨hf, -⟩ := keyAt_run hE.keys h1
      refine ⟨_, hf w, .inr ⟨z, rfl, h2, ?_⟩⟩
      cases ok with
      | true => exact LRel.tuple (.cons (.scalA h3) (.cons (.bool _) .nil))
      | false => exact .scalA h3
  rcases hes with ⟨rfl, rfl⟩ | ⟨i, clk, rfl, hg⟩
  · cases hm
    obtain ⟨r, hf, hr⟩ := fin #[] ⟨rfl, fun i a _ => absurd a (by simp)⟩
    have hck2 := hck w
    rw [show ([] : List MapEntry).isEmpty = (#[] : Array MapEntry).isEmpty from rfl] at hck2
    rcases hr with ⟨j, en', rfl, hr⟩ | ⟨z, rfl, hz, hr⟩
    · refine ⟨_, ?_, hr⟩
      unfold Instr.lookup
      simp only [run_bind, run_underlying hu, run_pure, hck2, hf]
    · refine ⟨_, ?_, hr⟩
      unfold Instr.lookup
      simp only [run_bind, run_underlying hu, run_pure, hck2, hf, run_zeroValue hz]
  · cases hm with | map hL =>
    obtain ⟨L2, hL', hM⟩ := h.maps _ _ _ hg
    rw [hL] at hL'; cases hL'
    obtain ⟨es', hb, hE⟩ := hM.erel
    obtain ⟨r, hf, hr⟩ := fin es' hE
    rcases hr with ⟨j, en', rfl, hr⟩ | ⟨z, rfl, hz, hr⟩
    · refine ⟨_, ?_, hr⟩
      unfold Instr.lookup
      simp only [run_bind, run_underlying hu, run_getObj hb, run_pure, isEmpty_same hE.1, hck w, hf]
    · refine ⟨_, ?_, hr⟩
      unfold Instr.lookup
      simp only [run_bind, run_underlying hu, run_getObj hb, run_pure, isEmpty_same hE.1, hck w, hf, run_zeroValue hz]

theorem mapSet_mv (h : WRel P ρ H w) {i : Nat} {L : Loc} {es es2 : List MapEntry} {clk clk2 : Nat} {es2' : Array MapEntry} (hg : H.get i = some (.map es clk)) (hL : ρ i = some L) (hE : ERel ρ es2 es2'.toList) :
    Mv P ρ H w ρ (H.set i (.map es2 clk2)) { w with heap := w.heap.setIfInBounds L.blk (.map es2' clk2) } :=
  Mv.setObj h (.inr ⟨es, clk, hg⟩) hL (.map es2' clk2) rfl (fun w2 hw2 => ⟨fun _ _ _ he => (by cases he), fun es3 clk3 he => (by cases he; exact hE.mapAt hw2)⟩) rfl rfl rfl

theorem update_run (h : WRel P ρ H w) {t kt et : TypeId} {i clk : Nat} {m' k k' x x' : Value} {es es2 : List MapEntry} {clk2 : Nat} (hu : P.underlying t = some (.map kt et)) (hm : VRel ρ (.map (some i)) m') (hk : VRel ρ k k') (hx : VRel ρ x x')
    (hg : H.get i = some (.map es clk)) (hko : keyOk P kt k false = true)
    (hv : (∃ j en, keyAt P kt k es = some (some j) ∧ es[j]? = some en ∧ Instr.sameBits 10000 en.key k = true ∧ es2 = es.modify j (fun en => { en with key := k, val := x }) ∧ clk2 = clk) ∨ (keyAt P kt k es = some none ∧ es2 = es ++ [{ key := k, val := x, born := clk }] ∧ clk2 = clk + 1)) :
    ∃ w', (Instr.mapUpdate t m' k' x').run P w = .ok () w' ∧ Mv P ρ H w ρ (H.set i (.map es2 clk2)) w' := by
  obtain ⟨rfl, hck⟩ := keyOk_spec hk hko
  cases hm with | map hL =>
  rename_i L
  obtain ⟨L2, hL', hM⟩ := h.maps _ _ _ hg
  rw [hL] at hL'; cases hL'
  obtain ⟨es', hb, hE⟩ := hM.erel
  unfold Instr.mapUpdate
  rw [bind_ok (run_underlying hu w)]
  simp only []
  rw [bind_ok (run_getObj hb)]
  simp only []
  rw [bind_ok (hck w)]
  rcases hv with ⟨j, en, h1, h2, h3, rfl, rfl⟩ | ⟨h1, rfl, rfl⟩
  · obtain ⟨hf, hlt⟩ := keyAt_run hE.keys h1
    obtain ⟨en', he', hr⟩ := hE.get h2
    have hj := hlt j rfl
    refine ⟨_, ?_, mapSet_mv h hg hL (es2' := es'.modify j fun e => { e with key := k', val := x' }) ?_⟩
    · rw [bind_ok (hf w)]
      simp only [Option.bind_some, he', Option.map_some]
      have he2 : es'[j]? = some en' := by simpa using he'
      rw [he2]
      simp only [Option.map_some, Option.getD_some, hr.1]
      unfold Instr.keyThatStays
      rw [if_pos h3, bind_ok (run_pure k' w)]
      exact run_setObj hb _
    · refine ⟨by simpa using hE.1, fun q a b => ?_⟩
      simp only [List.getElem_modify, Array.toList_modify]
      split
      · rename_i e; exact ⟨rfl, (hE.2 q (by simpa using a) (by simpa using b)).2.1, hx⟩
      · exact hE.2 q (by simpa using a) (by simpa using b)
  · obtain ⟨hf, -⟩ := keyAt_run hE.keys h1
    refine ⟨_, ?_, mapSet_mv h hg hL (es2' := es'.push { key := k', val := x', born := clk }) ?_⟩
    · rw [bind_ok (hf w)]
      simp only [Option.bind_none]
      exact run_setObj hb _
    · refine ⟨by simpa using hE.1, fun q a b => ?_⟩
      simp only [Array.toList_push]
      by_cases hq : q < es.length
      · rw [List.getElem_append_left hq, List.getElem_append_left (hE.1 ▸ hq)]
        exact hE.2 q hq (hE.1 ▸ hq)
      · have hle := hE.1
        rw [List.getElem_append_right (by omega), List.getElem_append_right (by omega)]
        simp only [List.getElem_singleton]
        exact ⟨rfl, rfl, hx⟩

theorem delete_run (h : WRel P ρ H w) {t kt et : TypeId} {i clk : Nat} {ats : Array TypeId} {ty : TypeId} {m' k k' : Value} {es : List MapEntry} {H' : Heap} (hat : ats[0]? = some t) (hu : P.underlying t = some (.map kt et)) (hm : VRel ρ (.map (some i)) m') (hk : VRel ρ k k')
    (hg : H.get i = some (.map es clk)) (hko : keyOk P kt k es.isEmpty = true)
    (hv : (∃ j, keyAt P kt k es = some (some j) ∧ H' = H.set i (.map (es.eraseIdx j) clk)) ∨ (keyAt P kt k es = some none ∧ H' = H)) :
    ∃ w', (Builtin.delete_ ats ty #[m', k']).run P w = .ok (.tuple #[]) w' ∧ Mv P ρ H w ρ H' w' := by
  obtain ⟨rfl, hck⟩ := keyOk_spec hk hko
  cases hm with | map hL =>
  rename_i L
  obtain ⟨L2, hL', hM⟩ := h.maps _ _ _ hg
  rw [hL] at hL'; cases hL'
  obtain ⟨es', hb, hE⟩ := hM.erel
  unfold Builtin.delete_
  simp only [hat, List.getElem?_toArray, List.getElem?_cons_zero, List.getElem?_cons_succ]
  rw [bind_ok (run_underlying hu w)]
  simp only []
  rcases hv with ⟨j, h1, rfl⟩ | ⟨h1, rfl⟩
  · obtain ⟨hf, hlt⟩ := keyAt_run hE.keys h1
    have hj := hlt j rfl
    have hj2 : es'.toList[j]? = some es'.toList[j] := List.getElem?_eq_getElem hj
    refine ⟨_, ?_, mapSet_mv h hg hL (es2' := es'.eraseIdxIfInBounds j) ?_⟩
    · simp only [run_bind, run_getObj hb, isEmpty_same hE.1, hck w, hf w, Option.bind_some, hj2, Option.map_some, run_setObj hb, run_pure]
    · have hjs : j < es'.size := by simpa using hj
      have he : (es'.eraseIdxIfInBounds j).toList = es'.toList.eraseIdx j := by
        unfold Array.eraseIdxIfInBounds
        rw [dif_pos hjs, Array.toList_eraseIdx]
      rw [he]
      have hle := hE.1
      refine ⟨by rw [List.length_eraseIdx, List.length_eraseIdx, hle], fun q a b => ?_⟩
      rw [List.getElem_eraseIdx, List.getElem_eraseIdx]
      rw [List.length_eraseIdx] at a b
      split
      · exact hE.2 q (by omega) (by omega)
      · exact hE.2 (q + 1) (by split at a <;> omega) (by split at b <;> omega)
  · obtain ⟨hf, -⟩ := keyAt_run hE.keys h1
    refine ⟨{ w with heap := w.heap.setIfInBounds L.blk (.map es' clk) }, ?_, ?_⟩
    · simp only [run_bind, run_getObj hb, isEmpty_same hE.1, hck w, hf w, Option.bind_none, run_setObj hb, run_pure]
    · have e : w.heap.setIfInBounds L.blk (.map es' clk) = w.heap := by
        apply Array.ext
        · simp
        · intro j h1 h2
          by_cases ej : L.blk = j
          · subst ej; simp only [Array.getElem_setIfInBounds_self]; exact ((Array.getElem?_eq_some_iff.mp hb).2).symm
          · rw [Array.getElem_setIfInBounds_ne h2 ej]
      rw [e]
      exact Mv.refl h

theorem args2 {e e' : Operand → Value} (he : ∀ x, VRel ρ (e x) (e' x)) {xs : Array Operand} {a b : Value} (h : xs.map e = #[a, b]) : ∃ a' b', xs.map e' = #[a', b'] ∧ VRel ρ a a' ∧ VRel ρ b b' := by
  obtain ⟨l⟩ := xs
  simp only [List.map_toArray, Array.mk.injEq] at h
  match l, h with
  | [x, y], h =>
    simp only [List.map_cons, List.map_nil, List.cons.injEq, and_true] at h
    obtain ⟨rfl, rfl⟩ := h
    exact ⟨e' x, e' y, by simp, he x, he y⟩
  | [], h => simp at h
  | [_], h => simp at h
  | _ :: _ :: _ :: _, h => simp at h

theorem args1 {e e' : Operand → Value} (he : ∀ x, VRel ρ (e x) (e' x)) {xs : Array Operand} {a : Value} (h : xs.map e = #[a]) : ∃ a', xs.map e' = #[a'] ∧ VRel ρ a a' := by
  obtain ⟨l⟩ := xs
  simp only [List.map_toArray, Array.mk.injEq] at h
  match l, h with
  | [x], h =>
    simp only [List.map_cons, List.map_nil, List.cons.injEq, and_true] at h
    subst h
    exact ⟨e' x, by simp, he x⟩
  | [], h => simp at h
  | _ :: _ :: _, h => simp at h

theorem func_arrs {fn : Fn} {a b : Array Value} {v' : Value} (h : VRel ρ (.func fn a b) v') : ∃ a' b', v' = .func fn a' b' ∧ LRel ρ a.toList a'.toList ∧ LRel ρ b.toList b'.toList := by
  cases h with
  | func _ hf hfg hc hcd =>
    exact ⟨_, _, rfl, ⟨by simpa using hf, fun i x y => by rw [Array.getElem_toList, Array.getElem_toList]; exact hfg i (by simpa using x) (by simpa using y)⟩,
      ⟨by simpa using hc, fun i x y => by rw [Array.getElem_toList, Array.getElem_toList]; exact hcd i (by simpa using x) (by simpa using y)⟩⟩

theorem LRel.to_func {fn : Fn} {a b a' b' : Array Value} (h : LRel ρ a.toList a'.toList) (k : LRel ρ b.toList b'.toList) : VRel ρ (.func fn a b) (.func fn a' b') :=
  .func fn (by simpa using h.1) (fun i x y => by have := h.2 i (by simpa using x) (by simpa using y); rwa [Array.getElem_toList, Array.getElem_toList] at this)
    (by simpa using k.1) (fun i x y => by have := k.2 i (by simpa using x) (by simpa using y); rwa [Array.getElem_toList, Array.getElem_toList] at this)

theorem LRel.mapA {e e' : Operand → Value} (he : ∀ x, VRel ρ (e x) (e' x)) (xs : Array Operand) : LRel ρ (xs.map e).toList (xs.map e').toList := by
  rw [Array.toList_map, Array.toList_map]
  exact LRel.map _ fun x => he x

end Go.B

namespace Go.B
open Go

variable {P : Program} [Dem P] {ρ : Ren} {H : Heap} {w : World}

theorem scal_same {e e' : Operand → Value} (he : ∀ x, VRel ρ (e x) (e' x)) {x : Operand} (h : isScalA (e x) = true) : e' x = e x := VRel.of_scalA h (he x)

theorem pureB_lands (h : WRel P ρ H w) {s : Sem Next} {v : Value} {H' : Heap} (hr : pureB P s H = some (Res.val v H')) : Lands P ρ H w (s.run P w) v H' := by
  unfold pureB at hr
  split at hr
  · rename_i v1 hq
    split at hr
    · rename_i hs
      cases hr
      exact ⟨ρ, _, w, .inl (runP_run hq w), Mv.refl h, .scalA hs⟩
    · cases hr
  · cases hr

omit [Dem P] in
theorem pureB_no_enter {s : Sem Next} {f : FuncId} {args : Array Value} (hr : pureB P s H = some (Res.enter f args)) : False := by
  unfold pureB at hr
  split at hr
  · split at hr <;> cases hr
  · cases hr

omit [Dem P] in
theorem callFunc_run {f : FuncId} {fn : Func} {c : Code} {args : Array Value} (hf : P.funcs[f]? = some fn) (hb : fn.body = some c) (hn : (fn.name == "runtime.NumGoroutine") = false) (w : World) : (callFunc f args).run P w = .ok (.enter f args) w := by
  unfold callFunc
  rw [bind_ok (run_program w)]
  simp only [hf, hn, hb, Option.isNone_some, Bool.false_eq_true, if_false]
  rfl

theorem map_val {α : Type} {o : Option α} {g : α → Res} {r : Res} (h : o.map g = some r) : ∃ a, o = some a ∧ g a = r := Option.map_eq_some_iff.mp h

omit [Dem P] in
theorem aopF_enter {e e' : Operand → Value} {o : Oper} (he : ∀ x, VRel ρ (e x) (e' x)) {f : FuncId} {args : Array Value} (ha : aopF P e o H = some (.enter f args)) :
    ∃ args', LRel ρ args.toList args'.toList ∧ ∀ {fn : Func} {c : Code}, P.funcs[f]? = some fn → fn.body = some c → (fn.name == "runtime.NumGoroutine") = false → (execOp e' o).run P w = .ok (.enter f args') w := by
  have nomap : ∀ {α : Type} {o : Option α} {g : α → Value} {k : α → Heap}, o.map (fun a => Res.val (g a) (k a)) = some (Res.enter f args) → False := fun h => by
    obtain ⟨a, _, h2⟩ := map_val h; cases h2
  obtain ⟨dst, op, ty, pos, after, guard⟩ := o
  cases op
  case call c =>
    obtain ⟨callee, cargs, ats⟩ := c
    cases callee
    case value g =>
      simp only [aopF] at ha
      split at ha
      · rename_i g' first captured hg
        cases ha
        have hg2 := he g
        rw [hg] at hg2
        obtain ⟨a', b', h1, h2, h3⟩ := func_arrs hg2
        refine ⟨a' ++ cargs.map e' ++ b', ?_, fun hf hb hn => ?_⟩
        · simp only [Array.toList_append]
          exact (h2.append (LRel.mapA he cargs)).append h3
        · simp only [execOp, resolve, h1, Deferred.ofValue]
          rw [bind_ok (run_pure _ w)]
          exact callFunc_run hf hb hn w
      · cases ha
    case builtin b =>
      simp only [aopF] at ha
      split at ha
      · split at ha
        · exact (pureB_no_enter ha).elim
        · cases ha
      · split at ha
        · exact (pureB_no_enter ha).elim
        · cases ha
      · exact (nomap ha).elim
    case invoke => simp [aopF] at ha
  case slice =>
    simp only [aopF] at ha
    split at ha <;> exact (nomap ha).elim
  case convert =>
    simp only [aopF, convertB] at ha
    split at ha
    · split at ha
      · split at ha
        · split at ha
          · exact (nomap ha).elim
          · cases ha
        · cases ha
      · cases ha
    · split at ha
      · cases ha
      · split at ha
        · exact (pureB_no_enter ha).elim
        · cases ha
  case binOp =>
    simp only [aopF] at ha
    split at ha
    · cases ha
    · cases ha
    · split at ha
      · exact (pureB_no_enter ha).elim
      · cases ha
  case unOp =>
    simp only [aopF] at ha
    split at ha
    · exact (pureB_no_enter ha).elim
    · cases ha
  case pick => simp only [aopF] at ha; split at ha <;> cases ha
  case nilCheck => simp only [aopF] at ha; split at ha <;> cases ha
  case makeInterface => simp only [aopF] at ha; split at ha <;> cases ha
  case extract =>
    simp only [aopF] at ha
    split at ha
    · exact (nomap ha).elim
    · cases ha
  all_goals (simp only [aopF] at ha)
  all_goals first
    | (cases ha; done)
    | exact (nomap ha).elim

omit [Dem P] in
theorem markB_val {e : Operand → Value} {o : Oper} {r : Res} (h : markB P e o H = some r) : ∃ v H', r = .val v H' := by
  unfold markB at h
  split at h
  case h_2 => cases h
  unfold markV at h
  split at h
  case h_2 => cases h
  split at h
  case isFalse => cases h
  unfold markR at h
  split at h
  case h_2 => cases h
  cases h
  exact ⟨_, _, rfl⟩
omit [Dem P] in
theorem aop_enter {e e' : Operand → Value} {o : Oper} (he : ∀ x, VRel ρ (e x) (e' x)) {f : FuncId} {args : Array Value} (ha : aop P e o H = some (.enter f args)) :
    ∃ args', LRel ρ args.toList args'.toList ∧ ∀ {fn : Func} {c : Code}, P.funcs[f]? = some fn → fn.body = some c → (fn.name == "runtime.NumGoroutine") = false → (execOp e' o).run P w = .ok (.enter f args') w := by
  unfold aop at ha
  split at ha
  · cases ha
  · split at ha
    · rename_i r hr
      cases ha
      obtain ⟨_, _, hv⟩ := markB_val hr
      cases hv
    · exact aopF_enter he ha

omit [Dem P] in
theorem buildB_run {t : TypeId} {ps ps' : Array (Nat × Value)} {v : Value} (h1 : ps.toList.map (·.1) = ps'.toList.map (·.1)) (h2 : LRel ρ (ps.toList.map (·.2)) (ps'.toList.map (·.2))) (hb : buildB P t ps.toList = some v) :
    ∃ v', (Instr.build t ps').run P w = .ok v' w ∧ VRel ρ v v' := by
  unfold buildB at hb
  split at hb
  · rename_i z pl hz hpl
    split at hb
    · rename_i hs
      cases hf : Instr.fill pl z.cells ps.toList with
      | none => rw [hf] at hb; cases hb
      | some cs => rw [hf] at hb; cases hb; exact build_run hz hpl hs h1 h2 hf
    · cases hb
  · cases hb

theorem buildSliceB_run (h : WRel P ρ H w) {H' : Heap} {j : Nat} {ob : AObj} (ha : Adds ρ H H' j ob) {t : TypeId} {len : Nat} {ps ps' : Array (Nat × Value)} {v : Value} (h1 : ps.toList.map (·.1) = ps'.toList.map (·.1)) (h2 : LRel ρ (ps.toList.map (·.2)) (ps'.toList.map (·.2))) (hb : buildSliceB P j t len ps.toList = some (v, ob)) :
    ∃ ρ' v' w', (Instr.buildSlice t len ps').run P w = .ok v' w' ∧ Mv P ρ H w ρ' H' w' ∧ VRel ρ' v v' := by
  unfold buildSliceB at hb
  split at hb
  · rename_i elem hu
    split at hb
    · rename_i size z hsz hz
      split at hb
      · rename_i hc
        obtain ⟨hs, hle, hzs⟩ := hc
        cases hf : Instr.fill (fun i => some (i * size, size)) ((Array.range (len * size)).map (z.cells[· % z.cells.size]!)) ps.toList with
        | none => rw [hf] at hb; cases hb
        | some cs =>
          rw [hf] at hb
          simp only [Option.map_some, Option.some.injEq, Prod.mk.injEq] at hb
          obtain ⟨rfl, rfl⟩ := hb
          obtain ⟨cs', hf', hrel⟩ := fill_rel _ _ _ _ _ h1 h2 (zeros_rel (ρ := ρ) (n := len * size) hs hzs) hf
          have hsize : ∀ (l : List (Nat × Value)) (c r : Array Value), Instr.fill (fun i => some (i * size, size)) c l = some r → r.size = c.size := by
            intro l
            induction l with
            | nil => intro c r hr; simp only [Instr.fill, Option.some.injEq] at hr; rw [hr]
            | cons p l ih =>
              intro c r hr
              obtain ⟨i, v⟩ := p
              simp only [Instr.fill] at hr
              split at hr
              · cases hr
              · rw [ih _ _ hr]
                rw [← Array.foldl_toList]
                have : ∀ (q : List (Value × Nat)) (c : Array Value), (q.foldl (fun cs x => cs.setIfInBounds (i * size + x.2) x.1) c).size = c.size := by
                  intro q
                  induction q with
                  | nil => intro c; rfl
                  | cons a q ih2 => intro c; simp only [List.foldl_cons, ih2, Array.size_setIfInBounds]
                exact this _ _
          have hcs' : cs'.size = len * size := by rw [hsize _ _ _ hf']; simp
          refine ⟨_, .slice (some ⟨w.heap.size, 0, none⟩) len len, _, ?_, newRow_mv h ha hsz hrel, newSlice (L := ⟨w.heap.size, 0, _, size⟩) rfl (Nat.le_refl _) (.inl rfl) (by simp only [hcs']; exact Nat.le_refl _)⟩
          unfold Instr.buildSlice
          rw [bind_ok (run_underlying hu w)]
          simp only []
          rw [bind_ok (run_sizeOf hsz w), if_neg (by omega)]
          by_cases h0 : len * size = 0
          · simp only [h0, if_true, run_bind, run_pure]
            have e1 : (Array.map (fun x => (#[] : Array Value)[x % (#[] : Array Value).size]!) (Array.range 0)) = (Array.range (len * size)).map (z.cells[· % z.cells.size]!) := by rw [h0]; simp
            rw [e1, hf']
            simp only [run_bind, run_newRow, run_pure]
          · simp only [h0, if_false, run_bind, run_zeroValue hz, run_pure, hf', run_newRow]
      · cases hb
    · cases hb
  · cases hb

theorem makeSliceB_run (h : WRel P ρ H w) {H' : Heap} {j : Nat} {ob : AObj} (ha : Adds ρ H H' j ob) {t : TypeId} {l l' c c' v : Value} (hl : VRel ρ l l') (hc : VRel ρ c c') (hb : makeSliceB P j t l c = some (v, ob)) :
    ∃ ρ' v' w', (Instr.makeSlice t l' c').run P w = .ok v' w' ∧ Mv P ρ H w ρ' H' w' ∧ VRel ρ' v v' := by
  unfold makeSliceB at hb
  split at hb
  · rename_i elem k1 n1 k2 n2 hu
    cases hl; cases hc
    split at hb
    · rename_i size bytes z hsz hby hz
      split at hb
      · rename_i hcond
        obtain ⟨h1, h2, h3, h4, hs, hzs⟩ := hcond
        simp only [Option.some.injEq, Prod.mk.injEq] at hb
        obtain ⟨rfl, rfl⟩ := hb
        obtain ⟨inf, hinf, rfl⟩ := run_bytes hby w
        have w1 : IntKind.i64.wrap n1 = n1 := by
          have : IntKind.i64.bits = 64 := rfl
          simp only [IntKind.wrap, this, IntKind.signed, Bool.true_and, decide_eq_true_eq]
          rw [Int.emod_eq_of_lt h1 (by omega), if_neg (by omega)]
        have w2 : IntKind.i64.wrap n2 = n2 := by
          have : IntKind.i64.bits = 64 := rfl
          simp only [IntKind.wrap, this, IntKind.signed, Bool.true_and, decide_eq_true_eq]
          rw [Int.emod_eq_of_lt (by omega) (by omega), if_neg (by omega)]
        have hb2 : ((inf.bytes : Int) * n2 > 2 ^ 48) = False := eq_false (by
          have : (inf.bytes : Int) * n2 ≤ 2 ^ 16 * 2 ^ 24 := Int.mul_le_mul (by omega) h3 (by omega) (by omega)
          omega)
        refine ⟨_, .slice (some ⟨w.heap.size, 0, none⟩) n1.toNat n2.toNat, _, ?_, newRow_mv h ha hsz (zeros_rel (n := n2.toNat * size) hs hzs), newSlice (L := ⟨w.heap.size, 0, _, size⟩) rfl (by omega) (.inl rfl) (by simp)⟩
        unfold Instr.makeSlice
        rw [bind_ok (run_underlying hu w)]
        simp only [run_bind, asInt, asIntOf, run_pure, hinf, w1, w2]
        rw [if_neg (by simp only [hb2, decide_false, Bool.or_false, Bool.or_eq_true, decide_eq_true_eq]; omega)]
        simp only [run_bind, run_askRoom, run_sizeOf hsz]
        by_cases h0 : n2.toNat * size = 0
        · simp only [h0, if_true, run_bind, run_pure, run_newRow]
          have e1 : (Array.map (fun x => (#[] : Array Value)[x % (#[] : Array Value).size]!) (Array.range 0)) = (Array.range 0).map (z.cells[· % z.cells.size]!) := by simp
          rw [e1]
        · simp only [h0, if_false, run_bind, run_zeroValue hz, run_pure, run_newRow]
      · cases hb
    · cases hb
  · cases hb

end Go.B

namespace Go.B
open Go

variable {P : Program} [Dem P] {ρ : Ren} {H : Heap} {w : World}

omit [Dem P] in
theorem nilEq_equal {t : TypeId} {x x' y y' : Value} {b : Bool} (hx : VRel ρ x x') (hy : VRel ρ y y') (hb : nilEq P t x y = some b) (w : World) (d : Nat) :
    (Op.equalIn (d + 1) t x' y').run P w = .ok b w := by
  unfold nilEq at hb
  split at hb
  · rename_i hu
    split at hb
    · cases hb; cases hx; cases hy; simp only [Op.equalIn, run_bind, run_underlying hu, run_pure]; rfl
    · cases hb; cases hy; cases hx; simp only [Op.equalIn, run_bind, run_underlying hu, run_pure]
    · cases hb
  · rename_i hu
    split at hb
    · cases hb; cases hx; cases hy <;> (simp only [Op.equalIn, run_bind, run_underlying hu, run_pure]; rfl)
    · cases hb; cases hy; cases hx <;> (simp only [Op.equalIn, run_bind, run_underlying hu, run_pure])
    · cases hb
  · rename_i hu
    split at hb
    · cases hb; cases hx; cases hy; simp only [Op.equalIn, run_bind, run_underlying hu, run_pure]
    · cases hb; cases hy; cases hx; simp only [Op.equalIn, run_bind, run_underlying hu, run_pure]
    · cases hb
  · rename_i hu
    split at hb
    · cases hb; cases hx; cases hy; simp only [Op.equalIn, run_bind, run_underlying hu, run_pure]; rfl
    · cases hb; cases hy; cases hx; simp only [Op.equalIn, run_bind, run_underlying hu, run_pure]
    · cases hb
  · cases hb

omit [Dem P] in
theorem nilEq_run {t : TypeId} {x x' y y' : Value} {b : Bool} {ox oy : Operand} (hx : VRel ρ x x') (hy : VRel ρ y y') (hb : nilEq P t x y = some b) (w : World) :
    (do eqGuard .eql t ox oy x' y'; binOp .eql t x' y' : Sem Value).run P w = .ok (.bool b) w ∧ (do eqGuard .neq t ox oy x' y'; binOp .neq t x' y' : Sem Value).run P w = .ok (.bool !b) w := by
  have he : (Op.equal t x' y').run P w = .ok b w := nilEq_equal hx hy hb w 9999
  have h1 : (do pure (Value.bool (← Op.equal t x' y')) : Sem Value).run P w = .ok (.bool b) w := by rw [bind_ok he]; rfl
  have h2 : (do pure (Value.bool (!(← Op.equal t x' y'))) : Sem Value).run P w = .ok (.bool !b) w := by rw [bind_ok he]; rfl
  have fin : ∀ (op : BinOp) (r : Value), (eqGuard op t ox oy x' y').run P w = .ok () w → (binOp op t x' y').run P w = .ok r w → (do eqGuard op t ox oy x' y'; binOp op t x' y' : Sem Value).run P w = .ok r w := fun op r a b => by rw [bind_ok a]; exact b
  unfold nilEq at hb
  split at hb
  · split at hb
    · cases hx; cases hy; exact ⟨fin _ _ rfl h1, fin _ _ rfl h2⟩
    · cases hy; cases hx; exact ⟨fin _ _ rfl h1, fin _ _ rfl h2⟩
    · cases hb
  · split at hb
    · cases hx; cases hy <;> exact ⟨fin _ _ rfl h1, fin _ _ rfl h2⟩
    · cases hy; cases hx <;> exact ⟨fin _ _ rfl h1, fin _ _ rfl h2⟩
    · cases hb
  · split at hb
    · cases hx; cases hy; exact ⟨fin _ _ rfl h1, fin _ _ rfl h2⟩
    · cases hy; cases hx; exact ⟨fin _ _ rfl h1, fin _ _ rfl h2⟩
    · cases hb
  · split at hb
    · cases hx; cases hy; exact ⟨fin _ _ rfl h1, fin _ _ rfl h2⟩
    · cases hy; cases hx; exact ⟨fin _ _ rfl h1, fin _ _ rfl h2⟩
    · cases hb
  · cases hb

theorem mapOf_spec {i : Nat} {es : List MapEntry} {clk : Nat} (h : mapOf H i = some (es, clk)) : H.get i = some (.map es clk) := by
  unfold mapOf at h
  split at h
  · rename_i e c hg
    simp only [Option.some.injEq, Prod.mk.injEq] at h
    rw [hg, h.1, h.2]
  · cases h

theorem lookupB_run (h : WRel P ρ H w) {t : TypeId} {m m' k k' v : Value} {ok : Bool} (hm : VRel ρ m m') (hk : VRel ρ k k') (hb : lookupB P H t m k ok = some v) : ∃ v', (Instr.lookup t m' k' ok).run P w = .ok v' w ∧ VRel ρ v v' := by
  unfold lookupB at hb
  split at hb
  · rename_i kt et es hu he
    split at hb
    · rename_i hko
      have hes : m = .map none ∧ es = [] ∨ ∃ i clk, m = .map (some i) ∧ H.get i = some (.map es clk) := by
        unfold entsOf at he
        split at he
        · cases he; exact .inl ⟨rfl, rfl⟩
        · rename_i i
          cases hmo : mapOf H i with
          | none => rw [hmo] at he; cases he
          | some p => rw [hmo] at he; cases he; exact .inr ⟨i, p.2, rfl, mapOf_spec hmo⟩
        · cases he
      refine lookup_run h hu hm hk hes hko ?_
      split at hb
      · rename_i i hka
        obtain ⟨en, h1, h2⟩ := Option.map_eq_some_iff.mp hb
        exact .inl ⟨i, en, hka, h1, h2.symm⟩
      · rename_i hka
        split at hb
        · rename_i z hz
          split at hb
          · rename_i hs
            cases hb
            exact .inr ⟨z, hka, hz, hs, rfl⟩
          · cases hb
        · cases hb
      · cases hb
    · cases hb
  · cases hb

theorem updateB_run (h : WRel P ρ H w) {t : TypeId} {m m' k k' x x' : Value} {H' : Heap} (hm : VRel ρ m m') (hk : VRel ρ k k') (hx : VRel ρ x x') (hb : updateB P H t m k x = some H') :
    ∃ w', (Instr.mapUpdate t m' k' x').run P w = .ok () w' ∧ Mv P ρ H w ρ H' w' := by
  unfold updateB at hb
  split at hb
  · rename_i kt et i hu
    split at hb
    · rename_i es clk hmo
      split at hb
      · rename_i hko
        split at hb
        · rename_i j hka
          split at hb
          · rename_i en hen
            split at hb
            · rename_i hs
              cases hb
              exact update_run h hu hm hk hx (mapOf_spec hmo) hko (.inl ⟨j, en, hka, hen, hs, rfl, rfl⟩)
            · cases hb
          · cases hb
        · rename_i hka
          cases hb
          exact update_run h hu hm hk hx (mapOf_spec hmo) hko (.inr ⟨hka, rfl, rfl⟩)
        · cases hb
      · cases hb
    · cases hb
  · cases hb

theorem deleteB_run (h : WRel P ρ H w) {t : TypeId} {m m' k k' : Value} {H' : Heap} {ats : Array TypeId} {ty : TypeId} (hat : ats[0]? = some t) (hm : VRel ρ m m') (hk : VRel ρ k k') (hb : deleteB P H t m k = some H') :
    ∃ w', (Builtin.delete_ ats ty #[m', k']).run P w = .ok (.tuple #[]) w' ∧ Mv P ρ H w ρ H' w' := by
  unfold deleteB at hb
  split at hb
  · rename_i kt et i hu
    split at hb
    · rename_i es clk hmo
      split at hb
      · rename_i hko
        split at hb
        · rename_i j hka
          cases hb
          exact delete_run h hat hu hm hk (mapOf_spec hmo) hko (.inl ⟨j, hka, rfl⟩)
        · rename_i hka
          cases hb
          exact delete_run h hat hu hm hk (mapOf_spec hmo) hko (.inr ⟨hka, rfl⟩)
        · cases hb
      · cases hb
    · cases hb
  · cases hb

theorem lenIn_run (h : WRel P ρ H w) {t : TypeId} {x x' : Value} {n : Int} {ats : Array TypeId} {ty : TypeId} (hat : ats[0]? = some t) (hx : VRel ρ x x') (hb : lenIn P H t x = some n) : (Builtin.len_ ats ty #[x']).run P w = .ok (goInt n) w := by
  unfold lenIn at hb
  split at hb
  · rename_i hu
    split at hb
    · cases hb; cases hx
      unfold Builtin.len_
      simp only [hat, List.getElem?_toArray, List.getElem?_cons_zero, run_bind, run_underlying hu, run_pure]
    · cases hb
  · rename_i k el hu
    cases hb
    unfold Builtin.len_
    simp only [hat, List.getElem?_toArray, List.getElem?_cons_zero, run_bind, run_underlying hu, run_pure]
  · rename_i el hu
    split at hb
    · cases hb
      cases hx <;> (unfold Builtin.len_; simp only [hat, List.getElem?_toArray, List.getElem?_cons_zero, run_bind, run_underlying hu, run_pure])
    · cases hb
  · rename_i kt et hu
    split at hb
    · cases hb; cases hx
      unfold Builtin.len_
      simp only [hat, List.getElem?_toArray, List.getElem?_cons_zero, run_bind, run_underlying hu, run_pure]
    · rename_i r
      obtain ⟨p, h1, h2⟩ := Option.map_eq_some_iff.mp hb
      subst h2
      cases hx with | map hL =>
      rename_i L
      obtain ⟨L2, hL', hM⟩ := h.maps _ _ _ (mapOf_spec h1)
      rw [hL] at hL'; cases hL'
      obtain ⟨es', hb', hE⟩ := hM.erel
      unfold Builtin.len_
      simp only [hat, List.getElem?_toArray, List.getElem?_cons_zero, run_bind, run_underlying hu, run_getObj hb', run_pure]
      have := hE.1
      simp only [Array.length_toList] at this
      rw [this]
    · cases hb
  · cases hb

theorem convertB_lands (h : WRel P ρ H w) {src dst : TypeId} {x x' v : Value} {s : Sem Next} {H' : Heap} (hx : VRel ρ x x') (hs : isScalA x = true → s = (do pure (Next.value (← convert src dst x')))) (hb : convertB P H src dst x s = some (.val v H')) :
    Lands P ρ H w ((do pure (Next.value (← convert src dst x')) : Sem Next).run P w) v H' := by
  unfold convertB at hb
  split at hb
  · rename_i base len cap
    split at hb
    · rename_i el hsrc hdst
      split at hb
      · rename_i hu8
        split at hb
        · rename_i l hf
          obtain ⟨bs, h1, h2⟩ := map_val hb
          cases h2
          have he : P.underlying el = some (.int .u8) := by unfold u8T at hu8; split at hu8 <;> simp_all
          exact Lands.val h (toString_run h hsrc hdst he rfl hx hf h1) (.string _)
        · cases hb
      · cases hb
    · cases hb
  · split at hb
    · cases hb
    · split at hb
      · rename_i hsc
        rw [← hs hsc]
        exact pureB_lands h hb
      · cases hb

theorem builtinB_run (h : WRel P ρ H w) {b : Builtin} {ats : Array TypeId} {ty : TypeId} {consts : Array Bool} {args args' : List Value} {v : Value} {H' : Heap} (ha : LRel ρ args args') (hb : builtinB P H b ats args = some (v, H')) :
    Lands P ρ H w ((builtin b ats ty consts args'.toArray).run P w) v H' := by
  unfold builtinB at hb
  split at hb
  · split at hb
    · rename_i s x
      match args', ha with
      | [s', x'], ha =>
      split at hb
      · rename_i t xt h0 h1
        split at hb
        · rename_i hap
          obtain ⟨d, hd, hnd⟩ : ∃ d, P.underlying xt = some d ∧ ∀ k, d ≠ .int k := by
            unfold appendable at hap
            split at hap
            · cases hap
            · cases hap
            · rename_i h2 h3
              cases hu : P.underlying xt with
              | none => exact absurd hu h3
              | some d => exact ⟨d, rfl, fun k e => h2 k (by rw [hu, e])⟩
          obtain ⟨ρ', v', w', hrun, hm, hv⟩ := appendB_run h (ty := ty) h0 h1 hd hnd ha.head ha.tail.head hb
          exact Lands.mv hrun hm hv
        · cases hb
      · cases hb
    · cases hb
  · split at hb
    · rename_i s x
      match args', ha with
      | [s', x'], ha =>
      split at hb
      · rename_i t h0
        obtain ⟨v', w', hrun, hm, hv⟩ := copyB_run h (ty := ty) ha.head ha.tail.head h0 hb
        exact Lands.mv hrun hm hv
      · cases hb
    · cases hb
  · split at hb
    · rename_i x
      match args', ha with
      | [x'], ha =>
      split at hb
      · rename_i t h0
        obtain ⟨n, h1, h2⟩ := Option.map_eq_some_iff.mp hb
        cases h2
        exact Lands.val h (lenIn_run h (ty := ty) h0 ha.head h1) (.int _ _)
      · cases hb
    · cases hb
  · split at hb
    · rename_i m k
      match args', ha with
      | [m', k'], ha =>
      split at hb
      · rename_i t h0
        obtain ⟨n, h1, h2⟩ := Option.map_eq_some_iff.mp hb
        cases h2
        obtain ⟨w', hrun, hm⟩ := deleteB_run h (ty := ty) h0 ha.head ha.tail.head h1
        exact Lands.mv hrun hm .undef
      · cases hb
    · cases hb
  · cases hb


omit [Dem P] in
theorem fieldOf_run {t : TypeId} {x x' v : Value} {f : Nat} (hx : VRel ρ x x') (hb : fieldOf P t x f = some v) : ∃ v', (Instr.field t x' f).run P w = .ok v' w ∧ VRel ρ v v' := by
  unfold fieldOf at hb
  split at hb
  · rename_i fs cs hu
    split at hb
    · rename_i fd hf
      cases hx with | agg hs hc =>
      rename_i cs'
      obtain ⟨v', hrun, hv⟩ := partB_run (P := P) (w := w) (LRel.of_agg (.agg hs hc)) hb
      refine ⟨v', ?_, hv⟩
      unfold Instr.field
      rw [bind_ok (run_underlying hu w)]
      simp only [hf]
      rw [bind_ok (show (asAgg (.agg cs')).run P w = .ok cs' w from rfl)]
      exact hrun
    · cases hb
  · cases hb

omit [Dem P] in
theorem indexB_run {t : TypeId} {x x' ix ix' v : Value} (hx : VRel ρ x x') (hi : VRel ρ ix ix') (hb : indexB P t x ix = some v) : ∃ v', (Instr.index t x' ix').run P w = .ok v' w ∧ VRel ρ v v' := by
  unfold indexB at hb
  split at hb
  · rename_i len elem cs k i hu
    cases hi
    split at hb
    · rename_i hlt
      obtain ⟨n, hn, hp⟩ := Option.bind_eq_some_iff.mp hb
      cases hx with | agg hs hc =>
      rename_i cs'
      obtain ⟨v', hrun, hv⟩ := partB_run (P := P) (w := w) (LRel.of_agg (.agg hs hc)) hp
      refine ⟨v', ?_, hv⟩
      unfold Instr.index
      simp only [run_bind, asIntOf, run_pure, run_underlying hu, hlt, and_self, if_true, run_sizeOf hn]
      exact hrun
    · cases hb
  · rename_i s k i hu
    cases hi
    split at hb
    · rename_i h0
      obtain ⟨b, h1, h2⟩ := Option.map_eq_some_iff.mp hb
      subst h2
      cases hx
      refine ⟨_, ?_, .int .u8 _⟩
      unfold Instr.index
      simp only [run_bind, asIntOf, run_pure, run_underlying hu, h0, if_true, h1]
    · cases hb
  · cases hb

omit [Dem P] in
theorem strSliceB_run {t : TypeId} {s : ByteArray} {lo hi mx lo' hi' mx' : Option Value} {v : Value} (hlo : ORel ρ lo lo') (hhi : ORel ρ hi hi') (hmx : ORel ρ mx mx') (hb : strSliceB P t s lo hi mx = some v) (w : World) :
    (Instr.sliceAt t (.string s) lo' hi' mx').run P w = .ok v w ∧ VRel ρ v v := by
  unfold strSliceB at hb
  split at hb
  · rename_i l h hu hl hh
    split at hb
    · rename_i hc
      cases hb
      cases mx' with
      | none => exact ⟨strSlice_run hu hlo hhi hl hh hc.1 hc.2 w, .string _⟩
      | some _ => exact hmx.elim
    · cases hb
  · cases hb

theorem aopF_val (h : WRel P ρ H w) {e e' : Operand → Value} {o : Oper} (he : ∀ x, VRel ρ (e x) (e' x)) {v : Value} {H' : Heap} (ha : aopF P e o H = some (.val v H')) :
    Lands P ρ H w ((execOp e' o).run P w) v H' := by
  have mv : ∀ {o : Option Value} {r : Value}, o.map (fun v => Res.val v H) = some (Res.val v H') → (∀ u, o = some u → ∃ v', ∃ s : Sem Value, s.run P w = .ok v' w ∧ VRel ρ u v') → True := fun _ _ => trivial
  obtain ⟨dst, op, ty, pos, after, guard⟩ := o
  cases op
  case move x => simp only [aopF, Option.some.injEq, Res.val.injEq] at ha; obtain ⟨rfl, rfl⟩ := ha; exact ⟨ρ, _, w, .inl rfl, Mv.refl h, he x⟩
  case assign x => simp only [aopF, Option.some.injEq, Res.val.injEq] at ha; obtain ⟨rfl, rfl⟩ := ha; exact ⟨ρ, _, w, .inl rfl, Mv.refl h, he x⟩
  case pick c a b =>
    simp only [aopF] at ha
    split at ha
    · rename_i t hc
      cases ha
      have hc2 := he c
      rw [hc] at hc2
      refine ⟨ρ, if t then e' a else e' b, w, .inl ?_, Mv.refl h, by cases t <;> exact he _⟩
      simp only [execOp]
      cases hc3 : e' c <;> rw [hc3] at hc2 <;> cases hc2
      simp only [asBool, run_bind, run_pure]
    · cases ha
  case load t a =>
    simp only [aopF] at ha
    obtain ⟨u, h1, h2⟩ := map_val ha
    cases h2
    obtain ⟨v', hrun, hv⟩ := loadB_run h (he a) h1
    exact Lands.val h hrun hv
  case store t a x =>
    simp only [aopF] at ha
    obtain ⟨u, h1, h2⟩ := map_val ha
    cases h2
    obtain ⟨w', hrun, hm⟩ := storeB_run h (he a) (he x) h1
    exact Lands.unit hrun hm
  case nilCheck x =>
    simp only [aopF] at ha
    have hx := he x
    split at ha
    · rename_i a hxa
      cases ha
      rw [hxa] at hx
      refine ⟨ρ, e' x, w, .inl ?_, Mv.refl h, hx⟩
      simp only [execOp]
      cases hx3 : e' x <;> rw [hx3] at hx <;> cases hx <;> rfl
    · rename_i f a b hxa
      cases ha
      rw [hxa] at hx
      refine ⟨ρ, e' x, w, .inl ?_, Mv.refl h, hx⟩
      obtain ⟨a', b', h1, -, -⟩ := func_arrs hx
      simp only [execOp, h1]
      rfl
    · cases ha
  case fieldAddr s x f =>
    simp only [aopF] at ha
    obtain ⟨u, h1, h2⟩ := map_val ha
    cases h2
    obtain ⟨v', hrun, hv⟩ := fieldB_run (P := P) (w := w) (he x) h1
    exact Lands.val h hrun hv
  case indexAddr t x ix =>
    simp only [aopF] at ha
    obtain ⟨u, h1, h2⟩ := map_val ha
    cases h2
    obtain ⟨v', hrun, hv⟩ := indexAddrB_run (he x) (he ix) h1 h
    exact Lands.val h hrun hv
  case field t x f =>
    simp only [aopF] at ha
    obtain ⟨u, h1, h2⟩ := map_val ha
    cases h2
    obtain ⟨v', hrun, hv⟩ := fieldOf_run (P := P) (w := w) (he x) h1
    exact Lands.val h hrun hv
  case extract x ix =>
    simp only [aopF] at ha
    split at ha
    · rename_i vs hxs
      obtain ⟨u, h1, h2⟩ := map_val ha
      cases h2
      have hx := he x
      rw [hxs] at hx
      cases hx3 : e' x <;> rw [hx3] at hx <;> cases hx
      rename_i vs' hs hc
      obtain ⟨v', h3, hv⟩ := (LRel.of_tuple (.tuple hs hc)).get (i := ix) (by simpa using h1)
      refine Lands.val (s := Instr.extract (e' x) ix) h ?_ hv
      rw [hx3]
      simp only [Instr.extract]
      rw [show vs'[ix]? = some v' by simpa using h3]
      rfl
    · cases ha
  case index t x ix =>
    simp only [aopF] at ha
    obtain ⟨u, h1, h2⟩ := map_val ha
    cases h2
    obtain ⟨v', hrun, hv⟩ := indexB_run (P := P) (w := w) (he x) (he ix) h1
    exact Lands.val h hrun hv
  case build t parts =>
    simp only [aopF] at ha
    obtain ⟨u, h1, h2⟩ := map_val ha
    cases h2
    obtain ⟨p1, p2⟩ := parts_map he parts
    obtain ⟨v', hrun, hv⟩ := buildB_run (P := P) (w := w) p1 p2 h1
    exact Lands.val h hrun hv
  case makeFunc fn first captured =>
    simp only [aopF, Option.some.injEq, Res.val.injEq] at ha
    obtain ⟨rfl, rfl⟩ := ha
    exact Lands.val (s := Instr.makeFunc fn (first.map e') (captured.map e')) h rfl (LRel.to_func (LRel.mapA he first) (LRel.mapA he captured))
  case makeInterface t x =>
    simp only [aopF] at ha
    split at ha
    · cases ha
    · rename_i hi
      cases ha
      refine Lands.val (s := Instr.makeInterface t (e' x)) h ?_ (.iface t (he x))
      unfold ifaceT at hi
      cases hu : P.underlying t with
      | none => rw [hu] at hi; simp at hi
      | some d =>
        rw [hu] at hi
        unfold Instr.makeInterface
        rw [bind_ok (run_underlying hu w)]
        cases d <;> first | rfl | (simp at hi)
  case slice t x lo hi mx =>
    simp only [aopF] at ha
    have hx := he x
    split at ha
    · rename_i s hxs
      obtain ⟨u, h1, h2⟩ := map_val ha
      cases h2
      rw [hxs] at hx
      obtain ⟨hrun, hv⟩ := strSliceB_run (ORel.map he lo) (ORel.map he hi) (ORel.map he mx) h1 w
      refine Lands.val (s := Instr.sliceAt t (e' x) (lo.map e') (hi.map e') (mx.map e')) h ?_ hv
      cases hx3 : e' x <;> rw [hx3] at hx <;> cases hx
      exact hrun
    · obtain ⟨u, h1, h2⟩ := map_val ha
      cases h2
      obtain ⟨v', hrun, hv⟩ := sliceB_run h hx (ORel.map he lo) (ORel.map he hi) (ORel.map he mx) h1
      exact Lands.val h hrun hv
  case convert src dst x =>
    simp only [aopF] at ha
    refine convertB_lands h (he x) (fun hs => ?_) ha
    simp only [execOp]
    rw [scal_same he hs]
  case binOp op t x y yt =>
    simp only [aopF] at ha
    split at ha
    · rename_i b hn
      cases ha
      exact Lands.val h (nilEq_run (he x) (he y) hn w).1 (.bool _)
    · rename_i b hn
      cases ha
      exact Lands.val h (nilEq_run (he x) (he y) hn w).2 (.bool _)
    · split at ha
      · rename_i hs
        simp only [Bool.and_eq_true] at hs
        have := pureB_lands h ha
        simp only [execOp] at this ⊢
        rw [scal_same he hs.1, scal_same he hs.2]
        exact this
      · cases ha
  case unOp op t x =>
    simp only [aopF] at ha
    split at ha
    · rename_i hs
      have := pureB_lands h ha
      simp only [execOp] at this ⊢
      rw [scal_same he hs]
      exact this
    · cases ha
  case lookup t m k ok =>
    simp only [aopF] at ha
    obtain ⟨u, h1, h2⟩ := map_val ha
    cases h2
    obtain ⟨v', hrun, hv⟩ := lookupB_run h (he m) (he k) h1
    exact Lands.val h hrun hv
  case mapUpdate t m k x =>
    simp only [aopF] at ha
    obtain ⟨u, h1, h2⟩ := map_val ha
    cases h2
    obtain ⟨w', hrun, hm⟩ := updateB_run h (he m) (he k) (he x) h1
    exact Lands.unit hrun hm
  case insert t m k x =>
    simp only [aopF] at ha
    obtain ⟨u, h1, h2⟩ := map_val ha
    cases h2
    obtain ⟨w', hrun, hm⟩ := updateB_run h (he m) (he k) (he x) h1
    exact Lands.unit hrun hm
  case call c =>
    obtain ⟨callee, cargs, ats⟩ := c
    cases callee
    case value g =>
      simp only [aopF] at ha
      split at ha <;> cases ha
    case invoke => simp [aopF] at ha
    case builtin b =>
      simp only [aopF] at ha
      have minmax : ∀ b', (cargs.toList.all fun x => isScalA (e x)) = true → pureB P (execOp e { dst := dst, op := .call { callee := .builtin b', args := cargs, argTypes := ats }, type := ty, pos := pos, after := after, guard := guard }) H = some (.val v H') →
          Lands P ρ H w ((execOp e' { dst := dst, op := .call { callee := .builtin b', args := cargs, argTypes := ats }, type := ty, pos := pos, after := after, guard := guard }).run P w) v H' := by
        intro b' hs hp
        rw [execOp_congr (ρ := e') (ρ' := e) _ (fun _ _ => by simp) (fun x hx => scal_same he (List.all_eq_true.mp hs x (by simpa [Op.operands, Call.operands] using hx)))]
        exact pureB_lands h hp
      split at ha
      · split at ha
        · rename_i hs; exact minmax _ hs ha
        · cases ha
      · split at ha
        · rename_i hs; exact minmax _ hs ha
        · cases ha
      · obtain ⟨u, h1, h2⟩ := map_val ha
        cases h2
        have := builtinB_run (w := w) h (ty := ty) (consts := cargs.map fun | .const _ => true | _ => false) (LRel.mapA he cargs) h1
        simp only [execOp, resolve]
        rw [bind_ok (run_pure _ w)]
        rw [Array.toArray_toList] at this
        exact this
  all_goals (simp [aopF] at ha)

theorem allocB_lands (h : WRel P ρ H w) {e e' : Operand → Value} {o : Oper} (he : ∀ x, VRel ρ (e x) (e' x)) {v : Value} {ob : AObj} {H2 : Heap} {j : Nat} (ha : allocB P e o j = some (v, ob)) (hadd : Adds ρ H H2 j ob) :
    Lands P ρ H w ((execOp e' o).run P w) v H2 := by
  obtain ⟨dst, op, ty, pos, after, guard⟩ := o
  cases op
  case alloc elem =>
    simp only [allocB] at ha
    split at ha
    · rename_i z hz
      split at ha
      · rename_i hs; cases ha; exact alloc_lands h hadd hz hs
      · cases ha
    · cases ha
  case box elem x =>
    simp only [allocB] at ha
    split at ha
    · rename_i hs
      cases ha
      obtain ⟨sz, hsz⟩ := Option.isSome_iff_exists.mp hs
      exact box_lands h hadd hsz (he x)
    · cases ha
  case buildSlice t len parts =>
    simp only [allocB] at ha
    obtain ⟨p1, p2⟩ := parts_map he parts
    obtain ⟨ρ', v', w', hrun, hm, hv⟩ := buildSliceB_run h hadd p1 p2 ha
    exact Lands.mv hrun hm hv
  case makeMap t r =>
    cases r with
    | none =>
      simp only [allocB, Option.some.injEq, Prod.mk.injEq] at ha
      obtain ⟨rfl, rfl⟩ := ha
      have hm := Mv.newMap (w' := { w with heap := w.heap.push (.map #[] 0) }) h hadd rfl rfl rfl rfl
      exact Lands.mv (s := Instr.makeMap t none) (by unfold Instr.makeMap; simp only [run_bind, run_newObj, run_pure]) hm (VRel.map (L := ⟨w.heap.size, 0, 0, 0⟩) Ren.put_same)
    | some _ => simp [allocB] at ha
  case makeSlice t l c =>
    simp only [allocB] at ha
    obtain ⟨ρ', v', w', hrun, hm, hv⟩ := makeSliceB_run h hadd (he l) (he c) ha
    exact Lands.mv hrun hm hv
  case convert src dst x =>
    simp only [allocB, bytesB] at ha
    have hx := he x
    split at ha
    · rename_i el s hsrc hdst hxs
      split at ha
      · rename_i hc
        cases ha
        rw [hxs] at hx
        have hel : P.underlying el = some (.int .u8) := by have := hc.1; unfold u8T at this; split at this <;> simp_all
        obtain ⟨ρ', v', w', hrun, hm, hv⟩ := toBytes_run h hadd hsrc hdst hel hc.2
        refine Lands.mv (s := convert src dst (e' x)) ?_ hm hv
        cases hx3 : e' x <;> rw [hx3] at hx <;> cases hx
        exact hrun
      · cases ha
    · cases ha
  all_goals (simp [allocB] at ha)

omit [Dem P] in
theorem run_markAny {b : Nat} {o : Nat} {cc : Array Value} {e : TypeId} {fr : Nat × Nat} (hb : w.heap[b]? = some (.cells cc e fr)) : ∃ fr', (markStringish ⟨b, o, none⟩).run P w = .ok () { w with heap := w.heap.setIfInBounds b (.cells cc e fr') } := by
  unfold markStringish
  rw [run_bind]
  have hs : (shape b).run P w = .ok (some (e, cc.size)) w := by
    show Result.ok (World.shape? w b) _ = _
    unfold World.shape?
    simp only [hb]
  simp only [hs]
  obtain ⟨lo, hi⟩ := fr
  refine ⟨if lo == hi then (cc.size, cc.size + 1) else (min lo cc.size, max hi (cc.size + 1)), ?_⟩
  show Result.ok () (World.freeze w ⟨b, cc.size, none⟩ 1) = _
  unfold World.freeze
  rw [if_neg (by decide), modify_eq _ hb]
theorem markB_lands (h : WRel P ρ H w) {e e' : Operand → Value} {o : Oper} (he : ∀ x, VRel ρ (e x) (e' x)) {v : Value} {H' : Heap} (ha : markB P e o H = some (.val v H')) :
    Lands P ρ H w ((execOp e' o).run P w) v H' := by
  obtain ⟨dst0, op, ty, pos, after, guard⟩ := o
  unfold markB at ha
  split at ha
  case h_2 => cases ha
  rename_i src dst x hop
  simp only at hop
  subst hop
  unfold markV at ha
  split at ha
  case h_2 => cases ha
  rename_i i o l c hx
  split at ha
  case isFalse => cases ha
  rename_i hc
  unfold markOk at hc
  rw [Bool.and_eq_true, decide_eq_true_eq] at hc
  obtain ⟨⟨rfl, hl⟩, hu⟩ := hc
  unfold markR at ha
  split at ha
  case h_2 => cases ha
  rename_i cs et hg
  cases ha
  have hv := he x
  rw [hx] at hv
  cases hu2 : P.underlying src with
  | none => rw [hu2] at hu; cases hu
  | some D =>
    rw [hu2] at hu
    cases D <;> simp only at hu <;> try (cases hu; done)
    rename_i el
    have hel : P.underlying el = some (.int .u8) := by unfold u8T at hu; split at hu <;> simp_all
    generalize hy : e' x = y at hv
    cases hv with
    | slice0 hc => exact absurd rfl hl
    | slice hL hle hcc ht =>
      rename_i c' L
      obtain ⟨L', hL', cc, fr, et', hb, _, hs1, hs2, hs3, hs4, _⟩ := h.cells i cs et false hg
      rw [hL] at hL'
      cases hL'
      obtain ⟨fr', hm⟩ := run_markAny (P := P) (o := L.sh + o) hb
      show Lands P ρ H w ((do pure (Next.value (← convert src src (e' x))) : Sem Next).run P w) _ _
      rw [hy]
      have hrun : (convert src src (.slice (some ⟨L.blk, L.sh + o, none⟩) l c')).run P w = .ok (.slice (some ⟨L.blk, L.sh + o, none⟩) l c') { w with heap := w.heap.setIfInBounds L.blk (.cells cc et' fr') } := by
        unfold convert
        rw [run_bind]
        simp only [run_underlying hu2]
        rw [run_bind]
        simp only [run_underlying hu2]
        rw [run_bind]
        simp only [run_underlying hel, beq_self_eq_true]
        rw [run_bind]
        simp only [hm]
        rfl
      refine Lands.mv hrun (Mv.setObj h (.inl ⟨cs, et, hg⟩) hL (.cells cc et' fr') rfl (fun w2 hw2 => ⟨fun c2 e2 ro2 he2 => ?_, fun es clk he2 => by cases he2⟩) rfl rfl rfl) (VRel.slice hL hle hcc ht)
      cases he2
      refine ⟨.inr rfl, cc, fr', et', hw2, ?_, hs1, hs2, hs3, hs4, ?_⟩
      · intro z; exact absurd z (by decide)
      · intro z; exact absurd z (by decide)

theorem aop_val (h : WRel P ρ H w) {e e' : Operand → Value} {o : Oper} (he : ∀ x, VRel ρ (e x) (e' x)) {v : Value} {H' : Heap} (ha : aop P e o H = some (.val v H')) :
    Lands P ρ H w ((execOp e' o).run P w) v H' := by
  unfold aop at ha
  split at ha
  · rename_i p hp
    cases ha
    exact allocB_lands h he hp (Adds.push h _)
  · split at ha
    · rename_i r hr
      cases ha
      exact markB_lands h he hr
    · exact aopF_val h he ha

end Go.B

namespace Go.B
open Go

variable {P : Program} [Dem P] {ρ : Ren} {w : World}

structure SRel (P : Program) [Dem P] (ρ : Ren) (st : St) (a : Act) (w : World) : Prop where
  size : a.tmps.size = st.n
  tmps : ∀ t, VRel ρ ((st.t.get t).getD undef) (a.tmps.getD t undef)
  defers : a.defers = []
  rel : WRel P ρ st.H w

def evC (a : Act) (x : Operand) : Value := if operOk x then a.eval x else undef

theorem SRel.evC {st : St} {a : Act} (h : SRel P ρ st a w) (x : Operand) : VRel ρ (ev st.t x) (evC a x) := by
  cases x with
  | tmp t => exact h.tmps t
  | const v =>
    unfold B.evC ev operOk
    by_cases hv : isScalA v = true
    · simp only [hv, if_true]; exact .scalA hv
    · simp only [hv]; exact .undef
  | global g => exact .glob _
  | func f => exact .func _ rfl (fun i h _ => absurd h (by simp)) rfl (fun i h _ => absurd h (by simp))

theorem evC_same {a : Act} {o : Oper} (h : opOk o = true) : execOp (evC a) o = execOp a.eval o := by
  unfold opOk at h
  simp only [Bool.and_eq_true] at h
  refine execOp_congr o (fun cs b e => by rw [e] at h; simp at h) (fun x hx => ?_)
  have := List.all_eq_true.mp h.1 x (by simpa using hx)
  unfold evC
  rw [if_pos this]

theorem SRel.evk {st : St} {a : Act} (h : SRel P ρ st a w) {x : Operand} (hx : operOk x = true) : VRel ρ (ev st.t x) (a.eval x) := by
  have := h.evC x
  unfold B.evC at this
  rwa [if_pos hx] at this

theorem SRel.put {st st' : St} {a : Act} {w' : World} {ρ' : Ren} (h : SRel P ρ st a w) {dst : Option Tmp} {v v' : Value} {H' : Heap} (hm : Mv P ρ st.H w ρ' H' w') (hv : VRel ρ' v v') (hp : st.put dst v H' = some st') :
    st'.H = H' ∧ SRel P ρ' st' (a.put dst v') w' := by
  unfold St.put at hp
  cases dst with
  | none =>
    cases hp
    exact ⟨rfl, ⟨h.size, fun t => (h.tmps t).mono hm.ext, h.defers, hm.rel⟩⟩
  | some d =>
    simp only at hp
    split at hp
    · rename_i hd
      cases hp
      refine ⟨rfl, ⟨by simpa [Act.put] using h.size, fun t => ?_, h.defers, hm.rel⟩⟩
      simp only [Act.put, Tr.get_set]
      by_cases e : t = d
      · subst e
        rw [if_pos rfl]
        have hlt : t < a.tmps.size := by rw [h.size]; exact hd
        simp only [Array.getD_eq_getD_getElem?, Array.getElem?_setIfInBounds_self_of_lt hlt, Option.getD_some]
        exact hv
      · rw [if_neg e]
        simp only [Array.getD_eq_getD_getElem?, Array.getElem?_setIfInBounds_ne (Ne.symm e)]
        have := (h.tmps t).mono hm.ext
        rwa [Array.getD_eq_getD_getElem?] at this
    · cases hp

theorem yield_same {st : St} {a : Act} (h : SRel P ρ st a w) (ops : Array Oper) (j : Nat) : yieldB ops st.n st.t j = yielded ops a.tmps j := by
  unfold yieldB yielded
  cases (ops[j]?).bind (·.dst) with
  | none => rfl
  | some d =>
    simp only [Option.bind_some]
    by_cases hd : d < st.n
    · rw [if_pos hd]
      have hlt : d < a.tmps.size := by rw [h.size]; exact hd
      have := h.tmps d
      rw [Array.getD_eq_getD_getElem?, Array.getElem?_eq_getElem hlt, Option.getD_some] at this
      rw [Array.getElem?_eq_getElem hlt]
      generalize (st.t.get d).getD undef = v at this
      generalize a.tmps[d] = v' at this
      cases this <;> rfl
    · rw [if_neg hd, Array.getElem?_eq_none (by rw [h.size]; exact Nat.le_of_not_lt hd)]

def CalOk (P : Program) [Dem P] (cal : Cal) : Prop :=
  ∀ f args H v H', cal f args H = some (v, H') → (∃ fn c, P.funcs[f]? = some fn ∧ fn.body = some c ∧ (fn.name == "runtime.NumGoroutine") = false) ∧
    ∀ ρ w args', WRel P ρ H w → LRel ρ args.toList args'.toList → Calls P f args' w fun e w' => ∃ ρ' v', e = .returned v' ∧ Mv P ρ H w ρ' H' w' ∧ VRel ρ' v v'

theorem step1_wp {cal : Cal} (hcal : CalOk P cal) {ops : Array Oper} {i : Nat} {o : Oper} (hi : ops[i]? = some o) (hok : opOk o = true) {st st' : St} {a : Act} (hs : SRel P ρ st a w) (h1 : step1 cal P ops o st = some st')
    {K : Act → World → Prop} {Q : Exit → Act → World → Prop} (hK : ∀ ρ' a' w', Mv P ρ st.H w ρ' st'.H w' → SRel P ρ' st' a' w' → K a' w') : wpOp P ops Q i K a w := by
  unfold wpOp
  simp only [hi]
  unfold step1 at h1
  rw [show (yieldB ops st.n st.t) = yielded ops a.tmps from funext (yield_same hs ops)] at h1
  split at h1
  · rename_i hw
    rw [if_pos hw]
    refine .inl ?_
    unfold Oper.wp
    rw [← evC_same hok]
    split at h1
    · rename_i v H ha
      obtain ⟨ρ', v', w', hrun, hm, hv⟩ := aop_val (w := w) hs.rel hs.evC ha
      obtain ⟨e1, hs'⟩ := hs.put hm hv h1
      rcases hrun with hrun | ⟨hrun, rfl⟩
      · rw [hrun, Oper.upon_value]; exact hK ρ' _ _ (by rw [e1]; exact hm) hs'
      · rw [hrun, Oper.upon_skip]; exact hK ρ' _ _ (by rw [e1]; exact hm) hs'
    · rename_i f args ha
      cases hc : cal f args st.H with
      | none => rw [hc] at h1; cases h1
      | some r =>
        obtain ⟨v, H⟩ := r
        rw [hc] at h1
        obtain ⟨⟨fn, c, hf, hb, hn⟩, hcalls⟩ := hcal f args st.H v H hc
        obtain ⟨args', hargs, hrun⟩ := aop_enter (P := P) (w := w) hs.evC ha
        rw [hrun hf hb hn, Oper.upon_enter]
        refine (hcalls ρ w args' hs.rel hargs).mono ?_
        rintro e w' ⟨ρ', v', rfl, hm, hv⟩
        obtain ⟨e1, hs'⟩ := hs.put hm hv h1
        exact hK ρ' _ _ (by rw [e1]; exact hm) hs'
    · cases h1
  · rename_i hw
    rw [if_neg hw]
    obtain ⟨e1, hs'⟩ := hs.put (Mv.refl hs.rel) .undef h1
    exact hK ρ _ _ (by rw [e1]; exact Mv.refl hs.rel) hs'

theorem opsRun_wp {cal : Cal} (hcal : CalOk P cal) {ops : Array Oper} {Q : Exit → Act → World → Prop} : ∀ (l : List Oper) (i : Nat) (ρ : Ren) (st st' : St) (a : Act) (w : World), (∀ j o, l[j]? = some o → ops[i + j]? = some o ∧ opOk o = true) → SRel P ρ st a w →
    opsRun cal P ops l st = some st' → (∀ ρ' a' w', Mv P ρ st.H w ρ' st'.H w' → SRel P ρ' st' a' w' → Q .normal a' w') → wpOps P ops Q (List.range' i l.length) a w := by
  intro l
  induction l with
  | nil =>
    intro i ρ st st' a w hl hs hr hQ
    cases hr
    exact hQ ρ a w (Mv.refl hs.rel) hs
  | cons o l ih =>
    intro i ρ st st' a w hl hs hr hQ
    simp only [List.length_cons, List.range'_succ]
    rw [wpOps_cons]
    simp only [opsRun] at hr
    cases h1 : step1 cal P ops o st with
    | none => rw [h1] at hr; cases hr
    | some st1 =>
      rw [h1] at hr
      obtain ⟨hi, hok⟩ := hl 0 o rfl
      refine step1_wp hcal hi hok hs h1 fun ρ' a' w' hm hs' => ?_
      exact ih (i + 1) ρ' st1 st' a' w' (fun j o' hj => by rw [show i + 1 + j = i + (j + 1) by omega]; exact hl (j + 1) o' (by simpa using hj)) hs' hr
        (fun ρ'' a'' w'' hm' hs'' => hQ ρ'' a'' w'' (hm.trans hm') hs'')

def toExit : Ex → Exit
  | .normal => .normal
  | .exit id => .exit id
  | .ret => .ret

def Post (P : Program) [Dem P] (ρ : Ren) (H : Heap) (w : World) (ex : Ex) (st' : St) : Exit → Act → World → Prop :=
  fun e a' w' => e = toExit ex ∧ ∃ ρ', Mv P ρ H w ρ' st'.H w' ∧ SRel P ρ' st' a' w'

def DrawOk (P : Program) [Dem P] (D : Draw) : Prop :=
  ∀ cal, CalOk P cal → ∀ ops st st', ops.toList.all opOk = true → D cal P ops st = some st' → ∀ id ρ a w, SRel P ρ st a w → (Code.region id ops true).wp P (Post P ρ st.H w .normal st') a w

omit [Dem P] in
theorem wp_weaken {c : Code} {Q Q' : Exit → Act → World → Prop} {a : Act} (h : c.wp P Q a w) (hq : ∀ e a w, Q e a w → Q' e a w) : c.wp P Q' a w := wp_mono h hq

theorem loopN_wp {c : Code} {f : St → Option (Ex × St)} (hf : ∀ st ex st', f st = some (ex, st') → ∀ ρ a w, SRel P ρ st a w → c.wp P (Post P ρ st.H w ex st') a w) :
    ∀ (n : Nat) (st st' : St) (ex : Ex), loopN f n st = some (ex, st') → ex ≠ .normal ∧ ∀ ρ a w, SRel P ρ st a w → ∀ (b : Frame) (k : List Item) (cs : List Frame), ∃ e a' w', Post P ρ st.H w ex st' e a' w' ∧ Arrives P (lone (b.at a (.code c :: .inLoop c :: k)) cs w) b k cs e a' w' := by
  intro n
  induction n with
  | zero => intro st st' ex h; cases h
  | succ n ih =>
    intro st st' ex h
    simp only [loopN] at h
    split at h
    · rename_i st1 h1
      obtain ⟨hne, hrest⟩ := ih st1 st' ex h
      refine ⟨hne, fun ρ a w hs b k cs => ?_⟩
      obtain ⟨e, a1, w1, ⟨rfl, ρ1, hm, hs1⟩, harr⟩ := hf st _ st1 h1 ρ a w hs b (.inLoop c :: k) cs
      obtain ⟨e2, a2, w2, ⟨h2, ρ2, hm2, hs2⟩, harr2⟩ := hrest ρ1 a1 w1 hs1 b k cs
      exact ⟨e2, a2, w2, ⟨h2, ρ2, hm.trans hm2, hs2⟩, .of_steps (Steps.trans harr (.one step_inLoop)) harr2⟩
    · rename_i hn
      refine ⟨fun e => ?_, fun ρ a w hs b k cs => ?_⟩
      · subst e; exact hn st' h
      · obtain ⟨e, a1, w1, hp, harr⟩ := hf st ex st' h ρ a w hs b (.inLoop c :: k) cs
        refine ⟨e, a1, w1, hp, .pass (x := .inLoop c) rfl (fun _ _ => .inl ?_) harr⟩
        rw [hp.1]
        cases ex with
        | normal => exact absurd h (hn st')
        | exit id => simp [toExit]
        | ret => simp [toExit]

theorem exec_wp {D : Draw} (hD : DrawOk P D) {cal : Cal} (hcal : CalOk P cal) {n : Nat} : ∀ (c : Code) (st : St) (ex : Ex) (st' : St), codeOk c = true → exec D cal P n c st = some (ex, st') → ∀ ρ a w, SRel P ρ st a w → c.wp P (Post P ρ st.H w ex st') a w := by
  intro c
  induction c with
  | skip => intro st ex st' _ h ρ a w hs; cases h; exact wp_skip ⟨rfl, ρ, Mv.refl hs.rel, hs⟩
  | label l => intro st ex st' _ h ρ a w hs; cases h; exact wp_label ⟨rfl, ρ, Mv.refl hs.rel, hs⟩
  | exit id => intro st ex st' _ h ρ a w hs; cases h; exact wp_exit ⟨rfl, ρ, Mv.refl hs.rel, hs⟩
  | ret => intro st ex st' _ h ρ a w hs; cases h; exact wp_ret ⟨rfl, ρ, Mv.refl hs.rel, hs⟩
  | region id ops draw =>
    intro st ex st' hk h ρ a w hs
    simp only [exec] at h
    obtain ⟨st1, h1, h2⟩ := Option.map_eq_some_iff.mp h
    cases h2
    cases draw with
    | true =>
      simp only [if_true] at h1
      exact hD cal hcal ops st st' hk h1 id ρ a w hs
    | false =>
      simp only [Bool.false_eq_true, if_false] at h1
      refine wp_region ?_
      have := opsRun_wp hcal (ops := ops) (Q := Post P ρ st.H w .normal st') ops.toList 0 ρ st st' a w (fun j o hj => ⟨by simpa using hj, List.all_eq_true.mp hk o (List.mem_of_getElem? hj)⟩) hs h1 (fun ρ' a' w' hm hs' => ⟨rfl, ρ', hm, hs'⟩)
      rw [List.range_eq_range']
      simpa using this
  | seq x y ihx ihy =>
    intro st ex st' hk h ρ a w hs
    simp only [codeOk, Bool.and_eq_true] at hk
    simp only [exec] at h
    refine wp_seq ?_
    split at h
    · rename_i st1 h1
      refine wp_mono (ihx st _ st1 hk.1 h1 ρ a w hs) ?_
      rintro e a1 w1 ⟨rfl, ρ1, hm, hs1⟩
      refine wp_mono (ihy st1 ex st' hk.2 h ρ1 a1 w1 hs1) ?_
      rintro e a2 w2 ⟨rfl, ρ2, hm2, hs2⟩
      exact ⟨rfl, ρ2, hm.trans hm2, hs2⟩
    · rename_i hn
      refine wp_mono (ihx st ex st' hk.1 h ρ a w hs) ?_
      rintro e a1 w1 ⟨rfl, hp⟩
      cases ex with
      | normal => exact absurd h (hn st')
      | exit id => exact ⟨rfl, hp⟩
      | ret => exact ⟨rfl, hp⟩
  | cond c x y ihx ihy =>
    intro st ex st' hk h ρ a w hs
    simp only [codeOk, Bool.and_eq_true] at hk
    simp only [exec] at h
    have hc := hs.evk hk.1
    split at h
    · rename_i hb
      rw [hb] at hc
      have hb' : a.eval c = .bool true := by generalize a.eval c = v at hc; cases hc; rfl
      exact wp_cond_true hb' (ihx st ex st' hk.2.1 h ρ a w hs)
    · rename_i hb
      rw [hb] at hc
      have hb' : a.eval c = .bool false := by generalize a.eval c = v at hc; cases hc; rfl
      exact wp_cond_false hb' (ihy st ex st' hk.2.2 h ρ a w hs)
    · cases h
  | block id x ih =>
    intro st ex st' hk h ρ a w hs
    simp only [codeOk] at hk
    simp only [exec] at h
    refine wp_block ?_
    split at h
    · rename_i i st1 h1
      refine wp_mono (ih st _ st1 hk h1 ρ a w hs) ?_
      rintro e a1 w1 ⟨rfl, ρ1, hm, hs1⟩
      simp only [toExit, Exit.inBlock]
      split at h
      · rename_i he
        cases h
        rw [if_pos he]
        exact ⟨rfl, ρ1, hm, hs1⟩
      · rename_i he
        cases h
        rw [if_neg he]
        exact ⟨rfl, ρ1, hm, hs1⟩
    · rename_i hn
      refine wp_mono (ih st ex st' hk h ρ a w hs) ?_
      rintro e a1 w1 ⟨rfl, hp⟩
      cases ex with
      | normal => exact ⟨rfl, hp⟩
      | exit i => exact absurd h (hn i st')
      | ret => exact ⟨rfl, hp⟩
  | loop x ih =>
    intro st ex st' hk h ρ a w hs
    simp only [codeOk] at hk
    simp only [exec] at h
    obtain ⟨-, hl⟩ := loopN_wp (P := P) (c := x) (fun st ex st' hf => ih st ex st' hk hf) n st st' ex h
    intro b k cs
    obtain ⟨e, a1, w1, hp, harr⟩ := hl ρ a w hs b k cs
    exact ⟨e, a1, w1, hp, .of_steps (.one step_loop) harr⟩
  | _ => intro st ex st' _ h; cases h


def TabOk (P : Program) (T : FuncId → Option Func) : Prop :=
  ∀ f fn, T f = some fn → P.funcs[f]? = some fn ∧ (fn.name == "runtime.NumGoroutine") = false ∧ ∀ c, fn.body = some c → codeOk c = true

def ExtOk (P : Program) [Dem P] (X : Exts) : Prop := ∀ f g, X f = some g → CalOk P fun f' args H => if f' = f then g args H else none

theorem setArgs_get : ∀ (l : List Value) (i : Nat) (t : Tr Value) (j : Nat), (setArgs t i l).get j = if i ≤ j ∧ j < i + l.length then l[j - i]? else t.get j := by
  intro l
  induction l with
  | nil => intro i t j; simp [setArgs]; omega
  | cons v l ih =>
    intro i t j
    rw [setArgs, ih]
    simp only [List.length_cons, Tr.get_set]
    by_cases h1 : i + 1 ≤ j ∧ j < i + 1 + l.length
    · rw [if_pos h1, if_pos (by omega), show j - i = (j - (i + 1)) + 1 by omega]
      rfl
    · rw [if_neg h1]
      by_cases h2 : j = i
      · subst h2; rw [if_pos rfl, if_pos (by omega)]; simp
      · rw [if_neg h2, if_neg (by omega)]

theorem enter_rel {args args' : Array Value} {H : Heap} {n : Nat} (hw : WRel P ρ H w) (ha : LRel ρ args.toList args'.toList) :
    SRel P ρ { n := args.size + (n - args.size), t := setArgs .nil 0 args.toList, H } { tmps := args' ++ Array.replicate (n - args'.size) undef, defers := [] } w := by
  have hsz : args.size = args'.size := by have := ha.1; simpa using this
  refine ⟨by simp [hsz], fun t => ?_, rfl, hw⟩
  simp only [setArgs_get, Nat.zero_le, true_and, Nat.zero_add, Nat.sub_zero, Array.length_toList, Array.getD_eq_getD_getElem?]
  by_cases h : t < args.size
  · rw [if_pos h, Array.getElem?_append_left (by omega)]
    have := ha.2 t (by simpa using h) (by simp; omega)
    rw [Array.getElem_toList, Array.getElem_toList] at this
    rw [List.getElem?_eq_getElem (by simpa using h), Array.getElem?_eq_getElem (by omega)]
    simpa using this
  · rw [if_neg h, Array.getElem?_append_right (by omega), Array.getElem?_replicate]
    split <;> exact .undef

def resOne (tmps : Array Value) : ResultVar → Sem Value
  | .tmp t => pure (tmps.getD t undef)
  | .cell x t => do loadVar t (← asAddr (tmps.getD x undef))

theorem results_eq (fn : Func) (tmps : Array Value) : results fn tmps = (do
    let vs ← fn.results.mapM (resOne tmps)
    pure (if h : vs.size = 1 then vs[0] else .tuple vs)) := by
  unfold results
  congr 1

theorem resB_run {st : St} {a : Act} (hs : SRel P ρ st a w) : ∀ (rs : List ResultVar) (l : List Value), resB P st rs = some l →
    ∃ l', LRel ρ l l' ∧ (rs.mapM (resOne a.tmps)).run P w = .ok l' w := by
  intro rs
  induction rs with
  | nil => intro l h; cases h; exact ⟨[], .nil, rfl⟩
  | cons r rs ih =>
    intro l h
    cases r with
    | tmp t =>
      simp only [resB] at h
      obtain ⟨l2, h1, h2⟩ := Option.map_eq_some_iff.mp h
      subst h2
      obtain ⟨l', hr, hrun⟩ := ih l2 h1
      refine ⟨_ :: l', .cons (hs.tmps t) hr, ?_⟩
      simp only [List.mapM_cons, resOne, run_bind, run_pure, hrun]
    | cell x t =>
      simp only [resB] at h
      split at h
      · rename_i v hv
        obtain ⟨l2, h1, h2⟩ := Option.map_eq_some_iff.mp h
        subst h2
        obtain ⟨l', hr, hrun⟩ := ih l2 h1
        obtain ⟨v', hload, hvr⟩ := loadB_run hs.rel (hs.tmps x) hv
        have hload2 : (do loadVar t (← asAddr (a.tmps.getD x undef)) : Sem Value).run P w = .ok v' w := by
          have hx := hs.tmps x
          generalize (st.t.get x).getD undef = u at hx hv
          generalize a.tmps.getD x undef = u' at hx hload
          unfold loadB at hv
          split at hv
          · cases hx
            exact hload
          · cases hv
        refine ⟨v' :: l', .cons hvr hr, ?_⟩
        simp only [List.mapM_cons, resOne]
        rw [bind_ok hload2, bind_ok hrun]
        rfl
      · cases h

theorem results_run {st : St} {a : Act} (hs : SRel P ρ st a w) {fn : Func} {l : List Value} (h : resB P st fn.results.toList = some l) :
    ∃ v', VRel ρ (oneOf l) v' ∧ (results fn a.tmps).run P w = .ok v' w := by
  obtain ⟨l', hr, hrun⟩ := resB_run hs _ _ h
  refine ⟨oneOf l', ?_, ?_⟩
  · have hlen := hr.1
    match l, l', hr, hlen with
    | [], [], _, _ => exact .undef
    | [a], [b], hr, _ => exact hr.head
    | a :: b :: l, a' :: b' :: l', hr, _ => exact LRel.tuple (by simpa [oneOf] using hr)
  · rw [results_eq, Array.mapM_eq_mapM_toList, run_bind, map_eq_pure_bind, run_bind]
    rw [hrun]
    simp only [run_pure]
    congr 1
    match l' with
    | [] => rfl
    | [a] => rfl
    | a :: b :: l => simp [oneOf]

theorem callB_sound {D : Draw} (hD : DrawOk P D) {T : FuncId → Option Func} (hT : TabOk P T) {X : Exts} (hX : ExtOk P X) : ∀ k, CalOk P (callB D P T X k) := by
  intro k
  induction k with
  | zero => intro f args H v H' h; cases h
  | succ k ih =>
    intro f args H v H' h
    simp only [callB] at h
    cases hx : X f with
    | some g =>
      rw [hx] at h
      exact hX f g hx f args H v H' (by simp only [if_true]; exact h)
    | none =>
      rw [hx] at h
      cases ht : T f with
      | none => rw [ht] at h; cases h
      | some fn =>
        rw [ht] at h
        simp only at h
        obtain ⟨hf, hn, hok⟩ := hT f fn ht
        cases hb : fn.body with
        | none => rw [hb] at h; cases h
        | some c =>
          rw [hb] at h
          simp only at h
          refine ⟨⟨fn, c, hf, hb, hn⟩, fun ρ w args' hw ha => ?_⟩
          have hs := enter_rel (n := fn.ntmps) hw ha
          have fin : ∀ ex st, exec D (callB D P T X k) P k c { n := args.size + (fn.ntmps - args.size), t := setArgs .nil 0 args.toList, H } = some (ex, st) → ex = .normal ∨ ex = .ret → (resB P st fn.results.toList).map (fun l => (oneOf l, st.H)) = some (v, H') →
              Calls P f args' w fun e w' => ∃ ρ' v', e = .returned v' ∧ Mv P ρ H w ρ' H' w' ∧ VRel ρ' v v' := by
            intro ex st he hex hr
            obtain ⟨l, h1, h2⟩ := Option.map_eq_some_iff.mp hr
            cases h2
            refine calls_of_wp hf hb (wp_mono (exec_wp hD ih c _ ex st (hok c hb) he ρ _ w hs) ?_)
            rintro e a1 w1 ⟨rfl, ρ1, hm, hs1⟩
            obtain ⟨v', hv, hrun⟩ := results_run hs1 h1
            rcases hex with rfl | rfl
            · exact ⟨hs1.defers, v', hrun, ρ1, v', rfl, hm, hv⟩
            · exact ⟨hs1.defers, v', hrun, ρ1, v', rfl, hm, hv⟩
          split at h
          · rename_i st he; exact fin _ st he (.inl rfl) h
          · rename_i st he; exact fin _ st he (.inr rfl) h
          · cases h

end Go.B
