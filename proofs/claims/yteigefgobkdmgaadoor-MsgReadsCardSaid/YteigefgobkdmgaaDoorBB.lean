import Derived.Test.YteigefgobkdmgaaDoorBA
/- The same for regions that draw; a small logic over it; functions that are told by a contract. -/
set_option linter.unusedVariables false
set_option linter.unusedSimpArgs false
namespace Go.B
open Go

def veqC : Value → Value → Bool
  | .bool a, .bool b => a == b
  | .int j a, .int k b => j == k && a == b
  | .string a, .string b => a.data.toList == b.data.toList
  | .pointer a, .pointer b => a == b
  | .slice a l c, .slice b m d => a == b && l == m && c == d
  | .map a, .map b => a == b
  | .nilFunc, .nilFunc => true
  | .nilIface, .nilIface => true
  | .iface t (.int j a), .iface u (.int k b) => t == u && (j == k && a == b)
  | .iface t (.string a), .iface u (.string b) => t == u && a.data.toList == b.data.toList
  | .iface t (.pointer a), .iface u (.pointer b) => t == u && a == b
  | _, _ => false

def veqL : List Value → List Value → Bool
  | [], [] => true
  | a :: l, b :: m => veqC a b && veqL l m
  | _, _ => false

def veq : Value → Value → Bool
  | .agg a, .agg b => veqL a.toList b.toList
  | .tuple a, .tuple b => veqL a.toList b.toList
  | a, b => veqC a b

theorem bytes_ext {a b : ByteArray} (h : a.data.toList = b.data.toList) : a = b := by
  obtain ⟨⟨l⟩⟩ := a
  obtain ⟨⟨m⟩⟩ := b
  simp only at h
  rw [h]

theorem veqC_eq {a b : Value} (h : veqC a b = true) : a = b := by
  unfold veqC at h
  split at h <;> (try simp only [Bool.and_eq_true, beq_iff_eq] at h) <;> (try (cases h; done))
  · rw [h]
  · rw [h.1, h.2]
  · exact congrArg _ (bytes_ext h)
  · rw [h]
  · rw [h.1.1, h.1.2, h.2]
  · rw [h]
  · rfl
  · rfl
  · rw [h.1, h.2.1, h.2.2]
  · rw [h.1]; exact congrArg _ (congrArg _ (bytes_ext h.2))
  · rw [h.1, h.2]

theorem veqL_eq : ∀ {l m : List Value}, veqL l m = true → l = m
  | [], [], _ => rfl
  | a :: l, b :: m, h => by
    simp only [veqL, Bool.and_eq_true] at h
    rw [veqC_eq h.1, veqL_eq h.2]
  | [], _ :: _, h => by cases h
  | _ :: _, [], h => by cases h

theorem veq_eq {a b : Value} (h : veq a b = true) : a = b := by
  unfold veq at h
  split at h
  · rw [Array.ext' (veqL_eq h)]
  · rw [Array.ext' (veqL_eq h)]
  · exact veqC_eq h

def direct (o : Oper) : List Nat := (o.after.toList.filter (Region.binds .any)).map (·.on)

def ancs : List Oper → List (List Nat) → List (List Nat)
  | [], acc => acc
  | o :: l, acc => ancs l (acc ++ [((direct o).flatMap fun d => d :: acc.getD d []).eraseDups])

def isEff (o : Oper) : Bool :=
  match o.op with
  | .store _ _ _ => true
  | .mapUpdate _ _ _ _ => true
  | .insert _ _ _ _ => true
  | .call c => (match c.callee with
    | .value _ => true
    | .builtin .append => true
    | .builtin .copy => true
    | .builtin .delete => true
    | _ => false)
  | _ => false

def addAll (l : List Nat) : List Nat → List Nat
  | [] => l
  | i :: r => addAll (if l.contains i then l else l ++ [i]) r

def canonE (n : Nat) (A : List (List Nat)) : List Nat → List Nat → List Nat
  | [], acc => addAll acc (List.range n)
  | e :: es, acc => canonE n A es (addAll acc ((List.range n).filter fun i => (A.getD e []).contains i || i == e))

structure DS where
  cur : Heap
  ks : List Heap
  es : List Nat
  vals : List (Nat × Value)

def DS.has (s : DS) (i : Nat) : Bool := s.vals.any fun p => p.1 == i

inductive Kind where
  | skip
  | alloc (v : Value) (ob : AObj)
  | eff
  | free

def kindB (P : Program) (ops : Array Oper) (E : Tr Value) (n base i : Nat) (o : Oper) : Kind :=
  if Region.wanted o (yieldB ops n E) then
    match allocB P (ev E) o (base + i) with
    | some (v, ob) => .alloc v ob
    | none => if isEff o then .eff else .free
  else .skip

def kd (P : Program) (ops : Array Oper) (E : Tr Value) (n base i : Nat) : Kind :=
  match ops[i]? with
  | some o => kindB P ops E n base i o
  | none => .skip

def objOf (P : Program) (ops : Array Oper) (E : Tr Value) (n base i : Nat) : Option AObj :=
  match kd P ops E n base i with
  | .alloc _ ob => some ob
  | _ => none

def plus (P : Program) (ops : Array Oper) (E : Tr Value) (n base : Nat) (K : Heap) : List Nat → Heap
  | [] => K
  | a :: l => match objOf P ops E n base a with
    | some ob => if (K.get (base + a)).isNone then (plus P ops E n base K l).set (base + a) ob else plus P ops E n base K l
    | none => plus P ops E n base K l

def freeAll (P : Program) (pl : Heap → Heap) (e : Operand → Value) (o : Oper) (v : Value) (anc : List Nat) : List Heap → List Nat → Bool
  | K :: ks, es => (match aopF P e o (pl K) with
    | some (.val v' _) => veq v v'
    | _ => false) && (match es with
    | [] => true
    | x :: es => anc.contains x || freeAll P pl e o v anc ks es)
  | [], _ => false

def effB (cal : Cal) (P : Program) (e : Operand → Value) (o : Oper) (H : Heap) : Option (Value × Heap) :=
  match aopF P e o H with
  | some (.val v H') => some (v, H')
  | some (.enter f args) => cal f args H
  | none => none

def lookOk (ops : Array Oper) (o : Oper) : Bool :=
  (o.looksAt ops).all fun t => (List.range ops.size).all fun i => match ops[i]? with
    | some o' => o'.dst != some t || (direct o).contains i
    | none => true

def dstep (cal : Cal) (P : Program) (ops : Array Oper) (A : List (List Nat)) (n base : Nat) (E : Tr Value) (s : DS) (i : Nat) : Option DS :=
  match ops[i]? with
  | none => none
  | some o =>
    if s.has i then none
    else if ((direct o).all fun d => s.has d) && lookOk ops o then
      match kindB P ops E n base i o with
      | .skip => some { s with vals := (i, undef) :: s.vals }
      | .alloc v ob => some { s with cur := s.cur.set (base + i) ob, vals := (i, v) :: s.vals }
      | .eff =>
        if s.vals.all fun p => (A.getD i []).contains p.1 then
          match effB cal P (ev E) o s.cur with
          | some (v, H) => if (List.range ops.size).all fun a => (s.has a || (H.get (base + a)).isNone) && ((s.cur.get (base + a)).isNone || (H.get (base + a)).isSome) then some { cur := H, ks := H :: s.ks, es := i :: s.es, vals := (i, v) :: s.vals } else none
          | none => none
        else none
      | .free =>
        match s.ks with
        | K :: _ => (match aopF P (ev E) o (plus P ops E n base K (A.getD i [])) with
          | some (.val v _) => if freeAll P (fun K => plus P ops E n base K (A.getD i [])) (ev E) o v (A.getD i []) s.ks s.es then some { s with vals := (i, v) :: s.vals } else none
          | _ => none)
        | [] => none
    else none

def drun1 (cal : Cal) (P : Program) (ops : Array Oper) (A : List (List Nat)) (n base : Nat) : List Nat → Tr Value → DS → Option (Tr Value)
  | [], E, _ => some E
  | i :: l, E, s => match dstep cal P ops A n base E s i with
    | some s' => (match s'.vals, (ops[i]?).bind (·.dst) with
      | (_, v) :: _, some d => drun1 cal P ops A n base l (E.set d v) s'
      | _, _ => drun1 cal P ops A n base l E s')
    | none => none

def drun2 (cal : Cal) (P : Program) (ops : Array Oper) (A : List (List Nat)) (n base : Nat) (E : Tr Value) : List Nat → DS → Option DS
  | [], s => some s
  | i :: l, s => match dstep cal P ops A n base E s i with
    | some s' => drun2 cal P ops A n base E l s'
    | none => none

def dstOk (ops : Array Oper) (n : Nat) : Bool :=
  (List.range ops.size).all fun i => match (ops[i]?).bind (·.dst) with
    | none => true
    | some d => decide (d < n) && (List.range ops.size).all fun j => j == i || (ops[j]?).bind (·.dst) != some d

def drawRun0 : Draw := fun cal P ops st =>
  let A := ancs ops.toList []
  let C := canonE ops.size A ((List.range ops.size).filter fun i => (ops[i]?).any isEff) []
  let base := st.H.next
  let K0 : Heap := { st.H with next := base + ops.size }
  let s0 : DS := { cur := K0, ks := [K0], es := [], vals := [] }
  if dstOk ops st.n && P.follows .mixedOrders && (List.range ops.size).all fun a => (st.H.get (base + a)).isNone then
    match drun1 cal P ops A st.n base C st.t s0 with
    | some E => (match drun2 cal P ops A st.n base E C s0 with
      | some s => if (s.vals.all fun p => match (ops[p.1]?).bind (·.dst) with | some d => veq p.2 ((E.get d).getD undef) | none => true) && (List.range ops.size).all fun i => s.has i then some { n := st.n, t := E, H := s.cur } else none
      | none => none)
    | none => none
  else none

def lateOk (ops : Array Oper) (o : Oper) : Bool := (List.range (ops.size - 1)).all fun i => (direct o).contains i && match ops[i]? with
  | some o' => match o'.guard with
    | some (j, _) => j != ops.size - 1
    | none => true
  | none => true
def lateO (ops : Array Oper) : Option (Tmp × Operand × Oper) :=
  match ops[ops.size - 1]? with
  | some ⟨some d, .assign x, ty, pos, af, none⟩ => if lateOk ops ⟨some d, .assign x, ty, pos, af, none⟩ then some (d, x, ⟨none, .assign x, ty, pos, af, none⟩) else none
  | _ => none
def badO (ops : Array Oper) : Bool := (List.range ops.size).any fun i => match ops[i]? with
  | some o => !lookOk ops o
  | none => false
def drawRun : Draw := fun cal P ops st =>
  if badO ops then match lateO ops with
    | some (d, x, o) => (drawRun0 cal P (ops.setIfInBounds (ops.size - 1) o) st).bind fun s => s.put (some d) (ev s.t x) s.H
    | none => none
  else drawRun0 cal P ops st

theorem plus_next (P : Program) (ops : Array Oper) (E : Tr Value) (n base : Nat) (K : Heap) : ∀ l, (plus P ops E n base K l).next = K.next := by
  intro l
  induction l with
  | nil => rfl
  | cons a l ih =>
    simp only [plus]
    split
    · split
      · exact ih
      · exact ih
    · exact ih

theorem plus_get (P : Program) (ops : Array Oper) (E : Tr Value) (n base : Nat) (K : Heap) : ∀ l id, (∃ a ob, a ∈ l ∧ id = base + a ∧ objOf P ops E n base a = some ob ∧ K.get id = none ∧ (plus P ops E n base K l).get id = some ob) ∨
    ((¬ ∃ a ob, a ∈ l ∧ id = base + a ∧ objOf P ops E n base a = some ob ∧ K.get id = none) ∧ (plus P ops E n base K l).get id = K.get id) := by
  intro l
  induction l with
  | nil => intro id; exact .inr ⟨fun ⟨a, ob, h, _⟩ => (by cases h), rfl⟩
  | cons a l ih =>
    intro id
    have keep : (plus P ops E n base K (a :: l)).get id = (plus P ops E n base K l).get id → (¬ ∃ ob, id = base + a ∧ objOf P ops E n base a = some ob ∧ K.get id = none) → _ := fun e hno =>
      (show (∃ b ob, b ∈ a :: l ∧ id = base + b ∧ objOf P ops E n base b = some ob ∧ K.get id = none ∧ (plus P ops E n base K (a :: l)).get id = some ob) ∨
        ((¬ ∃ b ob, b ∈ a :: l ∧ id = base + b ∧ objOf P ops E n base b = some ob ∧ K.get id = none) ∧ (plus P ops E n base K (a :: l)).get id = K.get id) from by
      rw [e]
      rcases ih id with ⟨b, ob, h1, h2⟩ | ⟨h1, h2⟩
      · exact .inl ⟨b, ob, List.mem_cons_of_mem _ h1, h2⟩
      · refine .inr ⟨fun ⟨b, ob, hb, h3⟩ => ?_, h2⟩
        rcases List.mem_cons.mp hb with rfl | hb
        · exact hno ⟨ob, h3⟩
        · exact h1 ⟨b, ob, hb, h3⟩)
    cases ho : objOf P ops E n base a with
    | none => exact keep (by simp only [plus, ho]) (fun ⟨ob, _, h, _⟩ => by rw [ho] at h; cases h)
    | some ob =>
      by_cases hk : (K.get (base + a)).isNone = true
      · by_cases e : id = base + a
        · subst e
          exact .inl ⟨a, ob, List.mem_cons_self, rfl, ho, by simpa using hk, by simp only [plus, ho, hk, if_true, Heap.get_set]⟩
        · exact keep (by simp only [plus, ho, hk, if_true, Heap.get_set, if_neg e]) (fun ⟨_, h, _⟩ => e h)
      · exact keep (by simp only [plus, ho, hk, if_false, Bool.false_eq_true]) (fun ⟨_, h, _, h2⟩ => hk (by rw [← h, h2]; rfl))


variable {P : Program}

theorem aopF_free {e : Operand → Value} {o : Oper} {H : Heap} {r : Res} (h : isEff o = false) (ha : aopF P e o H = some r) : ∃ v, r = .val v H := by
  have nomap : ∀ {α : Type} {o : Option α} {g : α → Value}, o.map (fun a => Res.val (g a) H) = some r → ∃ v, r = .val v H := fun h => by
    obtain ⟨a, _, h2⟩ := map_val h; exact ⟨_, h2.symm⟩
  have pur : ∀ {s : Sem Next}, pureB P s H = some r → ∃ v, r = .val v H := fun h => by
    unfold pureB at h
    split at h
    · split at h
      · cases h; exact ⟨_, rfl⟩
      · cases h
    · cases h
  obtain ⟨dst, op, ty, pos, after, guard⟩ := o
  cases op
  case call c =>
    obtain ⟨callee, cargs, ats⟩ := c
    cases callee
    case value g => simp [isEff] at h
    case invoke => simp [aopF] at ha
    case builtin b =>
      simp only [aopF] at ha
      split at ha
      · split at ha
        · exact pur ha
        · cases ha
      · split at ha
        · exact pur ha
        · cases ha
      · obtain ⟨p, h1, h2⟩ := map_val ha
        unfold builtinB at h1
        split at h1
        · simp [isEff] at h
        · simp [isEff] at h
        · split at h1
          · split at h1
            · obtain ⟨n, h3, h4⟩ := Option.map_eq_some_iff.mp h1
              subst h4
              exact ⟨_, h2.symm⟩
            · cases h1
          · cases h1
        · simp [isEff] at h
        · cases h1
  case store => simp [isEff] at h
  case mapUpdate => simp [isEff] at h
  case insert => simp [isEff] at h
  case slice =>
    simp only [aopF] at ha
    split at ha <;> exact nomap ha
  case convert =>
    simp only [aopF, convertB] at ha
    split at ha
    · split at ha
      · split at ha
        · split at ha
          · exact nomap ha
          · cases ha
        · cases ha
      · cases ha
    · split at ha
      · cases ha
      · split at ha
        · exact pur ha
        · cases ha
  case binOp =>
    simp only [aopF] at ha
    split at ha
    · cases ha; exact ⟨_, rfl⟩
    · cases ha; exact ⟨_, rfl⟩
    · split at ha
      · exact pur ha
      · cases ha
  case unOp =>
    simp only [aopF] at ha
    split at ha
    · exact pur ha
    · cases ha
  case move => simp only [aopF, Option.some.injEq] at ha; exact ⟨_, ha.symm⟩
  case assign => simp only [aopF, Option.some.injEq] at ha; exact ⟨_, ha.symm⟩
  case makeFunc => simp only [aopF, Option.some.injEq] at ha; exact ⟨_, ha.symm⟩
  case pick => simp only [aopF] at ha; split at ha <;> cases ha; exact ⟨_, rfl⟩
  case nilCheck => simp only [aopF] at ha; split at ha <;> cases ha <;> exact ⟨_, rfl⟩
  case makeInterface => simp only [aopF] at ha; split at ha <;> cases ha; exact ⟨_, rfl⟩
  case extract =>
    simp only [aopF] at ha
    split at ha
    · exact nomap ha
    · cases ha
  all_goals (simp only [aopF] at ha)
  all_goals first
    | (cases ha; done)
    | exact nomap ha

theorem allCongr {α : Type} {f g : α → Bool} : ∀ {l : List α}, (∀ x ∈ l, f x = g x) → l.all f = l.all g
  | [], _ => rfl
  | a :: l, h => by rw [List.all_cons, List.all_cons, h a (by simp), allCongr fun x hx => h x (by simp [hx])]

theorem args_congr {e e2 : Operand → Value} {xs : Array Operand} (h : ∀ x ∈ xs, e x = e2 x) : xs.map e = xs.map e2 := Array.map_congr_left h

theorem pairs_congr {e e2 : Operand → Value} {ps : Array (Nat × Operand)} (hp : ∀ x ∈ ps.map (·.2), e x = e2 x) : (ps.map fun (i, x) => (i, e x)) = (ps.map fun (i, x) => (i, e2 x)) :=
  Array.map_congr_left fun p hm => by
    obtain ⟨i, x⟩ := p
    simp only [hp x (Array.mem_map.2 ⟨(i, x), hm, rfl⟩)]

theorem allocB_congr {e e2 : Operand → Value} {o : Oper} {j : Nat} (h : ∀ x ∈ o.op.operands, e x = e2 x) : allocB P e o j = allocB P e2 o j := by
  obtain ⟨dst, op, ty, pos, after, guard⟩ := o
  cases op <;> simp only [Op.operands] at h <;> simp only [allocB]
  case box t x => rw [h x (by simp)]
  case buildSlice t n ps => rw [pairs_congr fun x hx => h x (by simpa using hx)]
  case makeSlice t l c => rw [h l (by simp), h c (by simp)]
  case makeMap t r => cases r <;> rfl
  case convert a b x => rw [h x (by simp)]

theorem aopF_congr {e e2 : Operand → Value} {o : Oper} {H : Heap} (hs : ∀ cs b, o.op ≠ .select cs b) (h : ∀ x ∈ o.op.operands, e x = e2 x) : aopF P e o H = aopF P e2 o H := by
  have hex := execOp_congr o hs h
  obtain ⟨dst, op, ty, pos, after, guard⟩ := o
  cases op <;> simp only [Op.operands] at h <;> simp only [aopF]
  case move x => rw [h x (by simp)]
  case assign x => rw [h x (by simp)]
  case pick c a b => rw [h c (by simp), h a (by simp), h b (by simp)]
  case load t a => rw [h a (by simp)]
  case store t a x => rw [h a (by simp), h x (by simp)]
  case nilCheck x => rw [h x (by simp)]
  case fieldAddr t x f => rw [h x (by simp)]
  case indexAddr t x i => rw [h x (by simp), h i (by simp)]
  case field t x f => rw [h x (by simp)]
  case extract x i => rw [h x (by simp)]
  case index t x i => rw [h x (by simp), h i (by simp)]
  case build t ps => rw [pairs_congr fun x hx => h x (by simpa using hx)]
  case makeFunc fn first captured => rw [args_congr (xs := first) fun x hx => h x (by simp [hx]), args_congr (xs := captured) fun x hx => h x (by simp [hx])]
  case makeInterface t x => rw [h x (by simp)]
  case slice t x lo hi mx =>
    have h1 : lo.map e = lo.map e2 := by cases lo <;> simp_all
    have h2 : hi.map e = hi.map e2 := by cases hi <;> simp_all
    have h3 : mx.map e = mx.map e2 := by cases mx <;> simp_all
    rw [h x (by simp), h1, h2, h3]
  case convert a b x => rw [h x (by simp), hex]
  case binOp op t x y yt => rw [h x (by simp), h y (by simp), hex]
  case unOp op t x => rw [h x (by simp), hex]
  case lookup t m k ok => rw [h m (by simp), h k (by simp)]
  case mapUpdate t m k x => rw [h m (by simp), h k (by simp), h x (by simp)]
  case insert t m k x => rw [h m (by simp), h k (by simp), h x (by simp)]
  case call c =>
    obtain ⟨callee, cargs, ats⟩ := c
    have ha : cargs.map e = cargs.map e2 := args_congr fun x hx => h x (by simp [Call.operands, hx])
    cases callee
    case value f => simp only [h f (by simp [Call.operands]), ha]
    case invoke => rfl
    case builtin b =>
      have hl : (cargs.toList.all fun x => isScalA (e x)) = (cargs.toList.all fun x => isScalA (e2 x)) := by
        exact allCongr fun x hx => by rw [h x (by simpa [Call.operands] using hx)]
      simp only [hl, hex, ha]

end Go.B

namespace Go.B
open Go

section
variable {P : Program} [Dem P] {cal : Cal} {ops : Array Oper} {A : List (List Nat)} {n base : Nat} {E : Tr Value}

omit [Dem P] in
theorem dstep_facts {s s' : DS} {i : Nat} (h : dstep cal P ops A n base E s i = some s') :
    ∃ o, ops[i]? = some o ∧ s.has i = false ∧ (∀ d ∈ direct o, s.has d = true) ∧ lookOk ops o = true ∧
      ((kindB P ops E n base i o = .skip ∧ s' = { s with vals := (i, undef) :: s.vals }) ∨
       (∃ v ob, kindB P ops E n base i o = .alloc v ob ∧ s' = { s with cur := s.cur.set (base + i) ob, vals := (i, v) :: s.vals }) ∨
       (kindB P ops E n base i o = .eff ∧ (∀ p ∈ s.vals, (A.getD i []).contains p.1 = true) ∧ ∃ v H, effB cal P (ev E) o s.cur = some (v, H) ∧ (∀ a, a < ops.size → s.has a = true ∨ H.get (base + a) = none) ∧ (∀ a, a < ops.size → s.cur.get (base + a) = none ∨ (H.get (base + a)).isSome = true) ∧
          s' = { cur := H, ks := H :: s.ks, es := i :: s.es, vals := (i, v) :: s.vals }) ∨
       (kindB P ops E n base i o = .free ∧ ∃ K ks v H, s.ks = K :: ks ∧ aopF P (ev E) o (plus P ops E n base K (A.getD i [])) = some (.val v H) ∧ freeAll P (fun K => plus P ops E n base K (A.getD i [])) (ev E) o v (A.getD i []) s.ks s.es = true ∧ s' = { s with vals := (i, v) :: s.vals })) := by
  unfold dstep at h
  cases ho : ops[i]? with
  | none => rw [ho] at h; cases h
  | some o =>
    rw [ho] at h
    simp only at h
    split at h
    · cases h
    · rename_i hhas
      split at h
      · rename_i hd
        simp only [Bool.and_eq_true, List.all_eq_true] at hd
        refine ⟨o, rfl, by simpa using hhas, hd.1, hd.2, ?_⟩
        split at h
        · rename_i hk; cases h; exact .inl ⟨hk, rfl⟩
        · rename_i v ob hk; cases h; exact .inr (.inl ⟨v, ob, hk, rfl⟩)
        · rename_i hk
          split at h
          · rename_i hanc
            split at h
            · rename_i v H he
              split at h
              · rename_i hall
                cases h
                have hall' : ∀ a, a < ops.size → (s.has a = true ∨ H.get (base + a) = none) ∧ (s.cur.get (base + a) = none ∨ (H.get (base + a)).isSome = true) := fun a ha => by
                  have := List.all_eq_true.mp hall a (by simpa using ha)
                  simpa using this
                exact .inr (.inr (.inl ⟨hk, fun p hp => List.all_eq_true.mp hanc p hp, v, H, he, fun a ha => (hall' a ha).1, fun a ha => (hall' a ha).2, rfl⟩))
              · cases h
            · cases h
          · cases h
        · rename_i hk
          split at h
          · rename_i K ks hks
            split at h
            · rename_i v H ha
              split at h
              · rename_i hfree
                cases h
                refine .inr (.inr (.inr ⟨hk, K, ks, v, H, hks, ha, ?_, rfl⟩))
                exact hfree
              · cases h
            · cases h
          · cases h
      · cases h

structure Plan (P : Program) (cal : Cal) (ops : Array Oper) (A : List (List Nat)) (n base : Nat) (E : Tr Value) (C : List Nat) (s : Nat → DS) : Prop where
  step : ∀ q (h : q < C.length), dstep cal P ops A n base E (s q) C[q] = some (s (q + 1))
  ks0 : (s 0).ks = [(s 0).cur]
  es0 : (s 0).es = []
  vals0 : (s 0).vals = []
  room0 : base + ops.size ≤ (s 0).cur.next
  none0 : ∀ a, a < ops.size → (s 0).cur.get (base + a) = none
  all : ∀ i, i < ops.size → (s C.length).has i = true
  val : ∀ p ∈ (s C.length).vals, ∀ o d, ops[p.1]? = some o → o.dst = some d → p.2 = (E.get d).getD undef
  dst : dstOk ops n = true
  anc : A = ancs ops.toList []

variable {C : List Nat} {s : Nat → DS}

omit [Dem P] in
theorem Plan.vals (h : Plan P cal ops A n base E C s) : ∀ q, q ≤ C.length → ∀ i, (s q).has i = true ↔ ∃ r, ∃ hr : r < C.length, r < q ∧ C[r] = i := by
  intro q
  induction q with
  | zero => intro _ i; unfold DS.has; rw [h.vals0]; simp
  | succ q ih =>
    intro hq i
    have hstep := h.step q hq
    obtain ⟨o, _, _, _, _, hk⟩ := dstep_facts hstep
    have hv : ∃ v, (s (q + 1)).vals = (C[q], v) :: (s q).vals := by
      rcases hk with ⟨_, e⟩ | ⟨v, ob, _, e⟩ | ⟨_, _, v, H, _, _, _, e⟩ | ⟨_, K, ks, v, H, _, _, _, e⟩
      · exact ⟨undef, by rw [e]⟩
      · exact ⟨v, by rw [e]⟩
      · exact ⟨v, by rw [e]⟩
      · exact ⟨v, by rw [e]⟩
    obtain ⟨v, hv⟩ := hv
    have : (s (q + 1)).has i = true ↔ (C[q] = i ∨ (s q).has i = true) := by unfold DS.has; rw [hv]; simp
    rw [this, ih (by omega) i]
    constructor
    · rintro (e | ⟨r, hr, h1, h2⟩)
      · exact ⟨q, hq, by omega, e⟩
      · exact ⟨r, hr, by omega, h2⟩
    · rintro ⟨r, hr, h1, h2⟩
      by_cases e : r = q
      · subst e; exact .inl h2
      · exact .inr ⟨r, hr, by omega, h2⟩

omit [Dem P] in
theorem Plan.inj (h : Plan P cal ops A n base E C s) {q r : Nat} (hq : q < C.length) (hr : r < C.length) (e : C[q] = C[r]) : q = r := by
  have key : ∀ q r (hq : q < C.length) (hr : r < C.length), q < r → C[q] = C[r] → False := fun q r hq hr hlt e => by
    obtain ⟨o, _, hn, _⟩ := dstep_facts (h.step r hr)
    have := (h.vals r (by omega) C[r]).mpr ⟨q, hq, hlt, e⟩
    rw [hn] at this
    cases this
  rcases Nat.lt_trichotomy q r with hlt | he | hlt
  · exact (key q r hq hr hlt e).elim
  · exact he
  · exact (key r q hr hq hlt e.symm).elim

omit [Dem P] in
theorem Plan.pos (h : Plan P cal ops A n base E C s) {i : Nat} (hi : i < ops.size) : ∃ q, ∃ hq : q < C.length, C[q] = i := by
  obtain ⟨r, hr, _, e⟩ := (h.vals C.length (Nat.le_refl _) i).mp (h.all i hi)
  exact ⟨r, hr, e⟩

omit [Dem P] in
theorem Plan.lt (h : Plan P cal ops A n base E C s) {q : Nat} (hq : q < C.length) : C[q] < ops.size := by
  obtain ⟨o, ho, _⟩ := dstep_facts (h.step q hq)
  exact (Array.getElem?_eq_some_iff.mp ho).1

omit [Dem P] in
theorem Plan.keeps (h : Plan P cal ops A n base E C s) : ∀ (d q : Nat), q + d = C.length → ∀ p ∈ (s q).vals, p ∈ (s C.length).vals := by
  intro d
  induction d with
  | zero => intro q hq p hp; rw [Nat.add_zero] at hq; rwa [← hq]
  | succ d ih =>
    intro q hq p hp
    refine ih (q + 1) (by omega) p ?_
    obtain ⟨o, _, _, _, _, hk⟩ := dstep_facts (h.step q (by omega))
    rcases hk with ⟨_, e⟩ | ⟨v, ob, _, e⟩ | ⟨_, _, v, H, _, _, _, e⟩ | ⟨_, K, ks, v, H, _, _, _, e⟩ <;> rw [e] <;> exact List.mem_cons_of_mem _ hp

omit [Dem P] in
theorem Plan.valAt (h : Plan P cal ops A n base E C s) {q : Nat} (hq : q < C.length) {v : Value} (hv : (s (q + 1)).vals = (C[q], v) :: (s q).vals) {o : Oper} {d : Tmp} (ho : ops[C[q]]? = some o) (hd : o.dst = some d) : v = (E.get d).getD undef := by
  have := h.keeps (C.length - (q + 1)) (q + 1) (by omega) (C[q], v) (by rw [hv]; exact List.mem_cons_self)
  exact h.val _ this o d ho hd

omit [Dem P] in
theorem kd_eq {i : Nat} {o : Oper} (h : ops[i]? = some o) : kd P ops E n base i = kindB P ops E n base i o := by unfold kd; rw [h]

omit [Dem P] in
theorem Plan.seg (h : Plan P cal ops A n base E C s) (p : Nat) : ∀ q, p ≤ q → q ≤ C.length → (∀ r (hr : r < C.length), p ≤ r → r < q → kd P ops E n base C[r] ≠ .eff) →
    (s q).cur.next = (s p).cur.next ∧ (s q).ks = (s p).ks ∧ (s q).es = (s p).es ∧
    (∀ r (hr : r < C.length) ob, p ≤ r → r < q → objOf P ops E n base C[r] = some ob → (s q).cur.get (base + C[r]) = some ob) ∧
    (∀ id, (¬ ∃ r, ∃ hr : r < C.length, ∃ ob, p ≤ r ∧ r < q ∧ objOf P ops E n base C[r] = some ob ∧ id = base + C[r]) → (s q).cur.get id = (s p).cur.get id) := by
  intro q
  induction q with
  | zero =>
    intro hpq _ _
    have : p = 0 := by omega
    subst this
    exact ⟨rfl, rfl, rfl, fun r hr ob h1 h2 => by omega, fun id _ => rfl⟩
  | succ q ih =>
    intro hpq hq hne
    by_cases hp : p = q + 1
    · subst hp
      exact ⟨rfl, rfl, rfl, fun r hr ob h1 h2 => by omega, fun id _ => rfl⟩
    · obtain ⟨i1, i2, i3, i4, i5⟩ := ih (by omega) (by omega) (fun r hr h1 h2 => hne r hr h1 (by omega))
      obtain ⟨o, ho, hn, hd, hl, hk⟩ := dstep_facts (h.step q hq)
      have hkd := kd_eq (P := P) (E := E) (n := n) (base := base) ho
      have keep : (s (q + 1)).cur = (s q).cur → (s (q + 1)).ks = (s q).ks → (s (q + 1)).es = (s q).es → objOf P ops E n base C[q] = none → _ := fun e1 e2 e3 e4 =>
        (show (s (q + 1)).cur.next = (s p).cur.next ∧ (s (q + 1)).ks = (s p).ks ∧ (s (q + 1)).es = (s p).es ∧
          (∀ r (hr : r < C.length) ob, p ≤ r → r < q + 1 → objOf P ops E n base C[r] = some ob → (s (q + 1)).cur.get (base + C[r]) = some ob) ∧
          (∀ id, (¬ ∃ r, ∃ hr : r < C.length, ∃ ob, p ≤ r ∧ r < q + 1 ∧ objOf P ops E n base C[r] = some ob ∧ id = base + C[r]) → (s (q + 1)).cur.get id = (s p).cur.get id) from
        ⟨by rw [e1]; exact i1, e2.trans i2, e3.trans i3, fun r hr ob h1 h2 h3 => by
          rw [e1]
          by_cases er : r = q
          · subst er; rw [e4] at h3; cases h3
          · exact i4 r hr ob h1 (by omega) h3, fun id hno => by
          rw [e1]
          exact i5 id (fun ⟨r, hr, ob, h1, h2, h3⟩ => hno ⟨r, hr, ob, h1, by omega, h3⟩)⟩)
      rcases hk with ⟨hk, e⟩ | ⟨v, ob, hk, e⟩ | ⟨hk, _⟩ | ⟨hk, K, ks, v, H, _, _, _, e⟩
      · exact keep (by rw [e]) (by rw [e]) (by rw [e]) (by unfold objOf; rw [hkd, hk])
      · have hob : objOf P ops E n base C[q] = some ob := by unfold objOf; rw [hkd, hk]
        refine ⟨by rw [e]; exact i1, by rw [e]; exact i2, by rw [e]; exact i3, fun r hr ob' h1 h2 h3 => ?_, fun id hno => ?_⟩
        · rw [e]
          simp only [Heap.get_set]
          by_cases er : r = q
          · subst er; rw [hob] at h3; cases h3; rw [if_pos rfl]
          · rw [if_neg (fun e' => er (h.inj hr hq (by omega)))]
            exact i4 r hr ob' h1 (by omega) h3
        · rw [e]
          simp only [Heap.get_set]
          rw [if_neg (fun e' => hno ⟨q, hq, ob, by omega, by omega, hob, e'⟩)]
          exact i5 id (fun ⟨r, hr, ob', h1, h2, h3⟩ => hno ⟨r, hr, ob', h1, by omega, h3⟩)
      · exact absurd (hkd.trans hk) (hne q hq (by omega) (by omega))
      · exact keep (by rw [e]) (by rw [e]) (by rw [e]) (by unfold objOf; rw [hkd, hk])

omit [Dem P] in
theorem Plan.visit (h : Plan P cal ops A n base E C s) {pl : Heap → Heap} {e : Operand → Value} {o : Oper} {v : Value} {anc : List Nat} (p : Nat) (hb : (s p).ks.head? = some (s p).cur) : ∀ q, p ≤ q → q ≤ C.length →
    (∀ r (hr : r < C.length), p ≤ r → r < q → kd P ops E n base C[r] = .eff → anc.contains C[r] = false) → freeAll P pl e o v anc (s q).ks (s q).es = true → ∃ H, aopF P e o (pl (s p).cur) = some (.val v H) := by
  have top : ∀ K ks es, freeAll P pl e o v anc (K :: ks) es = true → ∃ H, aopF P e o (pl K) = some (.val v H) := by
    intro K ks es hf
    simp only [freeAll, Bool.and_eq_true] at hf
    have h1 := hf.1
    split at h1
    · rename_i v' H ha
      exact ⟨H, by rw [veq_eq h1]; exact ha⟩
    · cases h1
  intro q
  induction q with
  | zero =>
    intro hpq _ _ hf
    have : p = 0 := by omega
    subst this
    cases hks : (s 0).ks with
    | nil => rw [hks] at hb; cases hb
    | cons K ks => rw [hks] at hb hf; cases hb; exact top _ _ _ hf
  | succ q ih =>
    intro hpq hq hne hf
    by_cases hp : p = q + 1
    · subst hp
      cases hks : (s (q + 1)).ks with
      | nil => rw [hks] at hb; cases hb
      | cons K ks => rw [hks] at hb hf; cases hb; exact top _ _ _ hf
    · obtain ⟨o', ho, _, _, _, hk⟩ := dstep_facts (h.step q hq)
      have hkd := kd_eq (P := P) (E := E) (n := n) (base := base) ho
      have rest := ih (by omega) (by omega) (fun r hr h1 h2 => hne r hr h1 (by omega))
      rcases hk with ⟨_, e⟩ | ⟨_, _, _, e⟩ | ⟨hk, _, v', H, _, _, _, e⟩ | ⟨_, _, _, _, _, _, _, _, e⟩
      · rw [e] at hf; exact rest hf
      · rw [e] at hf; exact rest hf
      · rw [e] at hf
        simp only [freeAll, Bool.and_eq_true, Bool.or_eq_true] at hf
        rcases hf.2 with h2 | h2
        · have := hne q hq (by omega) (by omega) (hkd.trans hk)
          rw [this] at h2
          cases h2
        · exact rest h2
      · rw [e] at hf; exact rest hf

omit [Dem P] in
theorem Plan.made (h : Plan P cal ops A n base E C s) {r : Nat} (hr : r < C.length) {ob : AObj} (hob : objOf P ops E n base C[r] = some ob) : ∀ q, r < q → q ≤ C.length → ((s q).cur.get (base + C[r])).isSome = true := by
  intro q
  induction q with
  | zero => intro hlt; omega
  | succ q ih =>
    intro hlt hq
    obtain ⟨o, ho, _, _, _, hk⟩ := dstep_facts (h.step q hq)
    have hkd := kd_eq (P := P) (E := E) (n := n) (base := base) ho
    by_cases er : r = q
    · subst er
      unfold objOf at hob
      rw [hkd] at hob
      rcases hk with ⟨hk, e⟩ | ⟨v, ob', hk, e⟩ | ⟨hk, _⟩ | ⟨hk, _⟩
      · rw [hk] at hob; cases hob
      · rw [e]; simp only [Heap.get_set, if_true]; rfl
      · rw [hk] at hob; cases hob
      · rw [hk] at hob; cases hob
    · have i0 := ih (by omega) (by omega)
      rcases hk with ⟨_, e⟩ | ⟨v, ob', hk, e⟩ | ⟨_, _, v, H, _, _, hkeep, e⟩ | ⟨_, _, _, _, _, _, _, _, e⟩
      · rw [e]; exact i0
      · rw [e]; simp only [Heap.get_set]; split
        · rfl
        · exact i0
      · rw [e]
        rcases hkeep C[r] (h.lt hr) with h1 | h1
        · rw [h1] at i0; cases i0
        · exact h1
      · rw [e]; exact i0


def Good (ops : Array Oper) (A : List (List Nat)) (i : Nat) : Prop := ∀ x ∈ A.getD i [], ∃ o, ops[i]? = some o ∧ ∃ d ∈ direct o, x = d ∨ (d < i ∧ x ∈ A.getD d [])

theorem ancs_good : ∀ (l : List Oper) (acc : List (List Nat)), ops.toList.drop acc.length = l → (∀ i, i < acc.length → Good ops acc i) → ∀ i, Good ops (ancs l acc) i := by
  intro l
  induction l with
  | nil =>
    intro acc _ hacc i
    by_cases hi : i < acc.length
    · exact hacc i hi
    · intro x hx
      simp only [ancs] at hx
      rw [List.getD_eq_getElem?_getD, List.getElem?_eq_none (by omega)] at hx
      cases hx
  | cons o l ih =>
    intro acc hdrop hacc
    simp only [ancs]
    refine ih _ ?_ ?_
    · simp only [List.length_append, List.length_singleton]
      rw [← List.drop_drop, hdrop]
      rfl
    · intro i hi x hx
      simp only [List.length_append, List.length_singleton] at hi
      have old : ∀ d, d < acc.length → (acc ++ [((direct o).flatMap fun d => d :: acc.getD d []).eraseDups]).getD d [] = acc.getD d [] := fun d hd => by
        rw [List.getD_eq_getElem?_getD, List.getD_eq_getElem?_getD, List.getElem?_append_left hd]
      by_cases hlt : i < acc.length
      · rw [old i hlt] at hx
        obtain ⟨o', ho', d, hd, hxd⟩ := hacc i hlt x hx
        refine ⟨o', ho', d, hd, ?_⟩
        rcases hxd with hxd | ⟨h1, h2⟩
        · exact .inl hxd
        · exact .inr ⟨h1, by rw [old d (by omega)]; exact h2⟩
      · have hi' : i = acc.length := by omega
        subst hi'
        rw [List.getD_eq_getElem?_getD, List.getElem?_append_right (Nat.le_refl _)] at hx
        simp only [Nat.sub_self, List.getElem?_cons_zero, Option.getD_some] at hx
        rw [List.mem_eraseDups, List.mem_flatMap] at hx
        obtain ⟨d, hd, hx⟩ := hx
        have ho : ops[acc.length]? = some o := by
          have : (ops.toList.drop acc.length)[0]? = some o := by rw [hdrop]; rfl
          rw [List.getElem?_drop] at this
          simpa using this
        refine ⟨o, ho, d, hd, ?_⟩
        rcases List.mem_cons.mp hx with e | hx
        · exact .inl e
        · by_cases hdl : d < acc.length
          · exact .inr ⟨hdl, by rw [old d hdl]; exact hx⟩
          · rw [List.getD_eq_getElem?_getD, List.getElem?_eq_none (by omega)] at hx
            cases hx

theorem anc_in {L : Nat → Prop} (hA : A = ancs ops.toList []) (hclosed : ∀ i o, ops[i]? = some o → L i → ∀ d ∈ direct o, L d) : ∀ (i : Nat) (o : Oper), ops[i]? = some o → (∀ d ∈ direct o, L d) → ∀ x ∈ A.getD i [], L x := by
  have hg : ∀ i, Good ops A i := by rw [hA]; exact ancs_good ops.toList [] rfl (fun i hi => absurd hi (by simp))
  intro i
  induction i using Nat.strongRecOn with
  | _ i ih =>
    intro o ho hd x hx
    obtain ⟨o', ho', d, hdd, hxd⟩ := hg i x hx
    rw [ho] at ho'; cases ho'
    rcases hxd with rfl | ⟨hlt, hx2⟩
    · exact hd _ hdd
    · have hLd := hd d hdd
      obtain ⟨o2, ho2, -⟩ := hg d x hx2
      exact ih d hlt o2 ho2 (hclosed d o2 ho2 hLd) x hx2

end

end Go.B

namespace Go.B
open Go

theorem Mv.congr {P : Program} [Dem P] {ρ ρ' : Ren} {H H' H2 : Heap} {w w' : World} (h : Mv P ρ H w ρ' H' w') (hg : ∀ i, H2.get i = H'.get i) (hn : H2.next = H'.next) : Mv P ρ H w ρ' H2 w' where
  ext := h.ext
  rel := h.rel.sub (fun i o ho => by rw [← hg]; exact ho) hn
  next := by rw [hn]; exact h.next
  keep i a := by rw [hg]; exact h.keep i a
  new i L a b := by rw [hg]; exact h.new i L a b
  os := h.os
  tape := h.tape
  output := h.output
  size := h.size
  frame := h.frame
  own i L a b c := by
    obtain ⟨j, M, h1, h2, h3, h4⟩ := h.own i L (a.of_get (hg i)) b c
    exact ⟨j, M, h1, fun z => h2 (z.of_get (hg i)), h3, h4⟩

theorem mix_heap (H X : Heap) (Z : Nat → Prop) (base : Nat) (hZ : ∀ i, Z i → ∃ o, H.get i = some o) : ∀ n, ∃ H3 : Heap, H3.next = X.next ∧ ∀ i, ((∃ j, j < n ∧ i = base + j) ∧ Z i → H3.get i = H.get i) ∧ (¬ ((∃ j, j < n ∧ i = base + j) ∧ Z i) → H3.get i = X.get i) := by
  intro n
  induction n with
  | zero => exact ⟨X, rfl, fun i => ⟨fun ⟨⟨j, hj, _⟩, _⟩ => absurd hj (by omega), fun _ => rfl⟩⟩
  | succ n ih =>
    obtain ⟨H3, h1, h2⟩ := ih
    by_cases hz : Z (base + n)
    · obtain ⟨o, ho⟩ := hZ _ hz
      refine ⟨H3.set (base + n) o, h1, fun i => ⟨fun ⟨⟨j, hj, e⟩, z⟩ => ?_, fun hno => ?_⟩⟩
      · rw [Heap.get_set]
        by_cases ei : i = base + n
        · rw [if_pos ei, ei, ho]
        · rw [if_neg ei]; exact (h2 i).1 ⟨⟨j, by omega, e⟩, z⟩
      · rw [Heap.get_set]
        by_cases ei : i = base + n
        · exact absurd ⟨⟨n, by omega, ei⟩, ei ▸ hz⟩ hno
        · rw [if_neg ei]; exact (h2 i).2 (fun ⟨⟨j, hj, e⟩, z⟩ => hno ⟨⟨j, by omega, e⟩, z⟩)
    · refine ⟨H3, h1, fun i => ⟨fun ⟨⟨j, hj, e⟩, z⟩ => ?_, fun hno => ?_⟩⟩
      · by_cases ej : j = n
        · subst ej; exact absurd (e ▸ z) hz
        · exact (h2 i).1 ⟨⟨j, by omega, e⟩, z⟩
      · exact (h2 i).2 (fun ⟨⟨j, hj, e⟩, z⟩ => hno ⟨⟨j, by omega, e⟩, z⟩)

section
variable {P : Program} [Dem P] {cal : Cal} {ops : Array Oper} {A : List (List Nat)} {n base : Nat} {E : Tr Value} {C : List Nat} {s : Nat → DS}
variable {ρ0 : Ren} {H0 : Heap} {w0 : World}

abbrev Lst (listed : Array Bool) (i : Nat) : Prop := listed.getD i false = true

def Xtra (P : Program) (ops : Array Oper) (E : Tr Value) (n base : Nat) (C : List Nat) (listed : Array Bool) (p id : Nat) (ob : AObj) : Prop :=
  ∃ q, ∃ hq : q < C.length, p ≤ q ∧ Lst listed C[q] ∧ objOf P ops E n base C[q] = some ob ∧ id = base + C[q]

structure Inv (P : Program) [Dem P] (ops : Array Oper) (n base : Nat) (E : Tr Value) (C : List Nat) (s : Nat → DS) (ρ0 : Ren) (H0 : Heap) (w0 : World) (listed : Array Bool) (a : Act) (w : World) (ρ : Ren) (HS : Heap) (p : Nat) : Prop where
  size : listed.size = ops.size
  ple : p ≤ C.length
  before : ∀ q (h : q < C.length), q < p → Lst listed C[q]
  noeff : ∀ q (h : q < C.length), p ≤ q → kd P ops E n base C[q] = .eff → ¬ Lst listed C[q]
  bound : (s p).ks.head? = some (s p).cur
  next : HS.next = (s p).cur.next
  room : base + ops.size ≤ HS.next
  there : ∀ id ob, Xtra P ops E n base C listed p id ob → HS.get id = some ob
  else_ : ∀ id, (¬ ∃ ob, Xtra P ops E n base C listed p id ob) → HS.get id = (s p).cur.get id
  free : ∀ q (h : q < C.length), p ≤ q → (s p).cur.get (base + C[q]) = none
  ren : ∀ q (h : q < C.length), ¬ Lst listed C[q] → ρ (base + C[q]) = none
  mv : Mv P ρ0 H0 w0 ρ HS w
  closed : ∀ i o, ops[i]? = some o → Lst listed i → ∀ d ∈ direct o, Lst listed d
  tsize : a.tmps.size = n
  defers : a.defers = []
  tmps : ∀ t, (∀ i o, ops[i]? = some o → o.dst = some t → Lst listed i) → VRel ρ ((E.get t).getD undef) (a.tmps.getD t undef)

theorem lst_set {listed : Array Bool} {i j : Nat} (hi : i < listed.size) : Lst (listed.setIfInBounds i true) j ↔ (j = i ∨ Lst listed j) := by
  unfold Lst
  rw [Array.getD_eq_getD_getElem?, Array.getD_eq_getD_getElem?]
  by_cases e : i = j
  · subst e; simp [Array.getElem?_setIfInBounds_self_of_lt hi]
  · rw [Array.getElem?_setIfInBounds_ne e]
    constructor
    · exact .inr
    · rintro (h | h)
      · exact absurd h.symm e
      · exact h

theorem ready_spec {listed : Array Bool} (hs : listed.size = ops.size) {i : Nat} : i ∈ Region.ready .any ops listed ↔ i < ops.size ∧ ¬ Lst listed i ∧ ∀ o, ops[i]? = some o → ∀ d ∈ direct o, Lst listed d := by
  unfold Region.ready
  simp only [List.mem_filter, List.mem_range, Bool.and_eq_true, Bool.not_eq_true']
  constructor
  · rintro ⟨h1, h2, h3⟩
    refine ⟨h1, ?_, fun o ho d hd => ?_⟩
    · unfold Lst
      rw [Array.getD_eq_getD_getElem?, Array.getElem?_eq_getElem (by omega)] at h2 ⊢
      simpa using h2
    · rw [ho] at h3
      simp only [Option.map_some, Option.getD_some] at h3
      unfold direct at hd
      simp only [List.mem_map, List.mem_filter] at hd
      obtain ⟨e, ⟨he, hb⟩, rfl⟩ := hd
      have := Array.all_eq_true_iff_forall_mem.mp h3 e (by simpa using he)
      simp only [hb, Bool.not_true, Bool.false_or] at this
      exact this
  · rintro ⟨h1, h2, h3⟩
    refine ⟨h1, ?_, ?_⟩
    · unfold Lst at h2
      rw [Array.getD_eq_getD_getElem?, Array.getElem?_eq_getElem (by omega)] at h2 ⊢
      simpa using h2
    · rw [Array.getElem?_eq_getElem h1]
      simp only [Option.map_some, Option.getD_some]
      refine Array.all_eq_true_iff_forall_mem.mpr fun e he => ?_
      by_cases hb : Region.binds .any e = true
      · have := h3 ops[i] (Array.getElem?_eq_getElem h1) e.on (by unfold direct; simp only [List.mem_map, List.mem_filter]; exact ⟨e, ⟨by simpa using he, hb⟩, rfl⟩)
        simp only [hb, Bool.not_true, Bool.false_or]
        exact this
      · simp [hb]

theorem dst_lt (h : dstOk ops n = true) {i : Nat} {o : Oper} {d : Tmp} (ho : ops[i]? = some o) (hd : o.dst = some d) : d < n := by
  unfold dstOk at h
  have hi : i < ops.size := (Array.getElem?_eq_some_iff.mp ho).1
  have := List.all_eq_true.mp h i (by simpa using hi)
  rw [ho] at this
  simp only [Option.bind_some, hd, Bool.and_eq_true, decide_eq_true_eq] at this
  exact this.1

theorem dst_one (h : dstOk ops n = true) {i j : Nat} {o o' : Oper} {d : Tmp} (ho : ops[i]? = some o) (hd : o.dst = some d) (ho' : ops[j]? = some o') (hd' : o'.dst = some d) : i = j := by
  unfold dstOk at h
  have hi : i < ops.size := (Array.getElem?_eq_some_iff.mp ho).1
  have hj : j < ops.size := (Array.getElem?_eq_some_iff.mp ho').1
  have := List.all_eq_true.mp h i (by simpa using hi)
  rw [ho] at this
  simp only [Option.bind_some, hd, Bool.and_eq_true] at this
  have := List.all_eq_true.mp this.2 j (by simpa using hj)
  rw [ho'] at this
  simp only [Option.bind_some, hd', bne_self_eq_false, Bool.or_false, beq_iff_eq] at this
  exact this.symm

theorem Inv.tmps_put (hp : Plan P cal ops A n base E C s) {listed : Array Bool} {a : Act} {w w' : World} {ρ ρ' : Ren} {HS HS' : Heap} {p q : Nat} (hI : Inv P ops n base E C s ρ0 H0 w0 listed a w ρ HS p) (hq : q < C.length) {o : Oper} (ho : ops[C[q]]? = some o)
    (hm : Mv P ρ HS w ρ' HS' w') {v v' : Value} (hvs : (s (q + 1)).vals = (C[q], v) :: (s q).vals) (hv : VRel ρ' v v') :
    (a.put o.dst v').tmps.size = n ∧ (a.put o.dst v').defers = [] ∧
    ∀ t, (∀ i o, ops[i]? = some o → o.dst = some t → Lst (listed.setIfInBounds C[q] true) i) → VRel ρ' ((E.get t).getD undef) ((a.put o.dst v').tmps.getD t undef) := by
  have hlt : C[q] < listed.size := by rw [hI.size]; exact hp.lt hq
  cases hd : o.dst with
  | none =>
    refine ⟨hI.tsize, hI.defers, fun t ht => ?_⟩
    refine (hI.tmps t fun i o' ho' hd' => ?_).mono hm.ext
    rcases (lst_set hlt).mp (ht i o' ho' hd') with e | h
    · subst e; rw [ho] at ho'; cases ho'; rw [hd] at hd'; cases hd'
    · exact h
  | some d =>
    have hdn := dst_lt hp.dst ho hd
    refine ⟨by simpa [Act.put] using hI.tsize, hI.defers, fun t ht => ?_⟩
    simp only [Act.put]
    by_cases e : t = d
    · subst e
      have hlt2 : t < a.tmps.size := by rw [hI.tsize]; exact hdn
      rw [Array.getD_eq_getD_getElem?, Array.getElem?_setIfInBounds_self_of_lt hlt2, Option.getD_some, ← hp.valAt hq hvs ho hd]
      exact hv
    · rw [Array.getD_eq_getD_getElem?, Array.getElem?_setIfInBounds_ne (Ne.symm e), ← Array.getD_eq_getD_getElem?]
      refine (hI.tmps t fun i o' ho' hd' => ?_).mono hm.ext
      rcases (lst_set hlt).mp (ht i o' ho' hd') with e' | h
      · subst e'; rw [ho] at ho'; cases ho'; rw [hd] at hd'; cases hd'; exact absurd rfl e
      · exact h

theorem Inv.closed_set (hp : Plan P cal ops A n base E C s) {listed : Array Bool} {a : Act} {w : World} {ρ : Ren} {HS : Heap} {p q : Nat} (hI : Inv P ops n base E C s ρ0 H0 w0 listed a w ρ HS p) (hq : q < C.length) (hr : ∀ o, ops[C[q]]? = some o → ∀ d ∈ direct o, Lst listed d) :
    ∀ i o, ops[i]? = some o → Lst (listed.setIfInBounds C[q] true) i → ∀ d ∈ direct o, Lst (listed.setIfInBounds C[q] true) d := by
  have hlt : C[q] < listed.size := by rw [hI.size]; exact hp.lt hq
  intro i o ho hi d hd
  rw [lst_set hlt] at hi ⊢
  rcases hi with e | hi
  · subst e; exact .inr (hr o ho d hd)
  · exact .inr (hI.closed i o ho hi d hd)

theorem Inv.plain (hp : Plan P cal ops A n base E C s) {listed : Array Bool} {a : Act} {w w' : World} {ρ ρ' : Ren} {HS : Heap} {p q : Nat} (hI : Inv P ops n base E C s ρ0 H0 w0 listed a w ρ HS p) (hq : q < C.length) (hpq : p ≤ q) {o : Oper} (ho : ops[C[q]]? = some o)
    (hr : ∀ o, ops[C[q]]? = some o → ∀ d ∈ direct o, Lst listed d) (hk1 : kd P ops E n base C[q] ≠ .eff) (hk2 : objOf P ops E n base C[q] = none) (hm : Mv P ρ HS w ρ' HS w') {v v' : Value} (hvs : (s (q + 1)).vals = (C[q], v) :: (s q).vals) (hv : VRel ρ' v v') :
    Inv P ops n base E C s ρ0 H0 w0 (listed.setIfInBounds C[q] true) (a.put o.dst v') w' ρ' HS p := by
  have hlt : C[q] < listed.size := by rw [hI.size]; exact hp.lt hq
  obtain ⟨t1, t2, t3⟩ := hI.tmps_put hp hq ho hm hvs hv
  have xt : ∀ id ob, Xtra P ops E n base C (listed.setIfInBounds C[q] true) p id ob ↔ Xtra P ops E n base C listed p id ob := fun id ob => by
    constructor
    · rintro ⟨r, hr, h1, h2, h3, h4⟩
      rcases (lst_set hlt).mp h2 with e | h2
      · rw [e, hk2] at h3; cases h3
      · exact ⟨r, hr, h1, h2, h3, h4⟩
    · rintro ⟨r, hr, h1, h2, h3, h4⟩
      exact ⟨r, hr, h1, (lst_set hlt).mpr (.inr h2), h3, h4⟩
  exact {
    size := by simpa using hI.size
    ple := hI.ple
    before := fun r hr h1 => (lst_set hlt).mpr (.inr (hI.before r hr h1))
    noeff := fun r hr h1 h2 h3 => by
      rcases (lst_set hlt).mp h3 with e | h3
      · rw [e] at h2; exact hk1 h2
      · exact hI.noeff r hr h1 h2 h3
    bound := hI.bound
    next := hI.next
    room := hI.room
    there := fun id ob hx => hI.there id ob ((xt id ob).mp hx)
    else_ := fun id hx => hI.else_ id (fun ⟨ob, hy⟩ => hx ⟨ob, (xt id ob).mpr hy⟩)
    free := hI.free
    ren := fun r hr h1 => by
      have h1' : ¬ Lst listed C[r] := fun z => h1 ((lst_set hlt).mpr (.inr z))
      have h0 := hI.ren r hr h1'
      cases e : ρ' (base + C[r]) with
      | none => rfl
      | some L =>
        have := hm.new _ L h0 e
        have hpr : p ≤ r := Nat.le_of_not_lt fun z => h1' (hI.before r hr z)
        rw [hI.else_ _ (fun ⟨ob, r', hr', _, h2, _, h4⟩ => h1' (by rw [show C[r] = C[r'] by omega]; exact h2)), hI.free r hr hpr] at this
        cases this
    mv := hI.mv.trans hm
    closed := hI.closed_set hp hq hr
    tsize := t1
    defers := t2
    tmps := t3 }

end

end Go.B

namespace Go.B
open Go

section
variable {P : Program} [Dem P] {cal : Cal} {ops : Array Oper} {A : List (List Nat)} {n base : Nat} {E : Tr Value} {C : List Nat} {s : Nat → DS}
variable {ρ0 : Ren} {H0 : Heap} {w0 : World}

theorem Inv.at_alloc (hp : Plan P cal ops A n base E C s) {listed : Array Bool} {a : Act} {w w' : World} {ρ ρ' : Ren} {HS : Heap} {p q : Nat} (hI : Inv P ops n base E C s ρ0 H0 w0 listed a w ρ HS p) (hq : q < C.length) (hpq : p ≤ q) (hnl : ¬ Lst listed C[q]) {o : Oper} (ho : ops[C[q]]? = some o)
    (hr : ∀ o, ops[C[q]]? = some o → ∀ d ∈ direct o, Lst listed d) {ob : AObj} (hk1 : kd P ops E n base C[q] ≠ .eff) (hk2 : objOf P ops E n base C[q] = some ob) (hm : Mv P ρ HS w ρ' (HS.set (base + C[q]) ob) w') {v v' : Value} (hvs : (s (q + 1)).vals = (C[q], v) :: (s q).vals) (hv : VRel ρ' v v') :
    Inv P ops n base E C s ρ0 H0 w0 (listed.setIfInBounds C[q] true) (a.put o.dst v') w' ρ' (HS.set (base + C[q]) ob) p := by
  have hlt : C[q] < listed.size := by rw [hI.size]; exact hp.lt hq
  obtain ⟨t1, t2, t3⟩ := hI.tmps_put hp hq ho hm hvs hv
  exact {
    size := by simpa using hI.size
    ple := hI.ple
    before := fun r hr h1 => (lst_set hlt).mpr (.inr (hI.before r hr h1))
    noeff := fun r hr h1 h2 h3 => by
      rcases (lst_set hlt).mp h3 with e | h3
      · rw [e] at h2; exact hk1 h2
      · exact hI.noeff r hr h1 h2 h3
    bound := hI.bound
    next := hI.next
    room := hI.room
    there := fun id ob' ⟨r, hr, h1, h2, h3, h4⟩ => by
      rw [Heap.get_set]
      rcases (lst_set hlt).mp h2 with e | h2
      · rw [e, hk2] at h3; cases h3
        rw [if_pos (by omega)]
      · rw [if_neg (fun e' => hnl (by rw [show C[q] = C[r] by omega]; exact h2))]
        exact hI.there id ob' ⟨r, hr, h1, h2, h3, h4⟩
    else_ := fun id hx => by
      rw [Heap.get_set, if_neg (fun e' => hx ⟨ob, q, hq, hpq, (lst_set hlt).mpr (.inl rfl), hk2, e'⟩)]
      exact hI.else_ id (fun ⟨ob', r, hr, h1, h2, h3, h4⟩ => hx ⟨ob', r, hr, h1, (lst_set hlt).mpr (.inr h2), h3, h4⟩)
    free := hI.free
    ren := fun r hr h1 => by
      have h1' : ¬ Lst listed C[r] := fun z => h1 ((lst_set hlt).mpr (.inr z))
      have hne : C[r] ≠ C[q] := fun e => h1 ((lst_set hlt).mpr (.inl e))
      have h0 := hI.ren r hr h1'
      cases e : ρ' (base + C[r]) with
      | none => rfl
      | some L =>
        have := hm.new _ L h0 e
        have hpr : p ≤ r := Nat.le_of_not_lt fun z => h1' (hI.before r hr z)
        rw [Heap.get_set, if_neg (by omega), hI.else_ _ (fun ⟨ob, r', hr', _, h2, _, h4⟩ => h1' (by rw [show C[r] = C[r'] by omega]; exact h2)), hI.free r hr hpr] at this
        cases this
    mv := hI.mv.trans hm
    closed := hI.closed_set hp hq hr
    tsize := t1
    defers := t2
    tmps := t3 }

omit [Dem P] in
theorem Plan.freeLater (hp : Plan P cal ops A n base E C s) {q : Nat} (hq : q < C.length) {H : Heap} (hno : ∀ a, a < ops.size → (s q).has a = true ∨ H.get (base + a) = none) {r : Nat} (hr : r < C.length) (hqr : q ≤ r) : H.get (base + C[r]) = none := by
  rcases hno C[r] (hp.lt hr) with h | h
  · obtain ⟨r', hr', h1, h2⟩ := (hp.vals q (by omega) _).mp h
    have := hp.inj hr' hr h2
    omega
  · exact h

theorem Inv.at_eff (hp : Plan P cal ops A n base E C s) {listed : Array Bool} {a : Act} {w : World} {ρ : Ren} {HS : Heap} {p q : Nat} (hI : Inv P ops n base E C s ρ0 H0 w0 listed a w ρ HS p) (hq : q < C.length) (hpq : p ≤ q) (hnl : ¬ Lst listed C[q]) {o : Oper} (ho : ops[C[q]]? = some o)
    (hr : ∀ o, ops[C[q]]? = some o → ∀ d ∈ direct o, Lst listed d) (hk1 : kd P ops E n base C[q] = .eff) {v : Value} {H : Heap} (hs' : s (q + 1) = { cur := H, ks := H :: (s q).ks, es := C[q] :: (s q).es, vals := (C[q], v) :: (s q).vals })
    (hdone : ∀ r (hr : r < C.length), r < q → Lst listed C[r]) (hno : ∀ a, a < ops.size → (s q).has a = true ∨ H.get (base + a) = none) :
    WRel P ρ (s q).cur w ∧ ∀ ρ' w' v', Mv P ρ (s q).cur w ρ' H w' → VRel ρ' v v' → ∃ HS', Inv P ops n base E C s ρ0 H0 w0 (listed.setIfInBounds C[q] true) (a.put o.dst v') w' ρ' HS' (q + 1) := by
  have hlt : C[q] < listed.size := by rw [hI.size]; exact hp.lt hq
  obtain ⟨g1, g2, g3, g4, g5⟩ := hp.seg p q hpq (by omega) (fun r hr h1 h2 h3 => hI.noeff r hr h1 h3 (hdone r hr h2))
  let Z : Nat → Prop := fun id => ∃ ob, Xtra P ops E n base C listed (q + 1) id ob
  have Zx : ∀ id, Z id → ∃ r, ∃ hr : r < C.length, q + 1 ≤ r ∧ Lst listed C[r] ∧ id = base + C[r] := fun id ⟨ob, r, hr, h1, h2, h3, h4⟩ => ⟨r, hr, h1, h2, h4⟩
  have zX : ∀ id, Z id → (s q).cur.get id = none := fun id hz => by
    obtain ⟨r, hr, h1, h2, rfl⟩ := Zx id hz
    rw [g5 _ (fun ⟨r', hr', ob, k1, k2, k3, k4⟩ => by have := hp.inj hr hr' (by omega); omega)]
    exact hI.free r hr (by omega)
  have zH : ∀ r (hr : r < C.length), q + 1 ≤ r → H.get (base + C[r]) = none := fun r hr h1 => hp.freeLater hq hno hr (by omega)
  have nz : ∀ id, ¬ Z id → HS.get id = (s q).cur.get id := fun id hz => by
    by_cases hx : ∃ r, ∃ hr : r < C.length, ∃ ob, p ≤ r ∧ r < q ∧ objOf P ops E n base C[r] = some ob ∧ id = base + C[r]
    · obtain ⟨r, hr, ob, h1, h2, h3, rfl⟩ := hx
      rw [hI.there _ ob ⟨r, hr, h1, hdone r hr h2, h3, rfl⟩, g4 r hr ob h1 h2 h3]
    · rw [g5 id hx]
      refine hI.else_ id (fun ⟨ob, r, hr, h1, h2, h3, h4⟩ => ?_)
      by_cases e1 : r < q
      · exact hx ⟨r, hr, ob, h1, e1, h3, h4⟩
      · by_cases e2 : r = q
        · subst e2; exact hnl h2
        · exact hz ⟨ob, r, hr, by omega, h2, h3, h4⟩
  have sub : WRel P ρ (s q).cur w := hI.mv.rel.sub (fun i o' hi => by
    by_cases hz : Z i
    · rw [zX i hz] at hi; cases hi
    · rw [nz i hz]; exact hi) (by rw [g1, hI.next])
  refine ⟨sub, fun ρ' w' v' hm hv => ?_⟩
  obtain ⟨HS', n1, n2⟩ := mix_heap HS H Z base (fun i ⟨ob, r, hr, h1, h2, h3, h4⟩ => ⟨ob, hI.there i ob ⟨r, hr, by omega, h2, h3, h4⟩⟩) ops.size
  have hs1 : ∀ i, Z i → HS'.get i = HS.get i := fun i hz => (n2 i).1 ⟨by obtain ⟨r, hr, _, _, e⟩ := Zx i hz; exact ⟨C[r], hp.lt hr, e⟩, hz⟩
  have hs2 : ∀ i, ¬ Z i → HS'.get i = H.get i := fun i hz => (n2 i).2 (fun z => hz z.2)
  have hmm : Mv P ρ HS w ρ' HS' w' := Mv.frame_add hI.mv.rel (by rw [g1, hI.next]) hm n1 Z (fun i hz => ⟨zX i hz, by obtain ⟨r, hr, h1, _, e⟩ := Zx i hz; rw [e]; exact zH r hr h1⟩) nz hs1 hs2
  obtain ⟨t1, t2, t3⟩ := hI.tmps_put hp hq ho hmm (by rw [hs']) hv
  have xt : ∀ id ob, Xtra P ops E n base C (listed.setIfInBounds C[q] true) (q + 1) id ob → Xtra P ops E n base C listed (q + 1) id ob := fun id ob ⟨r, hr, h1, h2, h3, h4⟩ => by
    rcases (lst_set hlt).mp h2 with e | h2
    · have := hp.inj hr hq e; omega
    · exact ⟨r, hr, h1, h2, h3, h4⟩
  have xt2 : ∀ id ob, Xtra P ops E n base C listed (q + 1) id ob → Xtra P ops E n base C (listed.setIfInBounds C[q] true) (q + 1) id ob := fun id ob ⟨r, hr, h1, h2, h3, h4⟩ => ⟨r, hr, h1, (lst_set hlt).mpr (.inr h2), h3, h4⟩
  exact ⟨HS', {
    size := by simpa using hI.size
    ple := hq
    before := fun r hr h1 => (lst_set hlt).mpr (by
      by_cases e : r = q
      · subst e; exact .inl rfl
      · exact .inr (hdone r hr (by omega)))
    noeff := fun r hr h1 h2 h3 => by
      rcases (lst_set hlt).mp h3 with e | h3
      · have := hp.inj hr hq e; omega
      · exact hI.noeff r hr (by omega) h2 h3
    bound := by rw [hs']; rfl
    next := by rw [hs']; exact n1
    room := by
      rw [n1]
      have h1 := hI.room
      have h2 := hm.next
      have h3 := hI.next
      omega
    there := fun id ob hx => by
      have hx' := xt id ob hx
      obtain ⟨r, hr, h1, h2, h3, h4⟩ := hx'
      rw [hs1 id ⟨ob, r, hr, h1, h2, h3, h4⟩]
      exact hI.there id ob ⟨r, hr, by omega, h2, h3, h4⟩
    else_ := fun id hx => by
      rw [hs2 id (fun ⟨ob, hz⟩ => hx ⟨ob, xt2 id ob hz⟩), hs']
    free := fun r hr h1 => by rw [hs']; exact zH r hr h1
    ren := fun r hr h1 => by
      have h1' : ¬ Lst listed C[r] := fun z => h1 ((lst_set hlt).mpr (.inr z))
      have h0 := hI.ren r hr h1'
      cases e : ρ' (base + C[r]) with
      | none => rfl
      | some L =>
        have := hmm.new _ L h0 e
        have hqr : q + 1 ≤ r := by
          refine Nat.lt_of_not_le fun z => ?_
          by_cases e2 : r = q
          · subst e2; exact h1 ((lst_set hlt).mpr (.inl rfl))
          · exact h1' (hdone r hr (by omega))
        rw [hs2 _ (fun ⟨ob, r', hr', _, h2, _, h4⟩ => h1' (by rw [show C[r] = C[r'] by omega]; exact h2)), zH r hr hqr] at this
        cases this
    mv := hI.mv.trans hmm
    closed := hI.closed_set hp hq hr
    tsize := t1
    defers := t2
    tmps := t3 }⟩

theorem Inv.looks {listed : Array Bool} {a : Act} {w : World} {ρ : Ren} {HS : Heap} {p : Nat} (hI : Inv P ops n base E C s ρ0 H0 w0 listed a w ρ HS p) {o : Oper} (hl : lookOk ops o = true) (hr : ∀ d ∈ direct o, Lst listed d) {t : Tmp} (ht : t ∈ o.looksAt ops) :
    VRel ρ ((E.get t).getD undef) (a.tmps.getD t undef) := by
  refine hI.tmps t fun i o' ho' hd' => ?_
  have hi : i < ops.size := (Array.getElem?_eq_some_iff.mp ho').1
  have := List.all_eq_true.mp (List.all_eq_true.mp hl t ht) i (by simpa using hi)
  rw [ho'] at this
  simp only [hd', bne_self_eq_false, Bool.false_or, List.contains_iff_mem] at this
  exact hr i this

theorem Inv.wanted {listed : Array Bool} {a : Act} {w : World} {ρ : Ren} {HS : Heap} {p : Nat} (hI : Inv P ops n base E C s ρ0 H0 w0 listed a w ρ HS p) {o : Oper} (hl : lookOk ops o = true) (hr : ∀ d ∈ direct o, Lst listed d) :
    Region.wanted o (yielded ops a.tmps) = Region.wanted o (yieldB ops n E) := by
  unfold Region.wanted
  cases hg : o.guard with
  | none => rfl
  | some gw =>
    obtain ⟨g, want⟩ := gw
    have : yielded ops a.tmps g = yieldB ops n E g := by
      unfold yielded yieldB
      cases hd : (ops[g]?).bind (·.dst) with
      | none => rfl
      | some d =>
        have hrel := hI.looks hl hr (t := d) (by unfold Oper.looksAt; rw [hg]; simp [hd])
        simp only [Option.bind_some]
        by_cases hlt : d < n
        · have hlt2 : d < a.tmps.size := by rw [hI.tsize]; exact hlt
          rw [if_pos hlt, Array.getElem?_eq_getElem hlt2]
          rw [Array.getD_eq_getD_getElem?, Array.getElem?_eq_getElem hlt2, Option.getD_some] at hrel
          generalize (E.get d).getD undef = v at hrel
          generalize a.tmps[d] = v' at hrel
          cases hrel <;> rfl
        · rw [if_neg hlt, Array.getElem?_eq_none (by rw [hI.tsize]; exact Nat.le_of_not_lt hlt)]
    simp only [this]

open Classical in
noncomputable def only (o : Oper) (e : Operand → Value) (x : Operand) : Value := if x ∈ o.op.operands then e x else undef

theorem only_in {o : Oper} {e : Operand → Value} {x : Operand} (h : x ∈ o.op.operands) : only o e x = e x := if_pos h

theorem Inv.only {listed : Array Bool} {a : Act} {w : World} {ρ : Ren} {HS : Heap} {p : Nat} (hI : Inv P ops n base E C s ρ0 H0 w0 listed a w ρ HS p) {o : Oper} (hok : opOk o = true) (hl : lookOk ops o = true) (hr : ∀ d ∈ direct o, Lst listed d) (x : Operand) :
    VRel ρ (only o (ev E) x) (only o a.eval x) := by
  unfold B.only
  by_cases h : x ∈ o.op.operands
  · rw [if_pos h, if_pos h]
    cases x with
    | tmp t => exact hI.looks hl hr (by unfold Oper.looksAt; exact List.mem_append_left _ (List.mem_filterMap.2 ⟨.tmp t, by simpa using h, rfl⟩))
    | const v =>
      have : isScalA v = true := by
        unfold opOk at hok
        simp only [Bool.and_eq_true] at hok
        exact List.all_eq_true.mp hok.1 (.const v) (by simpa using h)
      unfold ev
      simp only [this, if_true]
      exact .scalA this
    | global g => exact .glob _
    | func f => exact .func _ rfl (fun i h _ => absurd h (by simp)) rfl (fun i h _ => absurd h (by simp))
  · rw [if_neg h, if_neg h]; exact .undef

theorem noSelect {o : Oper} (h : opOk o = true) : ∀ cs b, o.op ≠ .select cs b := fun cs b e => by unfold opOk at h; rw [e] at h; simp at h

theorem Lands.wp {o : Oper} {a : Act} {w : World} {ρ : Ren} {H H' : Heap} {v : Value} {K : Act → World → Prop} {Q : Exit → Act → World → Prop} (h : Lands P ρ H w ((execOp a.eval o).run P w) v H') (hK : ∀ ρ' v' w', Mv P ρ H w ρ' H' w' → VRel ρ' v v' → K (a.put o.dst v') w') : o.wp P a w K Q := by
  obtain ⟨ρ', v', w', hrun, hm, hv⟩ := h
  unfold Oper.wp
  rcases hrun with hrun | ⟨hrun, rfl⟩
  · rw [hrun, Oper.upon_value]; exact hK ρ' v' w' hm hv
  · rw [hrun, Oper.upon_skip]; exact hK ρ' _ w' hm hv

theorem Inv.step (hcal : CalOk P cal) (hp : Plan P cal ops A n base E C s) (hok : ops.toList.all opOk = true) {listed : Array Bool} {a : Act} {w : World} {ρ : Ren} {HS : Heap} {p : Nat} (hI : Inv P ops n base E C s ρ0 H0 w0 listed a w ρ HS p) {i : Nat} (hi : i ∈ Region.ready .any ops listed)
    {K : Act → World → Prop} {Q : Exit → Act → World → Prop} (hK : ∀ a' w' ρ' HS' p', Inv P ops n base E C s ρ0 H0 w0 (listed.setIfInBounds i true) a' w' ρ' HS' p' → K a' w') : wpOp P ops Q i K a w := by
  obtain ⟨hlt, hnl, hready⟩ := (ready_spec hI.size).mp hi
  obtain ⟨q, hq, rfl⟩ := hp.pos hlt
  obtain ⟨o, ho, hn, hd, hl, hk⟩ := dstep_facts (hp.step q hq)
  have hpq : p ≤ q := Nat.le_of_not_lt fun z => hnl (hI.before q hq z)
  have hr := hready o ho
  have hoo : opOk o = true := List.all_eq_true.mp hok o (by have := Array.mem_of_getElem? ho; simpa using this)
  have hkd := kd_eq (P := P) (E := E) (n := n) (base := base) ho
  have hex : execOp a.eval o = execOp (B.only o a.eval) o := execOp_congr o (noSelect hoo) fun x hx => (only_in hx).symm
  have hrel := hI.only hoo hl hr
  have hF : ∀ H, aopF P (ev E) o H = aopF P (B.only o (ev E)) o H := fun H => aopF_congr (noSelect hoo) fun x hx => (only_in hx).symm
  have hA : ∀ j, allocB P (ev E) o j = allocB P (B.only o (ev E)) o j := fun j => allocB_congr fun x hx => (only_in hx).symm
  unfold wpOp
  simp only [ho]
  rw [hI.wanted hl hr]
  rcases hk with ⟨hk, e⟩ | ⟨v, ob, hk, e⟩ | ⟨hk, hanc, v, H, he, hno, _, e⟩ | ⟨hk, K', ks, v, H, hks, hfv, hfree, e⟩
  · have hw : Region.wanted o (yieldB ops n E) = false := by
      unfold kindB at hk
      split at hk
      · split at hk
        · cases hk
        · split at hk <;> cases hk
      · rename_i h; simpa using h
    rw [hw, if_neg (by simp)]
    exact hK _ _ _ _ _ (hI.plain hp hq hpq ho hready (by rw [hkd, hk]; simp) (by unfold objOf; rw [hkd, hk]) (Mv.refl hI.mv.rel) (by rw [e]) .undef)
  · have hw : Region.wanted o (yieldB ops n E) = true ∧ allocB P (ev E) o (base + C[q]) = some (v, ob) := by
      unfold kindB at hk
      split at hk
      · rename_i h
        split at hk
        · rename_i v' ob' h2; cases hk; exact ⟨h, h2⟩
        · split at hk <;> cases hk
      · cases hk
    rw [hw.1, if_pos rfl]
    refine .inl ?_
    have hob : objOf P ops E n base C[q] = some ob := by unfold objOf; rw [hkd, hk]
    have hadd : Adds ρ HS (HS.set (base + C[q]) ob) (base + C[q]) ob := ⟨fun i => Heap.get_set _ _ _ _, hI.ren q hq hnl, Nat.lt_of_lt_of_le (by omega) (show base + ops.size ≤ _ from hI.room), Nat.le_refl _⟩
    have hL := allocB_lands (w := w) hI.mv.rel hrel ((hA _).symm.trans hw.2) hadd
    rw [← hex] at hL
    exact hL.wp fun ρ' v' w' hm hv => hK _ _ _ _ _ (hI.at_alloc hp hq hpq hnl ho hready (by rw [hkd, hk]; simp) hob hm (by rw [e]) hv)
  · have hw : Region.wanted o (yieldB ops n E) = true := by
      unfold kindB at hk
      split at hk
      · rename_i h; exact h
      · cases hk
    rw [hw, if_pos rfl]
    refine .inl ?_
    have hdone : ∀ r (hr : r < C.length), r < q → Lst listed C[r] := fun r hr' h1 => by
      have h2 := (hp.vals q (by omega) C[r]).mpr ⟨r, hr', h1, rfl⟩
      unfold DS.has at h2
      obtain ⟨x, hx, h3⟩ := List.any_eq_true.mp h2
      have h4 := hanc x hx
      rw [eq_of_beq h3, List.contains_iff_mem] at h4
      exact anc_in hp.anc hI.closed C[q] o ho hr C[r] h4
    obtain ⟨sub, fin⟩ := hI.at_eff hp hq hpq hnl ho hready (by rw [hkd, hk]) e hdone hno
    unfold effB at he
    rw [hF] at he
    split at he
    · rename_i v1 H1 ha
      simp only [Option.some.injEq, Prod.mk.injEq] at he
      obtain ⟨rfl, rfl⟩ := he
      have hL := aopF_val (w := w) sub hrel ha
      rw [← hex] at hL
      exact hL.wp fun ρ' v' w' hm hv => by
        obtain ⟨HS', hI'⟩ := fin ρ' w' v' hm hv
        exact hK _ _ _ _ _ hI'
    · rename_i f args ha
      obtain ⟨⟨fn, c, hf, hb, hnn⟩, hcalls⟩ := hcal f args (s q).cur v H he
      obtain ⟨args', hargs, hrun⟩ := aopF_enter (P := P) (w := w) hrel ha
      unfold Oper.wp
      rw [hex, hrun hf hb hnn, Oper.upon_enter]
      refine (hcalls ρ w args' sub hargs).mono ?_
      rintro e' w' ⟨ρ', v', rfl, hm, hv⟩
      obtain ⟨HS', hI'⟩ := fin ρ' w' v' hm hv
      exact hK _ _ _ _ _ hI'
    · cases he
  · have hw : Region.wanted o (yieldB ops n E) = true ∧ isEff o = false := by
      unfold kindB at hk
      split at hk
      · rename_i h
        split at hk
        · cases hk
        · split at hk
          · cases hk
          · rename_i h2; exact ⟨h, by simpa using h2⟩
      · cases hk
    rw [hw.1, if_pos rfl]
    refine .inl ?_
    obtain ⟨H1, ha⟩ := hp.visit p hI.bound q hpq (by omega) (fun r hr' h1 h2 h3 => by
      cases hc : (A.getD C[q] []).contains C[r] with
      | false => rfl
      | true =>
        rw [List.contains_iff_mem] at hc
        exact absurd (anc_in hp.anc hI.closed C[q] o ho hr C[r] hc) (hI.noeff r hr' h1 h3)) hfree
    obtain ⟨v1, hv1⟩ := aopF_free hw.2 ha
    cases hv1
    have hob : objOf P ops E n base C[q] = none := by unfold objOf; rw [hkd, hk]
    have hancL : ∀ x ∈ A.getD C[q] [], Lst listed x := fun x hx => anc_in hp.anc hI.closed C[q] o ho hr x hx
    let Y : Heap := plus P ops E n base (s p).cur (A.getD C[q] [])
    have yget := plus_get P ops E n base (s p).cur (A.getD C[q] [])
    have xfree : ∀ id, (∃ ob, Xtra P ops E n base C listed p id ob) → (s p).cur.get id = none := fun id ⟨ob, r, hr', h1, h2, h3, h4⟩ => by rw [h4]; exact hI.free r hr' h1
    have xin : ∀ a ob, a ∈ A.getD C[q] [] → objOf P ops E n base a = some ob → (s p).cur.get (base + a) = none → Xtra P ops E n base C listed p (base + a) ob := fun a ob ha hoa hn => by
      have hal : a < ops.size := by
        unfold objOf kd at hoa
        split at hoa
        · rename_i hk; split at hk
          · rename_i ho'; exact (Array.getElem?_eq_some_iff.mp ho').1
          · cases hk
        · cases hoa
      obtain ⟨r, hr', rfl⟩ := hp.pos hal
      refine ⟨r, hr', Nat.le_of_not_lt fun hlt => ?_, hancL _ ha, hoa, rfl⟩
      have := hp.made hr' hoa p hlt hI.ple
      rw [hn] at this
      cases this
    let Z : Nat → Prop := fun id => (∃ ob, Xtra P ops E n base C listed p id ob) ∧ Y.get id = none
    have nz : ∀ id, ¬ Z id → HS.get id = Y.get id := fun id hz => by
      rcases yget id with ⟨a, ob, h1, h2, h3, h4, h5⟩ | ⟨h1, h2⟩
      · subst h2
        rw [show Y.get (base + a) = some ob from h5]
        exact hI.there _ _ (xin a ob h1 h3 h4)
      · rw [show Y.get id = (s p).cur.get id from h2]
        by_cases hx : ∃ ob, Xtra P ops E n base C listed p id ob
        · exact absurd ⟨hx, (show Y.get id = none by rw [show Y.get id = (s p).cur.get id from h2]; exact xfree id hx)⟩ hz
        · exact hI.else_ id hx
    have sub : WRel P ρ Y w := hI.mv.rel.sub (fun i o' hi => by
      by_cases hz : Z i
      · rw [hz.2] at hi; cases hi
      · rw [nz i hz]; exact hi) (by rw [show Y.next = (s p).cur.next from plus_next _ _ _ _ _ _ _]; exact hI.next.symm)
    have hL := aopF_val (w := w) sub hrel ((hF _).symm.trans ha)
    rw [← hex] at hL
    exact hL.wp fun ρ' v' w' hm hv => by
      have hny : Y.next = HS.next := by rw [show Y.next = (s p).cur.next from plus_next _ _ _ _ _ _ _]; exact hI.next.symm
      have hmm : Mv P ρ HS w ρ' HS w' := Mv.frame_add hI.mv.rel hny hm hny.symm Z (fun i hz => ⟨hz.2, hz.2⟩) nz (fun i _ => rfl) nz
      exact hK _ _ _ _ _ (hI.plain hp hq hpq ho hready (by rw [hkd, hk]; simp) hob hmm (by rw [e]) hv)

theorem Inv.any (hcal : CalOk P cal) (hp : Plan P cal ops A n base E C s) (hok : ops.toList.all opOk = true) {Q : Exit → Act → World → Prop} (hQ : ∀ listed a w ρ HS p, Inv P ops n base E C s ρ0 H0 w0 listed a w ρ HS p → (∀ i, i < ops.size → Lst listed i) → Q .normal a w) :
    ∀ (fuel : Nat) (U : List Nat) (listed : Array Bool) (a : Act) (w : World) (ρ : Ren) (HS : Heap) (p : Nat), Inv P ops n base E C s ρ0 H0 w0 listed a w ρ HS p → U.Nodup → (∀ i, i ∈ U ↔ i < ops.size ∧ ¬ Lst listed i) → U.length ≤ fuel → wpAny P .any ops Q fuel listed a w := by
  have noReady : ∀ (listed : Array Bool), listed.size = ops.size → Region.ready .any ops listed = [] → ∀ q (hq : q < C.length), Lst listed C[q] := by
    intro listed hs hre q
    induction q using Nat.strongRecOn with
    | _ q ih =>
      intro hq
      obtain ⟨o, ho, hn, hd, hl, hk⟩ := dstep_facts (hp.step q hq)
      refine Classical.byContradiction fun hnl => ?_
      have : C[q] ∈ Region.ready .any ops listed := (ready_spec hs).mpr ⟨hp.lt hq, hnl, fun o' ho' d hdd => by
        rw [ho] at ho'; cases ho'
        obtain ⟨r, hr, h1, h2⟩ := (hp.vals q (by omega) d).mp (hd d hdd)
        rw [← h2]
        exact ih r h1 hr⟩
      rw [hre] at this
      cases this
  have allOf : ∀ (listed : Array Bool), listed.size = ops.size → Region.ready .any ops listed = [] → ∀ i, i < ops.size → Lst listed i := fun listed hs hre i hi => by
    obtain ⟨q, hq, rfl⟩ := hp.pos hi
    exact noReady listed hs hre q hq
  intro fuel
  induction fuel with
  | zero =>
    intro U listed a w ρ HS p hI hnd hU hlen
    have hU0 : U = [] := List.eq_nil_of_length_eq_zero (by omega)
    have hall : ∀ i, i < ops.size → Lst listed i := fun i hi => Classical.byContradiction fun hn => by
      have := (hU i).mpr ⟨hi, hn⟩
      rw [hU0] at this
      cases this
    refine ⟨?_, hQ listed a w ρ HS p hI hall⟩
    cases hre : Region.ready .any ops listed with
    | nil => rfl
    | cons i l =>
      obtain ⟨h1, h2, _⟩ := (ready_spec hI.size).mp (show i ∈ Region.ready .any ops listed by rw [hre]; exact List.mem_cons_self)
      exact absurd (hall i h1) h2
  | succ fuel ih =>
    intro U listed a w ρ HS p hI hnd hU hlen
    refine ⟨fun hre => hQ listed a w ρ HS p hI (allOf listed hI.size hre), fun i hi => ?_⟩
    obtain ⟨hlt, hnl, _⟩ := (ready_spec hI.size).mp hi
    have hlt2 : i < listed.size := by rw [hI.size]; exact hlt
    refine hI.step hcal hp hok hi fun a' w' ρ' HS' p' hI' => ?_
    refine ih (U.erase i) _ a' w' ρ' HS' p' hI' (hnd.erase i) (fun j => ?_) ?_
    · rw [hnd.mem_erase_iff, hU, lst_set hlt2]
      constructor
      · rintro ⟨h1, h2, h3⟩; exact ⟨h2, fun z => z.elim h1 h3⟩
      · rintro ⟨h1, h2⟩; exact ⟨fun e => h2 (.inl e), h1, fun z => h2 (.inr z)⟩
    · rw [List.length_erase_of_mem ((hU i).mpr ⟨hlt, hnl⟩)]
      omega

end


theorem drun2_trace {P : Program} {cal : Cal} {ops : Array Oper} {A : List (List Nat)} {n base : Nat} {E : Tr Value} : ∀ (C : List Nat) (s0 sF : DS), drun2 cal P ops A n base E C s0 = some sF →
    ∃ s : Nat → DS, s 0 = s0 ∧ s C.length = sF ∧ ∀ q (h : q < C.length), dstep cal P ops A n base E (s q) C[q] = some (s (q + 1)) := by
  intro C
  induction C with
  | nil => intro s0 sF h; cases h; exact ⟨fun _ => s0, rfl, rfl, fun q h => absurd h (by simp)⟩
  | cons i l ih =>
    intro s0 sF h
    simp only [drun2] at h
    cases h1 : dstep cal P ops A n base E s0 i with
    | none => rw [h1] at h; cases h
    | some s1 =>
      rw [h1] at h
      obtain ⟨s, e0, eF, hs⟩ := ih s1 sF h
      refine ⟨fun q => match q with | 0 => s0 | q + 1 => s q, rfl, eF, fun q hq => ?_⟩
      cases q with
      | zero => simp only [List.getElem_cons_zero]; rw [h1, e0]
      | succ q => exact hs q (by simpa using hq)

theorem drun1_off {P : Program} {cal : Cal} {ops : Array Oper} {A : List (List Nat)} {n base : Nat} : ∀ (C : List Nat) (E0 : Tr Value) (s0 : DS) (E : Tr Value), drun1 cal P ops A n base C E0 s0 = some E →
    ∀ t, (∀ (i : Nat) (o : Oper), ops[i]? = some o → o.dst ≠ some t) → E.get t = E0.get t := by
  intro C
  induction C with
  | nil => intro E0 s0 E h t _; cases h; rfl
  | cons i l ih =>
    intro E0 s0 E h t ht
    simp only [drun1] at h
    split at h
    · split at h
      · rename_i v d hvs hd
        rw [ih _ _ _ h t ht, Tr.get_set]
        rw [if_neg]
        intro e
        subst e
        obtain ⟨o, ho, hd⟩ := Option.bind_eq_some_iff.mp hd
        exact ht i o ho hd
      · exact ih _ _ _ h t ht
    · cases h

theorem drawRun0_parts {P : Program} [Dem P] {cal : Cal} {ops : Array Oper} {st st' : St} (h : drawRun0 cal P ops st = some st') {ρ : Ren} {a : Act} {w : World} (hs : SRel P ρ st a w) :
    P.follows .mixedOrders = true ∧ ∃ A E C s, Plan P cal ops A st.n st.H.next E C s ∧ Inv P ops st.n st.H.next E C s ρ st.H w (Array.replicate ops.size false) a { w with drawn := w.drawn + 1 } ρ (s 0).cur 0 ∧
      ∀ listed a' w' ρ' HS p, Inv P ops st.n st.H.next E C s ρ st.H w listed a' w' ρ' HS p → (∀ i, i < ops.size → Lst listed i) → ∃ ρ2, Mv P ρ st.H w ρ2 st'.H w' ∧ SRel P ρ2 st' a' w' := by
  unfold drawRun0 at h
  simp only at h
  split at h
  · rename_i hc
    simp only [Bool.and_eq_true] at hc
    obtain ⟨⟨hdst, hmix⟩, hnone⟩ := hc
    split at h
    · rename_i E h1
      split at h
      · rename_i sF h2
        split at h
        · rename_i hfin
          simp only [Bool.and_eq_true] at hfin
          cases h
          generalize hC : canonE ops.size (ancs ops.toList []) ((List.range ops.size).filter fun i => (ops[i]?).any isEff) [] = C at h1 h2
          obtain ⟨s, e0, eF, hstep⟩ := drun2_trace C _ _ h2
          have hp : Plan P cal ops (ancs ops.toList []) st.n st.H.next E C s := {
            step := hstep
            ks0 := by rw [e0]
            es0 := by rw [e0]
            vals0 := by rw [e0]
            room0 := by rw [e0]; exact Nat.le_refl _
            none0 := fun a ha => by
              rw [e0]
              have := List.all_eq_true.mp hnone a (by simpa using ha)
              simpa [Heap.get] using this
            all := fun i hi => by rw [eF]; exact List.all_eq_true.mp hfin.2 i (by simpa using hi)
            val := fun p hp' o d ho hd => by
              rw [eF] at hp'
              have := List.all_eq_true.mp hfin.1 p hp'
              rw [ho] at this
              simp only [Option.bind_some, hd] at this
              exact veq_eq this
            dst := hdst
            anc := rfl }
          refine ⟨hmix, _, E, C, s, hp, ?_⟩
          have hw1 : WRel P ρ st.H { w with drawn := w.drawn + 1 } := hs.rel.heap rfl
          have hmv0 : Mv P ρ st.H w ρ (s 0).cur { w with drawn := w.drawn + 1 } := by
            have hd := Mv.drew hs.rel (w.drawn + 1)
            rw [e0]
            exact {
              ext := hd.ext
              rel := {
                ren := fun i L hi => by have := hs.rel.ren i L hi; exact ⟨by simp only; omega, this.2⟩
                cells := fun i c e ro hi => hw1.cells i c e ro hi
                maps := fun i es clk hi => hw1.maps i es clk hi
                inj := fun i j L M hi hj => hw1.inj i j L M hi hj
                inv := hw1.inv
                size := hw1.size
                base := fun i L hi => hw1.base i L hi }
              next := Nat.le_add_right _ _
              keep := hd.keep
              new := hd.new
              os := rfl, tape := rfl, output := rfl
              size := Nat.le_refl _
              frame := fun _ _ _ => rfl
              own := fun i L hi hL _ => ⟨i, L, hi, fun z => z, hL, rfl⟩ }
          have hnl : ∀ i, ¬ Lst (Array.replicate ops.size false) i := fun i z => by
            unfold Lst at z
            rw [Array.getD_eq_getD_getElem?, Array.getElem?_replicate] at z
            split at z <;> simp at z
          have hI : Inv P ops st.n st.H.next E C s ρ st.H w (Array.replicate ops.size false) a { w with drawn := w.drawn + 1 } ρ (s 0).cur 0 := {
            size := by simp
            ple := Nat.zero_le _
            before := fun q h hq => absurd hq (by omega)
            noeff := fun q h _ _ => hnl _
            bound := by rw [hp.ks0]; rfl
            next := rfl
            room := hp.room0
            there := fun id ob ⟨q, hq, _, h2, _⟩ => absurd h2 (hnl _)
            else_ := fun id _ => rfl
            free := fun q h _ => hp.none0 _ (hp.lt h)
            ren := fun q h _ => by
              cases e : ρ (st.H.next + C[q]) with
              | none => rfl
              | some L => have := (hs.rel.ren _ _ e).1; omega
            mv := hmv0
            closed := fun i o _ hi => absurd hi (hnl _)
            tsize := hs.size
            defers := hs.defers
            tmps := fun t ht => by
              rw [drun1_off C _ _ _ h1 t (fun i o ho hd => hnl i (ht i o ho hd))]
              exact hs.tmps t }
          refine ⟨hI, ?_⟩
          intro listed a' w' ρ' HS p hI' hall
          obtain ⟨g1, g2, g3, g4, g5⟩ := hp.seg p C.length hI'.ple (Nat.le_refl _) (fun r hr h1 _ h3 => hI'.noeff r hr h1 h3 (hall _ (hp.lt hr)))
          have hget : ∀ i, sF.cur.get i = HS.get i := fun i => by
            rw [← eF]
            by_cases hx : ∃ ob, Xtra P ops E st.n st.H.next C listed p i ob
            · obtain ⟨ob, r, hr, h1, h2, h3, h4⟩ := hx
              rw [hI'.there i ob ⟨r, hr, h1, h2, h3, h4⟩, h4]
              exact g4 r hr ob h1 hr h3
            · rw [hI'.else_ i hx]
              exact g5 i (fun ⟨r, hr, ob, h1, _, h3, h4⟩ => hx ⟨ob, r, hr, h1, hall _ (hp.lt hr), h3, h4⟩)
          have hmv : Mv P ρ st.H w ρ' sF.cur w' := hI'.mv.congr hget (by rw [← eF, g1, hI'.next])
          exact ⟨ρ', hmv, ⟨hI'.tsize, fun t => hI'.tmps t (fun i o ho _ => hall i (Array.getElem?_eq_some_iff.mp ho).1), hI'.defers, hmv.rel⟩⟩
        · cases h
      · cases h
    · cases h
  · cases h

theorem not_lst {n i : Nat} : ¬ Lst (Array.replicate n false) i := fun z => by
  unfold Lst at z
  rw [Array.getD_eq_getD_getElem?, Array.getElem?_replicate] at z
  split at z <;> simp at z
theorem drawRun0_ok {P : Program} [Dem P] : DrawOk P drawRun0 := by
  intro cal hcal ops st st' hok h id ρ a w hs
  obtain ⟨hmix, A, E, C, s, hp, hI, hfin⟩ := drawRun0_parts h hs
  refine wp_region_any hmix ?_
  refine Inv.any hcal hp hok ?_ ops.size (List.range ops.size) _ _ _ _ _ _ hI List.nodup_range (fun i => ⟨fun hi => ⟨by simpa using hi, not_lst⟩, fun hi => by simpa using hi.1⟩) (by simp)
  intro listed a' w' ρ' HS p hI' hall
  exact ⟨rfl, hfin listed a' w' ρ' HS p hI' hall⟩

theorem wanted_of {o : Oper} {f g : Nat → Option Bool} (h : ∀ j b, o.guard = some (j, b) → f j = g j) : Region.wanted o f = Region.wanted o g := by
  unfold Region.wanted
  cases hg : o.guard with
  | none => rfl
  | some p => obtain ⟨j, b⟩ := p; simp only; rw [h j b hg]

section
variable {P : Program} [Dem P] {cal : Cal} {ops ops1 : Array Oper} {A : List (List Nat)} {n base : Nat} {E : Tr Value} {C : List Nat} {s : Nat → DS}
variable {ρ0 : Ren} {H0 : Heap} {w0 : World}
theorem Inv.anyL (hcal : CalOk P cal) (hp : Plan P cal ops A n base E C s) (hok : ops.toList.all opOk = true) {L d : Nat} {x : Operand} {ty : TypeId} {pos : String} {af : Array Edge} (hL : L < ops.size) (hsz : ops1.size = ops.size) (h0 : ops[L]? = some ⟨none, .assign x, ty, pos, af, none⟩) (h1 : ops1[L]? = some ⟨some d, .assign x, ty, pos, af, none⟩)
    (hsame : ∀ i, i ≠ L → ops1[i]? = ops[i]?) (hdir : ∀ i, i < ops.size → i ≠ L → i ∈ direct ⟨none, .assign x, ty, pos, af, none⟩) (hg : ∀ i o j b, i ≠ L → ops[i]? = some o → o.guard = some (j, b) → j ≠ L)
    {Q : Exit → Act → World → Prop} (hQ : ∀ listed a w ρ HS p, Inv P ops n base E C s ρ0 H0 w0 listed a w ρ HS p → (∀ i, i < ops.size → Lst listed i) → Q .normal (a.put (some d) (a.eval x)) w) :
    ∀ (fuel : Nat) (U : List Nat) (listed : Array Bool) (a : Act) (w : World) (ρ : Ren) (HS : Heap) (p : Nat), Inv P ops n base E C s ρ0 H0 w0 listed a w ρ HS p → U.Nodup → (∀ i, i ∈ U ↔ i < ops.size ∧ ¬ Lst listed i) → U.length ≤ fuel → ¬ Lst listed L → wpAny P .any ops1 Q fuel listed a w := by
  have hdirEq : ∀ i o1 o0, ops1[i]? = some o1 → ops[i]? = some o0 → direct o1 = direct o0 := fun i o1 o0 e1 e0 => by
    by_cases hi : i = L
    · subst hi; rw [h1] at e1; rw [h0] at e0; cases e1; cases e0; rfl
    · rw [hsame i hi, e0] at e1; cases e1; rfl
  have hready : ∀ (listed : Array Bool), listed.size = ops.size → ∀ i, i ∈ Region.ready .any ops1 listed ↔ i ∈ Region.ready .any ops listed := fun listed hs i => by
    rw [ready_spec (hs.trans hsz.symm), ready_spec hs, hsz]
    refine and_congr_right fun hlt => and_congr_right fun _ => ?_
    have e0 : ops[i]? = some ops[i] := Array.getElem?_eq_getElem hlt
    have e1 : ops1[i]? = some (ops1[i]'(by omega)) := Array.getElem?_eq_getElem (by omega)
    have := hdirEq i _ _ e1 e0
    constructor
    · intro h o ho dd hdd; rw [e0] at ho; cases ho; exact h _ e1 dd (by rw [this]; exact hdd)
    · intro h o ho dd hdd; rw [e1] at ho; cases ho; exact h _ e0 dd (by rw [← this]; exact hdd)
  have noReady : ∀ (listed : Array Bool), listed.size = ops.size → Region.ready .any ops listed = [] → ∀ q (hq : q < C.length), Lst listed C[q] := by
    intro listed hs hre q
    induction q using Nat.strongRecOn with
    | _ q ih =>
      intro hq
      obtain ⟨o, ho, hn, hd, hl, hk⟩ := dstep_facts (hp.step q hq)
      refine Classical.byContradiction fun hnl => ?_
      have : C[q] ∈ Region.ready .any ops listed := (ready_spec hs).mpr ⟨hp.lt hq, hnl, fun o' ho' d hdd => by
        rw [ho] at ho'; cases ho'
        obtain ⟨r, hr, h1, h2⟩ := (hp.vals q (by omega) d).mp (hd d hdd)
        rw [← h2]
        exact ih r h1 hr⟩
      rw [hre] at this
      cases this
  have allOf : ∀ (listed : Array Bool), listed.size = ops.size → Region.ready .any ops1 listed = [] → ∀ i, i < ops.size → Lst listed i := fun listed hs hre i hi => by
    obtain ⟨q, hq, rfl⟩ := hp.pos hi
    refine noReady listed hs ?_ q hq
    cases hr : Region.ready .any ops listed with
    | nil => rfl
    | cons j l => have := (hready listed hs j).mpr (by rw [hr]; exact List.mem_cons_self); rw [hre] at this; cases this
  intro fuel
  induction fuel with
  | zero =>
    intro U listed a w ρ HS p hI hnd hU hlen hnL
    have hU0 : U = [] := List.eq_nil_of_length_eq_zero (by omega)
    have := (hU L).mpr ⟨hL, hnL⟩
    rw [hU0] at this
    cases this
  | succ fuel ih =>
    intro U listed a w ρ HS p hI hnd hU hlen hnL
    refine ⟨fun hre => absurd (allOf listed hI.size hre L hL) hnL, fun i hi => ?_⟩
    have hi0 := (hready listed hI.size i).mp hi
    obtain ⟨hlt, hnl, hdr⟩ := (ready_spec hI.size).mp hi0
    have hlt2 : i < listed.size := by rw [hI.size]; exact hlt
    by_cases hiL : i = L
    · subst hiL
      have hstep := hI.step hcal hp hok hi0 (Q := fun _ _ _ => False) (K := fun a' w' => ∃ ρ' HS' p', Inv P ops n base E C s ρ0 H0 w0 (listed.setIfInBounds i true) a' w' ρ' HS' p') (fun a' w' ρ' HS' p' hI' => ⟨ρ', HS', p', hI'⟩)
      have hall : ∀ j, j < ops.size → Lst (listed.setIfInBounds i true) j := fun j hj => by
        rw [lst_set hlt2]
        by_cases hji : j = i
        · exact .inl hji
        · exact .inr (hdr _ h0 j (hdir j hj hji))
      unfold wpOp at hstep ⊢
      simp only [h0] at hstep
      simp only [h1]
      have hw0 : ∀ f : Nat → Option Bool, Region.wanted ⟨none, .assign x, ty, pos, af, none⟩ f = true := fun f => rfl
      have hw1 : ∀ f : Nat → Option Bool, Region.wanted ⟨some d, .assign x, ty, pos, af, none⟩ f = true := fun f => rfl
      rw [hw0, if_pos rfl] at hstep
      rw [hw1, if_pos rfl]
      rcases hstep with hstep | ⟨_, hlet⟩
      · obtain ⟨ρ', HS', p', hI'⟩ : ∃ ρ' HS' p', Inv P ops n base E C s ρ0 H0 w0 (listed.setIfInBounds i true) a w ρ' HS' p' := hstep
        left
        have hq := hQ _ _ _ _ _ _ hI' hall
        have hnone : Region.ready .any ops1 (listed.setIfInBounds i true) = [] := by
          cases hr : Region.ready .any ops1 (listed.setIfInBounds i true) with
          | nil => rfl
          | cons j l =>
            have hj := (hready _ hI'.size j).mp (by rw [hr]; exact List.mem_cons_self)
            obtain ⟨a1, a2, _⟩ := (ready_spec hI'.size).mp hj
            exact absurd (hall j a1) a2
        show wpAny P .any ops1 Q fuel (listed.setIfInBounds i true) (a.put (some d) (a.eval x)) w
        cases fuel with
        | zero => exact ⟨hnone, hq⟩
        | succ f => exact ⟨fun _ => hq, fun j hj => by rw [hnone] at hj; cases hj⟩
      · obtain ⟨a', w', hf⟩ := hlet; exact hf.elim
    · have hstep : wpOp P ops Q i (wpAny P .any ops1 Q fuel (listed.setIfInBounds i true)) a w := hI.step hcal hp hok hi0 fun a' w' ρ' HS' p' hI' => by
        refine ih (U.erase i) _ a' w' ρ' HS' p' hI' (hnd.erase i) (fun j => ?_) ?_ ?_
        · rw [hnd.mem_erase_iff, hU, lst_set hlt2]
          constructor
          · rintro ⟨h1, h2, h3⟩; exact ⟨h2, fun z => z.elim h1 h3⟩
          · rintro ⟨h1, h2⟩; exact ⟨fun e => h2 (.inl e), h1, fun z => h2 (.inr z)⟩
        · rw [List.length_erase_of_mem ((hU i).mpr ⟨hlt, hnl⟩)]
          omega
        · rw [lst_set hlt2]; exact fun z => z.elim (fun e => hiL e.symm) hnL
      have e0 : ops[i]? = some ops[i] := Array.getElem?_eq_getElem hlt
      have e1 : ops1[i]? = some ops[i] := (hsame i hiL).trans e0
      unfold wpOp at hstep ⊢
      simp only [e0] at hstep
      simp only [e1]
      have hw : Region.wanted ops[i] (yielded ops1 a.tmps) = Region.wanted ops[i] (yielded ops a.tmps) := wanted_of fun j b hgj => by
        unfold yielded
        rw [hsame j (hg i _ j b hiL e0 hgj)]
      rw [hw]
      exact hstep
end

theorem drawRun_ok {P : Program} [Dem P] : DrawOk P drawRun := by
  intro cal hcal ops st st' hok h id ρ a w hs
  unfold drawRun at h
  split at h
  case isFalse => exact drawRun0_ok cal hcal ops st st' hok h id ρ a w hs
  split at h
  case h_2 => cases h
  rename_i d x o hlate
  obtain ⟨s1, hs1, hput⟩ := Option.bind_eq_some_iff.mp h
  unfold lateO at hlate
  split at hlate
  case h_2 => cases hlate
  rename_i d' x' ty pos af hop
  split at hlate
  case isFalse => cases hlate
  rename_i hlok
  cases hlate
  have hL : ops.size - 1 < ops.size := by
    have := (Array.getElem?_eq_some_iff.mp hop).1
    omega
  obtain ⟨hmix, A, E, C, s, hp, hI, hfin⟩ := drawRun0_parts hs1 hs
  have hsz : (ops.setIfInBounds (ops.size - 1) ⟨none, .assign x, ty, pos, af, none⟩).size = ops.size := Array.size_setIfInBounds ..
  have h0 : (ops.setIfInBounds (ops.size - 1) ⟨none, .assign x, ty, pos, af, none⟩)[ops.size - 1]? = some ⟨none, .assign x, ty, pos, af, none⟩ := by rw [Array.getElem?_setIfInBounds_self_of_lt hL]
  have hsame : ∀ i, i ≠ ops.size - 1 → ops[i]? = (ops.setIfInBounds (ops.size - 1) ⟨none, .assign x, ty, pos, af, none⟩)[i]? := fun i hi => by rw [Array.getElem?_setIfInBounds_ne (Ne.symm hi)]
  have hok2 : (ops.setIfInBounds (ops.size - 1) ⟨none, .assign x, ty, pos, af, none⟩).toList.all opOk = true := by
    rw [List.all_eq_true]
    intro o ho
    obtain ⟨i, hi, rfl⟩ := List.mem_iff_getElem.mp ho
    have hi' : i < (ops.setIfInBounds (ops.size - 1) ⟨none, .assign x, ty, pos, af, none⟩).size := by simpa using hi
    have e := Array.getElem?_eq_getElem hi'
    rw [Array.getElem_toList]
    by_cases hiL : i = ops.size - 1
    · subst hiL
      rw [h0] at e
      rw [← Option.some.inj e]
      have := List.all_eq_true.mp hok _ (show (⟨some d, .assign x, ty, pos, af, none⟩ : Oper) ∈ ops.toList from by
        rw [Array.mem_toList_iff]; exact Array.mem_of_getElem? hop)
      exact this
    · rw [← hsame i hiL] at e
      exact List.all_eq_true.mp hok _ (by rw [Array.mem_toList_iff]; exact Array.mem_of_getElem? e)
  have hlk := List.all_eq_true.mp hlok
  refine wp_region_any hmix ?_
  refine Inv.anyL (ops1 := ops) hcal hp hok2 (L := ops.size - 1) (by rw [hsz]; exact hL) hsz.symm h0 hop hsame ?_ ?_ ?_ ops.size (List.range ops.size) _ _ _ _ _ _ (by rw [hsz] at hI; exact hI) List.nodup_range (fun i => ⟨fun hi => ⟨by rw [hsz]; simpa using hi, not_lst⟩, fun hi => by rw [hsz] at hi; simpa using hi.1⟩) (by simp) not_lst
  · intro i hi hiL
    rw [hsz] at hi
    have := hlk i (by simp; omega)
    rw [Bool.and_eq_true] at this
    exact List.contains_iff_mem.mp this.1
  · intro i o j b hiL ho hgj
    rw [← hsame i hiL] at ho
    have hi := (Array.getElem?_eq_some_iff.mp ho).1
    have := hlk i (by simp; omega)
    rw [Bool.and_eq_true] at this
    have h2 := this.2
    rw [ho] at h2
    simp only [hgj] at h2
    simpa using h2
  · intro listed a' w' ρ' HS p hI' hall
    obtain ⟨ρ2, hm, hsr⟩ := hfin listed a' w' ρ' HS p hI' hall
    have hx : operOk x = true := by
      have := List.all_eq_true.mp hok _ (show (⟨some d, .assign x, ty, pos, af, none⟩ : Oper) ∈ ops.toList from by
        rw [Array.mem_toList_iff]; exact Array.mem_of_getElem? hop)
      unfold opOk at this
      rw [Bool.and_eq_true] at this
      exact List.all_eq_true.mp this.1 x (by simp [Op.operands])
    obtain ⟨eH, hsr2⟩ := hsr.put (Mv.refl hsr.rel) (hsr.evk hx) hput
    exact ⟨rfl, ρ2, by rw [eH]; exact hm, hsr2⟩

end Go.B

namespace Go.B
open Go

structure Env where
  P : Program
  T : FuncId → Option Func
  X : Exts

def Env.cal (V : Env) (k : Nat) : Cal := callB drawRun V.P V.T V.X k

def Ca (V : Env) (f : FuncId) (args : Array Value) (H : Heap) (v : Value) (H' : Heap) : Prop := ∃ K, ∀ k, K ≤ k → V.cal k f args H = some (v, H')

inductive It where
  | code (c : Code)
  | blk (id : Nat)
  | ops (all : Array Oper) (l : List Oper)

def runIt (V : Env) (k n : Nat) : It → St → Option (Ex × St)
  | .code c, st => exec drawRun (V.cal k) V.P n c st
  | .blk _, st => some (.normal, st)
  | .ops all l, st => (opsRun (V.cal k) V.P all l st).map fun st => (.normal, st)

def runIts (V : Env) (k n : Nat) : List It → St → Option (Ex × St)
  | [], st => some (.normal, st)
  | i :: r, st => match runIt V k n i st with
    | some (.normal, st') => runIts V k n r st'
    | some (.exit j, st') => outIt j r st'
    | o => o
where
  outIt (j : Nat) : List It → St → Option (Ex × St)
    | [], st => some (.exit j, st)
    | .blk id :: r, st => if j = id then runIts V k n r st else outIt j r st
    | _ :: r, st => outIt j r st

def W (V : Env) (its : List It) (st : St) (Q : Ex → St → Prop) : Prop := ∃ ex st', Q ex st' ∧ ∃ K, ∀ k n, K ≤ k → K ≤ n → runIts V k n its st = some (ex, st')

variable {V : Env} {r : List It} {st : St} {Q : Ex → St → Prop}

theorem W_of {its its' : List It} {st st' : St} (h : ∃ K, ∀ k n, K ≤ k → K ≤ n → runIts V k n its st = runIts V k n its' st') : W V its st Q ↔ W V its' st' Q := by
  obtain ⟨K0, h⟩ := h
  constructor
  · rintro ⟨ex, s, hq, K, hk⟩
    exact ⟨ex, s, hq, max K K0, fun k n h1 h2 => by rw [← h k n (by omega) (by omega)]; exact hk k n (by omega) (by omega)⟩
  · rintro ⟨ex, s, hq, K, hk⟩
    exact ⟨ex, s, hq, max K K0, fun k n h1 h2 => by rw [h k n (by omega) (by omega)]; exact hk k n (by omega) (by omega)⟩

theorem W_eq {its its' : List It} {st st' : St} (h : ∀ k n, runIts V k n its st = runIts V k n its' st') : W V its st Q ↔ W V its' st' Q := W_of ⟨0, fun k n _ _ => h k n⟩

theorem W_nil : W V [] st Q ↔ Q .normal st := by
  constructor
  · rintro ⟨ex, s, hq, K, hk⟩
    have := hk K K (Nat.le_refl _) (Nat.le_refl _)
    cases this
    exact hq
  · intro h
    exact ⟨_, _, h, 0, fun _ _ _ _ => rfl⟩

theorem W_skip : W V (.code .skip :: r) st Q ↔ W V r st Q := W_eq fun _ _ => rfl
theorem W_blk {id : Nat} : W V (.blk id :: r) st Q ↔ W V r st Q := W_eq fun _ _ => rfl
theorem W_label {l : Nat} : W V (.code (.label l) :: r) st Q ↔ W V r st Q := W_eq fun _ _ => rfl

theorem W_seq {a b : Code} : W V (.code (.seq a b) :: r) st Q ↔ W V (.code a :: .code b :: r) st Q := W_eq fun k n => by
  simp only [runIts, runIt, exec]
  cases exec drawRun (V.cal k) V.P n a st with
  | none => rfl
  | some p =>
    obtain ⟨ex, s⟩ := p
    cases ex <;> rfl

theorem W_region {id : Nat} {ops : Array Oper} : W V (.code (.region id ops false) :: r) st Q ↔ W V (.ops ops ops.toList :: r) st Q := W_eq fun k n => by
  simp only [runIts, runIt, exec, Bool.false_eq_true, if_false]

theorem W_block {id : Nat} {b : Code} : W V (.code (.block id b) :: r) st Q ↔ W V (.code b :: .blk id :: r) st Q := W_eq fun k n => by
  simp only [runIts, runIt, exec]
  cases exec drawRun (V.cal k) V.P n b st with
  | none => rfl
  | some p =>
    obtain ⟨ex, s⟩ := p
    cases ex with
    | normal => rfl
    | ret => rfl
    | exit i =>
      simp only [runIts.outIt]
      by_cases h : i = id
      · simp only [h, if_true]
      · simp only [h, if_false]

theorem W_ret : W V (.code .ret :: r) st Q ↔ Q .ret st := by
  constructor
  · rintro ⟨ex, s, hq, K, hk⟩
    have := hk K K (Nat.le_refl _) (Nat.le_refl _)
    cases this
    exact hq
  · intro h
    exact ⟨_, _, h, 0, fun _ _ _ _ => rfl⟩

def exitW (V : Env) (j : Nat) : List It → St → (Ex → St → Prop) → Prop
  | [], st, Q => Q (.exit j) st
  | .blk id :: r, st, Q => if j = id then W V r st Q else exitW V j r st Q
  | .code _ :: r, st, Q => exitW V j r st Q
  | .ops _ _ :: r, st, Q => exitW V j r st Q

theorem exitW_spec {j : Nat} : ∀ {r : List It}, exitW V j r st Q ↔ ∃ ex st', Q ex st' ∧ ∃ K, ∀ k n, K ≤ k → K ≤ n → runIts.outIt V k n j r st = some (ex, st') := by
  intro r
  induction r with
  | nil =>
    constructor
    · intro h; exact ⟨_, _, h, 0, fun _ _ _ _ => rfl⟩
    · rintro ⟨ex, s, hq, K, hk⟩
      have := hk K K (Nat.le_refl _) (Nat.le_refl _)
      cases this
      exact hq
  | cons i r ih =>
    cases i with
    | code c => exact ih
    | ops a l => exact ih
    | blk id =>
      simp only [exitW, runIts.outIt]
      by_cases h : j = id
      · simp only [h, if_true]; exact Iff.rfl
      · simp only [h, if_false]; exact ih

theorem W_exit {j : Nat} : W V (.code (.exit j) :: r) st Q ↔ exitW V j r st Q := by
  rw [exitW_spec]
  exact Iff.rfl

theorem W_cond_true {c : Operand} {a b : Code} (h : ev st.t c = .bool true) : W V (.code (.cond c a b) :: r) st Q ↔ W V (.code a :: r) st Q := W_eq fun k n => by simp only [runIts, runIt, exec, h]
theorem W_cond_false {c : Operand} {a b : Code} (h : ev st.t c = .bool false) : W V (.code (.cond c a b) :: r) st Q ↔ W V (.code b :: r) st Q := W_eq fun k n => by simp only [runIts, runIt, exec, h]

def condW (V : Env) (a b : Code) (r : List It) (st : St) (Q : Ex → St → Prop) : Value → Prop
  | .bool t => (t = true → W V (.code a :: r) st Q) ∧ (t = false → W V (.code b :: r) st Q)
  | _ => False

theorem W_cond {c : Operand} {a b : Code} : W V (.code (.cond c a b) :: r) st Q ↔ condW V a b r st Q (ev st.t c) := by
  unfold condW
  split
  · rename_i t h
    cases t with
    | true => rw [W_cond_true h]; simp
    | false => rw [W_cond_false h]; simp
  · rename_i h
    constructor
    · rintro ⟨ex, s, hq, K, hk⟩
      have := hk K K (Nat.le_refl _) (Nat.le_refl _)
      simp only [runIts, runIt, exec] at this
      split at this <;> first
        | (rename_i h2 _; split at h2 <;> first | (rename_i h3; exact absurd h3 (h _)) | cases h2)
        | (rename_i h2; split at h2 <;> first | (rename_i h3; exact absurd h3 (h _)) | cases h2)
        | (cases this)
        | skip
      all_goals (split at this <;> first | (rename_i h3; exact absurd h3 (h _)) | (cases this))
    · exact False.elim

theorem condW_bool {a b : Code} {t : Bool} : condW V a b r st Q (.bool t) ↔ ((t = true → W V (.code a :: r) st Q) ∧ (t = false → W V (.code b :: r) st Q)) := Iff.rfl


def putW (V : Env) (r : List It) (Q : Ex → St → Prop) (n : Nat) (t : Tr Value) (dst : Option Tmp) (v : Value) (H : Heap) : Prop :=
  match dst with
  | none => W V r ⟨n, t, H⟩ Q
  | some d => d < n ∧ W V r ⟨n, t.set d v, H⟩ Q

def stepW (V : Env) (r : List It) (Q : Ex → St → Prop) (n : Nat) (t : Tr Value) (H : Heap) (dst : Option Tmp) : Option Res → Prop
  | some (.val v H') => putW V r Q n t dst v H'
  | some (.enter f args) => ∃ v H', Ca V f args H v H' ∧ putW V r Q n t dst v H'
  | none => False

theorem W_ops_nil {all : Array Oper} : W V (.ops all [] :: r) st Q ↔ W V r st Q := W_eq fun _ _ => rfl

theorem W_put {all : Array Oper} {o : Oper} {l : List Oper} {n : Nat} {t : Tr Value} {H H' : Heap} {v : Value} (h : ∃ K, ∀ k, K ≤ k → step1 (V.cal k) V.P all o ⟨n, t, H⟩ = St.put ⟨n, t, H⟩ o.dst v H') :
    W V (.ops all (o :: l) :: r) ⟨n, t, H⟩ Q ↔ putW V (.ops all l :: r) Q n t o.dst v H' := by
  obtain ⟨K0, h⟩ := h
  unfold putW
  have hrun : ∀ k m, K0 ≤ k → runIts V k m (.ops all (o :: l) :: r) ⟨n, t, H⟩ = match St.put ⟨n, t, H⟩ o.dst v H' with
      | some s => runIts V k m (.ops all l :: r) s
      | none => none := by
    intro k m hk
    simp only [runIts, runIt, opsRun, h k hk]
    cases St.put ⟨n, t, H⟩ o.dst v H' <;> rfl
  cases hd : o.dst with
  | none => exact W_of ⟨K0, fun k m h1 _ => by rw [hrun k m h1, hd]; rfl⟩
  | some d =>
    simp only
    by_cases hlt : d < n
    · rw [and_iff_right hlt]
      exact W_of ⟨K0, fun k m h1 _ => by rw [hrun k m h1, hd]; simp only [St.put, hlt, if_true]⟩
    · constructor
      · rintro ⟨ex, s, hq, K, hk⟩
        have := hk (max K K0) K (by omega) (Nat.le_refl _)
        rw [hrun _ _ (by omega), hd] at this
        simp only [St.put, hlt, if_false] at this
        cases this
      · exact fun hh => absurd hh.1 hlt

def opW (V : Env) (all : Array Oper) (o : Oper) (l : List Oper) (r : List It) (Q : Ex → St → Prop) (n : Nat) (t : Tr Value) (H : Heap) (b : Bool) : Prop :=
  (b = true → stepW V (.ops all l :: r) Q n t H o.dst (aop V.P (ev t) o H)) ∧ (b = false → putW V (.ops all l :: r) Q n t o.dst undef H)

theorem W_op {all : Array Oper} {o : Oper} {l : List Oper} {n : Nat} {t : Tr Value} {H : Heap} (h : opW V all o l r Q n t H (Region.wanted o (yieldB all n t))) : W V (.ops all (o :: l) :: r) ⟨n, t, H⟩ Q := by
  cases hw : Region.wanted o (yieldB all n t) with
  | false =>
    rw [hw] at h
    exact (W_put ⟨0, fun k _ => by unfold step1; rw [hw]; rfl⟩).mpr (h.2 rfl)
  | true =>
    rw [hw] at h
    replace h := h.1 rfl
    cases ha : aop V.P (ev t) o H with
    | none => rw [ha] at h; exact h.elim
    | some res =>
      rw [ha] at h
      cases res with
      | val v H' => exact (W_put ⟨0, fun k _ => by unfold step1; rw [hw]; simp only [if_true, ha]⟩).mpr h
      | enter f args =>
        obtain ⟨v, H', ⟨K, hc⟩, hp⟩ := h
        exact (W_put ⟨K, fun k hk => by unfold step1; rw [hw]; simp only [if_true, ha, hc k hk]⟩).mpr hp


theorem W_loop {b : Code} (I : St → Prop) (μ : St → Nat) (h0 : I st) (step : ∀ s, I s → W V [.code b] s fun ex s' => match ex with
    | .normal => I s' ∧ μ s' < μ s
    | .ret => Q .ret s'
    | .exit j => exitW V j r s' Q) : W V (.code (.loop b) :: r) st Q := by
  have key : ∀ m s, μ s = m → I s → ∃ ex s', ex ≠ .normal ∧ ((ex = .ret → Q .ret s') ∧ ∀ j, ex = .exit j → exitW V j r s' Q) ∧ ∃ K, ∀ k n q, K ≤ k → K ≤ n → K ≤ q → loopN (exec drawRun (V.cal k) V.P n b) q s = some (ex, s') := by
    intro m
    induction m using Nat.strongRecOn with
    | _ m ih =>
      intro s hm hI
      obtain ⟨ex, s1, hq, K, hk⟩ := step s hI
      have hb : ∀ k n, K ≤ k → K ≤ n → exec drawRun (V.cal k) V.P n b s = some (ex, s1) := fun k n h1 h2 => by
        have := hk k n h1 h2
        simp only [runIts, runIt] at this
        cases he : exec drawRun (V.cal k) V.P n b s with
        | none => rw [he] at this; cases this
        | some p =>
          obtain ⟨e, s2⟩ := p
          rw [he] at this
          cases e <;> simpa [runIts.outIt] using this
      cases ex with
      | normal =>
        obtain ⟨hI1, hlt⟩ := hq
        obtain ⟨ex2, s2, h1, h2, K2, hk2⟩ := ih (μ s1) (hm ▸ hlt) s1 rfl hI1
        refine ⟨ex2, s2, h1, h2, max K K2 + 1, fun k n q a1 a2 a3 => ?_⟩
        obtain ⟨q, rfl⟩ : ∃ q', q = q' + 1 := ⟨q - 1, by omega⟩
        simp only [loopN, hb k n (by omega) (by omega)]
        exact hk2 k n q (by omega) (by omega) (by omega)
      | exit j =>
        refine ⟨.exit j, s1, by simp, ⟨by simp, fun j' e => by cases e; exact hq⟩, K + 1, fun k n q a1 a2 a3 => ?_⟩
        obtain ⟨q, rfl⟩ : ∃ q', q = q' + 1 := ⟨q - 1, by omega⟩
        simp only [loopN, hb k n (by omega) (by omega)]
      | ret =>
        refine ⟨.ret, s1, by simp, ⟨fun _ => hq, by simp⟩, K + 1, fun k n q a1 a2 a3 => ?_⟩
        obtain ⟨q, rfl⟩ : ∃ q', q = q' + 1 := ⟨q - 1, by omega⟩
        simp only [loopN, hb k n (by omega) (by omega)]
  obtain ⟨ex, s', hne, ⟨h1, h2⟩, K, hk⟩ := key _ st rfl h0
  have hx : ∀ k n, K ≤ k → K ≤ n → runIt V k n (.code (.loop b)) st = some (ex, s') := fun k n a1 a2 => by
    simp only [runIt, exec]
    exact hk k n n a1 a2 a2
  cases ex with
  | normal => exact absurd rfl hne
  | ret => exact ⟨.ret, s', h1 rfl, K, fun k n a1 a2 => by simp only [runIts, hx k n a1 a2]⟩
  | exit j =>
    obtain ⟨ex2, s2, hq, K2, hk2⟩ := exitW_spec.mp (h2 j rfl)
    exact ⟨ex2, s2, hq, max K K2, fun k n a1 a2 => by simp only [runIts, hx k n (by omega) (by omega)]; exact hk2 k n (by omega) (by omega)⟩

theorem W_draw {id : Nat} {ops : Array Oper} {st' : St} (h : ∃ K, ∀ k, K ≤ k → drawRun (V.cal k) V.P ops st = some st') (hw : W V r st' Q) : W V (.code (.region id ops true) :: r) st Q := by
  obtain ⟨K0, h⟩ := h
  obtain ⟨ex, s, hq, K, hk⟩ := hw
  exact ⟨ex, s, hq, max K K0, fun k n h1 h2 => by
    simp only [runIts, runIt, exec, if_true, h k (by omega), Option.map_some]
    exact hk k n (by omega) (by omega)⟩

theorem Ca_body {f : FuncId} {fn : Func} {c : Code} {args : Array Value} {H : Heap} {R : Value → Heap → Prop} (hX : V.X f = none) (hT : V.T f = some fn) (hb : fn.body = some c)
    (h : W V [.code c] ⟨args.size + (fn.ntmps - args.size), setArgs .nil 0 args.toList, H⟩ fun ex s => (ex = .normal ∨ ex = .ret) ∧ ∃ l, resB V.P s fn.results.toList = some l ∧ R (oneOf l) s.H) :
    ∃ v H', Ca V f args H v H' ∧ R v H' := by
  obtain ⟨ex, s, ⟨hex, l, hl, hR⟩, K, hk⟩ := h
  refine ⟨oneOf l, s.H, ⟨K + 1, fun k hkk => ?_⟩, hR⟩
  obtain ⟨k, rfl⟩ : ∃ q', k = q' + 1 := ⟨k - 1, by omega⟩
  have := hk k k (by omega) (by omega)
  have he : exec drawRun (V.cal k) V.P k c ⟨args.size + (fn.ntmps - args.size), setArgs .nil 0 args.toList, H⟩ = some (ex, s) := by
    simp only [runIts, runIt] at this
    cases he : exec drawRun (V.cal k) V.P k c ⟨args.size + (fn.ntmps - args.size), setArgs .nil 0 args.toList, H⟩ with
    | none => rw [he] at this; cases this
    | some p =>
      obtain ⟨e, s2⟩ := p
      rw [he] at this
      cases e <;> simpa [runIts.outIt] using this
  unfold Env.cal at he ⊢
  simp only [callB, hX, hT, hb]
  rw [he]
  rcases hex with rfl | rfl <;> simp only [hl, Option.map_some]

theorem Ca_ext {f : FuncId} {g : Array Value → Heap → Option (Value × Heap)} {args : Array Value} {H H' : Heap} {v : Value} (hX : V.X f = some g) (h : g args H = some (v, H')) : Ca V f args H v H' :=
  ⟨1, fun k hk => by
    obtain ⟨k, rfl⟩ : ∃ q', k = q' + 1 := ⟨k - 1, by omega⟩
    unfold Env.cal
    simp only [callB, hX, h]⟩

theorem Ca_sound [Dem V.P] (hT : TabOk V.P V.T) (hX : ExtOk V.P V.X) {f : FuncId} {args : Array Value} {H H' : Heap} {v : Value} (h : Ca V f args H v H') {ρ : Ren} {w : World} {args' : Array Value} (hw : WRel V.P ρ H w) (ha : LRel ρ args.toList args'.toList) :
    Calls V.P f args' w fun e w' => ∃ ρ' v', e = .returned v' ∧ Mv V.P ρ H w ρ' H' w' ∧ VRel ρ' v v' := by
  obtain ⟨K, hk⟩ := h
  exact (callB_sound drawRun_ok hT hX K f args H v H' (hk K (Nat.le_refl _))).2 ρ w args' hw ha

end Go.B

namespace Go.B
open Go

section
variable {P : Program} {e : Operand → Value} {H : Heap} {d : Option Tmp} {ty : TypeId} {pos : String} {af : Array Edge} {g : Option (Nat × Bool)}

theorem ev_tmp {t : Tr Value} {i : Nat} : ev t (.tmp i) = (t.get i).getD undef := rfl
theorem ev_int {t : Tr Value} {k : IntKind} {n : Int} : ev t (.const (.int k n)) = .int k n := rfl
theorem ev_bool {t : Tr Value} {b : Bool} : ev t (.const (.bool b)) = .bool b := rfl
theorem ev_string {t : Tr Value} {s : ByteArray} : ev t (.const (.string s)) = .string s := rfl
theorem ev_ptr {t : Tr Value} : ev t (.const (.pointer none)) = .pointer none := rfl
theorem ev_slice {t : Tr Value} : ev t (.const (.slice none 0 0)) = .slice none 0 0 := rfl
theorem ev_map {t : Tr Value} : ev t (.const (.map none)) = .map none := rfl
theorem ev_nif {t : Tr Value} : ev t (.const .nilIface) = .nilIface := rfl
theorem ev_func {t : Tr Value} {f : FuncId} : ev t (.func f) = .func (.func f) #[] #[] := rfl

theorem wanted_none {d : Option Tmp} {op : Op} {f : Nat → Option Bool} : Region.wanted ⟨d, op, ty, pos, af, none⟩ f = true := rfl
theorem wanted_some {d : Option Tmp} {op : Op} {j : Nat} {b : Bool} {f : Nat → Option Bool} : Region.wanted ⟨d, op, ty, pos, af, some (j, b)⟩ f = (f j == some b) := rfl

theorem aop_move {x : Operand} : aop P e ⟨d, .move x, ty, pos, af, g⟩ H = some (.val (e x) H) := rfl
theorem aop_assign {x : Operand} : aop P e ⟨d, .assign x, ty, pos, af, g⟩ H = some (.val (e x) H) := rfl
def pickV (H : Heap) : Value → Value → Value → Option Res
  | .bool t, a, b => some (.val (if t then a else b) H)
  | _, _, _ => none
theorem aop_pick {c a b : Operand} : aop P e ⟨d, .pick c a b, ty, pos, af, g⟩ H = pickV H (e c) (e a) (e b) := by
  simp only [aop, markB, allocB, aopF, pickV]
  cases e c <;> rfl
theorem pickV_bool {t : Bool} {a b : Value} : pickV H (.bool t) a b = some (.val (if t then a else b) H) := rfl
theorem aop_load {t : TypeId} {a : Operand} : aop P e ⟨d, .load t a, ty, pos, af, g⟩ H = (loadB P H t (e a)).map fun v => .val v H := rfl
theorem aop_store {t : TypeId} {a x : Operand} : aop P e ⟨d, .store t a x, ty, pos, af, g⟩ H = (storeB P H t (e a) (e x)).map fun H => .val undef H := rfl
def nilV (H : Heap) : Value → Option Res
  | .pointer (some a) => some (.val (.pointer (some a)) H)
  | .func (.func f) a b => some (.val (.func (.func f) a b) H)
  | _ => none
theorem aop_nilCheck {x : Operand} : aop P e ⟨d, .nilCheck x, ty, pos, af, g⟩ H = nilV H (e x) := by
  simp only [aop, markB, allocB, aopF]
  unfold nilV
  split <;> simp_all
theorem nilV_ptr {a : Addr} : nilV H (.pointer (some a)) = some (.val (.pointer (some a)) H) := rfl
theorem nilV_func {f : FuncId} {a b : Array Value} : nilV H (.func (.func f) a b) = some (.val (.func (.func f) a b) H) := rfl
theorem aop_fieldAddr {s : TypeId} {x : Operand} {f : Nat} : aop P e ⟨d, .fieldAddr s x f, ty, pos, af, g⟩ H = (fieldB P s (e x) f).map fun v => .val v H := rfl
theorem aop_indexAddr {t : TypeId} {x i : Operand} : aop P e ⟨d, .indexAddr t x i, ty, pos, af, g⟩ H = (indexAddrB P t (e x) (e i)).map fun v => .val v H := rfl
theorem aop_field {t : TypeId} {x : Operand} {f : Nat} : aop P e ⟨d, .field t x f, ty, pos, af, g⟩ H = (fieldOf P t (e x) f).map fun v => .val v H := rfl
theorem aop_index {t : TypeId} {x i : Operand} : aop P e ⟨d, .index t x i, ty, pos, af, g⟩ H = (indexB P t (e x) (e i)).map fun v => .val v H := rfl
def extV (H : Heap) (i : Nat) : Value → Option Res
  | .tuple vs => (vs[i]?).map fun v => .val v H
  | _ => none
theorem aop_extract {x : Operand} {i : Nat} : aop P e ⟨d, .extract x i, ty, pos, af, g⟩ H = extV H i (e x) := by
  simp only [aop, markB, allocB, aopF]
  unfold extV
  cases e x <;> rfl
theorem extV_tuple {i : Nat} {vs : Array Value} : extV H i (.tuple vs) = (vs[i]?).map fun v => .val v H := rfl
theorem aop_build {t : TypeId} {ps : Array (Nat × Operand)} : aop P e ⟨d, .build t ps, ty, pos, af, g⟩ H = (buildB P t (ps.map fun (i, x) => (i, e x)).toList).map fun v => .val v H := rfl
def pushR (H : Heap) : Option (Value × AObj) → Option Res
  | some (v, o) => some (.val v (H.push o))
  | none => none
theorem pushR_some {v : Value} {o : AObj} : pushR H (some (v, o)) = some (.val v (H.push o)) := rfl
theorem aop_alloc {t : TypeId} {z : Value} (hz : zeroOf P t = some z) (hs : isScalA z = true) : aop P e ⟨d, .alloc t, ty, pos, af, g⟩ H = some (.val (.pointer (some ⟨H.next, 0, none⟩)) (H.push (.cells z.cells.toList t false))) := by
  simp only [aop, markB, allocB, hz, hs, if_true]
theorem aop_box {t : TypeId} {x : Operand} {n : Nat} (hz : szOf P t = some n) : aop P e ⟨d, .box t x, ty, pos, af, g⟩ H = some (.val (.pointer (some ⟨H.next, 0, none⟩)) (H.push (.cells (e x).cells.toList t false))) := by
  simp only [aop, markB, allocB, hz, Option.isSome_some, if_true]
theorem aop_makeMap {t : TypeId} : aop P e ⟨d, .makeMap t none, ty, pos, af, g⟩ H = some (.val (.map (some H.next)) (H.push (.map [] 0))) := rfl
theorem aop_buildSlice {t : TypeId} {len : Nat} {ps : Array (Nat × Operand)} {p : Value × AObj} (h : buildSliceB P H.next t len (ps.map fun (i, x) => (i, e x)).toList = some p) : aop P e ⟨d, .buildSlice t len ps, ty, pos, af, g⟩ H = some (.val p.1 (H.push p.2)) := by
  simp only [aop, markB, allocB, h]
theorem aop_makeFunc {fn : Fn} {a b : Array Operand} : aop P e ⟨d, .makeFunc fn a b, ty, pos, af, g⟩ H = some (.val (.func fn (a.map e) (b.map e)) H) := rfl
theorem aop_makeInterface {t : TypeId} {x : Operand} (h : ifaceT P t = false) : aop P e ⟨d, .makeInterface t x, ty, pos, af, g⟩ H = some (.val (.iface t (e x)) H) := by
  simp only [aop, markB, allocB, aopF, h, Bool.false_eq_true, if_false]
theorem aop_lookup {t : TypeId} {m k : Operand} {ok : Bool} : aop P e ⟨d, .lookup t m k ok, ty, pos, af, g⟩ H = (lookupB P H t (e m) (e k) ok).map fun v => .val v H := rfl
theorem aop_mapUpdate {t : TypeId} {m k x : Operand} : aop P e ⟨d, .mapUpdate t m k x, ty, pos, af, g⟩ H = (updateB P H t (e m) (e k) (e x)).map fun H => .val undef H := rfl
theorem aop_insert {t : TypeId} {m k x : Operand} : aop P e ⟨d, .insert t m k x, ty, pos, af, g⟩ H = (updateB P H t (e m) (e k) (e x)).map fun H => .val undef H := rfl

def callV (cargs : Array Value) : Value → Option Res
  | .func (.func g) first captured => some (.enter g (first ++ cargs ++ captured))
  | _ => none
theorem aop_call {f : Operand} {xs : Array Operand} {ats : Array TypeId} : aop P e ⟨d, .call ⟨.value f, xs, ats⟩, ty, pos, af, g⟩ H = callV (xs.map e) (e f) := by
  simp only [aop, markB, allocB, aopF]
  unfold callV
  split <;> simp_all
theorem callV_func {cargs : Array Value} {g : FuncId} : callV cargs (.func (.func g) #[] #[]) = some (.enter g cargs) := by simp [callV]
theorem callV_clo {cargs : Array Value} {g : FuncId} {a b : Array Value} : callV cargs (.func (.func g) a b) = some (.enter g (a ++ cargs ++ b)) := rfl
theorem aop_append {xs : Array Operand} {ats : Array TypeId} : aop P e ⟨d, .call ⟨.builtin .append, xs, ats⟩, ty, pos, af, g⟩ H = (builtinB P H .append ats (xs.map e).toList).map fun p => .val p.1 p.2 := rfl
theorem aop_copy {xs : Array Operand} {ats : Array TypeId} : aop P e ⟨d, .call ⟨.builtin .copy, xs, ats⟩, ty, pos, af, g⟩ H = (builtinB P H .copy ats (xs.map e).toList).map fun p => .val p.1 p.2 := rfl
theorem aop_len {xs : Array Operand} {ats : Array TypeId} : aop P e ⟨d, .call ⟨.builtin .len, xs, ats⟩, ty, pos, af, g⟩ H = (builtinB P H .len ats (xs.map e).toList).map fun p => .val p.1 p.2 := rfl
theorem aop_delete {xs : Array Operand} {ats : Array TypeId} : aop P e ⟨d, .call ⟨.builtin .delete, xs, ats⟩, ty, pos, af, g⟩ H = (builtinB P H .delete ats (xs.map e).toList).map fun p => .val p.1 p.2 := rfl

def binV (P : Program) (H : Heap) (op : BinOp) (t : TypeId) (x y : Operand) (a b : Value) : Option Res :=
  match op, nilEq P t a b with
  | .eql, some r => some (.val (.bool r) H)
  | .neq, some r => some (.val (.bool !r) H)
  | _, _ => if isScalA a && isScalA b then pureB P (do pure (Next.value (← (do eqGuard op t x y a b; binOp op t a b)))) H else none
theorem aop_binOp {op : BinOp} {t yt : TypeId} {x y : Operand} : aop P e ⟨d, .binOp op t x y yt, ty, pos, af, g⟩ H = binV P H op t x y (e x) (e y) := rfl

theorem nilEq_int {t : TypeId} {k : IntKind} {n : Int} {b : Value} : nilEq P t (.int k n) b = none := by unfold nilEq; split <;> rfl
theorem nilEq_str {t : TypeId} {s : ByteArray} {b : Value} : nilEq P t (.string s) b = none := by unfold nilEq; split <;> rfl
theorem nilEq_bool {t : TypeId} {s : Bool} {b : Value} : nilEq P t (.bool s) b = none := by unfold nilEq; split <;> rfl

theorem binV_arith {op : BinOp} {t : TypeId} {x y : Operand} {k : IntKind} {a b : Int} {r : Value} (hop : op ≠ .eql ∧ op ≠ .neq) (h : runP P (binOp op t (.int k a) (.int k b)) = some r) (hr : isScalA r = true) : binV P H op t x y (.int k a) (.int k b) = some (.val r H) := by
  have hg : runP P (do pure (Next.value (← (do eqGuard op t x y (.int k a) (.int k b); binOp op t (.int k a) (.int k b))))) = some (.value r) := by
    rw [runP_bind, runP_bind]
    have : runP P (eqGuard op t x y (.int k a) (.int k b)) = some () := by
      unfold eqGuard
      cases op <;> first | rfl | exact absurd rfl hop.1 | exact absurd rfl hop.2
    rw [this]
    simp only [Option.bind_some, h]
    rfl
  unfold binV
  have hs : (isScalA (.int k a) && isScalA (.int k b)) = true := rfl
  split
  · exact absurd rfl hop.1
  · exact absurd rfl hop.2
  · rw [hs, if_pos rfl]
    unfold pureB
    rw [hg]
    simp only [hr, if_true]

theorem binV_add {t : TypeId} {x y : Operand} {k : IntKind} {a b : Int} : binV P H .add t x y (.int k a) (.int k b) = some (.val (.int k (k.wrap (a + b))) H) := binV_arith (by simp) (by simp only [binOp, ne_eq, not_true_eq_false, if_false, Op.intArith]; rfl) rfl
theorem binV_sub {t : TypeId} {x y : Operand} {k : IntKind} {a b : Int} : binV P H .sub t x y (.int k a) (.int k b) = some (.val (.int k (k.wrap (a - b))) H) := binV_arith (by simp) (by simp only [binOp, ne_eq, not_true_eq_false, if_false, Op.intArith]; rfl) rfl
theorem binV_mul {t : TypeId} {x y : Operand} {k : IntKind} {a b : Int} : binV P H .mul t x y (.int k a) (.int k b) = some (.val (.int k (k.wrap (a * b))) H) := binV_arith (by simp) (by simp only [binOp, ne_eq, not_true_eq_false, if_false, Op.intArith]; rfl) rfl
theorem binV_quo {t : TypeId} {x y : Operand} {k : IntKind} {a b : Int} (hb : b ≠ 0) : binV P H .quo t x y (.int k a) (.int k b) = some (.val (.int k (k.wrap (a.tdiv b))) H) := binV_arith (by simp) (by simp only [binOp, ne_eq, not_true_eq_false, if_false, Op.intDiv, hb]; rfl) rfl
theorem binV_rem {t : TypeId} {x y : Operand} {k : IntKind} {a b : Int} (hb : b ≠ 0) : binV P H .rem t x y (.int k a) (.int k b) = some (.val (.int k (a.tmod b)) H) := binV_arith (by simp) (by simp only [binOp, ne_eq, not_true_eq_false, if_false, Op.intDiv, hb]; rfl) rfl
theorem binV_lss {t : TypeId} {x y : Operand} {k : IntKind} {a b : Int} : binV P H .lss t x y (.int k a) (.int k b) = some (.val (.bool (decide (a < b))) H) := binV_arith (by simp) (by simp only [binOp, ne_eq, not_true_eq_false, if_false, Op.intCmp]; rfl) rfl
theorem binV_leq {t : TypeId} {x y : Operand} {k : IntKind} {a b : Int} : binV P H .leq t x y (.int k a) (.int k b) = some (.val (.bool (decide (a ≤ b))) H) := binV_arith (by simp) (by simp only [binOp, ne_eq, not_true_eq_false, if_false, Op.intCmp]; rfl) rfl
theorem binV_gtr {t : TypeId} {x y : Operand} {k : IntKind} {a b : Int} : binV P H .gtr t x y (.int k a) (.int k b) = some (.val (.bool (decide (b < a))) H) := binV_arith (by simp) (by simp only [binOp, ne_eq, not_true_eq_false, if_false, Op.intCmp]; rfl) rfl
theorem binV_geq {t : TypeId} {x y : Operand} {k : IntKind} {a b : Int} : binV P H .geq t x y (.int k a) (.int k b) = some (.val (.bool (decide (b ≤ a))) H) := binV_arith (by simp) (by simp only [binOp, ne_eq, not_true_eq_false, if_false, Op.intCmp]; rfl) rfl

theorem binV_eq {op : BinOp} {t : TypeId} {x y : Operand} {a b : Value} {r : Value} (hn : nilEq P t a b = none) (hs : (isScalA a && isScalA b) = true) (hg : runP P (eqGuard op t x y a b) = some ()) (h : runP P (binOp op t a b) = some r) (hr : isScalA r = true) : binV P H op t x y a b = some (.val r H) := by
  have hg2 : runP P (do pure (Next.value (← (do eqGuard op t x y a b; binOp op t a b)))) = some (.value r) := by
    rw [runP_bind, runP_bind, hg]
    simp only [Option.bind_some, h]
    rfl
  unfold binV
  rw [hn]
  have fin : (if (isScalA a && isScalA b) = true then pureB P (do pure (Next.value (← (do eqGuard op t x y a b; binOp op t a b)))) H else none) = some (.val r H) := by
    rw [hs, if_pos rfl]
    unfold pureB
    rw [hg2]
    simp only [hr, if_true]
  cases op <;> exact fin

theorem binV_eql {t : TypeId} {x y : Operand} {k : IntKind} {a b : Int} : binV P H .eql t x y (.int k a) (.int k b) = some (.val (.bool (a == b)) H) := binV_eq nilEq_int rfl rfl (by simp only [binOp, ne_eq, not_true_eq_false, if_false, Op.intCmp]; rfl) rfl
theorem binV_neq {t : TypeId} {x y : Operand} {k : IntKind} {a b : Int} : binV P H .neq t x y (.int k a) (.int k b) = some (.val (.bool (a != b)) H) := binV_eq nilEq_int rfl rfl (by simp only [binOp, ne_eq, not_true_eq_false, if_false, Op.intCmp]; rfl) rfl

theorem binV_seql {t : TypeId} {x y : Operand} {a b : ByteArray} : binV P H .eql t x y (.string a) (.string b) = some (.val (.bool (a.toList == b.toList)) H) := binV_eq nilEq_str rfl rfl rfl rfl
theorem binV_sneq {t : TypeId} {x y : Operand} {a b : ByteArray} : binV P H .neq t x y (.string a) (.string b) = some (.val (.bool !(a.toList == b.toList)) H) := binV_eq nilEq_str rfl rfl rfl rfl
theorem binV_sadd {t : TypeId} {x y : Operand} {a b : ByteArray} (h : a.size + b.size ≤ 9223372036854775807) : binV P H .add t x y (.string a) (.string b) = some (.val (.string (a ++ b)) H) := binV_eq nilEq_str rfl rfl (by
  simp only [binOp, Op.stringOp]
  rw [if_neg (by have : IntKind.i64.max = 9223372036854775807 := by decide
                 rw [this]; omega)]
  rfl) rfl

def unV (P : Program) (H : Heap) (op : UnOp) (a : Value) : Option Res := if isScalA a then pureB P (do pure (Next.value (← Op.unary op a))) H else none
theorem aop_unOp {op : UnOp} {t : TypeId} {x : Operand} : aop P e ⟨d, .unOp op t x, ty, pos, af, g⟩ H = unV P H op (e x) := rfl
theorem unV_not {b : Bool} : unV P H .not (.bool b) = some (.val (.bool !b) H) := rfl
theorem unV_neg {k : IntKind} {n : Int} : unV P H .neg (.int k n) = some (.val (.int k (k.wrap (0 - n))) H) := rfl

end

theorem some_beq_true {b : Bool} : (some b == some true) = b := by cases b <;> rfl
theorem some_beq_false {b : Bool} : (some b == some false) = !b := by cases b <;> rfl
theorem yieldB_at {ops : Array Oper} {n : Nat} {t : Tr Value} {j d : Nat} {o : Oper} {b : Bool} (ho : ops[j]? = some o) (hd : o.dst = some d) (hn : d < n) (hv : (t.get d).getD undef = .bool b) : yieldB ops n t j = some b := by
  unfold yieldB
  simp only [ho, Option.bind_some, hd, hn, if_true, hv]

theorem Tr.get_setArgs_nil {l : List Value} {j : Nat} : (setArgs Tr.nil 0 l).get j = l[j]? := by
  rw [setArgs_get]
  simp only [Nat.zero_le, true_and, Nat.zero_add, Nat.sub_zero, Tr.get]
  split
  · rfl
  · rw [List.getElem?_eq_none (by omega)]

end Go.B

namespace Go.B
open Go Go.RowKit

section
variable {P : Program} [Dem P] {ρ : Ren} {H : Heap} {w w' : World}

theorem Mv.below (h : WRel P ρ H w) (hb : Below w.heap.size w w') : Mv P ρ H w ρ H w' := by
  have old : ∀ i L, ρ i = some L → w'.heap[L.blk]? = w.heap[L.blk]? := fun i L hL => hb.block _ (h.ren i L hL).2
  exact {
    ext := Ext.refl ρ
    rel := {
      ren := fun i L hi => ⟨(h.ren i L hi).1, Nat.lt_of_lt_of_le (h.ren i L hi).2 hb.size⟩
      cells := fun i c e ro hi => by
        obtain ⟨L, hL, hc⟩ := h.cells i c e ro hi
        exact ⟨L, hL, hc.mono (Ext.refl ρ) (old i L hL)⟩
      maps := fun i es clk hi => by
        obtain ⟨L, hL, hc⟩ := h.maps i es clk hi
        exact ⟨L, hL, hc.mono (Ext.refl ρ) (old i L hL)⟩
      inj := h.inj
      inv := Dem.stab w w' h.size ⟨hb.os, hb.tape, hb.output, hb.size, fun b hlt => hb.block b (Nat.lt_of_lt_of_le hlt h.size)⟩ h.inv
      size := Nat.le_trans h.size hb.size
      base := h.base }
    next := Nat.le_refl _
    keep := fun _ a => a
    new := fun i L a b => by rw [a] at b; cases b
    os := hb.os, tape := hb.tape, output := hb.output, size := hb.size
    frame := fun b hlt _ => hb.block b hlt
    own := fun i L a b _ => ⟨i, L, a, fun z => z, b, rfl⟩ }

def ScalExt (P : Program) [Dem P] (f : FuncId) (g : Array Value → Option Value) : Prop :=
  ∀ args v, g args = some v → args.toList.all isScalA = true ∧ ∀ w, Dem.I P w → Calls P f args w fun e w' => (∃ v', e = .returned v' ∧ ∀ ρ : Ren, VRel ρ v v') ∧ Below w.heap.size w w'

def onlyVal (g : Array Value → Option Value) (args : Array Value) (H : Heap) : Option (Value × Heap) := (g args).map fun v => (v, H)

theorem args_scal {args args' : Array Value} (hs : args.toList.all isScalA = true) (h : LRel ρ args.toList args'.toList) : args' = args := by
  apply Array.ext'
  apply List.ext_getElem h.1.symm
  intro i h1 h2
  exact VRel.of_scalA (List.all_eq_true.mp hs _ (List.getElem_mem h2)) (h.2 i h2 h1)

theorem ScalExt.ok {f : FuncId} {g : Array Value → Option Value} (h : ScalExt P f g) {fn : Func} {c : Code} (hf : P.funcs[f]? = some fn) (hb : fn.body = some c) (hn : (fn.name == "runtime.NumGoroutine") = false) : CalOk P fun f' args H => if f' = f then onlyVal g args H else none := by
  intro f' args H v H' hr
  simp only at hr
  split at hr
  · rename_i e
    subst e
    unfold onlyVal at hr
    obtain ⟨v0, h1, h2⟩ := Option.map_eq_some_iff.mp hr
    cases h2
    obtain ⟨hs, hc⟩ := h args v h1
    refine ⟨⟨fn, c, hf, hb, hn⟩, fun ρ w args' hw ha => ?_⟩
    rw [args_scal hs ha]
    refine (hc w hw.inv).mono ?_
    rintro e w' ⟨⟨v', rfl, hv⟩, hbl⟩
    exact ⟨ρ, v', rfl, Mv.below hw hbl, hv ρ⟩
  · cases hr

theorem ExtOk.none : ExtOk P fun _ => none := fun f g h => by cases h
theorem ExtOk.add {X : Exts} (hX : ExtOk P X) {f : FuncId} {g : Array Value → Heap → Option (Value × Heap)} (h : CalOk P fun f' args H => if f' = f then g args H else Option.none) : ExtOk P fun f' => if f' = f then some g else X f' := by
  intro f' g' hg
  simp only at hg
  split at hg
  · rename_i e; subst e; cases hg; exact h
  · exact hX f' g' hg

end

theorem TabOk.nil {P : Program} : TabOk P (Tr.nil : Tr Func).get := fun f fn h => by cases h
theorem TabOk.set {P : Program} {t : Tr Func} (h : TabOk P t.get) {f : FuncId} {fn : Func} (hf : P.funcs[f]? = some fn) (hk : ((fn.name == "runtime.NumGoroutine") == false && (match fn.body with | some c => codeOk c | none => true)) = true) : TabOk P (t.set f fn).get := by
  intro f' fn' h'
  rw [Tr.get_set] at h'
  split at h'
  · rename_i e
    subst e
    cases h'
    simp only [Bool.and_eq_true, beq_iff_eq] at hk
    refine ⟨hf, by simpa using hk.1, fun c hc => ?_⟩
    have := hk.2
    rw [hc] at this
    exact this
  · exact h f' fn' h'

theorem Mv.began {P : Program} [Dem P] {ρ ρ' : Ren} {H H' : Heap} {w w' : World} (h : Mv P ρ H w ρ' H' w') (hn : ∀ i, ¬ Mut H i) : Below w.heap.size w w' :=
  ⟨h.os, h.tape, h.output, h.size, fun b hb => h.frame b hb (fun ⟨i, _, hm, _⟩ => hn i hm)⟩

def H0 : Heap := { next := 0, tr := .nil }
theorem WRel.empty {P : Program} [Dem P] {w : World} (hI : Dem.I P w) (hG : Dem.G P ≤ w.heap.size) : WRel P (fun _ => none) H0 w where
  ren i L h := by cases h
  cells i c e ro h := by cases h
  maps i es clk h := by cases h
  inj i j L M hi hj hL := by cases hL
  inv := hI
  size := hG
  base i L hi hL := by cases hL

def said (r : Option (Value × Heap)) (b : Bool) : Bool := match r with | some (.bool r, _) => r == b | _ => false
theorem run_calls {P : Program} [Dem P] {T : FuncId → Option Func} (hT : TabOk P T) {X : Exts} (hX : ExtOk P X) {f : FuncId} {args : Array Value} (hs : args.toList.all isScalA = true) {k : Nat} {b : Bool} (h : said (callB drawRun P T X k f args H0) b = true) {w : World} (hI : Dem.I P w) (hG : Dem.G P ≤ w.heap.size) :
    Calls P f args w fun e w' => e = .returned (.bool b) ∧ Below w.heap.size w w' := by
  unfold said at h
  split at h
  · rename_i r H' hr
    have hrb : r = b := by simpa using h
    subst hrb
    have hrel : LRel (fun _ => none) args.toList args.toList := ⟨rfl, fun i h1 _ => VRel.scalA (List.all_eq_true.mp hs _ (List.getElem_mem h1))⟩
    refine ((callB_sound drawRun_ok hT hX k f args H0 _ H' hr).2 _ w args (WRel.empty hI hG) hrel).mono ?_
    rintro e w' ⟨ρ', v', rfl, hm, hv⟩
    cases hv
    exact ⟨rfl, hm.began (fun i hi => by rcases hi with ⟨c, e, h⟩ | ⟨es, clk, h⟩ <;> cases h)⟩
  · cases h

end Go.B
