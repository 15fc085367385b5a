/- An evaluator of the code over abstract states, proved right: definitions, footprints, what keeps the relation, operations. -/
import Derived.Below
import Derived.Orders
import Derived.Laws.IdiomCopy
import Derived.KernelRfl
import Derived.Lib.LaidTab
import Derived.Lib.ItoaNum
import Derived.Test.YtmdolfannbbipaaDoorProg
namespace Go.Ev
open Go Go.Proofs

/-- The blocks of the package variables. -/
def glob (b : Nat) : Prop := b < 4
/-- What they hold. -/
def GL (w : World) : Prop := Lib.TabIs Tryd.prog w "internal/strconv.uint64pow10" .u64 Lib.pow10Tab ∧ (∃ tp p, w.var? Tryd.prog "strconv.ErrSyntax" = some #[.iface tp p]) ∧ ∃ tp p, w.var? Tryd.prog "strconv.ErrRange" = some #[.iface tp p]
theorem var_keep {w w' : World} {n : String} {g : Nat} (hg : Tryd.prog.globalNamed n = some g) (hb : w'.heap[g]? = w.heap[g]?) : w'.var? Tryd.prog n = w.var? Tryd.prog n := by
  unfold World.var?
  rw [hg]
  simp only [Option.bind_some, hb]
theorem GL.keep {w w' : World} (h : GL w) (hb : ∀ b, glob b → w'.heap[b]? = w.heap[b]?) : GL w' := by
  obtain ⟨h1, ⟨t2, p2, h2⟩, t3, p3, h3⟩ := h
  refine ⟨?_, ⟨t2, p2, ?_⟩, t3, p3, ?_⟩
  · unfold Lib.TabIs at h1 ⊢
    rw [var_keep (g := 1) (by kernel_rfl) (hb 1 (show 1 < 4 by omega))]; exact h1
  · rw [var_keep (g := 2) (by kernel_rfl) (hb 2 (show 2 < 4 by omega))]; exact h2
  · rw [var_keep (g := 3) (by kernel_rfl) (hb 3 (show 3 < 4 by omega))]; exact h3
end Go.Ev
namespace Go.Ev
open Go Go.RowKit
set_option linter.unusedVariables false

abbrev Name := Nat × Nat

/-- One cell. 'v': a value that is what it is; 'lst': a slice over memory that nobody writes; 'ref': a slice over an array of the call's own; 'err': some value of an interface type, not nil. -/
inductive C where
  | v (x : Value)
  | nil (s : Nat)
  | lst (s n : Nat) (g : Nat → List C)
  | ref (m : Name) (n : Nat)
  | pvar (m : Name) (o : Nat)
  | pelem (m : Name) (i o : Nat)
  | pimm (cs : List C) (o : Nat)
  | err (b : Bool)
  | undef

instance : Inhabited C := ⟨.undef⟩

/-- What has to do with a list of own rows: what it holds (rows, and one that is being made), its header, a place in it, a row's header, the header of the one that is being made. -/
inductive FQ where
  | none
  | ld (k t : Nat)
  | pd (k : Nat) (l : List Value) (t : Nat)
inductive Sp where
  | fam (n : Nat) (R : Nat → List Value) (q : FQ)
  | hd
  | at_ (k : Nat)
  | row
  | pend

/-- What a slot holds. -/
inductive S where
  | c (x : C)
  | agg (cs : List C)
  | tup (ss : List S)
  | sp (x : Sp)

instance : Inhabited S := ⟨.c .undef⟩

structure Arr where
  frozen : Bool
  s : Nat
  n : Nat
  g : Nat → List C

structure St where
  nt : Nat
  slots : List (Nat × S)
  vars : List (Name × List C)
  arrs : List (Name × Option Arr)

/-- What goes into a call and comes out of it. -/
inductive X where
  | c (x : C)
  | own (s n : Nat) (g : Nat → List C)
  | agg (xs : List X)
  | tup (xs : List X)
  | cell (xs : List X)

instance : Inhabited X := ⟨.c .undef⟩

def nameEq (a b : Name) : Bool := Nat.beq a.1 b.1 && Nat.beq a.2 b.2
theorem nameEq_iff {a b : Name} : nameEq a b = true ↔ a = b := by
  obtain ⟨a1, a2⟩ := a
  obtain ⟨b1, b2⟩ := b
  simp [nameEq]

def lookN {α : Type} (i : Nat) : List (Nat × α) → Option α
  | [] => none
  | (j, x) :: r => bif Nat.beq i j then some x else lookN i r
def lookM {α : Type} (m : Name) : List (Name × α) → Option α
  | [] => none
  | (j, x) :: r => bif nameEq m j then some x else lookM m r

def St.slot (st : St) (i : Nat) : S := (lookN i st.slots).getD (.c .undef)
def St.var (st : St) (m : Name) : Option (List C) := lookM m st.vars
def St.arr (st : St) (m : Name) : Option (Option Arr) := lookM m st.arrs

inductive Key where
  | s (i : Nat)
  | v (m : Name)
  | a (m : Name)
  deriving DecidableEq

inductive KV where
  | s (x : S)
  | v (x : Option (List C))
  | a (x : Option (Option Arr))

def St.get (st : St) : Key → KV
  | .s i => .s (st.slot i)
  | .v m => .v (st.var m)
  | .a m => .a (st.arr m)

/-- Two states that answer alike. -/
def Sim (a b : St) : Prop := a.nt = b.nt ∧ ∀ k, a.get k = b.get k

def All : List Prop → Prop
  | [] => True
  | p :: l => p ∧ All l

structure Out (α : Type) where
  val : α
  st : St
  needs : List Prop
  rd : List Key
  wr : List Key

def Out.side {α : Type} (o : Out α) : Prop := All o.needs

def M (α : Type) := St → Option (Out α)

def M.pure {α : Type} (x : α) : M α := fun st => some ⟨x, st, [], [], []⟩
def M.bind {α β : Type} (m : M α) (f : α → M β) : M β := fun st =>
  match m st with
  | none => none
  | some o =>
    match f o.val o.st with
    | none => none
    | some p => some ⟨p.val, p.st, o.needs ++ p.needs, o.rd ++ p.rd, o.wr ++ p.wr⟩
instance : Monad M where
  pure := M.pure
  bind := M.bind

def fail {α : Type} : M α := fun _ => none
def ofO {α : Type} (x : Option α) : M α := fun st =>
  match x with
  | none => none
  | some y => some ⟨y, st, [], [], []⟩
def need (p : Prop) : M Unit := fun st => some ⟨(), st, [p], [], []⟩
def rdS (i : Nat) : M S := fun st => some ⟨st.slot i, st, [], [.s i], []⟩
def rdV (m : Name) : M (Option (List C)) := fun st => some ⟨st.var m, st, [], [.v m], []⟩
def rdA (m : Name) : M (Option (Option Arr)) := fun st => some ⟨st.arr m, st, [], [.a m], []⟩
def wrS (i : Nat) (x : S) : M Unit := fun st => bif Nat.blt i st.nt then some ⟨(), { st with slots := (i, x) :: st.slots }, [], [], [.s i]⟩ else none
def wrV (m : Name) (x : List C) : M Unit := fun st => some ⟨(), { st with vars := (m, x) :: st.vars }, [], [], [.v m]⟩
def wrA (m : Name) (x : Option Arr) : M Unit := fun st => some ⟨(), { st with arrs := (m, x) :: st.arrs }, [], [], [.a m]⟩

/-! ### the table of types -/
inductive TK where
  | bool
  | int (k : IntKind)
  | string
  | slice (e : TypeId)
  | struct (fs : List (Nat × TypeId))
  | array (n : Nat) (e : TypeId)
  | pointer (e : TypeId)
  | other
  deriving DecidableEq

structure TI where
  size : Nat
  bytes : Nat
  kind : TK
  zero : List C

abbrev Tab := List (Nat × TI)

def ti (T : Tab) (t : TypeId) : M TI := ofO (lookN t T)

def flat (v : Value) : Bool := v.oneCell'

/-- A value as it stands, as a slot. -/
def cst : Value → S
  | .agg cs => .agg (cs.toList.map .v)
  | .tuple _ => .tup []
  | x => .c (.v x)
def cstOk : Value → Bool
  | .agg cs => cs.toList.all flat
  | .tuple vs => vs.size == 0
  | _ => true

def defS : S → Option S
  | .c .undef => none
  | .sp _ => none
  | x => some x
def asC : S → Option C
  | .c y => some y
  | _ => none
def opnd : Operand → M S
  | .tmp t => do ofO (defS (← rdS t))
  | .const v => bif cstOk v then pure (cst v) else fail
  | .global _ => fail
  | .func f => pure (.c (.v (.func (.func f) #[] #[])))

def opndC (x : Operand) : M C := do ofO (asC (← opnd x))

def defd : C → Bool
  | .undef => false
  | _ => true
def cellsS : S → Option (List C)
  | .c x => bif defd x then some [x] else none
  | .agg cs => bif cs.all defd then some cs else none
  | .tup _ => none
  | .sp _ => none

def opndL (x : Operand) : M (List C) := do ofO (cellsS (← opnd x))

/-- A nil slice is told as one. -/
def retag1 (s : Nat) : C → C
  | .v (.slice none 0 0) => .nil s
  | x => x
def retag (T : Tab) (t : TypeId) (x : S) : S :=
  match x, lookN t T with
  | .c y, some i => match i.kind with
    | .slice e => match lookN e T with
      | some j => .c (retag1 j.size y)
      | none => x
    | _ => x
  | _, _ => x

/-! ### numbers and strings -/
def byteAt (s : ByteArray) (i : Nat) : Int := ((s.data.toList.getD i 0).toNat : Int)

def intBin (op : BinOp) (k : IntKind) (a b : Int) : Option (Value × Prop) :=
  match op with
  | .add => some (.int k (k.wrap (a + b)), True)
  | .sub => some (.int k (k.wrap (a - b)), True)
  | .mul => some (.int k (k.wrap (a * b)), True)
  | .quo => some (.int k (k.wrap (a.tdiv b)), b ≠ 0)
  | .rem => some (.int k (a.tmod b), b ≠ 0)
  | .and => some (.int k (k.wrap (BitVec.ofInt k.bits a &&& BitVec.ofInt k.bits b).toNat), True)
  | .or => some (.int k (k.wrap (BitVec.ofInt k.bits a ||| BitVec.ofInt k.bits b).toNat), True)
  | .xor => some (.int k (k.wrap (BitVec.ofInt k.bits a ^^^ BitVec.ofInt k.bits b).toNat), True)
  | .andNot => some (.int k (k.wrap (BitVec.ofInt k.bits a &&& ~~~ BitVec.ofInt k.bits b).toNat), True)
  | .eql => some (.bool (a == b), True)
  | .neq => some (.bool (a != b), True)
  | .lss => some (.bool (decide (a < b)), True)
  | .leq => some (.bool (decide (a ≤ b)), True)
  | .gtr => some (.bool (decide (a > b)), True)
  | .geq => some (.bool (decide (a ≥ b)), True)
  | _ => none

def strBin (op : BinOp) (a b : ByteArray) : Option (Value × Prop) :=
  match op with
  | .add => some (.string (a ++ b), a.size + b.size ≤ 2 ^ 62)
  | .eql => some (.bool (a.toList == b.toList), True)
  | .neq => some (.bool (!(a.toList == b.toList)), True)
  | .lss => some (.bool (Op.bytesLess a.toList b.toList), True)
  | .leq => some (.bool (Op.bytesLess a.toList b.toList || a.toList == b.toList), True)
  | .gtr => some (.bool (!(Op.bytesLess a.toList b.toList || a.toList == b.toList)), True)
  | .geq => some (.bool (!Op.bytesLess a.toList b.toList), True)
  | _ => none

def kindEq (a b : IntKind) : Bool := decide (a = b)

def evBin (op : BinOp) (x y : Value) : Option (Value × Prop) :=
  match x, y with
  | .int k a, .int k' b =>
    match op with
    | .shl => some (.int k (k.wrap (a * 2 ^ (min b.toNat k.bits))), 0 ≤ b)
    | .shr => some (.int k (a.fdiv (2 ^ (min b.toNat k.bits))), 0 ≤ b)
    | _ => bif kindEq k k' then intBin op k a b else none
  | .string a, .string b => strBin op a b
  | _, _ => none

def isBoolK : TK → Bool
  | .bool => true
  | _ => false
/-- The same, with bools. -/
def evBinT (i : Option TI) (op : BinOp) (x y : Value) : Option (Value × Prop) :=
  match x, y with
  | .bool a, .bool b =>
    match i with
    | some j => bif isBoolK j.kind then (match op with | .eql => some (.bool (a == b), True) | .neq => some (.bool (!(a == b)), True) | _ => none) else none
    | none => none
  | _, _ => evBin op x y

/-- Cells of a struct, compared: whole numbers, bools and strings alone. -/
def eqV : Value → Value → Option Bool
  | .int _ a, .int _ b => some (a == b)
  | .bool a, .bool b => some (a == b)
  | .string a, .string b => some (a == b)
  | _, _ => none
def eqCells : List C → List C → Option Bool
  | [], [] => some true
  | [.v x], [.v y] => eqV x y
  | .v x :: xs, .v y :: ys =>
    match eqV x y, eqCells xs ys with
    | some a, some b => some (a && b)
    | _, _ => none
  | _, _ => none

def cval : C → Value
  | .v x => x
  | .nil _ => .slice none 0 0
  | _ => undef
/-- What the model says of '==' between two structs. -/
def EqFact (P : Program) (t : TypeId) (x y : Operand) (us vs : List Value) (e : Bool) : Prop :=
  ∀ w, (do eqGuard .eql t x y (.agg us.toArray) (.agg vs.toArray); Go.binOp .eql t (.agg us.toArray) (.agg vs.toArray) : Sem Value).run P w = .ok (.bool e) w

/-- A value of an interface's type, compared with nil. -/
def nilCmp : S → S → Option Bool
  | .c (.err b), .c (.v .nilIface) => some (!b)
  | .c (.v .nilIface), .c (.v .nilIface) => some true
  | _, _ => none
/-- What the model says of it. -/
def NilFact (P : Program) (t : TypeId) (x y : Operand) (e : Bool) : Prop :=
  ∀ u w, (if e = true then u = .nilIface else ∃ T v, u = .iface T v) →
    (do eqGuard .eql t x y u .nilIface; Go.binOp .eql t u .nilIface : Sem Value).run P w = .ok (.bool e) w ∧ (do eqGuard .neq t x y u .nilIface; Go.binOp .neq t u .nilIface : Sem Value).run P w = .ok (.bool (!e)) w

def evUn (op : UnOp) (x : Value) : Option Value :=
  match op, x with
  | .neg, .int k n => some (.int k (k.wrap (0 - n)))
  | .not, .bool b => some (.bool (!b))
  | _, _ => none

def evMin (x y : Value) : Option Value :=
  match x, y with
  | .int k a, .int _ b => some (.int k (if b < a then b else a))
  | _, _ => none
def evMax (x y : Value) : Option Value :=
  match x, y with
  | .int k a, .int _ b => some (.int k (if a < b then b else a))
  | _, _ => none

/-! ### what the prover says of an operation ahead -/
structure CallH where
  args : List X
  own : List Bool
  res : X
  pout : List (List X)
  frz : Bool

/-- An operation that has to do with a list of own rows. -/
inductive FamH where
  | mv
  | mk
  | ix
  | ld
  | ap (l : List Value)
  | st

inductive Hint where
  | b (x : Bool)
  | call (c : CallH)
  | frz
  | cell (c : C)
  | fam (f : FamH)

abbrev Hints := List (Nat × Hint)

def callO : Option Hint → Option CallH
  | some (.call c) => some c
  | _ => none
def cellO : Option Hint → Option C
  | some (.cell c) => some c
  | _ => none
def frzO : Option Hint → Bool
  | some .frz => true
  | _ => false
def hintBO : Option Hint → Option Bool
  | some (.b x) => some x
  | _ => none
def hintB (h : Hints) (i : Nat) : M Bool := ofO (hintBO (lookN i h))

/-! ### cells -/
/-- A cell that may lie in an array: it leads to nothing of the call's own. -/
def immB : C → Bool
  | .err _ => true
  | .v _ => true
  | .nil _ => true
  | .lst .. => true
  | _ => false

def setL (l : List C) (o : Nat) : List C → List C
  | [] => l
  | c :: r => setL (l.set o c) (o + 1) r

def fillC (place : Nat → Option (Nat × Nat)) (cells : List C) : List (Nat × List C) → Option (List C)
  | [] => some cells
  | (i, v) :: rest =>
    match place i with
    | none => none
    | some (off, size) => bif Nat.beq v.length size && Nat.ble (off + v.length) cells.length then fillC place (setL cells off v) rest else none

def noneO {α : Type} : Option α → Option Unit
  | none => some ()
  | some _ => none
def freshA (m : Name) : M Unit := do ofO (noneO (← rdA m))
def freshV (m : Name) : M Unit := do ofO (noneO (← rdV m))
def newV (m : Name) (cs : List C) : M C := do
  freshV m
  wrV m cs
  pure (.pvar m 0)
def newA (m : Name) (s n : Nat) (g : Nat → List C) : M C := do
  freshA m
  wrA m (some ⟨false, s, n, g⟩)
  pure (.ref m n)
def liveO : Option (Option Arr) → Option Arr
  | some (some A) => some A
  | _ => none
def liveA (m : Name) : M Arr := do ofO (liveO (← rdA m))
def freeA (m : Name) : M Arr := do
  let A ← liveA m
  bif A.frozen then fail else pure A
def varOf (m : Name) : M (List C) := do ofO (← rdV m)

/-- A cell that leads to nothing of the call's own: an array becomes one that is not written any more. -/
def toImm (x : C) : M C :=
  match x with
  | .ref m n => do
    let A ← liveA m
    wrA m (some { A with frozen := true })
    pure (.lst A.s n A.g)
  | .v y => pure (.v y)
  | .nil s => pure (.nil s)
  | .lst s n g => pure (.lst s n g)
  | .err b => pure (.err b)
  | _ => fail
def toImms : List C → M (List C)
  | [] => pure []
  | x :: r => do
    let y ← toImm x
    let l ← toImms r
    pure (y :: l)

def window (l : List C) (o n : Nat) : List C := (l.drop o).take n

def isAggK : TK → Bool
  | .struct _ => true
  | .array _ _ => true
  | _ => false

def loadFrom (i : TI) (l : List C) (o : Nat) : M S := do
  bif Nat.ble (o + i.size) l.length then
    bif isAggK i.kind then pure (.agg (window l o i.size))
    else do
      let x ← ofO l[o]?
      pure (.c x)
  else fail

def putG (g : Nat → List C) (i o : Nat) (l : List C) : Nat → List C := fun j => bif Nat.beq j i then setL (g i) o l else g j

def boolO : S → Option Bool
  | .c (.v (.bool b)) => some b
  | _ => none
def asBoolS (x : S) : M Bool := ofO (boolO x)

def intO : S → Option (IntKind × Int)
  | .c (.v (.int k n)) => some (k, n)
  | _ => none
def asIntS (x : S) : M (IntKind × Int) := ofO (intO x)

def asNat (x : Operand) : M Nat := do
  let p ← asIntS (← opnd x)
  need (0 ≤ p.2)
  pure p.2.toNat

def LIMIT : Nat := 2 ^ 47

/-! ### arguments and results of calls -/
def immO : X → Option C
  | .c (.v y) => some (.v y)
  | .c (.nil s) => some (.nil s)
  | .c (.lst s n g) => some (.lst s n g)
  | .c (.err b) => some (.err b)
  | _ => none
/-- How an argument is told to the callee: 'own': it is given away. -/
def expC (own : Bool) (x : C) : M X :=
  match x with
  | .ref m n => do
    let A ← liveA m
    bif own && !A.frozen then do
      need (n = A.n)
      wrA m none
      pure (.own A.s n A.g)
    else pure (.c (.lst A.s n A.g))
  | y => do
    let z ← ofO (immO (.c y))
    pure (.c z)
def expCs (own : Bool) : List C → M (List X)
  | [] => pure []
  | x :: r => do
    let y ← expC own x
    let l ← expCs own r
    pure (y :: l)
/-- A parameter: a pointer to a variable is told as what the variable holds. -/
def expS (own : Bool) (x : S) : M X :=
  match x with
  | .c (.pvar m o) => do
    bif Nat.beq o 0 then pure () else fail
    let cs ← varOf m
    let l ← expCs true cs
    pure (.cell l)
  | .c y => expC own y
  | .agg cs => do
    let l ← expCs own cs
    pure (.agg l)
  | .tup _ => fail
  | .sp _ => fail
def expSs : List Bool → List S → M (List X)
  | _, [] => pure []
  | [], x :: r => do
    let y ← expS false x
    let l ← expSs [] r
    pure (y :: l)
  | b :: bs, x :: r => do
    let y ← expS b x
    let l ← expSs bs r
    pure (y :: l)

/-- Results that come in: what is one's own gets names (base, 4 j). -/
def impC (base j : Nat) (x : X) : M (C × Nat) :=
  match x with
  | .own s n g => do
    let c ← newA (base, 4 * j) s n g
    pure (c, j + 1)
  | y => do
    let c ← ofO (immO y)
    pure (c, j)
def impCs (base : Nat) : Nat → List X → M (List C × Nat)
  | j, [] => pure ([], j)
  | j, x :: r => do
    let p ← impC base j x
    let q ← impCs base p.2 r
    pure (p.1 :: q.1, q.2)
def impS (base j : Nat) (x : X) : M (S × Nat) :=
  match x with
  | .agg xs => do
    let q ← impCs base j xs
    pure (.agg q.1, q.2)
  | .cell xs => do
    let q ← impCs base j xs
    let c ← newV (base, 4 * q.2) q.1
    pure (.c c, q.2 + 1)
  | .tup _ => fail
  | x => do
    let q ← impC base j x
    pure (.c q.1, q.2)
def impSs (base : Nat) : Nat → List X → M (List S × Nat)
  | j, [] => pure ([], j)
  | j, x :: r => do
    let p ← impS base j x
    let q ← impSs base p.2 r
    pure (p.1 :: q.1, q.2)
def impR (base j : Nat) (x : X) : M (S × Nat) :=
  match x with
  | .tup xs => do
    let q ← impSs base j xs
    pure (.tup q.1, q.2)
  | x => impS base j x

/-- The same but for how what is empty is told, and how an element is reached. -/
def EqC : C → C → Prop
  | .lst s n g, .lst s' n' g' => n = n' ∧ (n = 0 ∨ s = s') ∧ ∀ i, i < n → g i = g' i
  | .nil _, .lst _ n _ => n = 0
  | .nil _, .nil _ => True
  | .v (.slice none 0 0), .lst _ n _ => n = 0
  | .v (.slice none 0 0), .nil _ => True
  | .v .nilIface, .err b => b = false
  | a, b => a = b
def EqX : X → X → Prop
  | .c a, .c b => EqC a b
  | .c (.nil _), .own _ n _ => n = 0
  | .c (.v (.slice none 0 0)), .own _ n _ => n = 0
  | .own s n g, .own s' n' g' => n = n' ∧ s = s' ∧ ∀ i, i < n → g i = g' i
  | .agg [], .agg [] => True
  | .agg (a :: l), .agg (b :: l') => EqX a b ∧ EqX (.agg l) (.agg l')
  | .cell [], .cell [] => True
  | .cell (a :: l), .cell (b :: l') => EqX a b ∧ EqX (.cell l) (.cell l')
  | _, _ => False
def EqXs : List X → List X → Prop
  | [], [] => True
  | a :: l, b :: l' => EqX a b ∧ EqXs l l'
  | _, _ => False

/-- Nothing in it leads to memory that came in. -/
def scalarC : C → Prop
  | .err _ => True
  | .v _ => True
  | .nil _ => True
  | _ => False
def flatX : X → Prop
  | .c x => scalarC x
  | .own _ n g => ∀ i, i < n → ∀ c ∈ g i, scalarC c
  | .agg [] => True
  | .agg (a :: l) => flatX a ∧ flatX (.agg l)
  | .tup [] => True
  | .tup (a :: l) => flatX a ∧ flatX (.tup l)
  | .cell [] => True
  | .cell (a :: l) => flatX a ∧ flatX (.cell l)
def flatXs : List X → Prop
  | [] => True
  | a :: l => flatX a ∧ flatXs l
def flatXss : List (List X) → Prop
  | [] => True
  | a :: l => flatXs a ∧ flatXss l

def refsC : C → List Name
  | .ref m _ => [m]
  | _ => []
def refsS : S → List Name
  | .c x => refsC x
  | .agg cs => cs.flatMap refsC
  | .tup _ => []
  | .sp _ => []
def freezeAll : List Name → M Unit
  | [] => pure ()
  | m :: r => do
    let A ← liveA m
    wrA m (some { A with frozen := true })
    freezeAll r

def immRefs : List Bool → List S → List Name
  | _, [] => []
  | [], x :: r => refsS x ++ immRefs [] r
  | true :: bs, _ :: r => immRefs bs r
  | false :: bs, x :: r => refsS x ++ immRefs bs r
def liveAll : List Name → M Unit
  | [] => pure ()
  | m :: r => do
    let _ ← liveA m
    liveAll r
/-- While somebody else may write a variable nothing is told of what it holds. -/
def blankAll : List Name → M Unit
  | [] => pure ()
  | m :: r => do
    let _ ← varOf m
    wrV m []
    blankAll r
def ptrS : S → List Name
  | .c (.pvar m _) => [m]
  | _ => []
def nodupN : List Name → Bool
  | [] => true
  | m :: r => !(r.any (nameEq m)) && nodupN r

def putBack (base : Nat) : Nat → List S → List (List X) → M Nat
  | j, [], [] => pure j
  | j, .c (.pvar m _) :: r, p :: ps => do
    let q ← impCs base j p
    wrV m q.1
    putBack base q.2 r ps
  | j, .c (.pvar _ _) :: _, [] => fail
  | j, _ :: r, ps => putBack base j r ps
  | _, [], _ :: _ => fail

abbrev Facts := FuncId → List X → X → List (List X) → Prop

def evCall (K : Facts) (base : Nat) (f : FuncId) (h : CallH) (args : List S) : M S := do
  let xs ← expSs h.own args
  need (EqXs xs h.args)
  need (K f h.args h.res h.pout)
  bif nodupN (args.flatMap ptrS) then pure () else fail
  bif h.frz then freezeAll (immRefs h.own args) else do
    liveAll (immRefs h.own args)
    need (flatX h.res ∧ flatXss h.pout)
  blankAll (args.flatMap ptrS)
  let r ← impR base 0 h.res
  let _ ← putBack base r.2 args h.pout
  pure r.1

def opnds : List Operand → M (List S)
  | [] => pure []
  | x :: r => do
    let y ← opnd x
    let l ← opnds r
    pure (y :: l)

def partsL : List (Nat × Operand) → M (List (Nat × List C))
  | [] => pure []
  | (i, x) :: r => do
    let y ← opndL x
    let l ← partsL r
    pure ((i, y) :: l)

/-- A nil slice among a part's cells is told as the zero value's. -/
def retagL : List C → List C → List C
  | .nil s :: z, .v (.slice none 0 0) :: l => .nil s :: retagL z l
  | _ :: z, x :: l => x :: retagL z l
  | _, l => l

def structO : TK → Option (List (Nat × TypeId))
  | .struct fs => some fs
  | _ => none
def structK (k : TK) : M (List (Nat × TypeId)) := ofO (structO k)
def arrO : TK → Option (Nat × TypeId)
  | .array n e => some (n, e)
  | _ => none
def sliceO : TK → Option TypeId
  | .slice e => some e
  | _ => none
def sliceK (k : TK) : M TypeId := ofO (sliceO k)

def sizesOf (T : Tab) : List (Nat × TypeId) → M (List (Nat × Nat))
  | [] => pure []
  | (o, t) :: r => do
    let i ← ti T t
    let l ← sizesOf T r
    pure ((o, i.size) :: l)

def fixParts (places : List (Nat × Nat)) (zero : List C) : List (Nat × List C) → List (Nat × List C)
  | [] => []
  | (i, l) :: r => (i, match places[i]? with | some (o, n) => retagL (window zero o n) l | none => l) :: fixParts places zero r

def evBuildArr (T : Tab) (i : TI) (e : TypeId) (parts : List (Nat × Operand)) : M S := do
  let z ← ti T e
  let ps ← partsL parts
  let cs ← ofO (fillC (fun k => some (k * z.size, z.size)) i.zero ps)
  pure (.agg cs)

def evBuild (T : Tab) (t : TypeId) (parts : List (Nat × Operand)) : M S := do
  let i ← ti T t
  match arrO i.kind with
  | some q => evBuildArr T i q.2 parts
  | none => do
  let fs ← structK i.kind
  let places ← sizesOf T fs
  let ps ← partsL parts
  let cs ← ofO (fillC (places[·]?) i.zero (fixParts places i.zero ps))
  pure (.agg cs)

def repeatL (z : List C) : Nat → List C
  | 0 => []
  | n + 1 => z ++ repeatL z n

def immParts : List (Nat × List C) → M (List (Nat × List C))
  | [] => pure []
  | (i, l) :: r => do
    let l' ← toImms l
    let q ← immParts r
    pure ((i, l') :: q)

def evBuildSlice (T : Tab) (base : Nat) (t : TypeId) (len : Nat) (parts : List (Nat × Operand)) : M S := do
  let i ← ti T t
  let e ← sliceK i.kind
  let z ← ti T e
  bif Nat.ble (len * z.size) (2 ^ 24) && Nat.blt 0 z.size && Nat.beq z.zero.length z.size then pure () else fail
  let ps ← partsL parts
  let ps ← immParts (ps.map fun p => (p.1, retagL z.zero p.2))
  let cs ← ofO (fillC (fun i => some (i * z.size, z.size)) (repeatL z.zero len) ps)
  let c ← newA (base, 0) z.size len (fun i => window cs (i * z.size) z.size)
  pure (.c c)

def evLoad (T : Tab) (t : TypeId) (a : C) : M S := do
  let i ← ti T t
  match a with
  | .pvar m o => do loadFrom i (← varOf m) o
  | .pelem m k o => do
    let A ← liveA m
    need (k < A.n)
    bif Nat.ble (o + i.size) A.s && Nat.ble 1 i.size then pure () else fail
    bif isAggK i.kind then pure (.agg (window (A.g k) o i.size)) else pure (.c ((A.g k).getD o .undef))
  | .pimm cs o => loadFrom i cs o
  | _ => fail

def evStore (T : Tab) (t : TypeId) (a : C) (x : S) : M Unit := do
  let i ← ti T t
  let l ← ofO (cellsS x)
  bif Nat.beq l.length i.size then pure () else fail
  match a with
  | .pvar m o => do
    let cs ← varOf m
    bif Nat.ble (o + i.size) cs.length then wrV m (setL cs o (retagL i.zero l)) else fail
  | .pelem m k o => do
    let l ← toImms (retagL i.zero l)
    let A ← freeA m
    need (k < A.n)
    bif Nat.ble (o + i.size) A.s then pure () else fail
    wrA m (some { A with g := putG A.g k o l })
  | _ => fail

def evField (T : Tab) (t : TypeId) (f : Nat) : M (Nat × TI) := do
  let i ← ti T t
  let fs ← structK i.kind
  let p ← ofO fs[f]?
  let j ← ti T p.2
  pure (p.1, j)

def movedO (o : Nat) : C → Option C
  | .pvar m p => some (.pvar m (p + o))
  | .pelem m k p => some (.pelem m k (p + o))
  | .pimm cs p => some (.pimm cs (p + o))
  | _ => none
/-- An element's place counts as long as its array does. -/
def chk (x : C) : M Unit :=
  match x with
  | .pelem m _ _ => do
    let _ ← liveA m
    pure ()
  | _ => pure ()
def aggO : S → Option (List C)
  | .agg cs => some cs
  | _ => none
def tupO : S → Option (List S)
  | .tup ss => some ss
  | _ => none
def evIndexArr (T : Tab) (q : Nat × TypeId) (x : C) (k : Int) : M S := do
  let z ← ti T q.2
  need (0 ≤ k ∧ k < q.1)
  chk x
  let c ← ofO (movedO (k.toNat * z.size) x)
  pure (.c c)
def evIndexAddr (T : Tab) (t : TypeId) (x : C) (k : Int) : M S := do
  let i ← ti T t
  match arrO i.kind with
  | some q => evIndexArr T q x k
  | none => do
  let e ← sliceK i.kind
  let z ← ti T e
  match x with
  | .lst s n g => do
    need (0 ≤ k ∧ k < n)
    bif Nat.beq s z.size then pure (.c (.pimm (g k.toNat) 0)) else fail
  | .ref m n => do
    let A ← liveA m
    need (0 ≤ k ∧ k < n)
    bif Nat.beq A.s z.size then pure (.c (.pelem m k.toNat 0)) else fail
  | _ => fail

def evIndex (T : Tab) (t : TypeId) (x : S) (k : Int) : M S := do
  let i ← ti T t
  match i.kind, x with
  | .string, .c (.v (.string s)) => do
    need (0 ≤ k ∧ k < s.size)
    pure (.c (.v (.int .u8 (byteAt s k.toNat))))
  | .array n e, .agg cs => do
    let z ← ti T e
    need (0 ≤ k ∧ k < n)
    loadFrom z cs (k.toNat * z.size)
  | _, _ => fail

def evSlice (T : Tab) (hf : Bool) (t : TypeId) (x : C) (lo hi : Option Nat) : M S := do
  let i ← ti T t
  match i.kind, x with
  | .string, .v (.string s) => do
    let h := hi.getD s.size
    let l := lo.getD 0
    need (l ≤ h ∧ h ≤ s.size)
    pure (.c (.v (.string (s.extract l h))))
  | .slice e, .nil s => do
    let _ ← ti T e
    need (hi.getD 0 = 0 ∧ lo.getD 0 = 0)
    pure (.c (.nil s))
  | .slice e, .lst s n g => do
    let z ← ti T e
    bif Nat.beq z.size s then pure () else fail
    let h := hi.getD n
    let l := lo.getD 0
    need (l ≤ h ∧ h ≤ n)
    pure (.c (.lst s (h - l) (fun i => g (l + i))))
  | .slice e, .ref m n => do
    let z ← ti T e
    let A ← liveA m
    bif Nat.beq z.size A.s then pure () else fail
    let h := hi.getD n
    let l := lo.getD 0
    need (l ≤ h ∧ h ≤ n)
    bif hf then do
      wrA m (some { A with frozen := true })
      pure (.c (.lst A.s (h - l) (fun i => A.g (l + i))))
    else do
      need (l = 0)
      pure (.c (.ref m h))
  | _, _ => fail

def evConvert (T : Tab) (src dst : TypeId) (x : C) : M S := do
  let i ← ti T src
  let j ← ti T dst
  match i.kind, j.kind, x with
  | .int _, .int k, .v (.int _ n) => pure (.c (.v (.int k (k.wrap n))))
  | .string, .string, .v (.string s) => pure (.c (.v (.string s)))
  | _, _, _ => fail

def evMakeSlice (T : Tab) (base : Nat) (t : TypeId) (n : Nat) : M S := do
  let i ← ti T t
  let e ← sliceK i.kind
  let z ← ti T e
  need (n * z.bytes ≤ LIMIT ∧ n < 2 ^ 63)
  bif Nat.blt 0 z.size && Nat.beq z.zero.length z.size then pure () else fail
  let c ← newA (base, 0) z.size n (fun _ => z.zero)
  pure (.c c)

def nilO : C → Option Unit
  | .nil _ => some ()
  | .v (.slice none 0 0) => some ()
  | _ => none
/-- Slices as lists: how many elements, of how many cells, and which. -/
def asRow (s0 : Nat) (x : C) : M (Nat × (Nat → List C)) :=
  match x with
  | .lst s n g => do
    need (n = 0 ∨ s = s0)
    pure (n, g)
  | .ref m n => do
    let A ← liveA m
    need (n = 0 ∨ A.s = s0)
    pure (n, A.g)
  | y => do
    ofO (nilO y)
    pure (0, fun _ => [])

def appG (n : Nat) (g h : Nat → List C) : Nat → List C := fun i => bif Nat.blt i n then g i else h (i - n)

def evAppend (T : Tab) (base : Nat) (t : TypeId) (x y : C) : M S := do
  let i ← ti T t
  let e ← sliceK i.kind
  let z ← ti T e
  bif Nat.blt 0 z.size && Nat.beq z.zero.length z.size && Nat.blt 0 z.bytes then pure () else fail
  let q ← asRow z.size y
  match x with
  | .ref a n => do
    let A ← freeA a
    bif Nat.beq A.s z.size then pure () else fail
    need ((n + q.1) * z.bytes ≤ LIMIT)
    wrA a none
    let c ← newA (base, 0) z.size (n + q.1) (appG n A.g q.2)
    pure (.c c)
  | y => do
    ofO (nilO y)
    need (q.1 * z.bytes ≤ LIMIT)
    let c ← newA (base, 0) z.size q.1 q.2
    pure (.c c)

def evLen (T : Tab) (t : TypeId) (x : S) : M S := do
  let i ← ti T t
  match i.kind, x with
  | .string, .c (.v (.string s)) => pure (.c (.v (.int .i64 s.size)))
  | .array n _, _ => pure (.c (.v (.int .i64 n)))
  | .slice _, .c (.nil _) => pure (.c (.v (.int .i64 (0 : Nat))))
  | .slice _, .c (.lst _ n _) => pure (.c (.v (.int .i64 n)))
  | .slice _, .c (.ref m n) => do
    let _ ← rdA m
    pure (.c (.v (.int .i64 n)))
  | _, _ => fail

def evNilCheck (x : C) : M S := do
  chk x
  let y ← ofO (movedO 0 x)
  pure (.c x)

/-- All cells of an array of single cells. -/
def flatG (n : Nat) (g : Nat → List C) : List C := (List.range n).map fun i => (g i).getD 0 .undef
/-- A variable that holds an array: told as an array of the call's own. -/
def evAllocArr (T : Tab) (base : Nat) (t : TypeId) : M C := do
  let i ← ti T t
  let q ← ofO (arrO i.kind)
  need (i.zero = List.replicate q.1 (i.zero.getD 0 .undef))
  bif Nat.beq i.zero.length q.1 && Nat.ble q.1 1048576 then pure () else fail
  let _ ← newA (base, 0) 1 q.1 (fun _ => [i.zero.getD 0 .undef])
  pure (.pelem (base, 0) 0 0)
def evAlloc (T : Tab) (hf : Bool) (base : Nat) (t : TypeId) : M C :=
  bif hf then evAllocArr T base t else do
    let i ← ti T t
    newV (base, 0) i.zero
def evLoadArr (T : Tab) (t : TypeId) (a : C) : M S :=
  match a with
  | .pelem m k o => do
    let i ← ti T t
    let q ← ofO (arrO i.kind)
    let A ← liveA m
    bif Nat.beq A.s 1 && Nat.beq k 0 && Nat.beq o 0 && Nat.beq i.size q.1 then pure () else fail
    need (A.n = q.1)
    pure (.agg (flatG q.1 A.g))
  | _ => fail
def evLoadX (T : Tab) (hf : Bool) (t : TypeId) (a : C) : M S := bif hf then evLoadArr T t a else evLoad T t a
def evIndexArrDyn (T : Tab) (t : TypeId) (x : C) (k : Int) : M S :=
  match x with
  | .pelem m j o => do
    let i ← ti T t
    let q ← ofO (arrO i.kind)
    let z ← ti T q.2
    let A ← liveA m
    bif Nat.beq A.s z.size && Nat.beq j 0 && Nat.beq o 0 then pure () else fail
    need (0 ≤ k ∧ k < q.1)
    pure (.c (.pelem m k.toNat 0))
  | _ => fail
def evIndexAddrX (T : Tab) (hf : Bool) (t : TypeId) (x : C) (k : Int) : M S := bif hf then evIndexArrDyn T t x k else evIndexAddr T t x k
def evIndexDyn (T : Tab) (c : C) (t : TypeId) (x : S) (k : Int) : M S := do
  let i ← ti T t
  let q ← ofO (arrO i.kind)
  let z ← ti T q.2
  let cs ← ofO (aggO x)
  bif Nat.beq z.size 1 && !isAggK z.kind then pure () else fail
  need (0 ≤ k ∧ k < q.1)
  need (k.toNat < cs.length ∧ cs.getD k.toNat .undef = c)
  pure (.c c)
def evIndexX (T : Tab) (hc : Option C) (t : TypeId) (x : S) (k : Int) : M S :=
  match hc with
  | some c => evIndexDyn T c t x k
  | none => evIndex T t x k

def asNatO : Option Operand → M (Option Nat)
  | none => pure none
  | some x => do
    let n ← asNat x
    pure (some n)

def valO : C → Option Value
  | .v x => some x
  | _ => none
def evBuiltin (T : Tab) (base : Nat) (b : Builtin) (ts : List TypeId) (args : List Operand) : M S :=
  match b, ts, args with
  | .len, t :: _, [x] => do evLen T t (← opnd x)
  | .append, t :: u :: _, [x, y] => do
    bif Nat.beq t u then pure () else fail
    let a ← opndC x
    let b ← opndC y
    evAppend T base t a b
  | .min, _, [x, y] => do
    let a ← ofO (valO (← opndC x))
    let b ← ofO (valO (← opndC y))
    let r ← ofO (evMin a b)
    pure (.c (.v r))
  | .max, _, [x, y] => do
    let a ← ofO (valO (← opndC x))
    let b ← ofO (valO (← opndC y))
    let r ← ofO (evMax a b)
    pure (.c (.v r))
  | _, _, _ => fail

def eqOp : BinOp → Option (Bool → Bool)
  | .eql => some id
  | .neq => some not
  | _ => none
/-- The value of an operation; none: it has no value. -/
def evVal (P : Program) (T : Tab) (K : Facts) (h : Hints) (base idx : Nat) (o : Oper) : M (Option S) :=
  match o.op with
  | .move x => do return some (retag T o.type (← opnd x))
  | .assign x => do return some (retag T o.type (← opnd x))
  | .pick c a b => do
    let bc ← asBoolS (← opnd c)
    let hb ← hintB h idx
    need (bc = hb)
    bif hb then do return some (← opnd a) else do return some (← opnd b)
  | .alloc t => do
    let c ← evAlloc T (frzO (lookN idx h)) base t
    return some (.c c)
  | .box t x => do
    let l ← opndL x
    let i ← ti T t
    let c ← newV (base, 0) (retagL i.zero l)
    return some (.c c)
  | .build t parts => do return some (← evBuild T t parts.toList)
  | .buildSlice t len parts => do return some (← evBuildSlice T base t len parts.toList)
  | .load t a => do return some (← evLoadX T (frzO (lookN idx h)) t (← opndC a))
  | .store t a x => do
    let p ← opndC a
    let y ← opnd x
    evStore T t p y
    return none
  | .nilCheck x => do return some (← evNilCheck (← opndC x))
  | .binOp op t x y _ => do
    let a ← opnd x
    let b ← opnd y
    match nilCmp a b with
    | some e => do
      let f ← ofO (eqOp op)
      need (NilFact P t x y e)
      return some (.c (.v (.bool (f e))))
    | none =>
    match a, b with
    | .c (.v u), .c (.v v) => do
      let r ← ofO (evBinT (lookN t T) op u v)
      need r.2
      return some (.c (.v r.1))
    | .agg xs, .agg ys => do
      let e ← ofO (eqCells xs ys)
      let f ← ofO (eqOp op)
      need (EqFact P t x y (xs.map cval) (ys.map cval) e)
      return some (.c (.v (.bool (f e))))
    | _, _ => fail
  | .unOp op _ x => do
    let u ← ofO (valO (← opndC x))
    let r ← ofO (evUn op u)
    return some (.c (.v r))
  | .convert s d x => do return some (← evConvert T s d (← opndC x))
  | .makeSlice t l c => do
    let n ← asNat l
    let m ← asNat c
    need (n = m)
    return some (← evMakeSlice T base t n)
  | .slice t x lo hi none => do
    let y ← opndC x
    let l ← asNatO lo
    let g ← asNatO hi
    return some (← evSlice T (frzO (lookN idx h)) t y l g)
  | .fieldAddr t x f => do
    let a ← opndC x
    let q ← evField T t f
    bif Nat.beq q.2.size 0 then fail else pure ()
    chk a
    let c ← ofO (movedO q.1 a)
    return some (.c c)
  | .field t x f => do
    let q ← evField T t f
    let cs ← ofO (aggO (← opnd x))
    return some (← loadFrom q.2 cs q.1)
  | .indexAddr t x k => do
    let a ← opndC x
    let n ← asIntS (← opnd k)
    return some (← evIndexAddrX T (frzO (lookN idx h)) t a n.2)
  | .index t x k => do
    let a ← opnd x
    let n ← asIntS (← opnd k)
    return some (← evIndexX T (cellO (lookN idx h)) t a n.2)
  | .extract x i => do
    let ss ← ofO (tupO (← opnd x))
    let y ← ofO ss[i]?
    return some y
  | .call c =>
    match c.callee with
    | .builtin b => do return some (← evBuiltin T base b c.argTypes.toList c.args.toList)
    | .value (.func f) =>
      do
        let ch ← ofO (callO (lookN idx h))
        let l ← opnds c.args.toList
        return some (← evCall K base f ch l)
    | _ => fail
  | _ => fail

def putDst (d : Option Tmp) (x : S) : M Unit :=
  match d with
  | none => pure ()
  | some i => wrS i x

def isSp : S → Bool
  | .sp _ => true
  | _ => false
def keyS : Key → Bool
  | .s _ => true
  | _ => false
/-- What turns no slot. -/
def slotFree {α : Type} (m : M α) : M α := fun st =>
  match m st with
  | none => none
  | some o => bif o.wr.any keyS then none else some o
def evRun (P : Program) (T : Tab) (K : Facts) (h : Hints) (base idx : Nat) (o : Oper) : M Unit := do
  match ← slotFree (evVal P T K h (base * 1000 + idx) idx o) with
  | some x => bif isSp x then fail else putDst o.dst x
  | none => putDst o.dst (.c .undef)

/-! ### a list of own rows -/
def rdF : M S := fun st => some ⟨st.slot st.nt, st, [], [.s st.nt], []⟩
def wrF (x : Sp) : M Unit := fun st => some ⟨(), { st with slots := (st.nt, .sp x) :: st.slots }, [], [], [.s st.nt]⟩
structure FamS where
  n : Nat
  R : Nat → List Value
  q : FQ
def famO : S → Option FamS
  | .sp (.fam n R q) => some ⟨n, R, q⟩
  | _ => none
def noFamO : S → Option Unit
  | .sp _ => none
  | _ => some ()
def hdO : S → Option Unit
  | .sp .hd => some ()
  | _ => none
def atO : S → Option Nat
  | .sp (.at_ k) => some k
  | _ => none
def rowO : S → Option Unit
  | .sp .row => some ()
  | _ => none
def pendO : S → Option Unit
  | .sp .pend => some ()
  | _ => none
def mvO : S → Option S
  | .sp .hd => some (.sp .hd)
  | .sp (.at_ k) => some (.sp (.at_ k))
  | _ => none
def tmpO : Operand → Option Nat
  | .tmp t => some t
  | _ => none
def apO (c : Call) : Option Nat :=
  match c.callee with
  | .builtin _ => (c.args[0]?).bind tmpO
  | _ => none
def refO (m : Name) : Option S → Option Nat
  | some (.c (.ref k n)) => bif nameEq k m then some n else none
  | _ => none
def freeQ : FQ → Option Unit
  | .none => some ()
  | _ => none
def ldQ : FQ → Option (Nat × Nat)
  | .ld k t => some (k, t)
  | _ => none
def pdQ : FQ → Option (Nat × List Value × Nat)
  | .pd k l t => some (k, l, t)
  | _ => none
def oneO : List C → Option Value
  | [.v x] => some x
  | _ => none
def rowG (l : List Value) : Nat → List C := fun j => [.v (l.getD j undef)]
def updR (R : Nat → List Value) (k : Nat) (l : List Value) : Nat → List Value := fun j => bif Nat.beq j k then l else R j
/-- The type of rows of single cells. -/
def rowT (T : Tab) (t : TypeId) : M (TI × TypeId × TI) := do
  let i ← ti T t
  let e ← sliceK i.kind
  let z ← ti T e
  pure (i, e, z)
def guardM (b : Bool) : M Unit := bif b then pure () else fail
def evFam (P : Program) (T : Tab) (K : Facts) (base idx : Nat) (f : FamH) (o : Oper) : M Unit :=
  match f, o.op with
  | .mv, .move x => do
    let y ← ofO (mvO (← rdS (← ofO (tmpO x))))
    putDst o.dst y
  | .mv, .assign x => do
    let y ← ofO (mvO (← rdS (← ofO (tmpO x))))
    putDst o.dst y
  | .mk, .makeSlice _ _ _ => do
    ofO (noFamO (← rdF))
    let x ← slotFree (evVal P T K [] base idx o)
    let n ← ofO (refO (base, 0) x)
    let A ← liveA (base, 0)
    guardM (Nat.beq A.s 1 && !A.frozen)
    need (A.n = n ∧ ∀ i, A.g i = [.nil 1])
    wrA (base, 0) none
    wrF (.fam n (fun _ => []) .none)
    putDst o.dst (.sp .hd)
  | .ix, .indexAddr t x k => do
    ofO (hdO (← rdS (← ofO (tmpO x))))
    let n ← asIntS (← opnd k)
    let q ← rowT T t
    let F ← ofO (famO (← rdF))
    need (0 ≤ n.2 ∧ n.2 < F.n)
    guardM (Nat.beq q.2.2.size 1)
    freshA (base, 1)
    wrA (base, 1) none
    putDst o.dst (.sp (.at_ n.2.toNat))
  | .ld, .load t p => do
    let d ← ofO o.dst
    let k ← ofO (atO (← rdS (← ofO (tmpO p))))
    let i ← ti T t
    let F ← ofO (famO (← rdF))
    ofO (freeQ F.q)
    need (k < F.n)
    guardM (Nat.beq i.size 1 && !isAggK i.kind)
    freshA (base, 1)
    wrA (base, 1) none
    wrF (.fam F.n F.R (.ld k d))
    putDst o.dst (.sp .row)
  | .ap l, .call c => do
    let d ← ofO o.dst
    let tx ← ofO (apO c)
    ofO (rowO (← rdS tx))
    let F ← ofO (famO (← rdF))
    let q ← ofO (ldQ F.q)
    guardM (Nat.beq q.2 tx)
    freshA (base, 1)
    wrA (base, 1) (some ⟨false, 1, (F.R q.1).length, rowG (F.R q.1)⟩)
    wrS tx (.c (.ref (base, 1) (F.R q.1).length))
    let y ← slotFree (evVal P T K [] base idx o)
    let n ← ofO (refO (base, 0) y)
    let A ← liveA (base, 0)
    guardM (Nat.beq A.s 1 && !A.frozen)
    need (n = l.length ∧ A.n = l.length ∧ ∀ i, i < l.length → A.g i = rowG l i)
    wrA (base, 0) none
    wrF (.fam F.n F.R (.pd q.1 l d))
    putDst o.dst (.sp .pend)
  | .st, .store t p x => do
    let k ← ofO (atO (← rdS (← ofO (tmpO p))))
    let tx ← ofO (tmpO x)
    ofO (pendO (← rdS tx))
    let i ← ti T t
    let F ← ofO (famO (← rdF))
    let l ← ofO (pdQ F.q)
    guardM (Nat.beq l.2.2 tx && Nat.beq i.size 1)
    need (k = l.1)
    freshA (base, 1)
    wrA (base, 1) none
    wrF (.fam F.n (updR F.R l.1 l.2.1) .none)
    putDst o.dst (.c .undef)
  | _, _ => fail
def famHO : Option Hint → Option FamH
  | some (.fam f) => some f
  | _ => none
def evAny (P : Program) (T : Tab) (K : Facts) (h : Hints) (base idx : Nat) (o : Oper) : M Unit :=
  match famHO (lookN idx h) with
  | some f => evFam P T K (base * 1000 + idx) idx f o
  | none => evRun P T K h base idx o

/-- What an operation leaves that was passed by: no bool. -/
def isTup : S → Bool
  | .tup _ => true
  | _ => false
/-- An operation with its guard. -/
def evOp (P : Program) (T : Tab) (K : Facts) (h : Hints) (ops : Array Oper) (base idx : Nat) (o : Oper) : M Unit :=
  match o.guard with
  | none => evAny P T K h base idx o
  | some (j, want) => do
    let d ← ofO ((ops[j]?).bind (·.dst))
    let s ← rdS d
    bif isTup s then putDst o.dst (.tup []) else do
      let b ← asBoolS s
      let hb ← hintB h j
      need (b = hb)
      bif hb == want then evAny P T K h base idx o else putDst o.dst (.tup [])

def evOps (P : Program) (T : Tab) (K : Facts) (h : Hints) (ops : Array Oper) (base : Nat) : Nat → List Oper → M Unit
  | _, [] => pure ()
  | i, o :: r => do
    evOp P T K h ops base i o
    evOps P T K h ops base (i + 1) r

end Go.Ev
namespace Go.Ev
open Go Go.RowKit
set_option linter.unusedVariables false

theorem get_slot_cons (st : St) (i : Nat) (x : S) (k : Key) : ({ st with slots := (i, x) :: st.slots } : St).get k = if k = .s i then .s x else st.get k := by
  cases k with
  | s j =>
    simp only [St.get, St.slot, lookN]
    by_cases h : j = i
    · subst h; simp
    · have : Nat.beq j i = false := by
        cases hh : Nat.beq j i
        · rfl
        · exact absurd (Nat.eq_of_beq_eq_true hh) h
      simp [this, h]
  | v m => simp [St.get, St.var]
  | a m => simp [St.get, St.arr]
theorem get_var_cons (st : St) (i : Name) (x : List C) (k : Key) : ({ st with vars := (i, x) :: st.vars } : St).get k = if k = .v i then .v (some x) else st.get k := by
  cases k with
  | v j =>
    simp only [St.get, St.var, lookM]
    by_cases h : j = i
    · subst h; simp [nameEq_iff.mpr rfl]
    · have : nameEq j i = false := by
        cases hh : nameEq j i
        · rfl
        · exact absurd (nameEq_iff.mp hh) h
      simp [this, h]
  | s m => simp [St.get, St.slot]
  | a m => simp [St.get, St.arr]
theorem get_arr_cons (st : St) (i : Name) (x : Option Arr) (k : Key) : ({ st with arrs := (i, x) :: st.arrs } : St).get k = if k = .a i then .a (some x) else st.get k := by
  cases k with
  | a j =>
    simp only [St.get, St.arr, lookM]
    by_cases h : j = i
    · subst h; simp [nameEq_iff.mpr rfl]
    · have : nameEq j i = false := by
        cases hh : nameEq j i
        · rfl
        · exact absurd (nameEq_iff.mp hh) h
      simp [this, h]
  | s m => simp [St.get, St.slot]
  | v m => simp [St.get, St.var]

theorem all_append : ∀ {l k : List Prop}, All (l ++ k) ↔ All l ∧ All k
  | [], k => by simp [All]
  | p :: l, k => by simp [All, all_append, and_assoc]

structure Loc1 {α : Type} (st : St) (o : Out α) (st' : St) (o' : Out α) : Prop where
  val : o'.val = o.val
  side : o'.needs = o.needs
  rd : o'.rd = o.rd
  wr : o'.wr = o.wr
  nt : o'.st.nt = st'.nt
  new : ∀ k ∈ o.wr, o'.st.get k = o.st.get k
  old : ∀ k, k ∉ o.wr → o'.st.get k = st'.get k

def Local {α : Type} (m : M α) : Prop := ∀ st o, m st = some o → o.st.nt = st.nt ∧ (∀ k, k ∉ o.wr → o.st.get k = st.get k) ∧
  ∀ st' : St, st'.nt = st.nt → (∀ k ∈ o.rd, st'.get k = st.get k) → ∃ o', m st' = some o' ∧ Loc1 st o st' o'

theorem local_pure {α : Type} (x : α) : Local (pure x : M α) := by
  intro st o h
  obtain rfl : (⟨x, st, [], [], []⟩ : Out α) = o := Option.some.inj h
  exact ⟨rfl, fun _ _ => rfl, fun st' hn _ => ⟨_, rfl, rfl, rfl, rfl, rfl, rfl, by simp, fun _ _ => rfl⟩⟩
theorem local_fail {α : Type} : Local (fail : M α) := by
  intro st o h
  exact absurd h (by simp [fail])
theorem local_need (p : Prop) : Local (need p) := by
  intro st o h
  obtain rfl := Option.some.inj h
  exact ⟨rfl, fun _ _ => rfl, fun st' hn _ => ⟨_, rfl, rfl, rfl, rfl, rfl, rfl, by simp, fun _ _ => rfl⟩⟩

theorem bind_eq {α β : Type} (m : M α) (f : α → M β) (st : St) : (m >>= f) st = match m st with
  | none => none
  | some o => match f o.val o.st with
    | none => none
    | some p => some ⟨p.val, p.st, o.needs ++ p.needs, o.rd ++ p.rd, o.wr ++ p.wr⟩ := rfl
theorem bind_some {α β : Type} {m : M α} {f : α → M β} {st : St} {r : Out β} (h : (m >>= f) st = some r) :
    ∃ o p, m st = some o ∧ f o.val o.st = some p ∧ r = ⟨p.val, p.st, o.needs ++ p.needs, o.rd ++ p.rd, o.wr ++ p.wr⟩ := by
  rw [bind_eq] at h
  cases ho : m st with
  | none => rw [ho] at h; simp at h
  | some o =>
    rw [ho] at h
    simp only at h
    cases hp : f o.val o.st with
    | none => rw [hp] at h; simp at h
    | some p =>
      rw [hp] at h
      simp only [Option.some.injEq] at h
      exact ⟨o, p, rfl, hp, h.symm⟩

theorem bind_inv {α β : Type} {m : M α} {f : α → M β} {st : St} {r : Out β} (h : (m >>= f) st = some r) :
    ∃ o p, m st = some o ∧ f o.val o.st = some p ∧ r.val = p.val ∧ r.st = p.st ∧ (r.side → o.side ∧ p.side) := by
  obtain ⟨o, p, h1, h2, rfl⟩ := bind_some h
  exact ⟨o, p, h1, h2, rfl, rfl, fun h => all_append.mp h⟩

theorem local_bind {α β : Type} {m : M α} {f : α → M β} (hm : Local m) (hf : ∀ x, Local (f x)) : Local (m >>= f) := by
  intro st r h
  obtain ⟨o, p, ho, hp, rfl⟩ := bind_some h
  obtain ⟨n1, k1, c1⟩ := hm st o ho
  obtain ⟨n2, k2, c2⟩ := hf o.val o.st p hp
  refine ⟨n2.trans n1, ?_, ?_⟩
  · intro k hk
    simp only [List.mem_append, not_or] at hk
    rw [k2 k hk.2, k1 k hk.1]
  · intro st' hn hr
    obtain ⟨o', ho', l1⟩ := c1 st' hn (fun k hk => hr k (List.mem_append.mpr (.inl hk)))
    have hr2 : ∀ k ∈ p.rd, o'.st.get k = o.st.get k := by
      intro k hk
      by_cases hw : k ∈ o.wr
      · exact l1.new k hw
      · rw [l1.old k hw, hr k (List.mem_append.mpr (.inr hk)), k1 k hw]
    obtain ⟨p', hp', l2⟩ := c2 o'.st (by rw [l1.nt, hn, n1]) hr2
    refine ⟨⟨p'.val, p'.st, o'.needs ++ p'.needs, o'.rd ++ p'.rd, o'.wr ++ p'.wr⟩, ?_, ?_⟩
    · rw [bind_eq, ho']
      simp only [l1.val, hp']
    · refine ⟨l2.val, ?_, ?_, ?_, l2.nt.trans l1.nt, ?_, ?_⟩
      · simp only [l1.side, l2.side]
      · simp only [l1.rd, l2.rd]
      · simp only [l1.wr, l2.wr]
      · intro k hk
        by_cases hw : k ∈ p.wr
        · exact l2.new k hw
        · have hk1 : k ∈ o.wr := (List.mem_append.mp hk).resolve_right hw
          show p'.st.get k = p.st.get k
          rw [l2.old k hw, l1.new k hk1, k2 k hw]
      · intro k hk
        simp only [List.mem_append, not_or] at hk
        show p'.st.get k = st'.get k
        rw [l2.old k hk.2, l1.old k hk.1]

theorem local_rdS (i : Nat) : Local (rdS i) := by
  intro st o h
  obtain rfl := Option.some.inj h
  refine ⟨rfl, fun _ _ => rfl, fun st' hn hr => ⟨_, rfl, ?_, rfl, rfl, rfl, rfl, by simp, fun _ _ => rfl⟩⟩
  have := hr (.s i) (by simp)
  simpa [St.get] using this
theorem local_rdV (i : Name) : Local (rdV i) := by
  intro st o h
  obtain rfl := Option.some.inj h
  refine ⟨rfl, fun _ _ => rfl, fun st' hn hr => ⟨_, rfl, ?_, rfl, rfl, rfl, rfl, by simp, fun _ _ => rfl⟩⟩
  have := hr (.v i) (by simp)
  simpa [St.get] using this
theorem local_rdA (i : Name) : Local (rdA i) := by
  intro st o h
  obtain rfl := Option.some.inj h
  refine ⟨rfl, fun _ _ => rfl, fun st' hn hr => ⟨_, rfl, ?_, rfl, rfl, rfl, rfl, by simp, fun _ _ => rfl⟩⟩
  have := hr (.a i) (by simp)
  simpa [St.get] using this
theorem local_wrS (i : Nat) (x : S) : Local (wrS i x) := by
  intro st o h
  unfold wrS at h
  cases hb : Nat.blt i st.nt with
  | false => rw [hb] at h; simp at h
  | true =>
    rw [hb] at h
    obtain rfl := Option.some.inj h
    refine ⟨rfl, fun k hk => ?_, fun st' hn hr => ⟨⟨(), { st' with slots := (i, x) :: st'.slots }, [], [], [.s i]⟩, ?_, rfl, rfl, rfl, rfl, rfl, ?_, ?_⟩⟩
    · show St.get _ k = _
      rw [get_slot_cons, if_neg (by simpa using hk)]
    · unfold wrS; rw [hn, hb]; rfl
    · intro k hk
      obtain rfl : k = .s i := by simpa using hk
      show St.get _ _ = St.get _ _
      rw [get_slot_cons, get_slot_cons, if_pos rfl, if_pos rfl]
    · intro k hk
      show St.get _ _ = St.get _ _
      rw [get_slot_cons, if_neg (by simpa using hk)]
theorem local_wrV (i : Name) (x : List C) : Local (wrV i x) := by
  intro st o h
  obtain rfl := Option.some.inj h
  refine ⟨rfl, fun k hk => ?_, fun st' hn hr => ⟨⟨(), { st' with vars := (i, x) :: st'.vars }, [], [], [.v i]⟩, rfl, rfl, rfl, rfl, rfl, rfl, ?_, ?_⟩⟩
  · show St.get _ k = _
    rw [get_var_cons, if_neg (by simpa using hk)]
  · intro k hk
    obtain rfl : k = .v i := by simpa using hk
    show St.get _ _ = St.get _ _
    rw [get_var_cons, get_var_cons, if_pos rfl, if_pos rfl]
  · intro k hk
    show St.get _ _ = St.get _ _
    rw [get_var_cons, if_neg (by simpa using hk)]
theorem local_wrA (i : Name) (x : Option Arr) : Local (wrA i x) := by
  intro st o h
  obtain rfl := Option.some.inj h
  refine ⟨rfl, fun k hk => ?_, fun st' hn hr => ⟨⟨(), { st' with arrs := (i, x) :: st'.arrs }, [], [], [.a i]⟩, rfl, rfl, rfl, rfl, rfl, rfl, ?_, ?_⟩⟩
  · show St.get _ k = _
    rw [get_arr_cons, if_neg (by simpa using hk)]
  · intro k hk
    obtain rfl : k = .a i := by simpa using hk
    show St.get _ _ = St.get _ _
    rw [get_arr_cons, get_arr_cons, if_pos rfl, if_pos rfl]
  · intro k hk
    show St.get _ _ = St.get _ _
    rw [get_arr_cons, if_neg (by simpa using hk)]
theorem local_cond {α : Type} {b : Bool} {x y : M α} (hx : Local x) (hy : Local y) : Local (bif b then x else y) := by
  cases b
  · exact hy
  · exact hx

theorem local_ofO {α : Type} (x : Option α) : Local (ofO x) := by
  cases x with
  | none => intro st o h; exact absurd h (by simp [ofO])
  | some y => exact local_pure y
theorem local_ti (T : Tab) (t : TypeId) : Local (ti T t) := local_ofO _
theorem local_opnd (x : Operand) : Local (opnd x) := by
  unfold opnd
  split
  · exact local_bind (local_rdS _) fun y => local_ofO _
  · exact local_cond (local_pure _) local_fail
  · exact local_fail
  · exact local_pure _
theorem local_opndC (x : Operand) : Local (opndC x) := local_bind (local_opnd _) fun _ => local_ofO _
theorem local_opndL (x : Operand) : Local (opndL x) := local_bind (local_opnd _) fun _ => local_ofO _
theorem local_hintB (h : Hints) (i : Nat) : Local (hintB h i) := local_ofO _
theorem local_freshA (m : Name) : Local (freshA m) := local_bind (local_rdA _) fun _ => local_ofO _
theorem local_freshV (m : Name) : Local (freshV m) := local_bind (local_rdV _) fun _ => local_ofO _
theorem local_newV (m : Name) (cs : List C) : Local (newV m cs) := by
  unfold newV
  exact local_bind (local_freshV _) fun _ => local_bind (local_wrV _ _) fun _ => local_pure _
theorem local_newA (m : Name) (s n : Nat) (g : Nat → List C) : Local (newA m s n g) := by
  unfold newA
  exact local_bind (local_freshA _) fun _ => local_bind (local_wrA _ _) fun _ => local_pure _
theorem local_liveA (m : Name) : Local (liveA m) := local_bind (local_rdA _) fun _ => local_ofO _
theorem local_freeA (m : Name) : Local (freeA m) := by
  unfold freeA
  exact local_bind (local_liveA _) fun y => local_cond local_fail (local_pure _)
theorem local_varOf (m : Name) : Local (varOf m) := local_bind (local_rdV _) fun _ => local_ofO _
theorem local_toImm (x : C) : Local (toImm x) := by
  unfold toImm
  split
  · exact local_bind (local_liveA _) fun _ => local_bind (local_wrA _ _) fun _ => local_pure _
  · exact local_pure _
  · exact local_pure _
  · exact local_pure _
  · exact local_pure _
  · exact local_fail
theorem local_toImms : ∀ l : List C, Local (toImms l)
  | [] => local_pure _
  | x :: r => by
    unfold toImms
    exact local_bind (local_toImm _) fun _ => local_bind (local_toImms r) fun _ => local_pure _
theorem local_loadFrom (i : TI) (l : List C) (o : Nat) : Local (loadFrom i l o) := by
  unfold loadFrom
  exact local_cond (local_cond (local_pure _) (local_bind (local_ofO _) fun _ => local_pure _)) local_fail
theorem local_asBoolS (x : S) : Local (asBoolS x) := local_ofO _
theorem local_asIntS (x : S) : Local (asIntS x) := local_ofO _
theorem local_asNat (x : Operand) : Local (asNat x) := by
  unfold asNat
  exact local_bind (local_opnd _) fun _ => local_bind (local_asIntS _) fun _ => local_bind (local_need _) fun _ => local_pure _
theorem local_asNatO (x : Option Operand) : Local (asNatO x) := by
  unfold asNatO
  split
  · exact local_pure _
  · exact local_bind (local_asNat _) fun _ => local_pure _
theorem local_expC (b : Bool) (x : C) : Local (expC b x) := by
  unfold expC
  split
  · refine local_bind (local_liveA _) fun _ => local_cond ?_ (local_pure _)
    exact local_bind (local_need _) fun _ => local_bind (local_wrA _ _) fun _ => local_pure _
  · exact local_bind (local_ofO _) fun _ => local_pure _
theorem local_expCs (b : Bool) : ∀ l : List C, Local (expCs b l)
  | [] => local_pure _
  | x :: r => by
    unfold expCs
    exact local_bind (local_expC _ _) fun _ => local_bind (local_expCs b r) fun _ => local_pure _
theorem local_expS (b : Bool) (x : S) : Local (expS b x) := by
  unfold expS
  split
  · exact local_bind (local_cond (local_pure _) local_fail) fun _ => local_bind (local_varOf _) fun _ => local_bind (local_expCs _ _) fun _ => local_pure _
  · exact local_expC _ _
  · exact local_bind (local_expCs _ _) fun _ => local_pure _
  · exact local_fail
  · exact local_fail
theorem local_expSs : ∀ (bs : List Bool) (l : List S), Local (expSs bs l)
  | _, [] => by unfold expSs; exact local_pure _
  | [], x :: r => by
    unfold expSs
    exact local_bind (local_expS _ _) fun _ => local_bind (local_expSs [] r) fun _ => local_pure _
  | b :: bs, x :: r => by
    unfold expSs
    exact local_bind (local_expS _ _) fun _ => local_bind (local_expSs bs r) fun _ => local_pure _
theorem local_impC (base j : Nat) (x : X) : Local (impC base j x) := by
  unfold impC
  split
  · exact local_bind (local_newA _ _ _ _) fun _ => local_pure _
  · exact local_bind (local_ofO _) fun _ => local_pure _
theorem local_impCs (base : Nat) : ∀ (l : List X) (j : Nat), Local (impCs base j l)
  | [], j => by unfold impCs; exact local_pure _
  | x :: r, j => by
    unfold impCs
    exact local_bind (local_impC _ _ _) fun _ => local_bind (local_impCs base r _) fun _ => local_pure _
theorem local_impS (base j : Nat) (x : X) : Local (impS base j x) := by
  unfold impS
  split
  · exact local_bind (local_impCs _ _ _) fun _ => local_pure _
  · exact local_bind (local_impCs _ _ _) fun _ => local_bind (local_newV _ _) fun _ => local_pure _
  · exact local_fail
  · exact local_bind (local_impC _ _ _) fun _ => local_pure _
theorem local_impSs (base : Nat) : ∀ (l : List X) (j : Nat), Local (impSs base j l)
  | [], j => by unfold impSs; exact local_pure _
  | x :: r, j => by
    unfold impSs
    exact local_bind (local_impS _ _ _) fun _ => local_bind (local_impSs base r _) fun _ => local_pure _
theorem local_impR (base j : Nat) (x : X) : Local (impR base j x) := by
  unfold impR
  split
  · exact local_bind (local_impSs _ _ _) fun _ => local_pure _
  · exact local_impS _ _ _
theorem local_freezeAll : ∀ l : List Name, Local (freezeAll l)
  | [] => local_pure _
  | m :: r => by
    unfold freezeAll
    exact local_bind (local_liveA _) fun x => local_bind (local_wrA _ _) fun _ => local_freezeAll r
theorem local_putBack (base : Nat) : ∀ (l : List S) (j : Nat) (ps : List (List X)), Local (putBack base j l ps) := by
  intro l
  induction l with
  | nil =>
    intro j ps
    cases ps with
    | nil => unfold putBack; exact local_pure _
    | cons p ps => unfold putBack; exact local_fail
  | cons x r ih =>
    intro j ps
    cases x with
    | c y =>
      cases y with
      | pvar m o =>
        cases ps with
        | nil => unfold putBack; exact local_fail
        | cons p ps =>
          unfold putBack
          exact local_bind (local_impCs _ _ _) fun _ => local_bind (local_wrV _ _) fun _ => ih _ _
      | _ => exact ih _ _
    | agg _ => exact ih _ _
    | tup _ => exact ih _ _
    | sp _ => exact ih _ _
theorem local_liveAll : ∀ l : List Name, Local (liveAll l)
  | [] => local_pure _
  | m :: r => by
    unfold liveAll
    exact local_bind (local_liveA _) fun x => local_liveAll r
theorem local_blankAll : ∀ l : List Name, Local (blankAll l)
  | [] => local_pure _
  | m :: r => by
    unfold blankAll
    exact local_bind (local_varOf _) fun x => local_bind (local_wrV _ _) fun _ => local_blankAll r
theorem local_evCall (K : Facts) (base : Nat) (f : FuncId) (h : CallH) (args : List S) : Local (evCall K base f h args) := by
  unfold evCall
  exact local_bind (local_expSs _ _) fun _ => local_bind (local_need _) fun _ => local_bind (local_need _) fun _ => local_bind (local_cond (local_pure _) local_fail) fun _ =>
    local_bind (local_cond (local_freezeAll _) (local_bind (local_liveAll _) fun _ => local_need _)) fun _ => local_bind (local_blankAll _) fun _ => local_bind (local_impR _ _ _) fun _ => local_bind (local_putBack _ _ _ _) fun _ => local_pure _
theorem local_opnds : ∀ l : List Operand, Local (opnds l)
  | [] => local_pure _
  | x :: r => by
    unfold opnds
    exact local_bind (local_opnd _) fun _ => local_bind (local_opnds r) fun _ => local_pure _
theorem local_partsL : ∀ l : List (Nat × Operand), Local (partsL l)
  | [] => local_pure _
  | (i, x) :: r => by
    unfold partsL
    exact local_bind (local_opndL _) fun _ => local_bind (local_partsL r) fun _ => local_pure _
theorem local_structK (k : TK) : Local (structK k) := local_ofO _
theorem local_sliceK (k : TK) : Local (sliceK k) := local_ofO _
theorem local_sizesOf (T : Tab) : ∀ l : List (Nat × TypeId), Local (sizesOf T l)
  | [] => local_pure _
  | (i, x) :: r => by
    unfold sizesOf
    exact local_bind (local_ti _ _) fun _ => local_bind (local_sizesOf T r) fun _ => local_pure _
theorem local_immParts : ∀ l : List (Nat × List C), Local (immParts l)
  | [] => local_pure _
  | (i, x) :: r => by
    unfold immParts
    exact local_bind (local_toImms _) fun _ => local_bind (local_immParts r) fun _ => local_pure _
theorem local_evBuild (T : Tab) (t : TypeId) (ps : List (Nat × Operand)) : Local (evBuild T t ps) := by
  unfold evBuild
  refine local_bind (local_ti _ _) fun _ => ?_
  split
  · unfold evBuildArr
    exact local_bind (local_ti _ _) fun _ => local_bind (local_partsL _) fun _ => local_bind (local_ofO _) fun _ => local_pure _
  exact local_bind (local_structK _) fun _ => local_bind (local_sizesOf _ _) fun _ => local_bind (local_partsL _) fun _ => local_bind (local_ofO _) fun _ => local_pure _
theorem local_evBuildSlice (T : Tab) (base : Nat) (t : TypeId) (n : Nat) (ps : List (Nat × Operand)) : Local (evBuildSlice T base t n ps) := by
  unfold evBuildSlice
  exact local_bind (local_ti _ _) fun _ => local_bind (local_sliceK _) fun _ => local_bind (local_ti _ _) fun _ => local_bind (local_cond (local_pure _) local_fail) fun _ => local_bind (local_partsL _) fun _ => local_bind (local_immParts _) fun _ => local_bind (local_ofO _) fun _ => local_bind (local_newA _ _ _ _) fun _ => local_pure _
theorem local_evLoad (T : Tab) (t : TypeId) (a : C) : Local (evLoad T t a) := by
  unfold evLoad
  refine local_bind (local_ti _ _) fun _ => ?_
  split
  · exact local_bind (local_varOf _) fun _ => local_loadFrom _ _ _
  · exact local_bind (local_liveA _) fun _ => local_bind (local_need _) fun _ => local_bind (local_cond (local_pure _) local_fail) fun _ => local_cond (local_pure _) (local_pure _)
  · exact local_loadFrom _ _ _
  · exact local_fail
theorem local_evStore (T : Tab) (t : TypeId) (a : C) (x : S) : Local (evStore T t a x) := by
  unfold evStore
  refine local_bind (local_ti _ _) fun _ => local_bind (local_ofO _) fun _ => local_bind (local_cond (local_pure _) local_fail) fun _ => ?_
  split
  · exact local_bind (local_varOf _) fun _ => local_cond (local_wrV _ _) local_fail
  · exact local_bind (local_toImms _) fun _ => local_bind (local_freeA _) fun _ => local_bind (local_need _) fun _ => local_bind (local_cond (local_pure _) local_fail) fun _ => local_wrA _ _
  · exact local_fail
theorem local_evField (T : Tab) (t : TypeId) (f : Nat) : Local (evField T t f) := by
  unfold evField
  exact local_bind (local_ti _ _) fun _ => local_bind (local_structK _) fun _ => local_bind (local_ofO _) fun _ => local_bind (local_ti _ _) fun _ => local_pure _
theorem local_chk (x : C) : Local (chk x) := by
  unfold chk
  split
  · exact local_bind (local_liveA _) fun _ => local_pure _
  · exact local_pure _
theorem local_evIndexArr (T : Tab) (q : Nat × TypeId) (x : C) (k : Int) : Local (evIndexArr T q x k) := by
  unfold evIndexArr
  exact local_bind (local_ti _ _) fun _ => local_bind (local_need _) fun _ => local_bind (local_chk _) fun _ => local_bind (local_ofO _) fun _ => local_pure _
theorem local_evIndexAddr (T : Tab) (t : TypeId) (x : C) (k : Int) : Local (evIndexAddr T t x k) := by
  unfold evIndexAddr
  refine local_bind (local_ti _ _) fun _ => ?_
  split
  · exact local_evIndexArr _ _ _ _
  refine local_bind (local_sliceK _) fun _ => local_bind (local_ti _ _) fun _ => ?_
  split
  · exact local_bind (local_need _) fun _ => local_cond (local_pure _) local_fail
  · exact local_bind (local_liveA _) fun _ => local_bind (local_need _) fun _ => local_cond (local_pure _) local_fail
  · exact local_fail
theorem local_evIndex (T : Tab) (t : TypeId) (x : S) (k : Int) : Local (evIndex T t x k) := by
  unfold evIndex
  refine local_bind (local_ti _ _) fun _ => ?_
  split
  · exact local_bind (local_need _) fun _ => local_pure _
  · exact local_bind (local_ti _ _) fun _ => local_bind (local_need _) fun _ => local_loadFrom _ _ _
  · exact local_fail
theorem local_evSlice (T : Tab) (hf : Bool) (t : TypeId) (x : C) (lo hi : Option Nat) : Local (evSlice T hf t x lo hi) := by
  unfold evSlice
  refine local_bind (local_ti _ _) fun _ => ?_
  split
  · exact local_bind (local_need _) fun _ => local_pure _
  · exact local_bind (local_ti _ _) fun _ => local_bind (local_need _) fun _ => local_pure _
  · exact local_bind (local_ti _ _) fun _ => local_bind (local_cond (local_pure _) local_fail) fun _ => local_bind (local_need _) fun _ => local_pure _
  · refine local_bind (local_ti _ _) fun _ => local_bind (local_liveA _) fun _ => local_bind (local_cond (local_pure _) local_fail) fun _ => local_bind (local_need _) fun _ => local_cond ?_ ?_
    · exact local_bind (local_wrA _ _) fun _ => local_pure _
    · exact local_bind (local_need _) fun _ => local_pure _
  · exact local_fail
theorem local_evConvert (T : Tab) (s d : TypeId) (x : C) : Local (evConvert T s d x) := by
  unfold evConvert
  refine local_bind (local_ti _ _) fun _ => local_bind (local_ti _ _) fun _ => ?_
  split
  · exact local_pure _
  · exact local_pure _
  · exact local_fail
theorem local_evMakeSlice (T : Tab) (base : Nat) (t : TypeId) (n : Nat) : Local (evMakeSlice T base t n) := by
  unfold evMakeSlice
  exact local_bind (local_ti _ _) fun _ => local_bind (local_sliceK _) fun _ => local_bind (local_ti _ _) fun _ => local_bind (local_need _) fun _ => local_bind (local_cond (local_pure _) local_fail) fun _ => local_bind (local_newA _ _ _ _) fun _ => local_pure _
theorem local_asRow (s : Nat) (x : C) : Local (asRow s x) := by
  unfold asRow
  split
  · exact local_bind (local_need _) fun _ => local_pure _
  · exact local_bind (local_liveA _) fun _ => local_bind (local_need _) fun _ => local_pure _
  · exact local_bind (local_ofO _) fun _ => local_pure _
theorem local_evAppend (T : Tab) (base : Nat) (t : TypeId) (x y : C) : Local (evAppend T base t x y) := by
  unfold evAppend
  refine local_bind (local_ti _ _) fun _ => local_bind (local_sliceK _) fun _ => local_bind (local_ti _ _) fun _ => local_bind (local_cond (local_pure _) local_fail) fun _ => local_bind (local_asRow _ _) fun q => ?_
  split
  · exact local_bind (local_freeA _) fun _ => local_bind (local_cond (local_pure _) local_fail) fun _ => local_bind (local_need _) fun _ => local_bind (local_wrA _ _) fun _ => local_bind (local_newA _ _ _ _) fun _ => local_pure _
  · exact local_bind (local_ofO _) fun _ => local_bind (local_need _) fun _ => local_bind (local_newA _ _ _ _) fun _ => local_pure _
theorem local_evLen (T : Tab) (t : TypeId) (x : S) : Local (evLen T t x) := by
  unfold evLen
  refine local_bind (local_ti _ _) fun _ => ?_
  split
  · exact local_pure _
  · exact local_pure _
  · exact local_pure _
  · exact local_pure _
  · exact local_bind (local_rdA _) fun _ => local_pure _
  · exact local_fail
theorem local_evNilCheck (x : C) : Local (evNilCheck x) := by
  unfold evNilCheck
  exact local_bind (local_chk _) fun _ => local_bind (local_ofO _) fun _ => local_pure _
theorem local_evBuiltin (T : Tab) (base : Nat) (b : Builtin) (ts : List TypeId) (l : List Operand) : Local (evBuiltin T base b ts l) := by
  unfold evBuiltin
  split
  · exact local_bind (local_opnd _) fun _ => local_evLen _ _ _
  · exact local_bind (local_cond (local_pure _) local_fail) fun _ => local_bind (local_opndC _) fun _ => local_bind (local_opndC _) fun _ => local_evAppend _ _ _ _ _
  · exact local_bind (local_opndC _) fun _ => local_bind (local_ofO _) fun _ => local_bind (local_opndC _) fun _ => local_bind (local_ofO _) fun _ => local_bind (local_ofO _) fun _ => local_pure _
  · exact local_bind (local_opndC _) fun _ => local_bind (local_ofO _) fun _ => local_bind (local_opndC _) fun _ => local_bind (local_ofO _) fun _ => local_bind (local_ofO _) fun _ => local_pure _
  · exact local_fail
theorem local_evAlloc (T : Tab) (hf : Bool) (base : Nat) (t : TypeId) : Local (evAlloc T hf base t) := by
  unfold evAlloc evAllocArr
  exact local_cond (local_bind (local_ti _ _) fun _ => local_bind (local_ofO _) fun _ => local_bind (local_need _) fun _ => local_bind (local_cond (local_pure _) local_fail) fun _ => local_bind (local_newA _ _ _ _) fun _ => local_pure _) (local_bind (local_ti _ _) fun _ => local_newV _ _)
theorem local_evLoadX (T : Tab) (hf : Bool) (t : TypeId) (a : C) : Local (evLoadX T hf t a) := by
  unfold evLoadX evLoadArr
  refine local_cond ?_ (local_evLoad _ _ _)
  split
  · exact local_bind (local_ti _ _) fun _ => local_bind (local_ofO _) fun _ => local_bind (local_liveA _) fun _ => local_bind (local_cond (local_pure _) local_fail) fun _ => local_bind (local_need _) fun _ => local_pure _
  · exact local_fail
theorem local_evIndexX (T : Tab) (hc : Option C) (t : TypeId) (x : S) (k : Int) : Local (evIndexX T hc t x k) := by
  unfold evIndexX
  split
  · unfold evIndexDyn
    exact local_bind (local_ti _ _) fun _ => local_bind (local_ofO _) fun _ => local_bind (local_ti _ _) fun _ => local_bind (local_ofO _) fun _ => local_bind (local_cond (local_pure _) local_fail) fun _ => local_bind (local_need _) fun _ => local_bind (local_need _) fun _ => local_pure _
  · exact local_evIndex _ _ _ _
theorem local_evIndexAddrX (T : Tab) (hf : Bool) (t : TypeId) (x : C) (k : Int) : Local (evIndexAddrX T hf t x k) := by
  unfold evIndexAddrX evIndexArrDyn
  refine local_cond ?_ (local_evIndexAddr _ _ _ _)
  split
  · exact local_bind (local_ti _ _) fun _ => local_bind (local_ofO _) fun _ => local_bind (local_ti _ _) fun _ => local_bind (local_liveA _) fun _ => local_bind (local_cond (local_pure _) local_fail) fun _ => local_bind (local_need _) fun _ => local_pure _
  · exact local_fail
theorem local_evVal (P : Program) (T : Tab) (K : Facts) (h : Hints) (base idx : Nat) (o : Oper) : Local (evVal P T K h base idx o) := by
  unfold evVal
  split
  · exact local_bind (local_opnd _) fun _ => local_pure _
  · exact local_bind (local_opnd _) fun _ => local_pure _
  · refine local_bind (local_opnd _) fun _ => local_bind (local_asBoolS _) fun _ => local_bind (local_hintB _ _) fun _ => local_bind (local_need _) fun _ => local_cond ?_ ?_
    · exact local_bind (local_opnd _) fun _ => local_pure _
    · exact local_bind (local_opnd _) fun _ => local_pure _
  · exact local_bind (local_evAlloc _ _ _ _) fun _ => local_pure _
  · exact local_bind (local_opndL _) fun _ => local_bind (local_ti _ _) fun _ => local_bind (local_newV _ _) fun _ => local_pure _
  · exact local_bind (local_evBuild _ _ _) fun _ => local_pure _
  · exact local_bind (local_evBuildSlice _ _ _ _ _) fun _ => local_pure _
  · exact local_bind (local_opndC _) fun _ => local_bind (local_evLoadX _ _ _ _) fun _ => local_pure _
  · exact local_bind (local_opndC _) fun _ => local_bind (local_opnd _) fun _ => local_bind (local_evStore _ _ _ _) fun _ => local_pure _
  · exact local_bind (local_opndC _) fun _ => local_bind (local_evNilCheck _) fun _ => local_pure _
  · refine local_bind (local_opnd _) fun _ => local_bind (local_opnd _) fun _ => ?_
    split
    · exact local_bind (local_ofO _) fun _ => local_bind (local_need _) fun _ => local_pure _
    split
    · exact local_bind (local_ofO _) fun _ => local_bind (local_need _) fun _ => local_pure _
    · exact local_bind (local_ofO _) fun _ => local_bind (local_ofO _) fun _ => local_bind (local_need _) fun _ => local_pure _
    · exact local_fail
  · exact local_bind (local_opndC _) fun _ => local_bind (local_ofO _) fun _ => local_bind (local_ofO _) fun _ => local_pure _
  · exact local_bind (local_opndC _) fun _ => local_bind (local_evConvert _ _ _ _) fun _ => local_pure _
  · exact local_bind (local_asNat _) fun _ => local_bind (local_asNat _) fun _ => local_bind (local_need _) fun _ => local_bind (local_evMakeSlice _ _ _ _) fun _ => local_pure _
  · exact local_bind (local_opndC _) fun _ => local_bind (local_asNatO _) fun _ => local_bind (local_asNatO _) fun _ => local_bind (local_evSlice _ _ _ _ _ _) fun _ => local_pure _
  · exact local_bind (local_opndC _) fun _ => local_bind (local_evField _ _ _) fun _ => local_bind (local_cond local_fail (local_pure _)) fun _ => local_bind (local_chk _) fun _ => local_bind (local_ofO _) fun _ => local_pure _
  · exact local_bind (local_evField _ _ _) fun _ => local_bind (local_opnd _) fun _ => local_bind (local_ofO _) fun _ => local_bind (local_loadFrom _ _ _) fun _ => local_pure _
  · exact local_bind (local_opndC _) fun _ => local_bind (local_opnd _) fun _ => local_bind (local_asIntS _) fun _ => local_bind (local_evIndexAddrX _ _ _ _ _) fun _ => local_pure _
  · exact local_bind (local_opnd _) fun _ => local_bind (local_opnd _) fun _ => local_bind (local_asIntS _) fun _ => local_bind (local_evIndexX _ _ _ _ _) fun _ => local_pure _
  · exact local_bind (local_opnd _) fun _ => local_bind (local_ofO _) fun _ => local_bind (local_ofO _) fun _ => local_pure _
  · split
    · exact local_bind (local_evBuiltin _ _ _ _ _) fun _ => local_pure _
    · exact local_bind (local_ofO _) fun _ => local_bind (local_opnds _) fun _ => local_bind (local_evCall _ _ _ _ _) fun _ => local_pure _
    · exact local_fail
  · exact local_fail
theorem local_putDst (d : Option Tmp) (x : S) : Local (putDst d x) := by
  unfold putDst
  split
  · exact local_pure _
  · exact local_wrS _ _
theorem local_slotFree {α : Type} {m : M α} (hm : Local m) : Local (slotFree m) := by
  intro st o h
  unfold slotFree at h
  cases hq : m st with
  | none => rw [hq] at h; cases h
  | some q =>
    rw [hq] at h
    simp only at h
    cases hb : q.wr.any keyS with
    | true => rw [hb] at h; cases h
    | false =>
      rw [hb] at h
      obtain rfl : q = o := Option.some.inj h
      obtain ⟨h1, h2, h3⟩ := hm st q hq
      refine ⟨h1, h2, fun st' hn hr => ?_⟩
      obtain ⟨o', e, hl⟩ := h3 st' hn hr
      refine ⟨o', ?_, hl⟩
      unfold slotFree
      rw [e]
      simp only
      rw [hl.wr, hb]; rfl
theorem local_evRun (P : Program) (T : Tab) (K : Facts) (h : Hints) (base idx : Nat) (o : Oper) : Local (evRun P T K h base idx o) := by
  unfold evRun
  refine local_bind (local_slotFree (local_evVal _ _ _ _ _ _ _)) fun _ => ?_
  split
  · exact local_cond local_fail (local_putDst _ _)
  · exact local_putDst _ _
theorem local_rdF : Local rdF := by
  intro st o h
  obtain rfl := Option.some.inj h
  refine ⟨rfl, fun _ _ => rfl, fun st' hn hr => ⟨_, rfl, ?_, rfl, ?_, rfl, rfl, by simp, fun _ _ => rfl⟩⟩
  · have := hr (.s st.nt) (by simp)
    simp only [St.get, KV.s.injEq] at this
    show st'.slot st'.nt = st.slot st.nt
    rw [hn, this]
  · show [Key.s st'.nt] = [Key.s st.nt]
    rw [hn]
theorem local_wrF (x : Sp) : Local (wrF x) := by
  intro st o h
  obtain rfl := Option.some.inj h
  refine ⟨rfl, fun k hk => ?_, fun st' hn hr => ⟨_, rfl, rfl, rfl, rfl, ?_, rfl, ?_, ?_⟩⟩
  · show St.get _ k = _
    rw [get_slot_cons, if_neg (by simpa using hk)]
  · show [Key.s st'.nt] = [Key.s st.nt]
    rw [hn]
  · intro k hk
    obtain rfl : k = .s st.nt := by simpa using hk
    show St.get _ _ = St.get _ _
    rw [get_slot_cons, get_slot_cons, if_pos rfl, if_pos (by rw [hn])]
  · intro k hk
    show St.get _ _ = St.get _ _
    rw [get_slot_cons, if_neg (by rw [hn]; simpa using hk)]
theorem local_rowT (T : Tab) (t : TypeId) : Local (rowT T t) := local_bind (local_ti _ _) fun _ => local_bind (local_sliceK _) fun _ => local_bind (local_ti _ _) fun _ => local_pure _
theorem local_guard (b : Bool) : Local (guardM b) := local_cond (local_pure _) local_fail
theorem local_evFam (P : Program) (T : Tab) (K : Facts) (base idx : Nat) (f : FamH) (o : Oper) : Local (evFam P T K base idx f o) := by
  unfold evFam
  split
  · exact local_bind (local_ofO _) fun _ => local_bind (local_rdS _) fun _ => local_bind (local_ofO _) fun _ => local_putDst _ _
  · exact local_bind (local_ofO _) fun _ => local_bind (local_rdS _) fun _ => local_bind (local_ofO _) fun _ => local_putDst _ _
  · exact local_bind local_rdF fun _ => local_bind (local_ofO _) fun _ => local_bind (local_slotFree (local_evVal _ _ _ _ _ _ _)) fun _ => local_bind (local_ofO _) fun _ => local_bind (local_liveA _) fun _ => local_bind (local_guard _) fun _ => local_bind (local_need _) fun _ => local_bind (local_wrA _ _) fun _ => local_bind (local_wrF _) fun _ => local_putDst _ _
  · exact local_bind (local_ofO _) fun _ => local_bind (local_rdS _) fun _ => local_bind (local_ofO _) fun _ => local_bind (local_opnd _) fun _ => local_bind (local_asIntS _) fun _ => local_bind (local_rowT _ _) fun _ => local_bind local_rdF fun _ => local_bind (local_ofO _) fun _ => local_bind (local_need _) fun _ => local_bind (local_guard _) fun _ => local_bind (local_freshA _) fun _ => local_bind (local_wrA _ _) fun _ => local_putDst _ _
  · exact local_bind (local_ofO _) fun _ => local_bind (local_ofO _) fun _ => local_bind (local_rdS _) fun _ => local_bind (local_ofO _) fun _ => local_bind (local_ti _ _) fun _ => local_bind local_rdF fun _ => local_bind (local_ofO _) fun _ => local_bind (local_ofO _) fun _ => local_bind (local_need _) fun _ => local_bind (local_guard _) fun _ => local_bind (local_freshA _) fun _ => local_bind (local_wrA _ _) fun _ => local_bind (local_wrF _) fun _ => local_putDst _ _
  · exact local_bind (local_ofO _) fun _ => local_bind (local_ofO _) fun _ => local_bind (local_rdS _) fun _ => local_bind (local_ofO _) fun _ => local_bind local_rdF fun _ => local_bind (local_ofO _) fun _ => local_bind (local_ofO _) fun _ => local_bind (local_guard _) fun _ => local_bind (local_freshA _) fun _ => local_bind (local_wrA _ _) fun _ => local_bind (local_wrS _ _) fun _ => local_bind (local_slotFree (local_evVal _ _ _ _ _ _ _)) fun _ => local_bind (local_ofO _) fun _ => local_bind (local_liveA _) fun _ => local_bind (local_guard _) fun _ => local_bind (local_need _) fun _ => local_bind (local_wrA _ _) fun _ => local_bind (local_wrF _) fun _ => local_putDst _ _
  · exact local_bind (local_ofO _) fun _ => local_bind (local_rdS _) fun _ => local_bind (local_ofO _) fun _ => local_bind (local_ofO _) fun _ => local_bind (local_rdS _) fun _ => local_bind (local_ofO _) fun _ => local_bind (local_ti _ _) fun _ => local_bind local_rdF fun _ => local_bind (local_ofO _) fun _ => local_bind (local_ofO _) fun _ => local_bind (local_guard _) fun _ => local_bind (local_need _) fun _ => local_bind (local_freshA _) fun _ => local_bind (local_wrA _ _) fun _ => local_bind (local_wrF _) fun _ => local_putDst _ _
  · exact local_fail
theorem local_evAny (P : Program) (T : Tab) (K : Facts) (h : Hints) (base idx : Nat) (o : Oper) : Local (evAny P T K h base idx o) := by
  unfold evAny
  split
  · exact local_evFam _ _ _ _ _ _ _
  · exact local_evRun _ _ _ _ _ _ _
theorem local_evOp (P : Program) (T : Tab) (K : Facts) (h : Hints) (ops : Array Oper) (base idx : Nat) (o : Oper) : Local (evOp P T K h ops base idx o) := by
  unfold evOp
  split
  · exact local_evAny _ _ _ _ _ _ _
  · exact local_bind (local_ofO _) fun _ => local_bind (local_rdS _) fun _ => local_cond (local_putDst _ _) (local_bind (local_asBoolS _) fun _ => local_bind (local_hintB _ _) fun _ => local_bind (local_need _) fun _ => local_cond (local_evAny _ _ _ _ _ _ _) (local_putDst _ _))
end Go.Ev
namespace Go.Ev
open Go Go.RowKit
set_option linter.unusedVariables false

/-- What leads to memory that nobody writes (blocks of I). -/
inductive Rimm (w : World) (I : Nat → Prop) : C → Value → Prop
  | err (T : TypeId) (x : Value) : Rimm w I (.err true) (.iface T x)
  | errN : Rimm w I (.err false) .nilIface
  | v (x : Value) (h : flat x = true) : Rimm w I (.v x) x
  | nil (s : Nat) : Rimm w I (.nil s) (.slice none 0 0)
  | lst0 (s : Nat) (g : Nat → List C) (A : Option Addr) (c : Nat) : Rimm w I (.lst s 0 g) (.slice A 0 c)
  | lst (s n : Nat) (g : Nat → List C) (b o c : Nat) (f : Nat → Nat → Value) (hn : 0 < n) (hc : n ≤ c) (hI : I b) (hs : ∀ i, i < n → (g i).length = s)
      (hcell : ∀ (i j : Nat) x, i < n → (g i)[j]? = some x → w.cell? ⟨b, o + i * s + j, none⟩ = some (f i j))
      (hr : ∀ (i j : Nat) x, i < n → (g i)[j]? = some x → Rimm w I x (f i j)) : Rimm w I (.lst s n g) (.slice (some ⟨b, o, none⟩) n c)

theorem Rimm.vInv {w : World} {I : Nat → Prop} {x u : Value} (h : Rimm w I (.v x) u) : u = x := by cases h; rfl
theorem Rimm.errInv {w : World} {I : Nat → Prop} {b : Bool} {u : Value} (h : Rimm w I (.err b) u) : (b = true ∧ ∃ T v, u = .iface T v) ∨ (b = false ∧ u = .nilIface) := by
  cases h with
  | err T x => exact .inl ⟨rfl, _, _, rfl⟩
  | errN => exact .inr ⟨rfl, rfl⟩
theorem Rimm.flat {w : World} {I : Nat → Prop} {x : C} {u : Value} (h : Rimm w I x u) : Ev.flat u = true := by
  cases h with
  | v _ h => exact h
  | _ => rfl

theorem Rimm.mono {w w' : World} {I I' : Nat → Prop} (hw : ∀ b, I b → w'.heap[b]? = w.heap[b]?) (hI : ∀ b, I b → I' b) {x : C} {u : Value} (h : Rimm w I x u) : Rimm w' I' x u := by
  induction h with
  | err T x => exact .err T x
  | errN => exact .errN
  | v x h => exact .v x h
  | nil s => exact .nil s
  | lst0 s g A c => exact .lst0 s g A c
  | lst s n g b o c f hn hc hb hs hcell hr ih =>
    exact .lst s n g b o c f hn hc (hI b hb) hs (fun i j x hi hx => (World.cell?_of_block (hw b hb)).trans (hcell i j x hi hx)) (fun i j x hi hx => ih i j x hi hx)

/-- What a cell is told as may be told otherwise. -/
theorem Rimm.eqC {w : World} {I : Nat → Prop} {x y : C} {u : Value} (h : Rimm w I x u) (e : EqC x y) : Rimm w I y u := by
  cases h with
  | err T x => cases y <;> first | (simp [EqC] at e; subst e; exact .err T x) | (simp [EqC] at e)
  | errN => cases y <;> first | (simp [EqC] at e; subst e; exact .errN) | (simp [EqC] at e)
  | v x h =>
    unfold EqC at e
    split at e
    · rename_i heq; cases heq
    · rename_i heq; cases heq
    · rename_i heq; cases heq
    · rename_i heq; cases heq; subst e; exact .lst0 _ _ _ _
    · rename_i heq; cases heq; exact .nil _
    · rename_i heq; cases heq; subst e; exact .errN
    · subst e; exact .v _ h
  | nil s =>
    cases y with
    | nil s' => exact .nil _
    | lst s' n' g' => simp only [EqC] at e; subst e; exact .lst0 _ _ _ _
    | _ => simp [EqC] at e
  | lst0 s g A c =>
    cases y with
    | lst s' n' g' => obtain ⟨rfl, _⟩ := e; exact .lst0 _ _ _ _
    | _ => simp [EqC] at e
  | lst s n g b o c f hn hc hb hs hcell hr =>
    cases y with
    | lst s' n' g' =>
      obtain ⟨rfl, hss, hg⟩ := e
      rcases hss with h0 | rfl
      · omega
      · exact .lst _ _ _ b o c f hn hc hb (fun i hi => by rw [← hg i hi]; exact hs i hi) (fun i j x hi hx => hcell i j x hi (by rw [hg i hi]; exact hx)) (fun i j x hi hx => hr i j x hi (by rw [hg i hi]; exact hx))
    | _ => simp [EqC] at e

structure Im where
  v : Name → Option Nat
  a : Name → Option (Nat × Nat)

abbrev VA := Name → Option (List C)
abbrev AR := Name → Option (Option Arr)

/-- A slice's value over an array that lies at p. -/
def hdr (p : Option (Nat × Nat)) (n : Nat) (u : Value) : Prop :=
  match p with
  | none => u = .slice none 0 0 ∧ n = 0
  | some (b, cap) => u = .slice (some ⟨b, 0, none⟩) n cap

theorem hdr.slice {p : Option (Nat × Nat)} {n : Nat} {u : Value} (h : hdr p n u) : ∃ A c, u = .slice A n c := by
  unfold hdr at h
  split at h
  · obtain ⟨rfl, rfl⟩ := h; exact ⟨_, _, rfl⟩
  · subst h; exact ⟨_, _, rfl⟩
def Rc (w : World) (I : Nat → Prop) (ι : Im) (va : VA) (ar : AR) (x : C) (u : Value) : Prop :=
  match x with
  | .undef => True
  | .ref m n => match ar m with
    | some (some A) => n ≤ A.n ∧ hdr (ι.a m) n u
    | some none => ∃ A c, u = .slice A n c
    | none => False
  | .pvar m o => va m ≠ none ∧ ∃ b, ι.v m = some b ∧ u = .pointer (some ⟨b, o, none⟩)
  | .pelem m i o => match ar m with
    | some (some A) => ∃ b cap, ι.a m = some (b, cap) ∧ u = .pointer (some ⟨b, i * A.s + o, none⟩)
    | some none => flat u = true
    | none => False
  | .pimm cs o => ∃ (b p : Nat) (f : Nat → Value), u = .pointer (some ⟨b, p + o, none⟩) ∧ I b ∧ ∀ (j : Nat) y, cs[j]? = some y → w.cell? ⟨b, p + j, none⟩ = some (f j) ∧ Rimm w I y (f j)
  | y => Rimm w I y u

theorem Rc.flat {w : World} {I : Nat → Prop} {ι : Im} {va : VA} {ar : AR} {x : C} {u : Value} (h : Rc w I ι va ar x u) (hx : defd x = true) : Ev.flat u = true := by
  cases x with
  | err b => exact Rimm.flat h
  | v y => exact Rimm.flat h
  | nil s => exact Rimm.flat h
  | lst s n g => exact Rimm.flat h
  | ref m n =>
    simp only [Rc] at h
    split at h
    · obtain ⟨_, h⟩ := h
      unfold hdr at h
      split at h
      · obtain ⟨rfl, _⟩ := h; rfl
      · subst h; rfl
    · obtain ⟨A, c, rfl⟩ := h; rfl
    · exact h.elim
  | pvar m o => obtain ⟨_, b, _, rfl⟩ := h; rfl
  | pelem m i o =>
    simp only [Rc] at h
    split at h
    · obtain ⟨b, cap, _, rfl⟩ := h; rfl
    · exact h
    · exact h.elim
  | pimm cs o => obtain ⟨b, p, f, rfl, _⟩ := h; rfl
  | undef => exact absurd hx (by simp [defd])

structure Ext (w : World) (I : Nat → Prop) (ι : Im) (va : VA) (ar : AR) (w' : World) (I' : Nat → Prop) (ι' : Im) (va' : VA) (ar' : AR) : Prop where
  hw : ∀ b, I b → w'.heap[b]? = w.heap[b]?
  hI : ∀ b, I b → I' b
  hv : ∀ m, va m ≠ none → va' m ≠ none ∧ ι'.v m = ι.v m
  dead : ∀ m, ar m = some none → ar' m = some none
  live : ∀ m A, ar m = some (some A) → ar' m = some none ∨ ∃ A', ar' m = some (some A') ∧ A'.s = A.s ∧ A'.n = A.n ∧ ι'.a m = ι.a m

section
variable {w w' : World} {I I' : Nat → Prop} {ι ι' : Im} {va va' : VA} {ar ar' : AR}

theorem Rc.ext (E : Ext w I ι va ar w' I' ι' va' ar') {x : C} {u : Value} (h : Rc w I ι va ar x u) : Rc w' I' ι' va' ar' x u := by
  cases x with
  | err b => exact Rimm.mono E.hw E.hI h
  | v y => exact Rimm.mono E.hw E.hI h
  | nil s => exact Rimm.mono E.hw E.hI h
  | lst s n g => exact Rimm.mono E.hw E.hI h
  | ref m n =>
    have hf : Ev.flat u = true := h.flat rfl
    simp only [Rc] at h ⊢
    split at h
    · rename_i A hA
      rcases E.live m A hA with hd | ⟨A', hA', _, hn, hi⟩
      · rw [hd]; exact h.2.slice
      · rw [hA', hi]
        show n ≤ A'.n ∧ _
        rw [hn]; exact h
    · rename_i hA
      rw [E.dead m hA]; exact h
    · exact h.elim
  | pvar m o =>
    obtain ⟨hm, b, hb, hu⟩ := h
    obtain ⟨h1, h2⟩ := E.hv m hm
    exact ⟨h1, b, h2.trans hb, hu⟩
  | pelem m i o =>
    have hf : Ev.flat u = true := h.flat rfl
    simp only [Rc] at h ⊢
    split at h
    · rename_i A hA
      rcases E.live m A hA with hd | ⟨A', hA', hs, _, hi⟩
      · rw [hd]; exact hf
      · rw [hA', hi]
        show ∃ b cap, _ ∧ _ = Value.pointer (some ⟨b, i * A'.s + o, none⟩)
        rw [hs]; exact h
    · rename_i hA
      rw [E.dead m hA]; exact h
    · exact h.elim
  | pimm cs o =>
    obtain ⟨b, p, f, hu, hb, hc⟩ := h
    exact ⟨b, p, f, hu, E.hI b hb, fun j y hy => ⟨(World.cell?_of_block (E.hw b hb)).trans (hc j y hy).1, (hc j y hy).2.mono E.hw E.hI⟩⟩
  | undef => trivial
end

/-- A list of cells and an array of values. -/
def Rcs (w : World) (I : Nat → Prop) (ι : Im) (va : VA) (ar : AR) (cs : List C) (us : Array Value) : Prop :=
  us.size = cs.length ∧ ∀ (j : Nat) x, cs[j]? = some x → ∃ y, us[j]? = some y ∧ Rc w I ι va ar x y

def Rs1 (w : World) (I : Nat → Prop) (ι : Im) (va : VA) (ar : AR) (x : S) (u : Value) : Prop :=
  match x with
  | .c y => Rc w I ι va ar y u
  | .agg cs => ∃ us, u = .agg us ∧ Rcs w I ι va ar cs us
  | .tup _ => False
  | .sp _ => True
def Rs (w : World) (I : Nat → Prop) (ι : Im) (va : VA) (ar : AR) (x : S) (u : Value) : Prop :=
  match x with
  | .tup ss => ∃ us : Array Value, u = .tuple us ∧ ∀ (j : Nat) y, ss[j]? = some y → ∃ z, us[j]? = some z ∧ Rs1 w I ι va ar y z
  | y => Rs1 w I ι va ar y u

section
variable {w w' : World} {I I' : Nat → Prop} {ι ι' : Im} {va va' : VA} {ar ar' : AR}
theorem Rcs.ext (E : Ext w I ι va ar w' I' ι' va' ar') {x : List C} {u : Array Value} (h : Rcs w I ι va ar x u) : Rcs w' I' ι' va' ar' x u :=
  ⟨h.1, fun j y hy => let ⟨z, hz, hr⟩ := h.2 j y hy; ⟨z, hz, hr.ext E⟩⟩
theorem Rs1.ext (E : Ext w I ι va ar w' I' ι' va' ar') {x : S} {u : Value} (h : Rs1 w I ι va ar x u) : Rs1 w' I' ι' va' ar' x u := by
  cases x with
  | c y => exact Rc.ext E h
  | agg cs => obtain ⟨us, hu, hc⟩ := h; exact ⟨us, hu, hc.ext E⟩
  | tup ss => exact h.elim
  | sp x => trivial
theorem Rs.ext (E : Ext w I ι va ar w' I' ι' va' ar') {x : S} {u : Value} (h : Rs w I ι va ar x u) : Rs w' I' ι' va' ar' x u := by
  cases x with
  | c y => exact Rs1.ext E (x := .c y) h
  | agg cs => exact Rs1.ext E (x := .agg cs) h
  | tup ss => obtain ⟨us, hu, hc⟩ := h; exact ⟨us, hu, fun j y hy => let ⟨z, hz, hr⟩ := hc j y hy; ⟨z, hz, hr.ext E⟩⟩
  | sp x => trivial
end

/-- The package variables that are told hold what they are told to hold, and nobody writes them. -/
def Glob (B : Nat) (ext : Nat → Prop) (w : World) : Prop := GL w ∧ ∀ b, glob b → b < B ∧ ¬ ext b
/-- The world of a call of its own, seen from where the call began. -/
structure Fr (B : Nat) (ext : Nat → Prop) (w0 w : World) : Prop where
  gl : Glob B ext w0
  os : w.os = w0.os
  tape : w.tape = w0.tape
  output : w.output = w0.output
  size : w0.heap.size ≤ w.heap.size
  block : ∀ k, k < B → ¬ ext k → w.heap[k]? = w0.heap[k]?

structure Ctx where
  ext : Nat → Prop
  w0 : World
  I0 : Nat → Prop
  pin : Name → Option Nat

def Ctx.B (X : Ctx) : Nat := X.w0.heap.size
def Ctx.mine (X : Ctx) (b : Nat) : Prop := X.B ≤ b ∨ X.ext b

structure VarOk (X : Ctx) (w : World) (I : Nat → Prop) (ι : Im) (va : VA) (ar : AR) (m : Name) (cs : List C) (b : Nat) (f : Nat → Value) : Prop where
  at_ : ι.v m = some b
  lt : b < w.heap.size
  notI : ¬ I b
  mine : X.mine b
  cell : ∀ (j : Nat) x, cs[j]? = some x → w.cell? ⟨b, j, none⟩ = some (f j) ∧ w.frozen? ⟨b, j, none⟩ = false ∧ Rc w I ι va ar x (f j)

structure RowOk (w : World) (I : Nat → Prop) (A : Arr) (b cap : Nat) (f : Nat → Nat → Value) : Prop where
  lt : b < w.heap.size
  pos : 0 < A.s
  fit : A.n ≤ cap
  max : cap ≤ maxLen
  there : ∀ o, o < cap * A.s → (w.cell? ⟨b, o, none⟩).isSome = true ∧ w.frozen? ⟨b, o, none⟩ = false
  len : ∀ i, i < A.n → (A.g i).length = A.s
  cell : ∀ (i j : Nat) x, i < A.n → (A.g i)[j]? = some x → w.cell? ⟨b, i * A.s + j, none⟩ = some (f i j)
  rel : ∀ (i j : Nat) x, i < A.n → (A.g i)[j]? = some x → Rimm w I x (f i j)

def ArrOk (X : Ctx) (w : World) (I : Nat → Prop) (A : Arr) (p : Option (Nat × Nat)) : Prop :=
  match p with
  | none => A.n = 0
  | some (b, cap) => (∃ f, RowOk w I A b cap f) ∧ (if A.frozen = true then I b else ¬ I b ∧ X.mine b)

structure RelI (X : Ctx) (I : Nat → Prop) (ι : Im) (st : St) (tm : Array Value) (w : World) : Prop where
  size : tm.size = st.nt
  slots : ∀ i, Rs w I ι st.var st.arr (st.slot i) (tm.getD i undef)
  vars : ∀ m cs, st.var m = some cs → ∃ b f, VarOk X w I ι st.var st.arr m cs b f
  arrs : ∀ m A, st.arr m = some (some A) → ArrOk X w I A (ι.a m)
  inI : ∀ b, I b → b < w.heap.size ∧ (X.I0 b ∨ X.mine b)
  vv : ∀ m m' b, st.var m ≠ none → st.var m' ≠ none → ι.v m = some b → ι.v m' = some b → m = m'
  va : ∀ m m' A b c, st.var m ≠ none → st.arr m' = some (some A) → ι.v m = some b → ι.a m' = some (b, c) → False
  aa : ∀ m m' A A' b c c', st.arr m = some (some A) → st.arr m' = some (some A') → ι.a m = some (b, c) → ι.a m' = some (b, c') → m = m'
  fr : Fr X.B X.ext X.w0 w
  pin : ∀ m b, X.pin m = some b → m.1 = 0 ∧ st.var m ≠ none ∧ ι.v m = some b

/-- Nobody of the state lies at block b. -/
def Unused (st : St) (ι : Im) (b : Nat) : Prop := (∀ k, st.var k ≠ none → ι.v k ≠ some b) ∧ ∀ k D c, st.arr k = some (some D) → ι.a k ≠ some (b, c)

/-! ### a list of own rows -/
inductive FN where
  | hd
  | pend
  | row (k : Nat)
def FQ.takes : FQ → Nat → Prop
  | .pd k _ _, j => k = j
  | _, _ => False
/-- The arrays that a list of rows is made of: its headers, its rows, and the row that is being made. -/
def FamArr (h : Nat → Value) (F : FamS) (x : FN) (A : Arr) : Prop :=
  match x with
  | .hd => A = ⟨false, 1, F.n, fun j => [.v (h j)]⟩
  | .pend => ∃ k l t, F.q = .pd k l t ∧ A = ⟨false, 1, l.length, rowG l⟩
  | .row k => k < F.n ∧ ¬ F.q.takes k ∧ A = ⟨false, 1, (F.R k).length, rowG (F.R k)⟩
structure FamOk (X : Ctx) (I : Nat → Prop) (ι : Im) (st : St) (w : World) (F : FamS) (h : Nat → Value) (pv : Value) (L : FN → Option (Nat × Nat)) : Prop where
  arr : ∀ x A, FamArr h F x A → ArrOk X w I A (L x)
  un : ∀ x A b c, FamArr h F x A → L x = some (b, c) → Unused st ι b
  ap : ∀ x y A A' b c c', FamArr h F x A → FamArr h F y A' → L x = some (b, c) → L y = some (b, c') → x = y
  row : ∀ k, k < F.n → ¬ F.q.takes k → hdr (L (.row k)) (F.R k).length (h k)
  fl : ∀ k, k < F.n → flat (h k) = true
  pend : ∀ k l t, F.q = .pd k l t → k < F.n ∧ hdr (L .pend) l.length pv
def SpOk (F : FamS) (h : Nat → Value) (pv : Value) (L : FN → Option (Nat × Nat)) (i : Nat) (x : Sp) (u : Value) : Prop :=
  match x with
  | .fam .. => True
  | .hd => hdr (L .hd) F.n u
  | .at_ k => ∃ b c, L .hd = some (b, c) ∧ u = .pointer (some ⟨b, k, none⟩)
  | .row => ∀ k, F.q = .ld k i → k < F.n ∧ u = h k
  | .pend => ∀ k l, F.q = .pd k l i → u = pv
def FamI (X : Ctx) (I : Nat → Prop) (ι : Im) (st : St) (tm : Array Value) (w : World) : Prop :=
  match famO (st.slot st.nt) with
  | some F => ∃ h pv L, FamOk X I ι st w F h pv L ∧ ∀ i x, st.slot i = .sp x → SpOk F h pv L i x (tm.getD i undef)
  | none => ∀ i x, st.slot i ≠ .sp x

def Rel (X : Ctx) (st : St) (tm : Array Value) (w : World) : Prop := ∃ I ι, RelI X I ι st tm w ∧ FamI X I ι st tm w

/-! ### worlds -/
theorem Fr.refl {B : Nat} {ext : Nat → Prop} {w : World} (hg : Glob B ext w) : Fr B ext w w := ⟨hg, rfl, rfl, rfl, Nat.le_refl _, fun _ _ _ => rfl⟩
theorem Fr.now {B : Nat} {ext : Nat → Prop} {w0 w : World} (h : Fr B ext w0 w) : GL w := h.gl.1.keep fun b hb => h.block b (h.gl.2 b hb).1 (h.gl.2 b hb).2
theorem Fr.glob {ext : Nat → Prop} {w0 w : World} {fp : List Nat} (h : Fr w0.heap.size ext w0 w) (hfp : ∀ b ∈ fp, w0.heap.size ≤ b ∨ ext b) : Glob w.heap.size (· ∈ fp) w :=
  ⟨h.now, fun b hb => ⟨Nat.lt_of_lt_of_le (h.gl.2 b hb).1 h.size, fun hm => by
    rcases hfp b hm with hq | hq
    · exact absurd (h.gl.2 b hb).1 (Nat.not_lt.mpr hq)
    · exact (h.gl.2 b hb).2 hq⟩⟩
theorem Fr.step {B : Nat} {ext : Nat → Prop} {w0 w w' : World} (h : Fr B ext w0 w) (ho : w'.os = w.os) (ht : w'.tape = w.tape) (hp : w'.output = w.output) (hs : w.heap.size ≤ w'.heap.size)
    (hb : ∀ k, k < B → ¬ ext k → w'.heap[k]? = w.heap[k]?) : Fr B ext w0 w' :=
  ⟨h.gl, ho.trans h.os, ht.trans h.tape, hp.trans h.output, Nat.le_trans h.size hs, fun k hk he => (hb k hk he).trans (h.block k hk he)⟩

theorem heap_alloc (w : World) (o : Obj) (k : Nat) (h : k < w.heap.size) : (w.alloc o).heap[k]? = w.heap[k]? := by
  show (w.heap.push o)[k]? = _
  rw [Array.getElem?_push, if_neg (by omega)]
theorem heap_setCells (b : Nat) : ∀ (vs : List Value) (o : Nat) (w : World) (k : Nat), k ≠ b → (w.setCells b o vs).heap[k]? = w.heap[k]?
  | [], _, _, _, _ => rfl
  | v :: r, o, w, k, h => by
    rw [World.setCells, heap_setCells b r (o + 1) _ k h]
    simp only [World.setCell, Array.getElem?_modify]
    rw [if_neg (by omega)]
theorem size_setCells (b : Nat) : ∀ (vs : List Value) (o : Nat) (w : World), (w.setCells b o vs).heap.size = w.heap.size
  | [], _, _ => rfl
  | v :: r, o, w => by rw [World.setCells, size_setCells b r (o + 1)]; simp [World.setCell]
theorem os_setCells (b : Nat) : ∀ (vs : List Value) (o : Nat) (w : World), (w.setCells b o vs).os = w.os ∧ (w.setCells b o vs).tape = w.tape ∧ (w.setCells b o vs).output = w.output
  | [], _, _ => ⟨rfl, rfl, rfl⟩
  | v :: r, o, w => by rw [World.setCells]; exact os_setCells b r (o + 1) _

/-- The world has turned where nothing of the state lies. -/
theorem RelI.world {X : Ctx} {I : Nat → Prop} {ι : Im} {st : St} {tm : Array Value} {w w' : World} (h : RelI X I ι st tm w) (hF : Fr X.B X.ext X.w0 w') (hs : w.heap.size ≤ w'.heap.size)
    (hb : ∀ k, k < w.heap.size → w'.heap[k]? = w.heap[k]?) : RelI X I ι st tm w' := by
  have E : Ext w I ι st.var st.arr w' I ι st.var st.arr :=
    ⟨fun b hI => hb b (h.inI b hI).1, fun _ h => h, fun m hm => ⟨hm, rfl⟩, fun _ h => h, fun m A hA => .inr ⟨A, hA, rfl, rfl, rfl⟩⟩
  refine ⟨h.size, fun i => (h.slots i).ext E, ?_, ?_, fun b hI => ⟨Nat.lt_of_lt_of_le (h.inI b hI).1 hs, (h.inI b hI).2⟩, h.vv, h.va, h.aa, hF, h.pin⟩
  · intro m cs hm
    obtain ⟨b, f, hv⟩ := h.vars m cs hm
    refine ⟨b, f, hv.at_, Nat.lt_of_lt_of_le hv.lt hs, hv.notI, hv.mine, fun j x hx => ?_⟩
    obtain ⟨h1, h2, h3⟩ := hv.cell j x hx
    exact ⟨(World.cell?_of_block (hb b hv.lt)).trans h1, (World.frozen?_of_block (hb b hv.lt)).trans h2, h3.ext E⟩
  · intro m A hA
    have := h.arrs m A hA
    unfold ArrOk at this ⊢
    split at this
    · exact this
    · rename_i b cap hp
      obtain ⟨⟨f, hr⟩, hz⟩ := this
      exact ⟨⟨f, Nat.lt_of_lt_of_le hr.lt hs, hr.pos, hr.fit, hr.max, fun o ho => by
        rw [World.cell?_of_block (hb b hr.lt), World.frozen?_of_block (hb b hr.lt)]; exact hr.there o ho, hr.len,
        fun i j x hi hx => (World.cell?_of_block (hb b hr.lt)).trans (hr.cell i j x hi hx), fun i j x hi hx => (hr.rel i j x hi hx).mono E.hw E.hI⟩, hz⟩

theorem RelI.drew {X : Ctx} {I : Nat → Prop} {ι : Im} {st : St} {tm : Array Value} {w : World} (h : RelI X I ι st tm w) : RelI X I ι st tm w.drew :=
  h.world (h.fr.step rfl rfl rfl (Nat.le_refl _) (fun _ _ _ => rfl)) (Nat.le_refl _) (fun _ _ => rfl)

/-- A slot is written. -/
theorem RelI.put {X : Ctx} {I : Nat → Prop} {ι : Im} {st : St} {tm : Array Value} {w : World} (h : RelI X I ι st tm w) {d : Nat} {x : S} {u : Value} (hd : d < st.nt) (hx : Rs w I ι st.var st.arr x u) :
    RelI X I ι { st with slots := (d, x) :: st.slots } (tm.setIfInBounds d u) w := by
  refine ⟨by simpa using h.size, fun i => ?_, h.vars, h.arrs, h.inI, h.vv, h.va, h.aa, h.fr, h.pin⟩
  have hg := get_slot_cons st d x (.s i)
  simp only [St.get] at hg
  by_cases hi : i = d
  · subst hi
    simp only [if_pos] at hg
    injection hg with hg
    show Rs w I ι st.var st.arr (St.slot _ i) _
    rw [hg]
    have : i < tm.size := by rw [h.size]; exact hd
    simp [this]
    exact hx
  · rw [if_neg (by simpa using hi)] at hg
    injection hg with hg
    show Rs w I ι st.var st.arr (St.slot _ i) _
    rw [hg]
    have h' := h.slots i
    simp only [Array.getD_eq_getD_getElem?] at h' ⊢
    rw [Array.getElem?_setIfInBounds_ne (Ne.symm hi)]
    exact h'

end Go.Ev
namespace Go.Ev
open Go Go.RowKit
set_option linter.unusedVariables false

/-! ### the table -/
def kindOf : TypeDesc → TK
  | .bool => .bool
  | .int k => .int k
  | .string => .string
  | .slice e => .slice e
  | .struct fs => .struct (fs.toList.map fun f => (f.offset, f.type))
  | .array n e => .array n e
  | .pointer e => .pointer e
  | _ => .other

def zeroB : C → Bool
  | .v x => flat x
  | .nil _ => true
  | _ => false

structure TIok (P : Program) (t : TypeId) (i : TI) : Prop where
  info : (P.info? t).map (fun d => (d.size, d.bytes, d.zero.map (·.cells.toList))) = some (i.size, i.bytes, some (i.zero.map cval))
  kind : (P.underlying t).map kindOf = some i.kind
  zero : i.zero.all zeroB = true

def TabOk (P : Program) (T : Tab) : Prop := ∀ t i, lookN t T = some i → TIok P t i

theorem tabOk_of {P : Program} {T : Tab} (h : T.map (fun p => ((P.info? p.1).map (fun d => (d.size, d.bytes, d.zero.map (·.cells.toList))), (P.underlying p.1).map kindOf, p.2.zero.all zeroB)) =
    T.map (fun p => (some (p.2.size, p.2.bytes, some (p.2.zero.map cval)), some p.2.kind, true))) : TabOk P T := by
  intro t i hi
  induction T with
  | nil => simp [lookN] at hi
  | cons p T ih =>
    simp only [List.map_cons, List.cons.injEq] at h
    obtain ⟨h1, h2⟩ := h
    simp only [lookN] at hi
    cases hb : Nat.beq t p.1 with
    | true =>
      rw [hb] at hi
      simp only [cond_true, Option.some.injEq] at hi
      subst hi
      obtain rfl := Nat.eq_of_beq_eq_true hb
      simp only [Prod.mk.injEq] at h1
      exact ⟨h1.1, h1.2.1, h1.2.2⟩
    | false =>
      rw [hb] at hi
      exact ih h2 hi

section
variable {P : Program} {t : TypeId} {i : TI}
theorem TIok.inf (h : TIok P t i) : ∃ d z, P.info? t = some d ∧ d.size = i.size ∧ d.bytes = i.bytes ∧ d.zero = some z ∧ z.cells.toList = i.zero.map cval := by
  have h1 := h.info
  cases hd : P.info? t with
  | none => rw [hd] at h1; simp at h1
  | some d =>
    rw [hd] at h1
    simp only [Option.map_some, Option.some.injEq, Prod.mk.injEq] at h1
    obtain ⟨h1, h2, h3⟩ := h1
    cases hz : d.zero with
    | none => rw [hz] at h3; simp at h3
    | some z => rw [hz] at h3; exact ⟨d, z, rfl, h1, h2, hz, by simpa using h3⟩
theorem TIok.und (h : TIok P t i) : ∃ d, P.underlying t = some d ∧ kindOf d = i.kind := by
  have h1 := h.kind
  cases hd : P.underlying t with
  | none => rw [hd] at h1; simp at h1
  | some d => rw [hd] at h1; exact ⟨d, rfl, by simpa using h1⟩
theorem kind_slice {d : TypeDesc} {e : TypeId} (h : kindOf d = .slice e) : d = .slice e := by
  cases d <;> simp [kindOf] at h
  subst h; rfl
theorem kind_string {d : TypeDesc} (h : kindOf d = .string) : d = .string := by
  cases d <;> simp [kindOf] at h
  rfl
theorem kind_bool {d : TypeDesc} (h : kindOf d = .bool) : d = .bool := by
  cases d <;> simp [kindOf] at h
  rfl
theorem kind_int {d : TypeDesc} {k : IntKind} (h : kindOf d = .int k) : d = .int k := by
  cases d <;> simp [kindOf] at h
  subst h; rfl
theorem kind_array {d : TypeDesc} {n : Nat} {e : TypeId} (h : kindOf d = .array n e) : d = .array n e := by
  cases d <;> simp [kindOf] at h
  obtain ⟨rfl, rfl⟩ := h; rfl
theorem kind_struct {d : TypeDesc} {fs : List (Nat × TypeId)} (h : kindOf d = .struct fs) : ∃ fields : Array Field, d = .struct fields ∧ fields.toList.map (fun f => (f.offset, f.type)) = fs := by
  cases d <;> simp [kindOf] at h
  exact ⟨_, rfl, h⟩
theorem run_sizeOf (h : TIok P t i) (w : World) : (sizeOf t).run P w = .ok i.size w := by
  obtain ⟨d, z, h1, h2, _⟩ := h.inf
  simp [sizeOf, typeInfo, h1, h2]
theorem run_zeroValue (h : TIok P t i) (w : World) : ∃ z, (zeroValue t).run P w = .ok z w ∧ z.cells.toList = i.zero.map cval := by
  obtain ⟨d, z, h1, _, _, h4, h5⟩ := h.inf
  exact ⟨z, by simp [zeroValue, typeInfo, h1, h4], h5⟩
theorem run_und (h : TIok P t i) (w : World) : ∃ d, (underlying t).run P w = .ok d w ∧ kindOf d = i.kind := by
  obtain ⟨d, h1, h2⟩ := h.und
  exact ⟨d, by simp [underlying, h1], h2⟩
theorem run_isAgg (h : TIok P t i) (w : World) : (isAgg t).run P w = .ok (isAggK i.kind) w := by
  obtain ⟨d, h1, h2⟩ := run_und h w
  unfold isAgg
  simp only [Sem.run_bind, h1, Result.andThen_ok]
  rw [← h2]
  cases d <;> simp [kindOf, isAggK]
end

/-! ### reading off what a helper did -/
theorem pure_inv {α : Type} {x : α} {st : St} {o : Out α} (h : (pure x : M α) st = some o) : o = ⟨x, st, [], [], []⟩ := (Option.some.inj h).symm
theorem fail_inv {α : Type} {st : St} {o : Out α} (h : (fail : M α) st = some o) : False := by simp [fail] at h
theorem need_inv {p : Prop} {st : St} {o : Out Unit} (h : need p st = some o) : o.st = st ∧ o.side = p := by obtain rfl := Option.some.inj h; exact ⟨rfl, by simp [Out.side, All]⟩
theorem ofO_inv {α : Type} {x : Option α} {st : St} {o : Out α} (h : ofO x st = some o) : x = some o.val ∧ o.st = st := by
  cases x with
  | none => simp [ofO] at h
  | some y => obtain rfl := Option.some.inj h; exact ⟨rfl, rfl⟩
theorem rdS_inv {i : Nat} {st : St} {o : Out S} (h : rdS i st = some o) : o.val = st.slot i ∧ o.st = st := by obtain rfl := Option.some.inj h; exact ⟨rfl, rfl⟩
theorem rdA_inv {i : Name} {st : St} {o : Out (Option (Option Arr))} (h : rdA i st = some o) : o.val = st.arr i ∧ o.st = st := by obtain rfl := Option.some.inj h; exact ⟨rfl, rfl⟩
theorem rdV_inv {i : Name} {st : St} {o : Out (Option (List C))} (h : rdV i st = some o) : o.val = st.var i ∧ o.st = st := by obtain rfl := Option.some.inj h; exact ⟨rfl, rfl⟩
theorem cond_inv {α : Type} {b : Bool} {x y : M α} {st : St} {o : Out α} (h : (bif b then x else y) st = some o) : (b = true ∧ x st = some o) ∨ (b = false ∧ y st = some o) := by
  cases b
  · exact .inr ⟨rfl, h⟩
  · exact .inl ⟨rfl, h⟩
theorem guard_inv {b : Bool} {st : St} {o : Out Unit} (h : (bif b then (pure () : M Unit) else fail) st = some o) : b = true ∧ o.st = st := by
  rcases cond_inv h with ⟨hb, h⟩ | ⟨_, h⟩
  · obtain rfl := pure_inv h; exact ⟨hb, rfl⟩
  · exact (fail_inv h).elim
theorem ti_inv {T : Tab} {t : TypeId} {st : St} {o : Out TI} (h : ti T t st = some o) : lookN t T = some o.val ∧ o.st = st := ofO_inv h
theorem liveA_inv {m : Name} {st : St} {o : Out Arr} (h : liveA m st = some o) : st.arr m = some (some o.val) ∧ o.st = st := by
  obtain ⟨o1, o2, h1, h2, rfl⟩ := bind_some h
  obtain ⟨e1, e2⟩ := rdA_inv h1
  obtain ⟨e3, e4⟩ := ofO_inv h2
  rw [e1] at e3
  refine ⟨?_, e4.trans e2⟩
  show st.arr m = some (some o2.val)
  cases hh : st.arr m with
  | none => rw [hh] at e3; cases e3
  | some y =>
    cases y with
    | none => rw [hh] at e3; cases e3
    | some A => rw [hh] at e3; injection e3 with e3; rw [e3]
theorem freeA_inv {m : Name} {st : St} {o : Out Arr} (h : freeA m st = some o) : st.arr m = some (some o.val) ∧ o.st = st ∧ o.val.frozen = false := by
  obtain ⟨o1, o2, h1, h2, rfl⟩ := bind_some h
  obtain ⟨hA, hs⟩ := liveA_inv h1
  rcases cond_inv h2 with ⟨_, h2⟩ | ⟨hf, h2⟩
  · exact (fail_inv h2).elim
  · obtain rfl := pure_inv h2
    exact ⟨hA, hs, hf⟩
theorem varOf_inv {m : Name} {st : St} {o : Out (List C)} (h : varOf m st = some o) : st.var m = some o.val ∧ o.st = st := by
  obtain ⟨o1, o2, h1, h2, rfl⟩ := bind_some h
  obtain ⟨e1, e2⟩ := rdV_inv h1
  obtain ⟨e3, e4⟩ := ofO_inv h2
  exact ⟨by rw [← e1]; exact e3, e4.trans e2⟩
theorem noneO_inv {α : Type} {x : Option α} {u : Unit} (h : noneO x = some u) : x = none := by cases x with | none => rfl | some y => cases h
theorem freshA_inv {m : Name} {st : St} {o : Out Unit} (h : freshA m st = some o) : st.arr m = none ∧ o.st = st := by
  obtain ⟨o1, o2, h1, h2, rfl⟩ := bind_some h
  obtain ⟨e1, e2⟩ := rdA_inv h1
  obtain ⟨e3, e4⟩ := ofO_inv h2
  exact ⟨by rw [← e1]; exact noneO_inv e3, e4.trans e2⟩
theorem freshV_inv {m : Name} {st : St} {o : Out Unit} (h : freshV m st = some o) : st.var m = none ∧ o.st = st := by
  obtain ⟨o1, o2, h1, h2, rfl⟩ := bind_some h
  obtain ⟨e1, e2⟩ := rdV_inv h1
  obtain ⟨e3, e4⟩ := ofO_inv h2
  exact ⟨by rw [← e1]; exact noneO_inv e3, e4.trans e2⟩
theorem newA_inv {m : Name} {s n : Nat} {g : Nat → List C} {st : St} {o : Out C} (h : newA m s n g st = some o) :
    st.arr m = none ∧ o.val = .ref m n ∧ o.st = { st with arrs := (m, some ⟨false, s, n, g⟩) :: st.arrs } := by
  unfold newA at h
  obtain ⟨o1, o2, h1, h2, rfl⟩ := bind_some h
  obtain ⟨hf, hs⟩ := freshA_inv h1
  obtain ⟨o3, o4, h3, h4, rfl⟩ := bind_some h2
  obtain rfl := Option.some.inj h3
  obtain rfl := pure_inv h4
  exact ⟨hf, rfl, by rw [hs]⟩
theorem newV_inv {m : Name} {cs : List C} {st : St} {o : Out C} (h : newV m cs st = some o) :
    st.var m = none ∧ o.val = .pvar m 0 ∧ o.st = { st with vars := (m, cs) :: st.vars } := by
  unfold newV at h
  obtain ⟨o1, o2, h1, h2, rfl⟩ := bind_some h
  obtain ⟨hf, hs⟩ := freshV_inv h1
  obtain ⟨o3, o4, h3, h4, rfl⟩ := bind_some h2
  obtain rfl := Option.some.inj h3
  obtain rfl := pure_inv h4
  exact ⟨hf, rfl, by rw [hs]⟩

theorem arr_cons (st : St) (m : Name) (A : Option Arr) (k : Name) : ({ st with arrs := (m, A) :: st.arrs } : St).arr k = if k = m then some A else st.arr k := by
  have := get_arr_cons st m A (.a k)
  simp only [St.get] at this
  by_cases h : k = m
  · subst h; simp only [if_pos] at this; injection this with this; rw [if_pos rfl]; exact this
  · rw [if_neg (by simpa using h)] at this; injection this with this; rw [if_neg h]; exact this
theorem var_cons (st : St) (m : Name) (A : List C) (k : Name) : ({ st with vars := (m, A) :: st.vars } : St).var k = if k = m then some A else st.var k := by
  have := get_var_cons st m A (.v k)
  simp only [St.get] at this
  by_cases h : k = m
  · subst h; simp only [if_pos] at this; injection this with this; rw [if_pos rfl]; exact this
  · rw [if_neg (by simpa using h)] at this; injection this with this; rw [if_neg h]; exact this

/-! ### operands -/
section
variable {X : Ctx} {I : Nat → Prop} {ι : Im} {st : St} {a : Act} {w : World}

theorem opnd_ok {x : Operand} {o : Out S} (h : opnd x st = some o) (hr : RelI X I ι st a.tmps w) :
    o.st = st ∧ o.val ≠ .c .undef ∧ Rs w I ι st.var st.arr o.val (a.eval x) := by
  unfold opnd at h
  split at h
  · rename_i t
    obtain ⟨o1, o2, h1, h2, rfl⟩ := bind_some h
    obtain ⟨e1, e2⟩ := rdS_inv h1
    obtain ⟨e3, e4⟩ := ofO_inv h2
    rw [e1] at e3
    have e5 : o2.val ≠ .c .undef ∧ o2.val = st.slot t := by
      revert e3
      cases st.slot t with
      | c y => cases y <;> intro e3 <;> first | cases e3 | (injection e3 with e3; rw [← e3]; exact ⟨by simp, rfl⟩)
      | sp _ => intro e3; cases e3
      | _ => intro e3; injection e3 with e3; rw [← e3]; exact ⟨by simp, rfl⟩
    refine ⟨e4.trans e2, e5.1, ?_⟩
    have := hr.slots t
    rw [← e5.2] at this
    simpa [Act.eval] using this
  · rename_i v
    rcases cond_inv h with ⟨hc, h⟩ | ⟨_, h⟩
    · obtain rfl := pure_inv h
      refine ⟨rfl, ?_, ?_⟩
      · cases v <;> simp [cst]
      · show Rs w I ι st.var st.arr (cst v) v
        cases v with
        | agg cs =>
          refine ⟨cs, rfl, by simp, fun j x hx => ?_⟩
          simp only [List.getElem?_map] at hx
          cases hj : cs.toList[j]? with
          | none => rw [hj] at hx; simp at hx
          | some u =>
            rw [hj] at hx
            simp only [Option.map_some, Option.some.injEq] at hx
            subst hx
            have hall := List.all_eq_true.mp hc u (List.mem_of_getElem? hj)
            exact ⟨u, by simpa using hj, Rimm.v _ hall⟩
        | tuple vs => exact ⟨vs, rfl, fun j y hy => by simp at hy⟩
        | _ => exact Rimm.v _ rfl
    · exact (fail_inv h).elim
  · exact (fail_inv h).elim
  · obtain rfl := pure_inv h
    exact ⟨rfl, by simp, Rimm.v _ rfl⟩

theorem opndC_ok {x : Operand} {o : Out C} (h : opndC x st = some o) (hr : RelI X I ι st a.tmps w) :
    o.st = st ∧ defd o.val = true ∧ Rc w I ι st.var st.arr o.val (a.eval x) := by
  obtain ⟨o1, o2, h1, h2, rfl⟩ := bind_some h
  obtain ⟨hs, hd, hv⟩ := opnd_ok h1 hr
  obtain ⟨e3, e4⟩ := ofO_inv h2
  refine ⟨e4.trans hs, ?_⟩
  revert e3 hd hv
  cases o1.val with
  | c y =>
    intro hd hv e3
    injection e3 with e3
    show defd o2.val = true ∧ _
    rw [← e3]
    refine ⟨?_, hv⟩
    cases y <;> first | rfl | exact absurd rfl hd
  | _ => intro _ _ e3; cases e3

/-- A slot's value, cell by cell. -/
theorem cellsS_ok {x : S} {l : List C} (hl : cellsS x = some l) {u : Value} (h : Rs w I ι st.var st.arr x u) :
    Rcs w I ι st.var st.arr l u.cells ∧ (∀ c ∈ l, defd c = true) ∧ (∀ v ∈ u.cells.toList, flat v = true) := by
  have fl : ∀ {l : List C} {us : Array Value}, Rcs w I ι st.var st.arr l us → (∀ c ∈ l, defd c = true) → ∀ v ∈ us.toList, flat v = true := by
    intro l us hr hd v hv
    obtain ⟨j, hj⟩ := List.mem_iff_getElem?.mp hv
    have hlt : j < l.length := by
      have : j < us.toList.length := by
        rcases Nat.lt_or_ge j us.toList.length with h | h
        · exact h
        · rw [List.getElem?_eq_none h] at hj; cases hj
      rw [Array.length_toList, hr.1] at this
      exact this
    obtain ⟨y, hy, hc⟩ := hr.2 j _ (List.getElem?_eq_getElem hlt)
    have : us[j]? = some v := by simpa using hj
    rw [this] at hy
    injection hy with hy
    subst hy
    exact hc.flat (hd _ (List.getElem_mem hlt))
  cases x with
  | c y =>
    simp only [cellsS] at hl
    cases hd : defd y with
    | false => rw [hd] at hl; simp at hl
    | true =>
      rw [hd] at hl
      simp only [cond_true, Option.some.injEq] at hl
      subst hl
      have hf : flat u = true := Rc.flat (x := y) h hd
      have hu : u.cells = #[u] := by cases u <;> first | rfl | simp [flat, Value.oneCell'] at hf
      have hr : Rcs w I ι st.var st.arr [y] u.cells := by
        rw [hu]
        refine ⟨rfl, fun j x hx => ?_⟩
        cases j with
        | zero => simp at hx; subst hx; exact ⟨u, rfl, h⟩
        | succ j => simp at hx
      have hd' : ∀ c ∈ [y], defd c = true := fun c hc => by simp at hc; subst hc; exact hd
      exact ⟨hr, hd', fl hr hd'⟩
  | agg cs =>
    simp only [cellsS] at hl
    cases hd : cs.all defd with
    | false => rw [hd] at hl; simp at hl
    | true =>
      rw [hd] at hl
      simp only [cond_true, Option.some.injEq] at hl
      subst hl
      obtain ⟨us, rfl, hc⟩ := h
      have hd' := List.all_eq_true.mp hd
      exact ⟨hc, hd', fl hc hd'⟩
  | tup ss => simp [cellsS] at hl
  | sp x => simp [cellsS] at hl

theorem opndL_ok {x : Operand} {o : Out (List C)} (h : opndL x st = some o) (hr : RelI X I ι st a.tmps w) :
    o.st = st ∧ Rcs w I ι st.var st.arr o.val (a.eval x).cells ∧ (∀ c ∈ o.val, defd c = true) ∧ (∀ v ∈ (a.eval x).cells.toList, flat v = true) := by
  obtain ⟨o1, o2, h1, h2, rfl⟩ := bind_some h
  obtain ⟨hs, hd, hv⟩ := opnd_ok h1 hr
  obtain ⟨e3, e4⟩ := ofO_inv h2
  exact ⟨e4.trans hs, cellsS_ok e3 hv⟩

theorem retag1_ok {s : Nat} {x : C} {u : Value} {va : VA} {ar : AR} (h : Rc w I ι va ar x u) : Rc w I ι va ar (retag1 s x) u := by
  unfold retag1
  split
  · have h' : Rimm w I (.v (.slice none 0 0)) u := h
    cases h'
    exact Rimm.nil _
  · exact h
theorem retag_ok {T : Tab} {t : TypeId} {x : S} {u : Value} {va : VA} {ar : AR} (h : Rs w I ι va ar x u) : Rs w I ι va ar (retag T t x) u := by
  unfold retag
  split
  · split
    · split
      · exact retag1_ok h
      · exact h
    · exact h
  · exact h
theorem retagL_ok {us : Array Value} {va : VA} {ar : AR} {z l : List C} (h : Rcs w I ι va ar l us) : Rcs w I ι va ar (retagL z l) us := by
  obtain ⟨h1, h2⟩ := h
  have key : ∀ (z l : List C) (k : Nat), (∀ j x, l[j]? = some x → ∃ y, us[k + j]? = some y ∧ Rc w I ι va ar x y) → (retagL z l).length = l.length ∧ ∀ j x, (retagL z l)[j]? = some x → ∃ y, us[k + j]? = some y ∧ Rc w I ι va ar x y := by
    intro z
    induction z with
    | nil => intro l k h; exact ⟨by simp [retagL], by simpa [retagL] using h⟩
    | cons z0 z ih =>
      intro l k h
      cases l with
      | nil => exact ⟨by simp [retagL], by simp [retagL]; try exact h⟩
      | cons c l =>
        have ih' := ih l (k + 1) (fun j x hx => by
          have := h (j + 1) x (by simpa using hx)
          rwa [show k + (j + 1) = k + 1 + j by omega] at this)
        have hc := h 0 c rfl
        have fin : ∀ c', Rc w I ι va ar c' (us.getD k undef) → (∃ y, us[k]? = some y) → ((c' :: retagL z l).length = (c :: l).length ∧ ∀ j x, (c' :: retagL z l)[j]? = some x → ∃ y, us[k + j]? = some y ∧ Rc w I ι va ar x y) := by
          intro c' hc' hy
          refine ⟨by simp [ih'.1], fun j x hx => ?_⟩
          cases j with
          | zero =>
            simp at hx; subst hx
            obtain ⟨y, hy⟩ := hy
            exact ⟨y, hy, by simpa [hy] using hc'⟩
          | succ j =>
            have := ih'.2 j x (by simpa using hx)
            rwa [show k + 1 + j = k + (j + 1) by omega] at this
        obtain ⟨y, hy, hcy⟩ := hc
        have hy' : us[k]? = some y := by simpa using hy
        have hcy' : Rc w I ι va ar c (us.getD k undef) := by simpa [hy'] using hcy
        unfold retagL
        split
        · rename_i heq1 heq2
          injection heq1 with e1 e2
          injection heq2 with e3 e4
          subst e1 e2 e3 e4
          refine fin _ ?_ ⟨y, hy'⟩
          have h' : Rimm w I (.v (.slice none 0 0)) (us.getD k undef) := hcy'
          cases hh : us.getD k undef <;> rw [hh] at h' <;> cases h'
          exact Rimm.nil _
        · rename_i heq1 heq2
          injection heq1 with e1 e2
          injection heq2 with e3 e4
          subst e2 e3 e4
          exact fin _ hcy' ⟨y, hy'⟩
        · rename_i hn1 hn2
          exact absurd rfl (hn2 _ _ _ _ rfl)
  have := key z l 0 (by simpa using h2)
  exact ⟨by rw [this.1]; exact h1, by simpa using this.2⟩

theorem Rcs.imm {l : List C} {us : Array Value} {va : VA} {ar : AR} (h : Rcs w I ι va ar l us) (hi : ∀ c ∈ l, immB c = true) : ∀ (j : Nat) x, l[j]? = some x → ∃ y, us[j]? = some y ∧ Rimm w I x y := by
  intro j x hx
  obtain ⟨y, hy, hr⟩ := h.2 j x hx
  have := hi x (List.mem_of_getElem? hx)
  refine ⟨y, hy, ?_⟩
  cases x <;> first | exact hr | simp [immB] at this
end

end Go.Ev
namespace Go.Ev
open Go Go.RowKit
set_option linter.unusedVariables false

section
variable {X : Ctx} {I I' : Nat → Prop} {ι ι' : Im} {st st' : St} {tm : Array Value} {w w' : World}

theorem VarOk.keep {va va' : VA} {ar ar' : AR} {m : Name} {cs : List C} {b : Nat} {f : Nat → Value} (h : VarOk X w I ι va ar m cs b f) (E : Ext w I ι va ar w' I' ι' va' ar') (hv : va m = some cs) (hs : w.heap.size ≤ w'.heap.size)
    (hb : w'.heap[b]? = w.heap[b]?) (hn : ¬ I' b) : VarOk X w' I' ι' va' ar' m cs b f :=
  ⟨(E.hv m (by rw [hv]; simp)).2.trans h.at_, Nat.lt_of_lt_of_le h.lt hs, hn, h.mine, fun j x hx =>
    ⟨(World.cell?_of_block hb).trans (h.cell j x hx).1, (World.frozen?_of_block hb).trans (h.cell j x hx).2.1, (h.cell j x hx).2.2.ext E⟩⟩

theorem RowOk.keep {A : Arr} {b cap : Nat} {f : Nat → Nat → Value} (h : RowOk w I A b cap f) (hw : ∀ b, I b → w'.heap[b]? = w.heap[b]?) (hI : ∀ b, I b → I' b) (hs : w.heap.size ≤ w'.heap.size) (hb : w'.heap[b]? = w.heap[b]?) : RowOk w' I' A b cap f :=
  ⟨Nat.lt_of_lt_of_le h.lt hs, h.pos, h.fit, h.max, fun o ho => by rw [World.cell?_of_block hb, World.frozen?_of_block hb]; exact h.there o ho, h.len,
    fun i j x hi hx => (World.cell?_of_block hb).trans (h.cell i j x hi hx), fun i j x hi hx => (h.rel i j x hi hx).mono hw hI⟩

/-- The relation anew: what has not turned is kept, what has is told. -/
theorem RelI.upd (h : RelI X I ι st tm w) (E : Ext w I ι st.var st.arr w' I' ι' st'.var st'.arr) (hn : st'.nt = st.nt) (hsl : ∀ i, st'.slot i = st.slot i) (hs : w.heap.size ≤ w'.heap.size) (hF : Fr X.B X.ext X.w0 w')
    (hvars : ∀ m cs, st'.var m = some cs → (st.var m = some cs ∧ ∀ b, ι.v m = some b → w'.heap[b]? = w.heap[b]? ∧ ¬ I' b) ∨ ∃ b f, VarOk X w' I' ι' st'.var st'.arr m cs b f)
    (harrs : ∀ m A, st'.arr m = some (some A) → (st.arr m = some (some A) ∧ ι'.a m = ι.a m ∧ ∀ b c, ι.a m = some (b, c) → w'.heap[b]? = w.heap[b]? ∧ (A.frozen = false → ¬ I' b)) ∨ ArrOk X w' I' A (ι'.a m))
    (hI : ∀ b, I' b → b < w'.heap.size ∧ (X.I0 b ∨ X.mine b))
    (vv : ∀ m m' b, st'.var m ≠ none → st'.var m' ≠ none → ι'.v m = some b → ι'.v m' = some b → m = m')
    (va : ∀ m m' A b c, st'.var m ≠ none → st'.arr m' = some (some A) → ι'.v m = some b → ι'.a m' = some (b, c) → False)
    (aa : ∀ m m' A A' b c c', st'.arr m = some (some A) → st'.arr m' = some (some A') → ι'.a m = some (b, c) → ι'.a m' = some (b, c') → m = m') :
    RelI X I' ι' st' tm w' := by
  refine ⟨by rw [hn]; exact h.size, fun i => by rw [hsl]; exact (h.slots i).ext E, ?_, ?_, hI, vv, va, aa, hF, fun m b hp => ⟨(h.pin m b hp).1, (E.hv m (h.pin m b hp).2.1).1, (E.hv m (h.pin m b hp).2.1).2.trans (h.pin m b hp).2.2⟩⟩
  · intro m cs hm
    rcases hvars m cs hm with ⟨hv, hb⟩ | hv
    · obtain ⟨b, f, hok⟩ := h.vars m cs hv
      obtain ⟨h1, h2⟩ := hb b hok.at_
      exact ⟨b, f, hok.keep E hv hs h1 h2⟩
    · exact hv
  · intro m A hm
    rcases harrs m A hm with ⟨ha, hi, hb⟩ | ha
    · have hok := h.arrs m A ha
      rw [hi]
      unfold ArrOk at hok ⊢
      split at hok
      · exact hok
      · rename_i b cap hp
        obtain ⟨⟨f, hr⟩, hz⟩ := hok
        obtain ⟨h1, h2⟩ := hb b cap hp
        refine ⟨⟨f, hr.keep E.hw E.hI hs h1⟩, ?_⟩
        cases hf : A.frozen with
        | true => rw [hf] at hz; simp only [if_true] at hz ⊢; exact E.hI b hz
        | false => rw [hf] at hz; simp only [if_false, Bool.false_eq_true] at hz ⊢; exact ⟨h2 hf, hz.2⟩
    · exact ha

theorem upd_same {α : Type} {f : Name → α} {m : Name} {x : α} : (fun k => if k = m then x else f k) m = x := by simp

/-- A new variable. -/
theorem RelI.newV (h : RelI X I ι st tm w) {m : Name} (hm : st.var m = none) {l : List C} {us : Array Value} (hl : Rcs w I ι st.var st.arr l us) (T : TypeId) :
    ∃ ι', RelI X I ι' { st with vars := (m, l) :: st.vars } tm (w.alloc (.cells us T)) ∧ Ext w I ι st.var st.arr (w.alloc (.cells us T)) I ι' ({ st with vars := (m, l) :: st.vars } : St).var st.arr ∧ ι'.v m = some w.heap.size := by
  let ι' : Im := ⟨fun k => if k = m then some w.heap.size else ι.v k, ι.a⟩
  have hva : ∀ k, ({ st with vars := (m, l) :: st.vars } : St).var k = if k = m then some l else st.var k := var_cons st m l
  have hold : ∀ b, b < w.heap.size → (w.alloc (.cells us T)).heap[b]? = w.heap[b]? := fun b hb => heap_alloc w _ b hb
  have E : Ext w I ι st.var st.arr (w.alloc (.cells us T)) I ι' ({ st with vars := (m, l) :: st.vars } : St).var st.arr := by
    refine ⟨fun b hb => hold b (h.inI b hb).1, fun _ hb => hb, fun k hk => ?_, fun _ hk => hk, fun k A hA => .inr ⟨A, hA, rfl, rfl, rfl⟩⟩
    have hne : k ≠ m := fun e => hk (e ▸ hm)
    exact ⟨by rw [hva, if_neg hne]; exact hk, by simp [ι', hne]⟩
  have hlt : ∀ k b, st.var k ≠ none → ι.v k = some b → b < w.heap.size := by
    intro k b hk hb
    cases hc : st.var k with
    | none => exact absurd hc hk
    | some cs =>
      obtain ⟨b', f, hok⟩ := h.vars k cs hc
      rw [hok.at_] at hb; injection hb with hb; subst hb; exact hok.lt
  have hlta : ∀ k A b c, st.arr k = some (some A) → ι.a k = some (b, c) → b < w.heap.size := by
    intro k A b c hk hb
    have := h.arrs k A hk
    rw [hb] at this
    exact this.1.choose_spec.lt
  refine ⟨ι', ?_, E, by simp [ι']⟩
  have hFr : Fr X.B X.ext X.w0 (w.alloc (.cells us T)) := h.fr.step rfl rfl rfl (by simp) (fun k hk _ => hold k (Nat.lt_of_lt_of_le hk h.fr.size))
  refine h.upd E rfl (fun _ => rfl) (by simp) hFr ?_ ?_ (fun b hb => ⟨by have := (h.inI b hb).1; simp; omega, (h.inI b hb).2⟩) ?_ ?_ ?_
  · intro k cs hk
    rw [hva] at hk
    by_cases e : k = m
    · subst e
      rw [if_pos rfl] at hk
      injection hk with hk
      subst hk
      refine .inr ⟨w.heap.size, fun j => us.getD j undef, by simp [ι'], by simp, fun hb => absurd (h.inI _ hb).1 (by omega), .inl h.fr.size, fun j x hx => ?_⟩
      obtain ⟨y, hy, hc⟩ := hl.2 j x hx
      refine ⟨by simp [hy], World.frozen?_alloc_new _ _ _ _, ?_⟩
      have : us.getD j undef = y := by simp [hy]
      rw [this]; exact hc.ext E
    · rw [if_neg e] at hk
      refine .inl ⟨hk, fun b hb => ?_⟩
      obtain ⟨b', f, hok⟩ := h.vars k cs hk
      rw [hok.at_] at hb; injection hb with hb; subst hb
      exact ⟨hold b' hok.lt, hok.notI⟩
  · intro k A hA
    refine .inl ⟨hA, rfl, fun b c hb => ⟨hold b (hlta k A b c hA hb), fun hf => ?_⟩⟩
    have := h.arrs k A hA
    rw [hb] at this
    have := this.2
    rw [hf] at this
    exact this.1
  · intro k k' b hk hk' hb hb'
    rw [hva] at hk hk'
    simp only [ι'] at hb hb'
    by_cases e : k = m <;> by_cases e' : k' = m
    · rw [e, e']
    · rw [if_pos e] at hb; rw [if_neg e'] at hb' hk'
      injection hb with hb; subst hb
      exact absurd (hlt k' _ hk' hb') (by omega)
    · rw [if_neg e] at hb hk; rw [if_pos e'] at hb'
      injection hb' with hb'; subst hb'
      exact absurd (hlt k _ hk hb) (by omega)
    · rw [if_neg e] at hb hk; rw [if_neg e'] at hb' hk'
      exact h.vv k k' b hk hk' hb hb'
  · intro k k' A b c hk hA hb hb'
    rw [hva] at hk
    simp only [ι'] at hb hb'
    by_cases e : k = m
    · rw [if_pos e] at hb
      injection hb with hb; subst hb
      exact absurd (hlta k' A _ c hA hb') (by omega)
    · rw [if_neg e] at hb hk
      exact h.va k k' A b c hk hA hb hb'
  · exact h.aa

/-- A new array, in a new block. -/
theorem RelI.newA (h : RelI X I ι st tm w) {m : Name} (hm : st.arr m = none) {s n cap : Nat} {g : Nat → List C} {us : Array Value} (T : TypeId) (hs : 0 < s) (hn : n ≤ cap) (hcap : cap ≤ maxLen) (husz : us.size = cap * s)
    (hlen : ∀ i, i < n → (g i).length = s) (hc : ∀ (i j : Nat) x, i < n → (g i)[j]? = some x → ∃ u, us[i * s + j]? = some u ∧ Rimm w I x u) :
    ∃ ι', RelI X I ι' { st with arrs := (m, some ⟨false, s, n, g⟩) :: st.arrs } tm (w.alloc (.cells us T)) ∧ Ext w I ι st.var st.arr (w.alloc (.cells us T)) I ι' st.var ({ st with arrs := (m, some ⟨false, s, n, g⟩) :: st.arrs } : St).arr ∧
      ι'.a m = some (w.heap.size, cap) := by
  let ι' : Im := ⟨ι.v, fun k => if k = m then some (w.heap.size, cap) else ι.a k⟩
  have har : ∀ k, ({ st with arrs := (m, some ⟨false, s, n, g⟩) :: st.arrs } : St).arr k = if k = m then some (some ⟨false, s, n, g⟩) else st.arr k := arr_cons st m _
  have hold : ∀ b, b < w.heap.size → (w.alloc (.cells us T)).heap[b]? = w.heap[b]? := fun b hb => heap_alloc w _ b hb
  have E : Ext w I ι st.var st.arr (w.alloc (.cells us T)) I ι' st.var ({ st with arrs := (m, some ⟨false, s, n, g⟩) :: st.arrs } : St).arr := by
    refine ⟨fun b hb => hold b (h.inI b hb).1, fun _ hb => hb, fun k hk => ⟨hk, rfl⟩, fun k hk => ?_, fun k A hA => .inr ⟨A, ?_, rfl, rfl, ?_⟩⟩
    · rw [har, if_neg (fun e => by rw [e, hm] at hk; cases hk)]; exact hk
    · rw [har, if_neg (fun e => by rw [e, hm] at hA; cases hA)]; exact hA
    · have : k ≠ m := fun e => by rw [e, hm] at hA; cases hA
      simp [ι', this]
  have hlt : ∀ k b, st.var k ≠ none → ι.v k = some b → b < w.heap.size := by
    intro k b hk hb
    cases hc : st.var k with
    | none => exact absurd hc hk
    | some cs =>
      obtain ⟨b', f, hok⟩ := h.vars k cs hc
      rw [hok.at_] at hb; injection hb with hb; subst hb; exact hok.lt
  have hlta : ∀ k A b c, st.arr k = some (some A) → ι.a k = some (b, c) → b < w.heap.size := by
    intro k A b c hk hb
    have := h.arrs k A hk
    rw [hb] at this
    exact this.1.choose_spec.lt
  refine ⟨ι', ?_, E, by simp [ι']⟩
  have hFr : Fr X.B X.ext X.w0 (w.alloc (.cells us T)) := h.fr.step rfl rfl rfl (by simp) (fun k hk _ => hold k (Nat.lt_of_lt_of_le hk h.fr.size))
  refine h.upd E rfl (fun _ => rfl) (by simp) hFr ?_ ?_ (fun b hb => ⟨by have := (h.inI b hb).1; simp; omega, (h.inI b hb).2⟩) ?_ ?_ ?_
  · intro k cs hk
    refine .inl ⟨hk, fun b hb => ?_⟩
    obtain ⟨b', f, hok⟩ := h.vars k cs hk
    rw [hok.at_] at hb; injection hb with hb; subst hb
    exact ⟨hold b' hok.lt, hok.notI⟩
  · intro k A hA
    rw [har] at hA
    by_cases e : k = m
    · subst e
      rw [if_pos rfl] at hA
      injection hA with hA
      injection hA with hA
      subst hA
      refine .inr ?_
      simp only [ι', if_pos, ArrOk, Bool.false_eq_true, if_false]
      refine ⟨⟨fun i j => us.getD (i * s + j) undef, by simp, hs, hn, hcap, ?_, hlen, ?_, ?_⟩, fun hb => absurd (h.inI _ hb).1 (by omega), .inl h.fr.size⟩
      · intro o ho
        refine ⟨?_, World.frozen?_alloc_new _ _ _ _⟩
        have : o < us.size := by rw [husz]; exact ho
        simp [this]
      · intro i j x hi hx
        obtain ⟨u, hu, _⟩ := hc i j x hi hx
        show (w.alloc (.cells us T)).cell? _ = some (us.getD (i * s + j) undef)
        rw [World.cell?_alloc_new, hu]; simp [hu]
      · intro i j x hi hx
        obtain ⟨u, hu, hr⟩ := hc i j x hi hx
        have : us.getD (i * s + j) undef = u := by simp [hu]
        show Rimm _ I x (us.getD (i * s + j) undef)
        rw [this]; exact hr.mono E.hw E.hI
    · rw [if_neg e] at hA
      refine .inl ⟨hA, by simp [ι', e], fun b c hb => ⟨hold b (hlta k A b c hA hb), fun hf => ?_⟩⟩
      have := h.arrs k A hA
      rw [hb] at this
      have := this.2
      rw [hf] at this
      exact this.1
  · exact h.vv
  · intro k k' A b c hk hA hb hb'
    rw [har] at hA
    simp only [ι'] at hb hb'
    by_cases e : k' = m
    · rw [if_pos e] at hb'
      injection hb' with hb'; injection hb' with hb' _; subst hb'
      exact absurd (hlt k _ hk hb) (by omega)
    · rw [if_neg e] at hA hb'
      exact h.va k k' A b c hk hA hb hb'
  · intro k k' A A' b c c' hk hk' hb hb'
    rw [har] at hk hk'
    simp only [ι'] at hb hb'
    by_cases e : k = m <;> by_cases e' : k' = m
    · rw [e, e']
    · rw [if_pos e] at hb; rw [if_neg e'] at hb' hk'
      injection hb with hb; injection hb with hb _; subst hb
      exact absurd (hlta k' A' _ c' hk' hb') (by omega)
    · rw [if_neg e] at hb hk; rw [if_pos e'] at hb'
      injection hb' with hb'; injection hb' with hb' _; subst hb'
      exact absurd (hlta k A _ c hk hb) (by omega)
    · rw [if_neg e] at hb hk; rw [if_neg e'] at hb' hk'
      exact h.aa k k' A A' b c c' hk hk' hb hb'

/-- A new array without elements: nowhere. -/
theorem RelI.newA0' (h : RelI X I ι st tm w) {m : Name} (hm : st.arr m = none) (s : Nat) (g : Nat → List C) :
    ∃ ι', RelI X I ι' { st with arrs := (m, some ⟨false, s, 0, g⟩) :: st.arrs } tm w ∧ Ext w I ι st.var st.arr w I ι' st.var ({ st with arrs := (m, some ⟨false, s, 0, g⟩) :: st.arrs } : St).arr ∧ (ι'.a m = none ∧ ι'.v = ι.v ∧ ∀ k, k ≠ m → ι'.a k = ι.a k) := by
  let ι' : Im := ⟨ι.v, fun k => if k = m then none else ι.a k⟩
  have har : ∀ k, ({ st with arrs := (m, some ⟨false, s, 0, g⟩) :: st.arrs } : St).arr k = if k = m then some (some ⟨false, s, 0, g⟩) else st.arr k := arr_cons st m _
  have E : Ext w I ι st.var st.arr w I ι' st.var ({ st with arrs := (m, some ⟨false, s, 0, g⟩) :: st.arrs } : St).arr := by
    refine ⟨fun b hb => rfl, fun _ hb => hb, fun k hk => ⟨hk, rfl⟩, fun k hk => ?_, fun k A hA => .inr ⟨A, ?_, rfl, rfl, ?_⟩⟩
    · rw [har, if_neg (fun e => by rw [e, hm] at hk; cases hk)]; exact hk
    · rw [har, if_neg (fun e => by rw [e, hm] at hA; cases hA)]; exact hA
    · have : k ≠ m := fun e => by rw [e, hm] at hA; cases hA
      simp [ι', this]
  refine ⟨ι', ?_, E, by simp [ι'], rfl, fun k hk => by simp [ι', hk]⟩
  refine h.upd E rfl (fun _ => rfl) (Nat.le_refl _) h.fr ?_ ?_ h.inI h.vv ?_ ?_
  · intro k cs hk
    refine .inl ⟨hk, fun b hb => ?_⟩
    obtain ⟨b', f, hok⟩ := h.vars k cs hk
    rw [hok.at_] at hb; injection hb with hb; subst hb
    exact ⟨rfl, hok.notI⟩
  · intro k A hA
    rw [har] at hA
    by_cases e : k = m
    · subst e
      rw [if_pos rfl] at hA
      injection hA with hA
      injection hA with hA
      subst hA
      refine .inr ?_
      simp [ι', ArrOk]
    · rw [if_neg e] at hA
      refine .inl ⟨hA, by simp [ι', e], fun b c hb => ⟨rfl, fun hf => ?_⟩⟩
      have := h.arrs k A hA
      rw [hb] at this
      have := this.2
      rw [hf] at this
      exact this.1
  · intro k k' A b c hk hA hb hb'
    rw [har] at hA
    simp only [ι'] at hb hb'
    by_cases e : k' = m
    · rw [if_pos e] at hb'; cases hb'
    · rw [if_neg e] at hA hb'
      exact h.va k k' A b c hk hA hb hb'
  · intro k k' A A' b c c' hk hk' hb hb'
    rw [har] at hk hk'
    simp only [ι'] at hb hb'
    by_cases e : k = m
    · rw [if_pos e] at hb; cases hb
    · by_cases e' : k' = m
      · rw [if_pos e'] at hb'; cases hb'
      · rw [if_neg e] at hb hk; rw [if_neg e'] at hb' hk'
        exact h.aa k k' A A' b c c' hk hk' hb hb'

theorem RelI.newA0 (h : RelI X I ι st tm w) {m : Name} (hm : st.arr m = none) (s : Nat) (g : Nat → List C) :
    ∃ ι', RelI X I ι' { st with arrs := (m, some ⟨false, s, 0, g⟩) :: st.arrs } tm w ∧ Ext w I ι st.var st.arr w I ι' st.var ({ st with arrs := (m, some ⟨false, s, 0, g⟩) :: st.arrs } : St).arr ∧ ι'.a m = none :=
  let ⟨ι', a, b, c⟩ := h.newA0' hm s g; ⟨ι', a, b, c.1⟩

/-- An array is given away (or used up): nothing is told of it any more. -/
theorem RelI.kill (h : RelI X I ι st tm w) {m : Name} {A : Arr} (hm : st.arr m = some (some A)) :
    RelI X I ι { st with arrs := (m, none) :: st.arrs } tm w ∧ Ext w I ι st.var st.arr w I ι st.var ({ st with arrs := (m, none) :: st.arrs } : St).arr := by
  have har : ∀ k, ({ st with arrs := (m, none) :: st.arrs } : St).arr k = if k = m then some none else st.arr k := arr_cons st m _
  have E : Ext w I ι st.var st.arr w I ι st.var ({ st with arrs := (m, none) :: st.arrs } : St).arr := by
    refine ⟨fun b hb => rfl, fun _ hb => hb, fun k hk => ⟨hk, rfl⟩, fun k hk => ?_, fun k A hA => ?_⟩
    · rw [har]; split
      · rfl
      · exact hk
    · rw [har]
      by_cases e : k = m
      · exact .inl (by rw [if_pos e])
      · exact .inr ⟨A, by rw [if_neg e]; exact hA, rfl, rfl, rfl⟩
  have old : ∀ k A, ({ st with arrs := (m, none) :: st.arrs } : St).arr k = some (some A) → st.arr k = some (some A) := by
    intro k A hA
    rw [har] at hA
    split at hA
    · cases hA
    · exact hA
  refine ⟨?_, E⟩
  refine h.upd E rfl (fun _ => rfl) (Nat.le_refl _) h.fr ?_ ?_ h.inI h.vv (fun k k' A b c hk hA => h.va k k' A b c hk (old _ _ hA)) (fun k k' A A' b c c' hk hk' => h.aa k k' A A' b c c' (old _ _ hk) (old _ _ hk'))
  · intro k cs hk
    refine .inl ⟨hk, fun b hb => ?_⟩
    obtain ⟨b', f, hok⟩ := h.vars k cs hk
    rw [hok.at_] at hb; injection hb with hb; subst hb
    exact ⟨rfl, hok.notI⟩
  · intro k A hA
    refine .inl ⟨old _ _ hA, rfl, fun b c hb => ⟨rfl, fun hf => ?_⟩⟩
    have := h.arrs k A (old _ _ hA)
    rw [hb] at this
    have := this.2
    rw [hf] at this
    exact this.1

/-- An array is not written any more: what it holds may be read by anybody. -/
theorem RelI.freeze' (h : RelI X I ι st tm w) {m : Name} {A : Arr} (hm : st.arr m = some (some A)) :
    ∃ I', RelI X I' ι { st with arrs := (m, some { A with frozen := true }) :: st.arrs } tm w ∧ Ext w I ι st.var st.arr w I' ι st.var ({ st with arrs := (m, some { A with frozen := true }) :: st.arrs } : St).arr ∧
      (∀ b c, ι.a m = some (b, c) → I' b) ∧ (∀ b, I' b → I b ∨ ∃ c, ι.a m = some (b, c)) := by
  have har : ∀ k, ({ st with arrs := (m, some { A with frozen := true }) :: st.arrs } : St).arr k = if k = m then some (some { A with frozen := true }) else st.arr k := arr_cons st m _
  let I' : Nat → Prop := fun b => I b ∨ ∃ c, ι.a m = some (b, c)
  have E : Ext w I ι st.var st.arr w I' ι st.var ({ st with arrs := (m, some { A with frozen := true }) :: st.arrs } : St).arr := by
    refine ⟨fun b hb => rfl, fun _ hb => .inl hb, fun k hk => ⟨hk, rfl⟩, fun k hk => ?_, fun k B hB => ?_⟩
    · rw [har, if_neg (fun e => by rw [e, hm] at hk; cases hk)]; exact hk
    · rw [har]
      by_cases e : k = m
      · subst e
        rw [hm] at hB; injection hB with hB; injection hB with hB; subst hB
        exact .inr ⟨{ A with frozen := true }, by rw [if_pos rfl], rfl, rfl, rfl⟩
      · exact .inr ⟨B, by rw [if_neg e]; exact hB, rfl, rfl, rfl⟩
  have old : ∀ k B, ({ st with arrs := (m, some { A with frozen := true }) :: st.arrs } : St).arr k = some (some B) → ∃ B', st.arr k = some (some B') := by
    intro k B hB
    rw [har] at hB
    by_cases e : k = m
    · exact ⟨A, by rw [e]; exact hm⟩
    · rw [if_neg e] at hB; exact ⟨B, hB⟩
  have hmine : ∀ b c, ι.a m = some (b, c) → b < w.heap.size ∧ (X.I0 b ∨ X.mine b) := by
    intro b c hb
    have := h.arrs m A hm
    rw [hb] at this
    obtain ⟨⟨f, hr⟩, hz⟩ := this
    cases hf : A.frozen with
    | true => rw [hf] at hz; exact h.inI b hz
    | false => rw [hf] at hz; exact ⟨hr.lt, .inr hz.2⟩
  refine ⟨I', ?_, E, fun b c hb => .inr ⟨c, hb⟩, fun b hb => hb⟩
  refine h.upd E rfl (fun _ => rfl) (Nat.le_refl _) h.fr ?_ ?_ ?_ h.vv ?_ ?_
  · intro k cs hk
    refine .inl ⟨hk, fun b hb => ?_⟩
    obtain ⟨b', f, hok⟩ := h.vars k cs hk
    rw [hok.at_] at hb; injection hb with hb; subst hb
    refine ⟨rfl, fun hI => ?_⟩
    rcases hI with hI | ⟨c, hc⟩
    · exact hok.notI hI
    · exact h.va k m A b' c (by show st.var k ≠ none; rw [show st.var k = some cs from hk]; simp) hm hok.at_ hc
  · intro k B hB
    rw [har] at hB
    by_cases e : k = m
    · subst e
      rw [if_pos rfl] at hB
      injection hB with hB; injection hB with hB; subst hB
      refine .inr ?_
      have := h.arrs k A hm
      unfold ArrOk at this ⊢
      split at this
      · exact this
      · rename_i b cap hp
        obtain ⟨⟨f, hr⟩, hz⟩ := this
        have hr' := hr.keep (w' := w) (I' := I') (fun _ _ => rfl) (fun _ hb => .inl hb) (Nat.le_refl _) rfl
        refine ⟨⟨f, hr'.lt, hr'.pos, hr'.fit, hr'.max, hr'.there, hr'.len, hr'.cell, hr'.rel⟩, ?_⟩
        simp only [if_true]
        exact .inr ⟨cap, hp⟩
    · rw [if_neg e] at hB
      refine .inl ⟨hB, rfl, fun b c hb => ⟨rfl, fun hf hI => ?_⟩⟩
      have := h.arrs k B hB
      rw [hb] at this
      have := this.2
      rw [hf] at this
      rcases hI with hI | ⟨c', hc'⟩
      · exact this.1 hI
      · exact e (h.aa k m B A b c c' hB hm hb hc')
  · intro b hb
    rcases hb with hb | ⟨c, hc⟩
    · exact h.inI b hb
    · exact hmine b c hc
  · intro k k' B b c hk hB hb hb'
    obtain ⟨B', hB'⟩ := old k' B hB
    exact h.va k k' B' b c hk hB' hb hb'
  · intro k k' B B' b c c' hk hk' hb hb'
    obtain ⟨D, hD⟩ := old k B hk
    obtain ⟨D', hD'⟩ := old k' B' hk'
    exact h.aa k k' D D' b c c' hD hD' hb hb'

theorem RelI.freeze (h : RelI X I ι st tm w) {m : Name} {A : Arr} (hm : st.arr m = some (some A)) :
    ∃ I', RelI X I' ι { st with arrs := (m, some { A with frozen := true }) :: st.arrs } tm w ∧ Ext w I ι st.var st.arr w I' ι st.var ({ st with arrs := (m, some { A with frozen := true }) :: st.arrs } : St).arr ∧
      (∀ b c, ι.a m = some (b, c) → I' b) :=
  let ⟨I', a, b, c, _⟩ := h.freeze' hm; ⟨I', a, b, c⟩

/-- Cells of a variable are written. -/
theorem setL_get (l : List C) : ∀ (vs : List C) (o : Nat), o + vs.length ≤ l.length → ∀ j, (setL l o vs)[j]? = if o ≤ j ∧ j < o + vs.length then vs[j - o]? else l[j]? := by
  intro vs
  induction vs generalizing l with
  | nil => intro o _ j; simp [setL]; omega
  | cons v vs ih =>
    intro o ho j
    rw [setL, ih (l.set o v) (o + 1) (by simp at ho ⊢; omega) j]
    by_cases h1 : o + 1 ≤ j ∧ j < o + 1 + vs.length
    · rw [if_pos h1, if_pos (by simp; omega), show j - o = (j - (o + 1)) + 1 by omega]; simp
    · rw [if_neg h1]
      by_cases h2 : j = o
      · subst h2
        rw [if_pos (by simp)]
        simp at ho
        simp [show j < l.length by omega]
      · rw [if_neg (by simp; omega), List.getElem?_set_ne (Ne.symm h2)]
theorem setL_length (l : List C) : ∀ (vs : List C) (o : Nat), (setL l o vs).length = l.length := by
  intro vs
  induction vs generalizing l with
  | nil => intro o; rfl
  | cons v vs ih => intro o; rw [setL, ih]; simp

theorem RelI.setV (h : RelI X I ι st tm w) {m : Name} {cs : List C} (hm : st.var m = some cs) {b : Nat} (hb : ι.v m = some b) {o : Nat} {l : List C} {us : Array Value} (hl : Rcs w I ι st.var st.arr l us) (hd : ∀ c ∈ l, defd c = true) (hfit : o + l.length ≤ cs.length) :
    RelI X I ι { st with vars := (m, setL cs o l) :: st.vars } tm (w.setCells b o us.toList) ∧ Ext w I ι st.var st.arr (w.setCells b o us.toList) I ι ({ st with vars := (m, setL cs o l) :: st.vars } : St).var st.arr ∧
      (∀ j, j < us.toList.length → (w.cell? ⟨b, o + j, none⟩).isSome = true) ∧ (∀ j, j < us.toList.length → w.frozen? ⟨b, o + j, none⟩ = false) := by
  have hva : ∀ k, ({ st with vars := (m, setL cs o l) :: st.vars } : St).var k = if k = m then some (setL cs o l) else st.var k := var_cons st m _
  obtain ⟨b', f, hok⟩ := h.vars m cs hm
  rw [hok.at_] at hb; injection hb with hb; subst hb
  have hoth : ∀ k, k ≠ b' → (w.setCells b' o us.toList).heap[k]? = w.heap[k]? := fun k hk => heap_setCells b' _ o w k hk
  have hsz : (w.setCells b' o us.toList).heap.size = w.heap.size := size_setCells b' _ o w
  have hos := os_setCells b' us.toList o w
  have E : Ext w I ι st.var st.arr (w.setCells b' o us.toList) I ι ({ st with vars := (m, setL cs o l) :: st.vars } : St).var st.arr := by
    refine ⟨fun k hk => hoth k (fun e => hok.notI (e ▸ hk)), fun _ hk => hk, fun k hk => ⟨?_, rfl⟩, fun _ hk => hk, fun k A hA => .inr ⟨A, hA, rfl, rfl, rfl⟩⟩
    rw [hva]; split
    · simp
    · exact hk
  have hlen : us.toList.length = l.length := by rw [Array.length_toList]; exact hl.1
  have hin : ∀ j, j < us.toList.length → (w.cell? ⟨b', o + j, none⟩).isSome = true ∧ w.frozen? ⟨b', o + j, none⟩ = false := by
    intro j hj
    have hlt : o + j < cs.length := by omega
    obtain ⟨h1, h2, _⟩ := hok.cell (o + j) _ (List.getElem?_eq_getElem hlt)
    exact ⟨by rw [h1]; rfl, h2⟩
  have ne_none : ∀ k, ({ st with vars := (m, setL cs o l) :: st.vars } : St).var k ≠ none → st.var k ≠ none := by
    intro k hk
    rw [hva] at hk
    by_cases e : k = m
    · rw [e, hm]; simp
    · rw [if_neg e] at hk; exact hk
  refine ⟨?_, E, fun j hj => (hin j hj).1, fun j hj => (hin j hj).2⟩
  refine h.upd E rfl (fun _ => rfl) (Nat.le_of_eq hsz.symm) (h.fr.step hos.1 hos.2.1 hos.2.2 (Nat.le_of_eq hsz.symm) ?_) ?_ ?_ (fun k hk => by rw [hsz]; exact h.inI k hk)
    (fun k k' c hk hk' => h.vv k k' c (ne_none k hk) (ne_none k' hk')) (fun k k' A c d hk => h.va k k' A c d (ne_none k hk)) h.aa
  · intro k hk he
    refine hoth k (fun e => ?_)
    subst e
    rcases hok.mine with hx | hx
    · omega
    · exact he hx
  · intro k cs' hk
    rw [hva] at hk
    by_cases e : k = m
    · subst e
      rw [if_pos rfl] at hk
      injection hk with hk
      subst hk
      refine .inr ⟨b', fun j => if o ≤ j ∧ j < o + l.length then us.getD (j - o) undef else f j, hok.at_, by rw [hsz]; exact hok.lt, hok.notI, hok.mine, fun j x hx => ?_⟩
      rw [setL_get cs l o hfit j] at hx
      by_cases hj : o ≤ j ∧ j < o + l.length
      · rw [if_pos hj] at hx
        simp only [if_pos hj]
        obtain ⟨y, hy, hc⟩ := hl.2 (j - o) x hx
        have hyd : us.getD (j - o) undef = y := by simp [hy]
        have hlt : j - o < us.toList.length := by omega
        have hin' := World.cell?_setCells_in b' us.toList o w (fun i hi => (hin i hi).1) (j - o) hlt
        rw [show o + (j - o) = j by omega] at hin'
        refine ⟨?_, ?_, ?_⟩
        · rw [hin', hyd]
          have : us.toList[j - o]? = some y := by simpa using hy
          rw [List.getElem?_eq_getElem hlt] at this
          exact this
        · rw [World.frozen?_setCells]
          have := (hin (j - o) hlt).2
          rwa [show o + (j - o) = j by omega] at this
        · rw [hyd]; exact hc.ext E
      · rw [if_neg hj] at hx
        simp only [if_neg hj]
        obtain ⟨h1, h2, h3⟩ := hok.cell j x hx
        refine ⟨?_, ?_, h3.ext E⟩
        · rw [World.cell?_setCells_out b' _ o w _ (fun _ _ => by show j < o ∨ o + us.toList.length ≤ j; omega)]; exact h1
        · rw [World.frozen?_setCells]; exact h2
    · rw [if_neg e] at hk
      refine .inl ⟨hk, fun c hc => ?_⟩
      obtain ⟨c', f', hok'⟩ := h.vars k cs' hk
      rw [hok'.at_] at hc; injection hc with hc; subst hc
      refine ⟨hoth c' (fun e' => ?_), hok'.notI⟩
      subst e'
      exact e (h.vv k m c' (by rw [hk]; simp) (by rw [hm]; simp) hok'.at_ hok.at_)
  · intro k A hA
    refine .inl ⟨hA, rfl, fun c d hc => ?_⟩
    have := h.arrs k A hA
    rw [hc] at this
    refine ⟨hoth c (fun e => ?_), fun hf => ?_⟩
    · subst e
      exact h.va m k A c d (by rw [hm]; simp) hA hok.at_ hc
    · have := this.2
      rw [hf] at this
      exact this.1

/-- Cells of an element of an array are written. -/
theorem RelI.setA (h : RelI X I ι st tm w) {m : Name} {A : Arr} (hm : st.arr m = some (some A)) (hfz : A.frozen = false) {b cap : Nat} (hb : ι.a m = some (b, cap)) {k o : Nat} (hk : k < A.n) {l : List C} {us : Array Value} (hsz0 : us.size = l.length)
    (hl : ∀ (j : Nat) x, l[j]? = some x → ∃ u, us[j]? = some u ∧ Rimm w I x u) (hfit : o + l.length ≤ A.s) :
    RelI X I ι { st with arrs := (m, some { A with g := putG A.g k o l }) :: st.arrs } tm (w.setCells b (k * A.s + o) us.toList) ∧ Ext w I ι st.var st.arr (w.setCells b (k * A.s + o) us.toList) I ι st.var ({ st with arrs := (m, some { A with g := putG A.g k o l }) :: st.arrs } : St).arr ∧
      (∀ j, j < us.toList.length → (w.cell? ⟨b, k * A.s + o + j, none⟩).isSome = true) ∧ (∀ j, j < us.toList.length → w.frozen? ⟨b, k * A.s + o + j, none⟩ = false) := by
  have har : ∀ i, ({ st with arrs := (m, some { A with g := putG A.g k o l }) :: st.arrs } : St).arr i = if i = m then some (some { A with g := putG A.g k o l }) else st.arr i := arr_cons st m _
  have hok := h.arrs m A hm
  rw [hb] at hok
  obtain ⟨⟨f, hr⟩, hz⟩ := hok
  rw [hfz] at hz
  simp only [Bool.false_eq_true, if_false] at hz
  have hoth : ∀ i, i ≠ b → (w.setCells b (k * A.s + o) us.toList).heap[i]? = w.heap[i]? := fun i hi => heap_setCells b _ _ w i hi
  have hsz : (w.setCells b (k * A.s + o) us.toList).heap.size = w.heap.size := size_setCells b _ _ w
  have hos := os_setCells b us.toList (k * A.s + o) w
  have hlen : us.toList.length = l.length := by rw [Array.length_toList]; exact hsz0
  have hkb : k * A.s + A.s ≤ cap * A.s := by
    have : (k + 1) * A.s ≤ cap * A.s := Nat.mul_le_mul_right _ (by have := hr.fit; omega)
    rwa [Nat.add_mul, Nat.one_mul] at this
  have hin : ∀ j, j < us.toList.length → (w.cell? ⟨b, k * A.s + o + j, none⟩).isSome = true ∧ w.frozen? ⟨b, k * A.s + o + j, none⟩ = false :=
    fun j hj => hr.there _ (by omega)
  have E : Ext w I ι st.var st.arr (w.setCells b (k * A.s + o) us.toList) I ι st.var ({ st with arrs := (m, some { A with g := putG A.g k o l }) :: st.arrs } : St).arr := by
    refine ⟨fun i hi => hoth i (fun e => hz.1 (e ▸ hi)), fun _ hi => hi, fun i hi => ⟨hi, rfl⟩, fun i hi => ?_, fun i B hB => ?_⟩
    · rw [har, if_neg (fun e => by rw [e, hm] at hi; cases hi)]; exact hi
    · rw [har]
      by_cases e : i = m
      · subst e
        rw [hm] at hB; injection hB with hB; injection hB with hB; subst hB
        exact .inr ⟨{ A with g := putG A.g k o l }, by rw [if_pos rfl], rfl, rfl, rfl⟩
      · exact .inr ⟨B, by rw [if_neg e]; exact hB, rfl, rfl, rfl⟩
  have old : ∀ i B, ({ st with arrs := (m, some { A with g := putG A.g k o l }) :: st.arrs } : St).arr i = some (some B) → ∃ B', st.arr i = some (some B') := by
    intro i B hB
    rw [har] at hB
    by_cases e : i = m
    · exact ⟨A, by rw [e]; exact hm⟩
    · rw [if_neg e] at hB; exact ⟨B, hB⟩
  refine ⟨?_, E, fun j hj => (hin j hj).1, fun j hj => (hin j hj).2⟩
  refine h.upd E rfl (fun _ => rfl) (Nat.le_of_eq hsz.symm) (h.fr.step hos.1 hos.2.1 hos.2.2 (Nat.le_of_eq hsz.symm) ?_) ?_ ?_ (fun i hi => by rw [hsz]; exact h.inI i hi) h.vv ?_ ?_
  · intro i hi he
    refine hoth i (fun e => ?_)
    subst e
    rcases hz.2 with hx | hx
    · omega
    · exact he hx
  · intro i cs hi
    refine .inl ⟨hi, fun c hc => ?_⟩
    obtain ⟨c', f', hok'⟩ := h.vars i cs hi
    rw [hok'.at_] at hc; injection hc with hc; subst hc
    refine ⟨hoth c' (fun e' => ?_), hok'.notI⟩
    subst e'
    exact h.va i m A c' cap (by show st.var i ≠ none; rw [show st.var i = some cs from hi]; simp) hm hok'.at_ hb
  · intro i B hB
    rw [har] at hB
    by_cases e : i = m
    · subst e
      rw [if_pos rfl] at hB
      injection hB with hB; injection hB with hB; subst hB
      refine .inr ?_
      rw [hb]
      refine ⟨⟨fun i' j => if i' = k ∧ o ≤ j ∧ j < o + l.length then us.getD (j - o) undef else f i' j, by rw [hsz]; exact hr.lt, hr.pos, hr.fit, hr.max, ?_, ?_, ?_, ?_⟩, ?_⟩
      · intro p hp
        obtain ⟨h1, h2⟩ := hr.there p hp
        refine ⟨?_, by rw [World.frozen?_setCells]; exact h2⟩
        by_cases hj : k * A.s + o ≤ p ∧ p < k * A.s + o + us.toList.length
        · have := World.cell?_setCells_in b us.toList (k * A.s + o) w (fun i hi => (hin i hi).1) (p - (k * A.s + o)) (by omega)
          rw [show k * A.s + o + (p - (k * A.s + o)) = p by omega] at this
          rw [this]; rfl
        · rw [World.cell?_setCells_out b _ _ w _ (fun _ _ => by show p < k * A.s + o ∨ k * A.s + o + us.toList.length ≤ p; omega)]; exact h1
      · intro i' hi'
        show (putG A.g k o l i').length = A.s
        unfold putG
        cases hq : Nat.beq i' k with
        | true => simp only [cond_true]; rw [setL_length]; exact hr.len k hk
        | false => simp only [cond_false]; exact hr.len i' hi'
      · intro i' j x hi' hx
        show (w.setCells b (k * A.s + o) us.toList).cell? ⟨b, i' * A.s + j, none⟩ = _
        replace hx : (putG A.g k o l i')[j]? = some x := hx
        replace hi' : i' < A.n := hi'
        unfold putG at hx
        cases hq : Nat.beq i' k with
        | true =>
          obtain rfl := Nat.eq_of_beq_eq_true hq
          rw [hq] at hx
          simp only [cond_true] at hx
          rw [setL_get _ l o (by rw [hr.len i' hk]; exact hfit) j] at hx
          by_cases hj : o ≤ j ∧ j < o + l.length
          · rw [if_pos hj] at hx
            simp only [true_and, if_pos hj]
            obtain ⟨y, hy, hc⟩ := hl (j - o) x hx
            have hin' := World.cell?_setCells_in b us.toList (i' * A.s + o) w (fun i hi => (hin i hi).1) (j - o) (by omega)
            rw [show i' * A.s + o + (j - o) = i' * A.s + j by omega] at hin'
            rw [hin']
            have h3 : us.toList[j - o]? = some y := by simpa using hy
            rw [List.getElem?_eq_getElem (by omega)] at h3
            rw [h3]
            simp [hy]
          · rw [if_neg hj] at hx
            simp only [true_and, if_neg hj]
            rw [World.cell?_setCells_out b _ _ w _ (fun _ _ => by show i' * A.s + j < i' * A.s + o ∨ i' * A.s + o + us.toList.length ≤ i' * A.s + j; omega)]
            exact hr.cell i' j x hk hx
        | false =>
          have hne : i' ≠ k := fun e' => by rw [e'] at hq; simp at hq
          rw [hq] at hx
          simp only [cond_false] at hx
          simp only [hne, false_and, if_false]
          have hjs : j < A.s := by
            have := hr.len i' hi'
            rcases Nat.lt_or_ge j A.s with h' | h'
            · exact h'
            · rw [List.getElem?_eq_none (by omega)] at hx; cases hx
          rw [World.cell?_setCells_out b _ _ w _ (fun _ _ => by
            show i' * A.s + j < k * A.s + o ∨ k * A.s + o + us.toList.length ≤ i' * A.s + j
            rcases Nat.lt_or_gt_of_ne hne with h' | h'
            · have : (i' + 1) * A.s ≤ k * A.s := Nat.mul_le_mul_right _ h'
              rw [Nat.add_mul, Nat.one_mul] at this
              omega
            · have : (k + 1) * A.s ≤ i' * A.s := Nat.mul_le_mul_right _ h'
              rw [Nat.add_mul, Nat.one_mul] at this
              omega)]
          exact hr.cell i' j x hi' hx
      · intro i' j x hi' hx
        replace hx : (putG A.g k o l i')[j]? = some x := hx
        replace hi' : i' < A.n := hi'
        show Rimm _ I x (if i' = k ∧ o ≤ j ∧ j < o + l.length then us.getD (j - o) undef else f i' j)
        unfold putG at hx
        cases hq : Nat.beq i' k with
        | true =>
          obtain rfl := Nat.eq_of_beq_eq_true hq
          rw [hq] at hx
          simp only [cond_true] at hx
          rw [setL_get _ l o (by rw [hr.len i' hk]; exact hfit) j] at hx
          by_cases hj : o ≤ j ∧ j < o + l.length
          · rw [if_pos hj] at hx
            simp only [true_and, if_pos hj]
            obtain ⟨y, hy, hc⟩ := hl (j - o) x hx
            have : us.getD (j - o) undef = y := by simp [hy]
            rw [this]; exact hc.mono E.hw E.hI
          · rw [if_neg hj] at hx
            simp only [true_and, if_neg hj]
            exact (hr.rel i' j x hk hx).mono E.hw E.hI
        | false =>
          have hne : i' ≠ k := fun e' => by rw [e'] at hq; simp at hq
          rw [hq] at hx
          simp only [cond_false] at hx
          simp only [hne, false_and, if_false]
          exact (hr.rel i' j x hi' hx).mono E.hw E.hI
      · show if A.frozen = true then _ else _
        rw [hfz]
        simpa using hz
    · rw [if_neg e] at hB
      refine .inl ⟨hB, rfl, fun c d hc => ⟨hoth c (fun e' => ?_), fun hf => ?_⟩⟩
      · subst e'
        exact e (h.aa i m B A c d cap hB hm hc hb)
      · have := h.arrs i B hB
        rw [hc] at this
        have := this.2
        rw [hf] at this
        exact this.1
  · intro i i' B c d hi hB hc hc'
    obtain ⟨B', hB'⟩ := old i' B hB
    exact h.va i i' B' c d hi hB' hc hc'
  · intro i i' B B' c d d' hi hi' hc hc'
    obtain ⟨D, hD⟩ := old i B hi
    obtain ⟨D', hD'⟩ := old i' B' hi'
    exact h.aa i i' D D' c d d' hD hD' hc hc'
end

end Go.Ev
namespace Go.Ev
open Go Go.RowKit
set_option linter.unusedVariables false

def Good (X : Ctx) (st : St) (tm : Array Value) (x : S) (w : World) (u : Value) : Prop := ∃ I ι, RelI X I ι st tm w ∧ Rs w I ι st.var st.arr x u

theorem immB_Rc {w : World} {I : Nat → Prop} {ι : Im} {va : VA} {ar : AR} {x : C} {u : Value} (h : Rimm w I x u) : Rc w I ι va ar x u := by
  cases h with
  | err T x => exact Rimm.err T x
  | errN => exact Rimm.errN
  | v _ h => exact Rimm.v _ h
  | nil s => exact Rimm.nil s
  | lst0 s g A c => exact Rimm.lst0 s g A c
  | lst s n g b o c f hn hc hI hs hcell hr => exact Rimm.lst s n g b o c f hn hc hI hs hcell hr

section
variable {X : Ctx} {I : Nat → Prop} {ι : Im} {st : St} {tm : Array Value} {w : World} {P : Program} {T : Tab}

theorem zero_Rcs {i : TI} (hz : i.zero.all zeroB = true) {z : Value} (hv : z.cells.toList = i.zero.map cval) {va : VA} {ar : AR} : Rcs w I ι va ar i.zero z.cells ∧ (∀ (j : Nat) x, i.zero[j]? = some x → ∃ y, z.cells[j]? = some y ∧ Rimm w I x y) := by
  have h2 : ∀ (j : Nat) x, i.zero[j]? = some x → ∃ y, z.cells[j]? = some y ∧ Rimm w I x y := by
    intro j x hx
    have h1 : z.cells.toList[j]? = some (cval x) := by rw [hv, List.getElem?_map, hx]; rfl
    refine ⟨cval x, by simpa using h1, ?_⟩
    have hb := List.all_eq_true.mp hz x (List.mem_of_getElem? hx)
    cases x <;> simp only [zeroB] at hb <;> first | cases hb | skip
    · exact Rimm.v _ hb
    · exact Rimm.nil _
  refine ⟨⟨?_, fun j x hx => let ⟨y, h1, h3⟩ := h2 j x hx; ⟨y, h1, immB_Rc h3⟩⟩, h2⟩
  have := congrArg List.length hv
  simpa using this

theorem slot_of_opnd {a : Act} {x : Operand} {o : Out S} (h : opnd x st = some o) (hr : RelI X I ι st a.tmps w) : ∃ u, a.eval x = u ∧ o.st = st ∧ Rs w I ι st.var st.arr o.val u :=
  let ⟨h1, _, h3⟩ := opnd_ok h hr; ⟨_, rfl, h1, h3⟩

/-! ### loads -/
theorem window_get (l : List C) (o n : Nat) (h : o + n ≤ l.length) : (window l o n).length = n ∧ ∀ j x, (window l o n)[j]? = some x → j < n ∧ l[o + j]? = some x := by
  unfold window
  refine ⟨by simp; omega, fun j x hx => ?_⟩
  rw [List.getElem?_take] at hx
  split at hx
  · rename_i hj; rw [List.getElem?_drop] at hx; exact ⟨hj, hx⟩
  · cases hx

theorem add_at (b o j : Nat) : (⟨b, o, none⟩ : Addr).add j = ⟨b, o + j, none⟩ := by unfold Addr.add; split <;> simp_all

/-- A variable of type t at b, o is loaded whose cells are told. -/
theorem loadVar_ok {t : TypeId} {i : TI} (ht : TIok P t i) {b o : Nat} {l : List C} {va : VA} {ar : AR} (f : Nat → Value) (hc : ∀ (j : Nat) x, l[j]? = some x → w.cell? ⟨b, o + j, none⟩ = some (f j) ∧ Rc w I ι va ar x (f j)) {q : Nat} {out : Out S} (hl : loadFrom i l q st = some out) :
    out.st = st ∧ ∃ u, (loadVar t ⟨b, o + q, none⟩).run P w = .ok u w ∧ Rs w I ι va ar out.val u := by
  unfold loadFrom at hl
  rcases cond_inv hl with ⟨hle, hl⟩ | ⟨_, hl⟩
  · have hle := Nat.le_of_ble_eq_true hle
    rcases cond_inv hl with ⟨hk, hl⟩ | ⟨hk, hl⟩
    · obtain rfl := pure_inv hl
      obtain ⟨hwl, hwg⟩ := window_get l q i.size hle
      refine ⟨rfl, .agg ((List.range i.size).map (fun j => f (q + j))).toArray, ?_, _, rfl, by simp [hwl], ?_⟩
      · unfold loadVar
        simp only [Sem.run_bind, run_isAgg ht, hk, Result.andThen_ok, if_true, run_sizeOf ht]
        rw [run_loadCells w ⟨b, o + q, none⟩ i.size (fun j => f (q + j))]
        · rfl
        · intro j hj
          rw [add_at]
          have hjl : q + j < l.length := by omega
          have := (hc (q + j) _ (List.getElem?_eq_getElem hjl)).1
          rw [← this, Nat.add_assoc]
      · intro j x hx
        obtain ⟨hj, hx⟩ := hwg j x hx
        exact ⟨f (q + j), by simp [hj], (hc (q + j) x hx).2⟩
    · obtain ⟨o1, o2, h1, h2, rfl⟩ := bind_some hl
      obtain ⟨e1, e2⟩ := ofO_inv h1
      obtain rfl := pure_inv h2
      refine ⟨e2, f q, ?_, (hc q _ e1).2⟩
      unfold loadVar
      simp only [Sem.run_bind, run_isAgg ht, hk, Result.andThen_ok, Bool.false_eq_true, if_false, run_load, (hc q _ e1).1]
  · exact (fail_inv hl).elim

/-- A load. -/
theorem load_ok {t : TypeId} {a : C} {u : Value} {out : Out S} (hT : TabOk P T) (h : evLoad T t a st = some out) (hs : out.side) (hr : RelI X I ι st tm w) (ha : Rc w I ι st.var st.arr a u) :
    out.st = st ∧ ∃ v, (Instr.loadAt t u).run P w = .ok v w ∧ Rs w I ι st.var st.arr out.val v := by
  unfold evLoad at h
  obtain ⟨o1, o2, h1, h2, rfl⟩ := bind_some h
  obtain ⟨e1, e2⟩ := ti_inv h1
  have ht := hT t _ e1
  rw [e2] at h2
  cases a with
  | pvar m o =>
    obtain ⟨hm, b, hb, rfl⟩ := ha
    obtain ⟨o3, o4, h3, h4, rfl⟩ := bind_some h2
    obtain ⟨e3, e4⟩ := varOf_inv h3
    rw [e4] at h4
    obtain ⟨b', f, hok⟩ := hr.vars m _ e3
    rw [hok.at_] at hb; injection hb with hb; subst hb
    obtain ⟨h5, v, h6, h7⟩ := loadVar_ok (o := 0) ht f (fun j x hx => by
      have := hok.cell j x hx
      rw [Nat.zero_add]; exact ⟨this.1, this.2.2⟩) h4
    rw [Nat.zero_add] at h6
    exact ⟨h5, v, by simp only [Instr.loadAt, Instr.sureAddr, Sem.run_bind, Sem.run_pure, Result.andThen_ok]; exact h6, h7⟩
  | pelem m k o =>
    obtain ⟨o3, o4, h3, h4, rfl⟩ := bind_some h2
    obtain ⟨e3, e4⟩ := liveA_inv h3
    rw [e4] at h4
    obtain ⟨o5, o6, h5, h6, rfl⟩ := bind_some h4
    obtain ⟨e5, e6⟩ := need_inv h5
    rw [e5] at h6
    obtain ⟨o7, o8, h7, h8, rfl⟩ := bind_some h6
    obtain ⟨e7, e8⟩ := guard_inv h7
    rw [e8] at h8
    simp only [Bool.and_eq_true] at e7
    have e7a := Nat.le_of_ble_eq_true e7.1
    have e7b := Nat.le_of_ble_eq_true e7.2
    have hk : k < o3.val.n := by
      have := (all_append.mp (all_append.mp (all_append.mp hs).2).2).1
      exact cast e6 this
    simp only [Rc, e3] at ha
    obtain ⟨b, cap, hb, rfl⟩ := ha
    have hok := hr.arrs m _ e3
    rw [hb] at hok
    obtain ⟨⟨f, hrow⟩, _⟩ := hok
    have hlen := hrow.len k hk
    -- the same as a load out of the element's cells
    have hc : ∀ (j : Nat) x, (o3.val.g k)[j]? = some x → w.cell? ⟨b, k * o3.val.s + j, none⟩ = some (f k j) ∧ Rc w I ι st.var st.arr x (f k j) :=
      fun j x hx => ⟨hrow.cell k j x hk hx, immB_Rc (hrow.rel k j x hk hx)⟩
    have hl : ∃ out' : Out S, loadFrom o1.val (o3.val.g k) o st = some out' ∧ out'.val = o8.val ∧ o8.st = st := by
      rcases cond_inv h8 with ⟨hkk, h8⟩ | ⟨hkk, h8⟩
      · obtain rfl := pure_inv h8
        refine ⟨⟨_, st, [], [], []⟩, ?_, rfl, rfl⟩
        have : Nat.ble (o + o1.val.size) (o3.val.g k).length = true := Nat.ble_eq_true_of_le (by omega)
        unfold loadFrom
        rw [this, hkk]
        rfl
      · obtain rfl := pure_inv h8
        have hlt : o < (o3.val.g k).length := by omega
        refine ⟨⟨.c ((o3.val.g k)[o]), st, [], [] ++ [], [] ++ []⟩, ?_, ?_, rfl⟩
        · have : Nat.ble (o + o1.val.size) (o3.val.g k).length = true := Nat.ble_eq_true_of_le (by omega)
          unfold loadFrom
          rw [this, hkk]
          simp only [cond_true, cond_false, bind_eq, List.getElem?_eq_getElem hlt]
          rfl
        · simp [hlt]
    obtain ⟨out', hl, hv, hst⟩ := hl
    obtain ⟨_, v, h9, h10⟩ := loadVar_ok ht (fun j => f k j) hc hl
    refine ⟨hst, v, ?_, ?_⟩
    · simp only [Instr.loadAt, Instr.sureAddr, Sem.run_bind, Sem.run_pure, Result.andThen_ok]; exact h9
    · rw [hv] at h10; exact h10
  | pimm cs o =>
    obtain ⟨b, p, f, rfl, hb, hc⟩ := ha
    obtain ⟨h5, v, h6, h7⟩ := loadVar_ok (va := st.var) (ar := st.arr) (ι := ι) ht f (fun j x hx => ⟨(hc j x hx).1, immB_Rc (hc j x hx).2⟩) h2
    exact ⟨h5, v, by simp only [Instr.loadAt, Instr.sureAddr, Sem.run_bind, Sem.run_pure, Result.andThen_ok]; exact h6, h7⟩
  | v _ => exact (fail_inv h2).elim
  | nil _ => exact (fail_inv h2).elim
  | lst _ _ _ => exact (fail_inv h2).elim
  | ref _ _ => exact (fail_inv h2).elim
  | err b => exact (fail_inv h2).elim
  | undef => exact (fail_inv h2).elim

/-! ### what becomes read-only -/
theorem RowOk.imm {A : Arr} {b cap : Nat} {f : Nat → Nat → Value} (hr : RowOk w I A b cap f) (hI : I b) {n : Nat} (hn : n ≤ A.n) : Rimm w I (.lst A.s n A.g) (.slice (some ⟨b, 0, none⟩) n cap) := by
  rcases Nat.eq_zero_or_pos n with rfl | h0
  · exact .lst0 _ _ _ _
  · exact .lst _ _ _ b 0 cap f h0 (Nat.le_trans hn hr.fit) hI (fun i hi => hr.len i (by omega)) (fun i j x hi hx => by rw [Nat.zero_add]; exact hr.cell i j x (by omega) hx) (fun i j x hi hx => hr.rel i j x (by omega) hx)

/-- A slice over an array of the call's own reads as a list, as far as reading goes. -/
theorem ref_imm (hr : RelI X I ι st tm w) {m : Name} {A : Arr} (hA : st.arr m = some (some A)) {n : Nat} {u : Value} (hn : n ≤ A.n) (hh : hdr (ι.a m) n u) {I' : Nat → Prop} (hI : ∀ b, I b → I' b) (hb : ∀ b c, ι.a m = some (b, c) → I' b) : Rimm w I' (.lst A.s n A.g) u := by
  have hok := hr.arrs m A hA
  unfold hdr at hh
  unfold ArrOk at hok
  split at hok
  · rename_i hp
    rw [hp] at hh
    obtain ⟨rfl, rfl⟩ := hh
    exact .lst0 _ _ _ _
  · rename_i b cap hp
    rw [hp] at hh
    subst hh
    obtain ⟨⟨f, hrow⟩, _⟩ := hok
    exact (hrow.keep (w' := w) (I' := I') (fun _ _ => rfl) hI (Nat.le_refl _) rfl).imm (hb b cap hp) hn

theorem Ext.refl (w : World) (I : Nat → Prop) (ι : Im) (va : VA) (ar : AR) : Ext w I ι va ar w I ι va ar := ⟨fun _ _ => rfl, fun _ h => h, fun m hm => ⟨hm, rfl⟩, fun _ h => h, fun m A hA => .inr ⟨A, hA, rfl, rfl, rfl⟩⟩
theorem Ext.trans {w1 w2 w3 : World} {I1 I2 I3 : Nat → Prop} {ι1 ι2 ι3 : Im} {va1 va2 va3 : VA} {ar1 ar2 ar3 : AR} (h : Ext w1 I1 ι1 va1 ar1 w2 I2 ι2 va2 ar2) (k : Ext w2 I2 ι2 va2 ar2 w3 I3 ι3 va3 ar3) : Ext w1 I1 ι1 va1 ar1 w3 I3 ι3 va3 ar3 := by
  refine ⟨fun b hb => (k.hw b (h.hI b hb)).trans (h.hw b hb), fun b hb => k.hI b (h.hI b hb), fun m hm => ?_, fun m hm => k.dead m (h.dead m hm), fun m A hA => ?_⟩
  · obtain ⟨h1, h2⟩ := h.hv m hm
    obtain ⟨k1, k2⟩ := k.hv m h1
    exact ⟨k1, k2.trans h2⟩
  · rcases h.live m A hA with hd | ⟨B, hB, hs, hn, hi⟩
    · exact .inl (k.dead m hd)
    · rcases k.live m B hB with hd | ⟨D, hD, hs', hn', hi'⟩
      · exact .inl hd
      · exact .inr ⟨D, hD, hs'.trans hs, hn'.trans hn, hi'.trans hi⟩

theorem toImm_ok {x : C} {u : Value} {out : Out C} (h : toImm x st = some out) (hr : RelI X I ι st tm w) (hx : Rc w I ι st.var st.arr x u) :
    ∃ I', RelI X I' ι out.st tm w ∧ Ext w I ι st.var st.arr w I' ι out.st.var out.st.arr ∧ Rimm w I' out.val u := by
  cases x with
  | ref m n =>
    unfold toImm at h
    obtain ⟨o1, o2, h1, h2, rfl⟩ := bind_some h
    obtain ⟨e1, e2⟩ := liveA_inv h1
    rw [e2] at h2
    obtain ⟨o3, o4, h3, h4, rfl⟩ := bind_some h2
    obtain rfl := Option.some.inj h3
    obtain rfl := pure_inv h4
    obtain ⟨I', hr', E, hI'⟩ := hr.freeze e1
    refine ⟨I', hr', E, ?_⟩
    simp only [Rc, e1] at hx
    obtain ⟨hn, hh⟩ := hx
    exact ref_imm hr e1 hn hh E.hI hI'
  | v y =>
    obtain rfl := pure_inv h
    exact ⟨I, hr, .refl .., hx⟩
  | nil s =>
    obtain rfl := pure_inv h
    exact ⟨I, hr, .refl .., hx⟩
  | lst s n g =>
    obtain rfl := pure_inv h
    exact ⟨I, hr, .refl .., hx⟩
  | pvar _ _ => exact absurd h (by simp [toImm, fail])
  | pelem _ _ _ => exact absurd h (by simp [toImm, fail])
  | pimm _ _ => exact absurd h (by simp [toImm, fail])
  | err b =>
    obtain rfl := pure_inv (show (pure (C.err b) : M C) st = some out from h)
    exact ⟨I, hr, .refl .., hx⟩
  | undef => exact absurd h (by simp [toImm, fail])

theorem toImms_ok : ∀ {l : List C} {us : Array Value} {out : Out (List C)} {I : Nat → Prop} {st : St} {k : Nat}, toImms l st = some out → RelI X I ι st tm w → (∀ (j : Nat) x, l[j]? = some x → ∃ y, us[k + j]? = some y ∧ Rc w I ι st.var st.arr x y) →
    ∃ I', RelI X I' ι out.st tm w ∧ Ext w I ι st.var st.arr w I' ι out.st.var out.st.arr ∧ out.val.length = l.length ∧ ∀ (j : Nat) x, out.val[j]? = some x → ∃ y, us[k + j]? = some y ∧ Rimm w I' x y := by
  intro l
  induction l with
  | nil =>
    intro us out I st k h hr hc
    obtain rfl := pure_inv h
    exact ⟨I, hr, .refl .., rfl, by simp⟩
  | cons x r ih =>
    intro us out I st k h hr hc
    unfold toImms at h
    obtain ⟨o1, o2, h1, h2, rfl⟩ := bind_some h
    obtain ⟨y, hy, hxy⟩ := hc 0 x rfl
    obtain ⟨I1, hr1, E1, hi1⟩ := toImm_ok h1 hr hxy
    obtain ⟨o3, o4, h3, h4, rfl⟩ := bind_some h2
    obtain rfl := pure_inv h4
    obtain ⟨I2, hr2, E2, hlen, hi2⟩ := ih (us := us) (k := k + 1) h3 hr1 (fun j z hz => by
      obtain ⟨y', hy', hc'⟩ := hc (j + 1) z (by simpa using hz)
      exact ⟨y', by rw [← hy']; congr 1; omega, hc'.ext E1⟩)
    refine ⟨I2, hr2, E1.trans E2, by simp [hlen], fun j z hz => ?_⟩
    cases j with
    | zero =>
      simp at hz; subst hz
      exact ⟨y, hy, hi1.mono E2.hw E2.hI⟩
    | succ j =>
      obtain ⟨y', hy', hc'⟩ := hi2 j z (by simpa using hz)
      exact ⟨y', by rw [← hy']; congr 1; omega, hc'⟩

/-! ### stores -/
theorem storeVar_run {t : TypeId} {i : TI} (ht : TIok P t i) {b o : Nat} {v : Value} (hsz : v.cells.size = i.size) (h1 : ∀ j, j < v.cells.toList.length → (w.cell? ⟨b, o + j, none⟩).isSome = true) (h2 : ∀ j, j < v.cells.toList.length → w.frozen? ⟨b, o + j, none⟩ = false)
    (h3 : ∀ x ∈ v.cells.toList, flat x = true) : (storeVar t ⟨b, o, none⟩ v).run P w = .ok () (w.setCells b o v.cells.toList) := by
  unfold storeVar
  simp only [Sem.run_bind, run_sizeOf ht, Result.andThen_ok, hsz, ne_eq, not_true_eq_false, if_false]
  have := run_storeCells_cells (P := P) b o v.cells.toList 0 w (by simpa using h1) (by simpa using h2) h3
  simp only [Nat.add_zero] at this
  simpa using this

theorem store_ok {t : TypeId} {a : C} {x : S} {u v : Value} {out : Out Unit} (hT : TabOk P T) (h : evStore T t a x st = some out) (hs : out.side) (hr : RelI X I ι st tm w) (ha : Rc w I ι st.var st.arr a u) (hx : Rs w I ι st.var st.arr x v) :
    ∃ w' I' ι', (Instr.storeAt t u v).run P w = .ok () w' ∧ RelI X I' ι' out.st tm w' := by
  unfold evStore at h
  obtain ⟨o1, o2, h1, h2, rfl⟩ := bind_some h
  obtain ⟨e1, e2⟩ := ti_inv h1
  have ht := hT t _ e1
  rw [e2] at h2
  obtain ⟨o3, o4, h3, h4, rfl⟩ := bind_some h2
  obtain ⟨e3, e4⟩ := ofO_inv h3
  rw [e4] at h4
  obtain ⟨o5, o6, h5, h6, rfl⟩ := bind_some h4
  obtain ⟨e5, e6⟩ := guard_inv h5
  rw [e6] at h6
  have hlen := Nat.eq_of_beq_eq_true e5
  obtain ⟨hc, hd, hf⟩ := cellsS_ok e3 hx
  have hc' := retagL_ok (z := o1.val.zero) hc
  have hsz : v.cells.size = o1.val.size := by rw [hc.1]; exact hlen
  have hsz' : (retagL o1.val.zero o3.val).length = o1.val.size := by rw [← hc'.1, hc.1]; exact hlen
  have hd' : ∀ c ∈ retagL o1.val.zero o3.val, defd c = true := by
    have key : ∀ z l : List C, (∀ c ∈ l, defd c = true) → ∀ c ∈ retagL z l, defd c = true := by
      intro z
      induction z with
      | nil => intro l hl; simpa [retagL] using hl
      | cons z0 z ih =>
        intro l hl
        cases l with
        | nil => simp [retagL]
        | cons c l =>
          have ih' := ih l (fun c hc => hl c (List.mem_cons_of_mem _ hc))
          unfold retagL
          split
          · rename_i heq1 heq2
            injection heq1 with a1 a2; injection heq2 with a3 a4
            subst a2 a4
            intro c' hc'
            rcases List.mem_cons.mp hc' with rfl | hc'
            · rfl
            · exact ih' c' hc'
          · rename_i heq1 heq2
            injection heq1 with a1 a2; injection heq2 with a3 a4
            subst a2 a3 a4
            intro c' hc'
            rcases List.mem_cons.mp hc' with rfl | hc'
            · exact hl _ (List.mem_cons_self ..)
            · exact ih' c' hc'
          · exact hl
    exact key _ _ hd
  cases a with
  | pvar m o =>
    obtain ⟨hm, b, hb, rfl⟩ := ha
    obtain ⟨o7, o8, h7, h8, rfl⟩ := bind_some h6
    obtain ⟨e7, e8⟩ := varOf_inv h7
    rw [e8] at h8
    rcases cond_inv h8 with ⟨hle, h8⟩ | ⟨_, h8⟩
    · have hle := Nat.le_of_ble_eq_true hle
      obtain rfl := Option.some.inj h8
      obtain ⟨hr', E, hi1, hi2⟩ := hr.setV e7 hb (o := o) hc' hd' (by rw [hsz']; exact hle)
      refine ⟨_, I, ι, ?_, hr'⟩
      simp only [Instr.storeAt, Instr.sureAddr, Sem.run_bind, Sem.run_pure, Result.andThen_ok]
      exact storeVar_run ht hsz hi1 hi2 hf
    · exact (fail_inv h8).elim
  | pelem m k o =>
    obtain ⟨o7, o8, h7, h8, rfl⟩ := bind_some h6
    obtain ⟨I1, hr1, E1, hlen1, him⟩ := toImms_ok (us := v.cells) (k := 0) h7 hr (by simpa using hc'.2)
    obtain ⟨o9, oa, h9, ha', rfl⟩ := bind_some h8
    obtain ⟨e9, ea, ef⟩ := freeA_inv h9
    rw [ea] at ha'
    obtain ⟨ob, oc, hb', hc2, rfl⟩ := bind_some ha'
    obtain ⟨eb, ec⟩ := need_inv hb'
    rw [eb] at hc2
    obtain ⟨od, oe, hd2, he2, rfl⟩ := bind_some hc2
    obtain ⟨ed, ee⟩ := guard_inv hd2
    rw [ee] at he2
    obtain rfl := Option.some.inj he2
    have hle := Nat.le_of_ble_eq_true ed
    have hk : k < o9.val.n := by
      have := (all_append.mp (all_append.mp (all_append.mp (all_append.mp (all_append.mp (all_append.mp hs).2).2).2).2).2).1
      exact cast ec this
    have ha1 := ha.ext E1
    simp only [Rc, e9] at ha1
    obtain ⟨b, cap, hb, rfl⟩ := ha1
    have him' : ∀ (j : Nat) x, o7.val[j]? = some x → ∃ y, v.cells[j]? = some y ∧ Rimm w I1 x y := by simpa using him
    obtain ⟨hr', E, hi1, hi2⟩ := hr1.setA e9 ef hb hk (o := o) (l := o7.val) (us := v.cells) (by rw [hlen1, hsz', hsz]) him' (by rw [hlen1, hsz']; exact hle)
    refine ⟨_, I1, ι, ?_, hr'⟩
    simp only [Instr.storeAt, Instr.sureAddr, Sem.run_bind, Sem.run_pure, Result.andThen_ok]
    exact storeVar_run ht hsz hi1 hi2 hf
  | v _ => exact (fail_inv h6).elim
  | nil _ => exact (fail_inv h6).elim
  | lst _ _ _ => exact (fail_inv h6).elim
  | ref _ _ => exact (fail_inv h6).elim
  | pimm _ _ => exact (fail_inv h6).elim
  | err b => exact (fail_inv h6).elim
  | undef => exact (fail_inv h6).elim
end
end Go.Ev
namespace Go.Ev
open Go Go.RowKit
set_option linter.unusedVariables false

section
variable {X : Ctx} {I : Nat → Prop} {ι : Im} {st : St} {tm : Array Value} {w : World} {P : Program} {T : Tab}

/-! ### parts of a whole -/
theorem foldl_set (off : Nat) : ∀ (vs : List Value) (k : Nat) (cs : Array Value), (vs.zipIdx k).foldl (fun (cs : Array Value) (p : Value × Nat) => cs.setIfInBounds (off + p.2) p.1) cs = (vs.foldl (fun (q : Array Value × Nat) v => (q.1.setIfInBounds (off + q.2) v, q.2 + 1)) (cs, k)).1 := by
  intro vs
  induction vs with
  | nil => intro k cs; rfl
  | cons v r ih => intro k cs; simp only [List.zipIdx_cons, List.foldl_cons]; exact ih (k + 1) _

theorem foldl_get (off : Nat) : ∀ (vs : List Value) (k : Nat) (cs : Array Value), off + k + vs.length ≤ cs.size → let r := (vs.foldl (fun (q : Array Value × Nat) v => (q.1.setIfInBounds (off + q.2) v, q.2 + 1)) (cs, k)).1
    r.size = cs.size ∧ ∀ j, r[j]? = if off + k ≤ j ∧ j < off + k + vs.length then vs[j - (off + k)]? else cs[j]? := by
  intro vs
  induction vs with
  | nil => intro k cs _; exact ⟨rfl, fun j => by rw [if_neg (by simp)]; rfl⟩
  | cons v r ih =>
    intro k cs hk
    simp only [List.length_cons] at hk
    have := ih (k + 1) (cs.setIfInBounds (off + k) v) (by simp; omega)
    refine ⟨by simpa using this.1, fun j => ?_⟩
    have h2 := this.2 j
    simp only [List.foldl_cons]
    rw [h2]
    by_cases h1 : off + (k + 1) ≤ j ∧ j < off + (k + 1) + r.length
    · rw [if_pos h1, if_pos (by simp; omega), show j - (off + k) = (j - (off + (k + 1))) + 1 by omega]; simp
    · rw [if_neg h1]
      by_cases h3 : j = off + k
      · subst h3
        rw [if_pos (by simp)]
        simp [show off + k < cs.size by omega]
      · rw [if_neg (by simp; omega), Array.getElem?_setIfInBounds_ne (Ne.symm h3)]

/-- Related cells stay related while parts are filled in. -/
theorem fill_ok (place : Nat → Option (Nat × Nat)) {R : C → Value → Prop} : ∀ (ps : List (Nat × List C)) (vs : List (Nat × Value)) (l : List C) (cs : Array Value) {l' : List C},
    ps.length = vs.length → (∀ (j : Nat) p v, ps[j]? = some p → vs[j]? = some v → p.1 = v.1 ∧ v.2.cells.size = p.2.length ∧ ∀ (i : Nat) x, p.2[i]? = some x → ∃ y, v.2.cells[i]? = some y ∧ R x y) →
    cs.size = l.length → (∀ (j : Nat) x, l[j]? = some x → ∃ y, cs[j]? = some y ∧ R x y) → fillC place l ps = some l' →
    ∃ cs', Instr.fill place cs vs = some cs' ∧ cs'.size = l'.length ∧ l'.length = l.length ∧ ∀ (j : Nat) x, l'[j]? = some x → ∃ y, cs'[j]? = some y ∧ R x y := by
  intro ps
  induction ps with
  | nil =>
    intro vs l cs l' hlen _ hsz hc hf
    cases vs with
    | nil =>
      simp only [fillC, Option.some.injEq] at hf
      subst hf
      exact ⟨cs, rfl, hsz, rfl, hc⟩
    | cons _ _ => simp at hlen
  | cons p ps ih =>
    intro vs l cs l' hlen hp hsz hc hf
    cases vs with
    | nil => simp at hlen
    | cons v vs =>
      obtain ⟨i, pl⟩ := p
      obtain ⟨i', u⟩ := v
      obtain ⟨rfl, h1, h2⟩ := hp 0 _ _ rfl rfl
      simp only [fillC] at hf
      cases hpl : place i with
      | none => rw [hpl] at hf; simp at hf
      | some q =>
        obtain ⟨off, size⟩ := q
        rw [hpl] at hf
        simp only at hf
        cases hb : (Nat.beq pl.length size && Nat.ble (off + pl.length) l.length) with
        | false => rw [hb] at hf; simp at hf
        | true =>
          rw [hb] at hf
          simp only [cond_true] at hf
          simp only [Bool.and_eq_true] at hb
          have hb1 := Nat.eq_of_beq_eq_true hb.1
          have hb2 := Nat.le_of_ble_eq_true hb.2
          have hu : u.cells.size = pl.length := h1
          have hg := foldl_get off u.cells.toList 0 cs (by rw [Array.length_toList, hsz]; omega)
          have hgs := foldl_set off u.cells.toList 0 cs
          simp only at hg
          rw [← hgs] at hg
          obtain ⟨hgz, hgg⟩ := hg
          obtain ⟨cs', hf', hs', hl', hr'⟩ := ih vs (setL l off pl) ((u.cells.toList.zipIdx 0).foldl (fun (cs : Array Value) (p : Value × Nat) => cs.setIfInBounds (off + p.2) p.1) cs) (l' := l')
            (by simpa using hlen) (fun j p' v' hp' hv' => hp (j + 1) p' v' (by simpa using hp') (by simpa using hv')) (by rw [hgz, hsz, setL_length]) (by
              intro j x hx
              rw [setL_get l pl off hb2 j] at hx
              rw [hgg j]
              simp only [Nat.add_zero, Array.length_toList, hu]
              by_cases hj : off ≤ j ∧ j < off + pl.length
              · rw [if_pos hj] at hx ⊢
                obtain ⟨y, hy, hr⟩ := h2 (j - off) x hx
                exact ⟨y, by simpa using hy, hr⟩
              · rw [if_neg hj] at hx ⊢
                exact hc j x hx) hf
          refine ⟨cs', ?_, hs', by rw [hl', setL_length], hr'⟩
          simp only [Instr.fill, hpl]
          have hne : ¬ (u.cells.size ≠ size || off + u.cells.size > cs.size) = true := by
            simp only [ne_eq, gt_iff_lt, Bool.or_eq_true, decide_eq_true_eq, not_or]
            omega
          rw [if_neg (by simpa using hne)]
          rw [← Array.foldl_toList, Array.toList_zipIdx]
          exact hf'

theorem structO_inv {k : TK} {fs : List (Nat × TypeId)} (h : structO k = some fs) : k = .struct fs := by cases k <;> simp [structO] at h; subst h; rfl
theorem arrO_inv {k : TK} {q : Nat × TypeId} (h : arrO k = some q) : k = .array q.1 q.2 := by cases k <;> simp [arrO] at h; subst h; rfl
theorem sliceO_inv {k : TK} {e : TypeId} (h : sliceO k = some e) : k = .slice e := by cases k <;> simp [sliceO] at h; subst h; rfl

theorem sizesOf_ok (hT : TabOk P T) : ∀ {fs : List (Nat × TypeId)} {out : Out (List (Nat × Nat))}, sizesOf T fs st = some out → out.st = st ∧ ∀ (fields : List Field), fields.map (fun f => (f.offset, f.type)) = fs →
    (fields.mapM fun f => do pure (f.offset, ← sizeOf f.type) : Sem (List (Nat × Nat))).run P w = .ok out.val w := by
  intro fs
  induction fs with
  | nil =>
    intro out h
    obtain rfl := pure_inv h
    refine ⟨rfl, fun fields hf => ?_⟩
    obtain rfl : fields = [] := by simpa using hf
    simp
  | cons p fs ih =>
    intro out h
    obtain ⟨o, t⟩ := p
    unfold sizesOf at h
    obtain ⟨o1, o2, h1, h2, rfl⟩ := bind_some h
    obtain ⟨e1, e2⟩ := ti_inv h1
    rw [e2] at h2
    obtain ⟨o3, o4, h3, h4, rfl⟩ := bind_some h2
    obtain rfl := pure_inv h4
    obtain ⟨hs, hrun⟩ := ih h3
    refine ⟨hs, fun fields hf => ?_⟩
    cases fields with
    | nil => simp at hf
    | cons f fields =>
      simp only [List.map_cons, List.cons.injEq, Prod.mk.injEq] at hf
      obtain ⟨⟨rfl, rfl⟩, hf⟩ := hf
      have := hrun fields hf
      simp only [List.mapM_cons, Sem.run_bind, run_sizeOf (hT _ _ e1), Result.andThen_ok, Sem.run_pure, this]

theorem partsL_ok {a : Act} (hr : RelI X I ι st a.tmps w) : ∀ {ps : List (Nat × Operand)} {out : Out (List (Nat × List C))}, partsL ps st = some out → out.st = st ∧ out.val.length = ps.length ∧
    ∀ (j : Nat) p v, out.val[j]? = some p → (ps.map fun (i, x) => (i, a.eval x))[j]? = some v → p.1 = v.1 ∧ Rcs w I ι st.var st.arr p.2 v.2.cells ∧ (∀ u ∈ v.2.cells.toList, flat u = true) := by
  intro ps
  induction ps with
  | nil =>
    intro out h
    obtain rfl := pure_inv h
    exact ⟨rfl, rfl, by simp⟩
  | cons p ps ih =>
    intro out h
    obtain ⟨i, x⟩ := p
    unfold partsL at h
    obtain ⟨o1, o2, h1, h2, rfl⟩ := bind_some h
    obtain ⟨e1, hc, _, hf⟩ := opndL_ok h1 hr
    rw [e1] at h2
    obtain ⟨o3, o4, h3, h4, rfl⟩ := bind_some h2
    obtain rfl := pure_inv h4
    obtain ⟨hs, hl, hp⟩ := ih h3
    refine ⟨hs, by simp [hl], fun j p v hpj hvj => ?_⟩
    cases j with
    | zero =>
      simp at hpj hvj
      subst hpj hvj
      exact ⟨rfl, hc, hf⟩
    | succ j => exact hp j p v (by simpa using hpj) (by simpa using hvj)

theorem fixParts_ok {R : C → Value → Prop} (places : List (Nat × Nat)) (zero : List C) {f : Nat × List C → Value → Prop} (hret : ∀ (z l : List C) (us : Array Value), (us.size = l.length ∧ ∀ (j : Nat) x, l[j]? = some x → ∃ y, us[j]? = some y ∧ R x y) → (us.size = (retagL z l).length ∧ ∀ (j : Nat) x, (retagL z l)[j]? = some x → ∃ y, us[j]? = some y ∧ R x y)) :
    ∀ (ps : List (Nat × List C)) (vs : List (Nat × Value)), ps.length = vs.length → (∀ (j : Nat) p v, ps[j]? = some p → vs[j]? = some v → p.1 = v.1 ∧ v.2.cells.size = p.2.length ∧ ∀ (i : Nat) x, p.2[i]? = some x → ∃ y, v.2.cells[i]? = some y ∧ R x y) →
    (fixParts places zero ps).length = vs.length ∧ (∀ (j : Nat) p v, (fixParts places zero ps)[j]? = some p → vs[j]? = some v → p.1 = v.1 ∧ v.2.cells.size = p.2.length ∧ ∀ (i : Nat) x, p.2[i]? = some x → ∃ y, v.2.cells[i]? = some y ∧ R x y) := by
  intro ps
  induction ps with
  | nil => intro vs hl hp; exact ⟨by simpa [fixParts] using hl, by simp [fixParts]⟩
  | cons p ps ih =>
    intro vs hl hp
    cases vs with
    | nil => simp at hl
    | cons v vs =>
      obtain ⟨i, l⟩ := p
      obtain ⟨h1, h2⟩ := ih vs (by simpa using hl) (fun j p' v' hp' hv' => hp (j + 1) p' v' (by simpa using hp') (by simpa using hv'))
      refine ⟨by simp [fixParts, h1], fun j p' v' hp' hv' => ?_⟩
      cases j with
      | zero =>
        simp only [fixParts, List.getElem?_cons_zero, Option.some.injEq] at hp' hv'
        subst hp' hv'
        obtain ⟨h3, h4, h5⟩ := hp 0 _ _ rfl rfl
        refine ⟨h3, ?_⟩
        simp only
        split
        · exact hret _ _ _ ⟨h4, h5⟩
        · exact ⟨h4, h5⟩
      | succ j => exact h2 j p' v' (by simpa [fixParts] using hp') (by simpa using hv')

theorem build_ok {a : Act} {t : TypeId} {parts : Array (Nat × Operand)} {out : Out S} (hT : TabOk P T) (h : evBuild T t parts.toList st = some out) (hr : RelI X I ι st a.tmps w) :
    out.st = st ∧ ∃ u, (Instr.build t (parts.map fun (i, x) => (i, a.eval x))).run P w = .ok u w ∧ Rs w I ι st.var st.arr out.val u := by
  unfold evBuild at h
  obtain ⟨o1, o2, h1, h2, rfl⟩ := bind_some h
  obtain ⟨e1, e2⟩ := ti_inv h1
  have ht := hT t _ e1
  rw [e2] at h2
  cases hq : arrO o1.val.kind with
  | some q =>
    rw [hq] at h2
    simp only at h2
    unfold evBuildArr at h2
    obtain ⟨o3, o4, h3, h4, rfl⟩ := bind_some h2
    obtain ⟨e3, e4⟩ := ti_inv h3
    have hz3 := hT q.2 _ e3
    rw [e4] at h4
    obtain ⟨o7, o8, h7, h8, rfl⟩ := bind_some h4
    obtain ⟨e7, hpl, hpp⟩ := partsL_ok hr h7
    rw [e7] at h8
    obtain ⟨o9, oa, h9, ha, rfl⟩ := bind_some h8
    obtain ⟨e9, e10⟩ := ofO_inv h9
    obtain rfl := pure_inv ha
    refine ⟨e10, ?_⟩
    obtain ⟨z, hz, hzc⟩ := run_zeroValue ht w
    obtain ⟨hzr, _⟩ := zero_Rcs (w := w) (I := I) (ι := ι) (va := st.var) (ar := st.arr) ht.zero hzc
    obtain ⟨d, hd, hk⟩ := run_und ht w
    rw [arrO_inv hq] at hk
    obtain rfl := kind_array hk
    have hpl' : o7.val.length = (parts.toList.map fun (i, x) => (i, a.eval x)).length := by simp [hpl]
    obtain ⟨cs', hf, hs', hl', hr'⟩ := fill_ok (fun k => some (k * o3.val.size, o3.val.size)) (R := Rc w I ι st.var st.arr) _ _ _ z.cells hpl' (fun j p v hp hv => let ⟨q1, q2, _⟩ := hpp j p v hp hv; ⟨q1, q2.1, q2.2⟩) hzr.1 hzr.2 e9
    refine ⟨.agg cs', ?_, cs', rfl, hs', hr'⟩
    unfold Instr.build
    simp only [Sem.run_bind, hz, Result.andThen_ok, hd, run_sizeOf hz3, Array.toList_map, hf]
    rfl
  | none =>
  rw [hq] at h2
  simp only at h2
  obtain ⟨o3, o4, h3, h4, rfl⟩ := bind_some h2
  obtain ⟨e3, e4⟩ := ofO_inv h3
  rw [e4] at h4
  obtain ⟨o5, o6, h5, h6, rfl⟩ := bind_some h4
  obtain ⟨e5, hsz⟩ := sizesOf_ok (P := P) (w := w) hT h5
  rw [e5] at h6
  obtain ⟨o7, o8, h7, h8, rfl⟩ := bind_some h6
  obtain ⟨e7, hpl, hpp⟩ := partsL_ok hr h7
  rw [e7] at h8
  obtain ⟨o9, oa, h9, ha, rfl⟩ := bind_some h8
  obtain ⟨e9, e10⟩ := ofO_inv h9
  obtain rfl := pure_inv ha
  refine ⟨e10, ?_⟩
  obtain ⟨z, hz, hzc⟩ := run_zeroValue ht w
  obtain ⟨hzr, _⟩ := zero_Rcs (w := w) (I := I) (ι := ι) (va := st.var) (ar := st.arr) ht.zero hzc
  obtain ⟨d, hd, hk⟩ := run_und ht w
  rw [structO_inv e3] at hk
  obtain ⟨fields, rfl, hfs⟩ := kind_struct hk
  have hpl' : o7.val.length = (parts.toList.map fun (i, x) => (i, a.eval x)).length := by simp [hpl]
  obtain ⟨hfl, hfp⟩ := fixParts_ok (R := Rc w I ι st.var st.arr) (f := fun _ _ => True) o5.val o1.val.zero (fun z l us hh => ⟨by rw [← (retagL_ok (z := z) (w := w) (I := I) (ι := ι) (va := st.var) (ar := st.arr) hh).1], (retagL_ok (z := z) (w := w) (I := I) (ι := ι) (va := st.var) (ar := st.arr) hh).2⟩)
    o7.val (parts.toList.map fun (i, x) => (i, a.eval x)) hpl' (fun j p v hp hv => let ⟨q1, q2, _⟩ := hpp j p v hp hv; ⟨q1, q2.1, q2.2⟩)
  obtain ⟨cs', hf, hs', hl', hr'⟩ := fill_ok (o5.val[·]?) (R := Rc w I ι st.var st.arr) _ _ _ z.cells hfl hfp hzr.1 hzr.2 e9
  have hm := hsz fields.toList hfs
  refine ⟨.agg cs', ?_, cs', rfl, hs', hr'⟩
  unfold Instr.build
  simp only [Sem.run_bind, hz, Result.andThen_ok, hd]
  have hm' : (fields.mapM fun f => do pure (f.offset, ← sizeOf f.type) : Sem (Array (Nat × Nat))).run P w = .ok o5.val.toArray w := by
    rw [Array.mapM_eq_mapM_toList]
    simp only [Sem.run_map, hm, Result.andThen_ok]
  simp only [hm', Result.andThen_ok, Array.toList_map]
  have : (fun x : Nat => o5.val.toArray[x]?) = (fun x : Nat => o5.val[x]?) := by funext x; simp
  rw [this, hf]
  rfl
end
end Go.Ev
namespace Go.Ev
open Go Go.RowKit
set_option linter.unusedVariables false

section
variable {X : Ctx} {I : Nat → Prop} {ι : Im} {st : St} {tm : Array Value} {w : World} {P : Program} {T : Tab}

theorem alloc_ok {t : TypeId} {m : Name} {i : TI} {out : Out C} (ht : TIok P t i) (h : newV m i.zero st = some out) (hr : RelI X I ι st tm w) :
    ∃ u w', (Instr.alloc t true (.tuple #[])).run P w = .ok u w' ∧ Good X out.st tm (.c out.val) w' u := by
  obtain ⟨h1, h2, h3⟩ := newV_inv h
  obtain ⟨z, hz, hzc⟩ := run_zeroValue ht w
  obtain ⟨hzr, _⟩ := zero_Rcs (w := w) (I := I) (ι := ι) (va := st.var) (ar := st.arr) ht.zero hzc
  obtain ⟨ι', hr', E, hm⟩ := hr.newV h1 hzr t
  refine ⟨.pointer (some ⟨w.heap.size, 0, none⟩), w.alloc (.cells z.cells t), ?_, I, ι', by rw [h3]; exact hr', ?_⟩
  · unfold Instr.alloc
    simp [hz, newVar, newRow]
  · rw [h2, h3]
    refine ⟨?_, w.heap.size, hm, rfl⟩
    rw [var_cons, if_pos rfl]; simp

theorem box_ok {t : TypeId} {m : Name} {l : List C} {u : Value} {out : Out C} (h : newV m l st = some out) (hr : RelI X I ι st tm w) (hl : Rcs w I ι st.var st.arr l u.cells) :
    ∃ v w', (Instr.box t u).run P w = .ok v w' ∧ Good X out.st tm (.c out.val) w' v := by
  obtain ⟨h1, h2, h3⟩ := newV_inv h
  obtain ⟨ι', hr', E, hm⟩ := hr.newV h1 hl t
  refine ⟨.pointer (some ⟨w.heap.size, 0, none⟩), w.alloc (.cells u.cells t), ?_, I, ι', by rw [h3]; exact hr', ?_⟩
  · unfold Instr.box
    simp [newVar, newRow]
  · rw [h2, h3]
    refine ⟨?_, w.heap.size, hm, rfl⟩
    rw [var_cons, if_pos rfl]; simp

theorem same_ok {x : C} {u : Value} (hr : RelI X I ι st tm w) (h : Rc w I ι st.var st.arr x u) : Good X st tm (.c x) w u := ⟨I, ι, hr, h⟩

theorem chk_inv {x : C} {out : Out Unit} (h : chk x st = some out) : out.st = st ∧ ∀ m k o, x = .pelem m k o → ∃ A, st.arr m = some (some A) := by
  unfold chk at h
  cases x with
  | pelem m k o =>
    obtain ⟨o1, o2, h1, h2, rfl⟩ := bind_some h
    obtain ⟨e1, e2⟩ := liveA_inv h1
    obtain rfl := pure_inv h2
    exact ⟨e2, fun m' k' o' e => by injection e with e1' e2' e3'; subst e1'; exact ⟨_, e1⟩⟩
  | _ => obtain rfl := pure_inv h; exact ⟨rfl, fun _ _ _ e => by cases e⟩

/-- A place further on. -/
theorem moved_ok {o : Nat} {x y : C} {u : Value} (h : movedO o x = some y) (hx : Rc w I ι st.var st.arr x u) (hl : ∀ m k p, x = .pelem m k p → ∃ A, st.arr m = some (some A)) : ∃ a : Addr, u = .pointer (some a) ∧ a.spot = none ∧ Rc w I ι st.var st.arr y (.pointer (some ⟨a.block, a.off + o, none⟩)) := by
  cases x with
  | pvar m p =>
    injection h with h; subst h
    obtain ⟨hm, b, hb, rfl⟩ := hx
    exact ⟨_, rfl, rfl, hm, b, hb, rfl⟩
  | pelem m k p =>
    injection h with h; subst h
    obtain ⟨A, hA⟩ := hl m k p rfl
    simp only [Rc, hA] at hx ⊢
    obtain ⟨b, cap, hb, rfl⟩ := hx
    exact ⟨_, rfl, rfl, b, cap, hb, by simp [Nat.add_assoc]⟩
  | pimm cs p =>
    injection h with h; subst h
    obtain ⟨b, q, f, rfl, hb, hc⟩ := hx
    exact ⟨_, rfl, rfl, b, q, f, by simp [Nat.add_assoc], hb, hc⟩
  | _ => cases h

theorem evField_inv (hT : TabOk P T) {t : TypeId} {f : Nat} {out : Out (Nat × TI)} (h : evField T t f st = some out) :
    out.st = st ∧ ∃ (fields : Array Field) (fd : Field), (∀ w, (underlying t).run P w = .ok (.struct fields) w) ∧ fields[f]? = some fd ∧ fd.offset = out.val.1 ∧ TIok P fd.type out.val.2 := by
  unfold evField at h
  obtain ⟨o1, o2, h1, h2, rfl⟩ := bind_some h
  obtain ⟨e1, e2⟩ := ti_inv h1
  have ht := hT t _ e1
  rw [e2] at h2
  obtain ⟨o3, o4, h3, h4, rfl⟩ := bind_some h2
  obtain ⟨e3, e4⟩ := ofO_inv h3
  rw [e4] at h4
  obtain ⟨o5, o6, h5, h6, rfl⟩ := bind_some h4
  obtain ⟨e5, e6⟩ := ofO_inv h5
  rw [e6] at h6
  obtain ⟨o7, o8, h7, h8, rfl⟩ := bind_some h6
  obtain ⟨e7, e8⟩ := ti_inv h7
  obtain rfl := pure_inv h8
  refine ⟨e8, ?_⟩
  obtain ⟨d, hd, hk⟩ := ht.und
  rw [structO_inv e3] at hk
  obtain ⟨fields, rfl, hfs⟩ := kind_struct hk
  have hff : (fields.toList.map fun f => (f.offset, f.type))[f]? = some o5.val := by rw [hfs]; exact e5
  rw [List.getElem?_map] at hff
  cases hfd : fields.toList[f]? with
  | none => rw [hfd] at hff; simp at hff
  | some fd =>
    rw [hfd] at hff
    simp only [Option.map_some, Option.some.injEq] at hff
    have := hT _ _ e7
    rw [← hff] at this ⊢
    exact ⟨fields, fd, fun w => by simp [underlying, hd], by simpa using hfd, rfl, this⟩

theorem fieldAddr_ok {t : TypeId} {f : Nat} {a c : C} {u : Value} {q : Nat × TI} {fields : Array Field} {fd : Field} (hu : ∀ w, (underlying t).run P w = .ok (.struct fields) w) (hf : fields[f]? = some fd) (ho : fd.offset = q.1) (ht : TIok P fd.type q.2) (hz : q.2.size ≠ 0)
    (ha : Rc w I ι st.var st.arr a u) (hl : ∀ m k p, a = .pelem m k p → ∃ A, st.arr m = some (some A)) (hm : movedO q.1 a = some c) : ∃ v, (Instr.fieldAt t u f).run P w = .ok v w ∧ Rc w I ι st.var st.arr c v := by
  obtain ⟨ad, rfl, hsp, hc⟩ := moved_ok hm ha hl
  refine ⟨_, ?_, hc⟩
  unfold Instr.fieldAt
  simp only [Sem.run_bind, hu, Result.andThen_ok, hf, Instr.sureAddr, Sem.run_pure, fieldPlace, run_sizeOf ht, hz, if_false, ho]
  congr 2
  unfold Addr.add
  obtain ⟨b, o, sp⟩ := ad
  simp only at hsp
  subst hsp
  split
  · rename_i h0; rw [h0]; rfl
  · rfl

theorem part_ok {t : TypeId} {i : TI} (ht : TIok P t i) {cs : List C} {us : Array Value} {va : VA} {ar : AR} (h : Rcs w I ι va ar cs us) {o : Nat} {out : Out S} (hl : loadFrom i cs o st = some out) :
    out.st = st ∧ ∃ v, (part t us o).run P w = .ok v w ∧ Rs w I ι va ar out.val v := by
  unfold loadFrom at hl
  rcases cond_inv hl with ⟨hle, hl⟩ | ⟨_, hl⟩
  · have hle := Nat.le_of_ble_eq_true hle
    rcases cond_inv hl with ⟨hk, hl⟩ | ⟨hk, hl⟩
    · obtain rfl := pure_inv hl
      obtain ⟨hwl, hwg⟩ := window_get cs o i.size hle
      refine ⟨rfl, .agg (us.extract o (o + i.size)), ?_, _, rfl, ?_, ?_⟩
      · unfold part
        simp only [Sem.run_bind, run_isAgg ht, hk, Result.andThen_ok, if_true, run_sizeOf ht, Sem.run_pure]
      · rw [hwl, Array.size_extract, h.1]; omega
      · intro j x hx
        obtain ⟨hj, hx⟩ := hwg j x hx
        obtain ⟨y, hy, hr⟩ := h.2 (o + j) x hx
        refine ⟨y, ?_, hr⟩
        rw [Array.getElem?_extract, if_pos (by rw [h.1]; omega)]
        exact hy
    · obtain ⟨o1, o2, h1, h2, rfl⟩ := bind_some hl
      obtain ⟨e1, e2⟩ := ofO_inv h1
      obtain rfl := pure_inv h2
      obtain ⟨y, hy, hr⟩ := h.2 o _ e1
      refine ⟨e2, y, ?_, hr⟩
      unfold part
      simp only [Sem.run_bind, run_isAgg ht, hk, Result.andThen_ok, Bool.false_eq_true, if_false, hy, Sem.run_pure]
  · exact (fail_inv hl).elim

theorem indexAddr_ok {t : TypeId} {x : C} {k : IntKind} {n : Int} {u : Value} {out : Out S} (hT : TabOk P T) (h : evIndexAddr T t x n st = some out) (hs : out.side) (hr : RelI X I ι st tm w) (hx : Rc w I ι st.var st.arr x u) :
    out.st = st ∧ ∃ v, (Instr.indexAt t u (.int k n)).run P w = .ok v w ∧ Rs w I ι st.var st.arr out.val v := by
  unfold evIndexAddr at h
  obtain ⟨o1, o2, h1, h2, rfl⟩ := bind_some h
  obtain ⟨e1, e2⟩ := ti_inv h1
  have ht := hT t _ e1
  rw [e2] at h2
  cases hq : arrO o1.val.kind with
  | some q =>
    rw [hq] at h2
    simp only at h2
    unfold evIndexArr at h2
    obtain ⟨o3, o4, h3, h4, rfl⟩ := bind_some h2
    obtain ⟨e3, e4⟩ := ti_inv h3
    have hz3 := hT _ _ e3
    rw [e4] at h4
    obtain ⟨o5, o6, h5, h6, rfl⟩ := bind_some h4
    obtain ⟨e5, e6⟩ := need_inv h5
    rw [e5] at h6
    obtain ⟨o7, o8, h7, h8, rfl⟩ := bind_some h6
    obtain ⟨e7, hl⟩ := chk_inv h7
    rw [e7] at h8
    obtain ⟨o9, oa, h9, ha, rfl⟩ := bind_some h8
    obtain ⟨e9, e10⟩ := ofO_inv h9
    obtain rfl := pure_inv ha
    refine ⟨e10, ?_⟩
    have hb : 0 ≤ n ∧ n < (q.1 : Int) := by
      have := (all_append.mp (all_append.mp (all_append.mp hs).2).2).1
      exact cast e6 this
    obtain ⟨d, hd, hk⟩ := run_und ht w
    rw [arrO_inv hq] at hk
    obtain rfl := kind_array hk
    obtain ⟨ad, rfl, hsp, hc⟩ := moved_ok e9 hx hl
    refine ⟨_, ?_, hc⟩
    obtain ⟨b, o, sp⟩ := ad
    simp only at hsp
    subst hsp
    unfold Instr.indexAt
    simp only [asIntOf, Sem.run_bind, Sem.run_pure, Result.andThen_ok, hd, if_pos hb, run_sizeOf hz3, Instr.sureAddr, add_at]
  | none =>
  rw [hq] at h2
  simp only at h2
  obtain ⟨o3, o4, h3, h4, rfl⟩ := bind_some h2
  obtain ⟨e3, e4⟩ := ofO_inv h3
  rw [e4] at h4
  obtain ⟨o5, o6, h5, h6, rfl⟩ := bind_some h4
  obtain ⟨e5, e6⟩ := ti_inv h5
  have hte := hT _ _ e5
  rw [e6] at h6
  obtain ⟨d, hd, hk⟩ := run_und ht w
  rw [sliceO_inv e3] at hk
  obtain rfl := kind_slice hk
  have run : ∀ (b o len cap : Nat), 0 ≤ n ∧ n < (len : Int) → (Instr.indexAt t (.slice (some ⟨b, o, none⟩) len cap) (.int k n)).run P w = .ok (.pointer (some ⟨b, o + n.toNat * o5.val.size, none⟩)) w := by
    intro b o len cap hb
    unfold Instr.indexAt
    simp only [asIntOf, Sem.run_bind, Sem.run_pure, Result.andThen_ok, hd, if_pos hb, run_sizeOf hte, add_at]
  cases x with
  | lst s m g =>
    obtain ⟨o7, o8, h7, h8, rfl⟩ := bind_some h6
    obtain ⟨e7, e8⟩ := need_inv h7
    rw [e7] at h8
    rcases cond_inv h8 with ⟨hsz, h8⟩ | ⟨_, h8⟩
    · obtain rfl := pure_inv h8
      refine ⟨rfl, ?_⟩
      have hb : 0 ≤ n ∧ n < (m : Int) := by
        have := (all_append.mp (all_append.mp (all_append.mp (all_append.mp hs).2).2).2).1
        exact cast e8 this
      have hse := Nat.eq_of_beq_eq_true hsz
      have hx' : Rimm w I (.lst s m g) u := hx
      cases hx' with
      | lst0 s g A c => exact absurd hb (by simp)
      | lst s m g b o c f hn hc hI hl hcell hrr =>
        refine ⟨_, run b o m c hb, ?_⟩
        have hlt : n.toNat < m := by omega
        refine ⟨b, o + n.toNat * s, f n.toNat, by rw [hse]; rfl, hI, fun j y hy => ⟨hcell n.toNat j y hlt hy, hrr n.toNat j y hlt hy⟩⟩
    · exact (fail_inv h8).elim
  | ref m len =>
    obtain ⟨o7, o8, h7, h8, rfl⟩ := bind_some h6
    obtain ⟨e7, e8⟩ := liveA_inv h7
    rw [e8] at h8
    obtain ⟨o9, oa, h9, ha, rfl⟩ := bind_some h8
    obtain ⟨e9, ea⟩ := need_inv h9
    rw [e9] at ha
    rcases cond_inv ha with ⟨hsz, ha⟩ | ⟨_, ha⟩
    · obtain rfl := pure_inv ha
      refine ⟨rfl, ?_⟩
      have hb : 0 ≤ n ∧ n < (len : Int) := by
        have := (all_append.mp (all_append.mp (all_append.mp (all_append.mp (all_append.mp hs).2).2).2).2).1
        exact cast ea this
      have hse := Nat.eq_of_beq_eq_true hsz
      simp only [Rc, e7] at hx
      obtain ⟨hn, hh⟩ := hx
      unfold hdr at hh
      split at hh
      · obtain ⟨_, rfl⟩ := hh; exact absurd hb (by simp)
      · rename_i b cap hp
        subst hh
        refine ⟨_, run b 0 len cap hb, ?_⟩
        show Rc w I ι st.var st.arr (.pelem m n.toNat 0) _
        simp only [Rc, e7]
        exact ⟨b, cap, hp, by rw [hse]; simp⟩
    · exact (fail_inv ha).elim
  | v _ => exact (fail_inv h6).elim
  | nil _ => exact (fail_inv h6).elim
  | pvar _ _ => exact (fail_inv h6).elim
  | pelem _ _ _ => exact (fail_inv h6).elim
  | pimm _ _ => exact (fail_inv h6).elim
  | err b => exact (fail_inv h6).elim
  | undef => exact (fail_inv h6).elim

theorem index_ok {t : TypeId} {x : S} {k : IntKind} {n : Int} {u : Value} {out : Out S} (hT : TabOk P T) (h : evIndex T t x n st = some out) (hs : out.side) (hx : Rs w I ι st.var st.arr x u) :
    out.st = st ∧ ∃ v, (Instr.index t u (.int k n)).run P w = .ok v w ∧ Rs w I ι st.var st.arr out.val v := by
  unfold evIndex at h
  obtain ⟨o1, o2, h1, h2, rfl⟩ := bind_some h
  obtain ⟨e1, e2⟩ := ti_inv h1
  have ht := hT t _ e1
  rw [e2] at h2
  cases hk : o1.val.kind with
  | string =>
    rw [hk] at h2
    cases x with
    | c y =>
      cases y with
      | v z =>
        cases z with
        | string s =>
          obtain ⟨o3, o4, h3, h4, rfl⟩ := bind_some h2
          obtain ⟨e3, e4⟩ := need_inv h3
          rw [e3] at h4
          obtain rfl := pure_inv h4
          refine ⟨rfl, ?_⟩
          have hb : 0 ≤ n ∧ n < (s.size : Int) := by
            have := (all_append.mp (all_append.mp hs).2).1
            exact cast e4 this
          have hx' : Rimm w I (.v (.string s)) u := hx
          cases hx'
          obtain ⟨d, hd, hkd⟩ := run_und ht w
          rw [hk] at hkd
          obtain rfl := kind_string hkd
          have hlt : n.toNat < s.size := by omega
          refine ⟨.int .u8 (byteAt s n.toNat), ?_, Rimm.v _ rfl⟩
          unfold Instr.index
          simp only [asIntOf, Sem.run_bind, Sem.run_pure, Result.andThen_ok, hd, if_pos hb.1]
          have hget : s[n.toNat]? = some (s.data.toList.getD n.toNat 0) := by
            rw [getElem?_pos s n.toNat hlt]
            congr 1
            have : s.data.toList.getD n.toNat 0 = s.data[n.toNat]'hlt := by rw [List.getD_eq_getElem?_getD, Array.getElem?_toList, Array.getElem?_eq_getElem hlt]; rfl
            rw [this]; rfl
          rw [hget]
          rfl
        | _ => exact (fail_inv h2).elim
      | _ => exact (fail_inv h2).elim
    | _ => exact (fail_inv h2).elim
  | array n' e =>
    rw [hk] at h2
    cases x with
    | agg cs =>
      obtain ⟨o3, o4, h3, h4, rfl⟩ := bind_some h2
      obtain ⟨e3, e4⟩ := ti_inv h3
      have hz3 := hT e _ e3
      rw [e4] at h4
      obtain ⟨o5, o6, h5, h6, rfl⟩ := bind_some h4
      obtain ⟨e5, e6⟩ := need_inv h5
      rw [e5] at h6
      obtain ⟨us, hxu, hxr⟩ := hx
      obtain ⟨e7, v, hrun, hvr⟩ := part_ok (P := P) (w := w) hz3 hxr h6
      refine ⟨e7, v, ?_, hvr⟩
      have hb : 0 ≤ n ∧ n < (n' : Int) := by
        have := (all_append.mp (all_append.mp (all_append.mp hs).2).2).1
        exact cast e6 this
      obtain ⟨d, hd, hkd⟩ := run_und ht w
      rw [hk] at hkd
      obtain rfl := kind_array hkd
      unfold Instr.index
      simp only [asIntOf, Sem.run_bind, Sem.run_pure, Result.andThen_ok, hd, if_pos hb, run_sizeOf hz3, hxu, hrun]
    | _ => exact (fail_inv h2).elim
  | _ => rw [hk] at h2; exact absurd h2 (by simp [fail])

theorem allocArr_ok {t : TypeId} {base : Nat} {out : Out C} (hT : TabOk P T) (h : evAllocArr T base t st = some out) (hs : out.side) (hr : RelI X I ι st tm w) :
    ∃ u w', (Instr.alloc t true (.tuple #[])).run P w = .ok u w' ∧ Good X out.st tm (.c out.val) w' u := by
  unfold evAllocArr at h
  obtain ⟨o1, o2, h1, h2, v1, s1, d1⟩ := bind_inv h
  obtain ⟨e1, e2⟩ := ti_inv h1
  have ht := hT t _ e1
  rw [e2] at h2
  obtain ⟨o3, o4, h3, h4, v3, s3, d3⟩ := bind_inv h2
  obtain ⟨e3, e4⟩ := ofO_inv h3
  rw [e4] at h4
  obtain ⟨o5, o6, h5, h6, v5, s5, d5⟩ := bind_inv h4
  obtain ⟨e5, e6⟩ := need_inv h5
  rw [e5] at h6
  obtain ⟨o7, o8, h7, h8, v7, s7, d7⟩ := bind_inv h6
  obtain ⟨e7, e8⟩ := guard_inv h7
  rw [e8] at h8
  obtain ⟨o9, oa, h9, ha, v9, s9, d9⟩ := bind_inv h8
  have hp := pure_inv ha
  have hz0 := (d5 (d3 (d1 hs).2).2).1
  rw [e6] at hz0
  simp only [Bool.and_eq_true] at e7
  have hln := Nat.eq_of_beq_eq_true e7.1
  have hmx := Nat.le_of_ble_eq_true e7.2
  obtain ⟨n1, n2, n3⟩ := newA_inv h9
  obtain ⟨z, hz, hzc⟩ := run_zeroValue ht w
  obtain ⟨hzr, hzi⟩ := zero_Rcs (w := w) (I := I) (ι := ι) (va := st.var) (ar := st.arr) ht.zero hzc
  obtain ⟨ι', hr', E, hm⟩ := hr.newA n1 (s := 1) (n := o3.val.1) (cap := o3.val.1) (g := fun _ => [o1.val.zero.getD 0 .undef]) (us := z.cells) t (by omega) (Nat.le_refl _) (by unfold maxLen; omega) (by rw [hzr.1, hln]; omega) (fun _ _ => rfl) (fun i j x hi hx => by
    have hj : j = 0 := by
      cases j with
      | zero => rfl
      | succ j => simp at hx
    subst hj
    simp only [List.getElem?_cons_zero, Option.some.injEq] at hx
    obtain ⟨y, hy, hR⟩ := hzi i x (by rw [hz0, List.getElem?_replicate, if_pos hi, hx])
    exact ⟨y, by rw [Nat.mul_one, Nat.add_zero]; exact hy, hR⟩)
  have hst : out.st = o9.st := by rw [s1, s3, s5, s7, s9, hp]
  have hval : out.val = .pelem (base, 0) 0 0 := by rw [v1, v3, v5, v7, v9, hp]
  rw [hst, hval, n3]
  refine ⟨.pointer (some ⟨w.heap.size, 0, none⟩), w.alloc (.cells z.cells t), ?_, I, ι', hr', ?_⟩
  · unfold Instr.alloc
    simp [hz, newVar, newRow]
  · have hA := arr_cons st (base, 0) (some ⟨false, 1, o3.val.1, fun _ => [o1.val.zero.getD 0 .undef]⟩) (base, 0)
    rw [if_pos rfl] at hA
    show Rc (w.alloc (.cells z.cells t)) I ι' st.var _ (.pelem (base, 0) 0 0) _
    simp only [Rc]
    rw [hA]
    exact ⟨w.heap.size, o3.val.1, hm, by simp⟩
theorem flatG_len (n : Nat) (g : Nat → List C) : (flatG n g).length = n := by simp [flatG]
theorem loadArr_ok {t : TypeId} {a : C} {u : Value} {out : Out S} (hT : TabOk P T) (h : evLoadArr T t a st = some out) (hs : out.side) (hr : RelI X I ι st tm w) (ha : Rc w I ι st.var st.arr a u) :
    out.st = st ∧ ∃ v, (Instr.loadAt t u).run P w = .ok v w ∧ Rs w I ι st.var st.arr out.val v := by
  unfold evLoadArr at h
  cases a with
  | pelem m k o =>
    obtain ⟨o1, o2, h1, h2, v1, s1, d1⟩ := bind_inv h
    obtain ⟨e1, e2⟩ := ti_inv h1
    have ht := hT t _ e1
    rw [e2] at h2
    obtain ⟨o3, o4, h3, h4, v3, s3, d3⟩ := bind_inv h2
    obtain ⟨e3, e4⟩ := ofO_inv h3
    rw [e4] at h4
    obtain ⟨o5, o6, h5, h6, v5, s5, d5⟩ := bind_inv h4
    obtain ⟨e5, e6⟩ := liveA_inv h5
    rw [e6] at h6
    obtain ⟨o7, o8, h7, h8, v7, s7, d7⟩ := bind_inv h6
    obtain ⟨e7, e8⟩ := guard_inv h7
    rw [e8] at h8
    obtain ⟨o9, oa, h9, ha', v9, s9, d9⟩ := bind_inv h8
    obtain ⟨e9, e10⟩ := need_inv h9
    rw [e9] at ha'
    have hp := pure_inv ha'
    have hn := (d9 (d7 (d5 (d3 (d1 hs).2).2).2).2).1
    rw [e10] at hn
    simp only [Bool.and_eq_true] at e7
    obtain ⟨⟨⟨q1, q2⟩, q3⟩, q4⟩ := e7
    have q1 := Nat.eq_of_beq_eq_true q1
    have q2 := Nat.eq_of_beq_eq_true q2
    have q3 := Nat.eq_of_beq_eq_true q3
    have q4 := Nat.eq_of_beq_eq_true q4
    subst q2 q3
    simp only [Rc, e5] at ha
    obtain ⟨b, cap, hb, rfl⟩ := ha
    have hok := hr.arrs m _ e5
    rw [hb] at hok
    obtain ⟨⟨f, hrow⟩, _⟩ := hok
    have hl : loadFrom o1.val (flatG o3.val.1 o5.val.g) 0 st = some ⟨.agg (flatG o3.val.1 o5.val.g), st, [], [], []⟩ := by
      have hk : isAggK o1.val.kind = true := by rw [arrO_inv e3]; rfl
      unfold loadFrom
      rw [show Nat.ble (0 + o1.val.size) (flatG o3.val.1 o5.val.g).length = true from Nat.ble_eq_true_of_le (by rw [flatG_len]; omega), hk]
      have : window (flatG o3.val.1 o5.val.g) 0 o1.val.size = flatG o3.val.1 o5.val.g := by
        unfold window
        rw [List.drop_zero, List.take_of_length_le (by rw [flatG_len]; omega)]
      rw [this]
      rfl
    obtain ⟨z1, v, z2, z3⟩ := loadVar_ok (w := w) (I := I) (ι := ι) (va := st.var) (ar := st.arr) (b := b) (o := 0) ht (fun j => f j 0) (fun j x hx => by
      have hj : j < o3.val.1 := by
        rcases Nat.lt_or_ge j o3.val.1 with hj | hj
        · exact hj
        · rw [List.getElem?_eq_none (by rw [flatG_len]; exact hj)] at hx; cases hx
      have hjn : j < o5.val.n := by omega
      have hlen := hrow.len j hjn
      simp only [flatG, List.getElem?_map, List.getElem?_range hj, Option.map_some, Option.some.injEq] at hx
      have hg : (o5.val.g j)[0]? = some x := by
        rw [← hx, List.getD_eq_getElem?_getD]
        have : 0 < (o5.val.g j).length := by omega
        rw [List.getElem?_eq_getElem this]; rfl
      have hc := hrow.cell j 0 x hjn hg
      rw [q1] at hc
      refine ⟨by rw [Nat.zero_add]; simpa using hc, immB_Rc (hrow.rel j 0 x hjn hg)⟩) hl
    have hst : out.st = st := by rw [s1, s3, s5, s7, s9, hp]
    have hval : out.val = .agg (flatG o3.val.1 o5.val.g) := by rw [v1, v3, v5, v7, v9, hp]
    rw [hval]
    refine ⟨hst, v, ?_, z3⟩
    simp only [Instr.loadAt, Instr.sureAddr, Sem.run_bind, Sem.run_pure, Result.andThen_ok, Nat.zero_mul, Nat.add_zero]
    exact z2
  | _ => exact (fail_inv h).elim
theorem indexDyn_ok {t : TypeId} {c : C} {x : S} {k : IntKind} {n : Int} {u : Value} {out : Out S} (hT : TabOk P T) (h : evIndexDyn T c t x n st = some out) (hs : out.side) (hx : Rs w I ι st.var st.arr x u) :
    out.st = st ∧ ∃ v, (Instr.index t u (.int k n)).run P w = .ok v w ∧ Rs w I ι st.var st.arr out.val v := by
  unfold evIndexDyn at h
  obtain ⟨o1, o2, h1, h2, v1, s1, d1⟩ := bind_inv h
  obtain ⟨e1, e2⟩ := ti_inv h1
  have ht := hT t _ e1
  rw [e2] at h2
  obtain ⟨o3, o4, h3, h4, v3, s3, d3⟩ := bind_inv h2
  obtain ⟨e3, e4⟩ := ofO_inv h3
  rw [e4] at h4
  obtain ⟨o5, o6, h5, h6, v5, s5, d5⟩ := bind_inv h4
  obtain ⟨e5, e6⟩ := ti_inv h5
  have hz := hT _ _ e5
  rw [e6] at h6
  obtain ⟨o7, o8, h7, h8, v7, s7, d7⟩ := bind_inv h6
  obtain ⟨e7, e8⟩ := ofO_inv h7
  rw [e8] at h8
  obtain ⟨o9, oa, h9, ha, v9, s9, d9⟩ := bind_inv h8
  obtain ⟨e9, e10⟩ := guard_inv h9
  rw [e10] at ha
  obtain ⟨ob, oc, hb, hc, vb, sb, db⟩ := bind_inv ha
  obtain ⟨eb, eb'⟩ := need_inv hb
  rw [eb] at hc
  obtain ⟨od, oe, hd, he, vd, sd, dd⟩ := bind_inv hc
  obtain ⟨ed, ed'⟩ := need_inv hd
  rw [ed] at he
  have hp := pure_inv he
  have D9 := d9 (d7 (d5 (d3 (d1 hs).2).2).2).2
  have hb1 := (db D9.2).1
  rw [eb'] at hb1
  have hb2 := (dd (db D9.2).2).1
  rw [ed'] at hb2
  simp only [Bool.and_eq_true, Bool.not_eq_true'] at e9
  have hz1 := Nat.eq_of_beq_eq_true e9.1
  have hst : out.st = st := by rw [s1, s3, s5, s7, s9, sb, sd, hp]
  have hval : out.val = .c c := by rw [v1, v3, v5, v7, v9, vb, vd, hp]
  cases x with
  | agg cs =>
    injection e7 with e7
    rw [← e7] at hb2
    obtain ⟨us, hxu, hxr⟩ := hx
    obtain ⟨hlt, hcc⟩ := hb2
    have hget : cs.getD n.toNat .undef = cs[n.toNat] := by rw [List.getD_eq_getElem?_getD, List.getElem?_eq_getElem hlt]; rfl
    rw [hget] at hcc
    subst hcc
    rw [hval]
    have hl : loadFrom o5.val cs n.toNat st = some ⟨.c cs[n.toNat], st, [], [], []⟩ := by
      unfold loadFrom
      rw [show Nat.ble (n.toNat + o5.val.size) cs.length = true from Nat.ble_eq_true_of_le (by omega), e9.2]
      simp only [cond_true, cond_false, List.getElem?_eq_getElem hlt]
      rfl
    obtain ⟨e7', v, hrun, hvr⟩ := part_ok (P := P) (w := w) hz hxr hl
    refine ⟨hst, v, ?_, hvr⟩
    obtain ⟨d, hd', hkd⟩ := run_und ht w
    rw [arrO_inv e3] at hkd
    obtain rfl := kind_array hkd
    unfold Instr.index
    simp only [asIntOf, Sem.run_bind, Sem.run_pure, Result.andThen_ok, hd', if_pos hb1, run_sizeOf hz, hxu, hz1, Nat.mul_one, hrun]
  | c _ => cases e7
  | tup _ => cases e7
  | sp _ => cases e7
theorem indexArrDyn_ok {t : TypeId} {x : C} {k : IntKind} {n : Int} {u : Value} {out : Out S} (hT : TabOk P T) (h : evIndexArrDyn T t x n st = some out) (hs : out.side) (hr : RelI X I ι st tm w) (hx : Rc w I ι st.var st.arr x u) :
    out.st = st ∧ ∃ v, (Instr.indexAt t u (.int k n)).run P w = .ok v w ∧ Rs w I ι st.var st.arr out.val v := by
  unfold evIndexArrDyn at h
  cases x with
  | pelem m j o =>
    obtain ⟨o1, o2, h1, h2, v1, s1, d1⟩ := bind_inv h
    obtain ⟨e1, e2⟩ := ti_inv h1
    have ht := hT t _ e1
    rw [e2] at h2
    obtain ⟨o3, o4, h3, h4, v3, s3, d3⟩ := bind_inv h2
    obtain ⟨e3, e4⟩ := ofO_inv h3
    rw [e4] at h4
    obtain ⟨o5, o6, h5, h6, v5, s5, d5⟩ := bind_inv h4
    obtain ⟨e5, e6⟩ := ti_inv h5
    have hz := hT _ _ e5
    rw [e6] at h6
    obtain ⟨o7, o8, h7, h8, v7, s7, d7⟩ := bind_inv h6
    obtain ⟨e7, e8⟩ := liveA_inv h7
    rw [e8] at h8
    obtain ⟨o9, oa, h9, ha, v9, s9, d9⟩ := bind_inv h8
    obtain ⟨e9, e10⟩ := guard_inv h9
    rw [e10] at ha
    obtain ⟨ob, oc, hb, hc, vb, sb, db⟩ := bind_inv ha
    obtain ⟨eb, eb'⟩ := need_inv hb
    rw [eb] at hc
    have hp := pure_inv hc
    have hb1 := (db (d9 (d7 (d5 (d3 (d1 hs).2).2).2).2).2).1
    rw [eb'] at hb1
    simp only [Bool.and_eq_true] at e9
    obtain ⟨⟨q1, q2⟩, q3⟩ := e9
    have q1 := Nat.eq_of_beq_eq_true q1
    have q2 := Nat.eq_of_beq_eq_true q2
    have q3 := Nat.eq_of_beq_eq_true q3
    subst q2 q3
    have hst : out.st = st := by rw [s1, s3, s5, s7, s9, sb, hp]
    have hval : out.val = .c (.pelem m n.toNat 0) := by rw [v1, v3, v5, v7, v9, vb, hp]
    simp only [Rc, e7] at hx
    obtain ⟨b, cap, hb, rfl⟩ := hx
    rw [hval]
    refine ⟨hst, .pointer (some ⟨b, n.toNat * o7.val.s + 0, none⟩), ?_, ?_⟩
    · obtain ⟨d, hd', hkd⟩ := run_und ht w
      rw [arrO_inv e3] at hkd
      obtain rfl := kind_array hkd
      unfold Instr.indexAt
      simp only [asIntOf, Sem.run_bind, Sem.run_pure, Result.andThen_ok, hd', if_pos hb1, run_sizeOf hz, Instr.sureAddr, add_at, q1, Nat.zero_mul, Nat.zero_add, Nat.add_zero]
    · show Rc w I ι st.var st.arr (.pelem m n.toNat 0) _
      simp only [Rc, e7]
      exact ⟨b, cap, hb, rfl⟩
  | _ => exact (fail_inv h).elim
theorem indexAddrX_ok {t : TypeId} {hf : Bool} {x : C} {k : IntKind} {n : Int} {u : Value} {out : Out S} (hT : TabOk P T) (h : evIndexAddrX T hf t x n st = some out) (hs : out.side) (hr : RelI X I ι st tm w) (hx : Rc w I ι st.var st.arr x u) :
    out.st = st ∧ ∃ v, (Instr.indexAt t u (.int k n)).run P w = .ok v w ∧ Rs w I ι st.var st.arr out.val v := by
  unfold evIndexAddrX at h
  cases hf with
  | true => exact indexArrDyn_ok hT h hs hr hx
  | false => exact indexAddr_ok hT h hs hr hx
theorem allocX_ok {t : TypeId} {hf : Bool} {base : Nat} {out : Out C} (hT : TabOk P T) (h : evAlloc T hf base t st = some out) (hs : out.side) (hr : RelI X I ι st tm w) :
    ∃ u w', (Instr.alloc t true (.tuple #[])).run P w = .ok u w' ∧ Good X out.st tm (.c out.val) w' u := by
  unfold evAlloc at h
  cases hf with
  | true => exact allocArr_ok hT h hs hr
  | false =>
    obtain ⟨o1, o2, h1, h2, v1, s1, d1⟩ := bind_inv (show (do let i ← ti T t; newV (base, 0) i.zero : M C) st = some out from h)
    obtain ⟨e1, e2⟩ := ti_inv h1
    rw [e2] at h2
    obtain ⟨u, w', q1, q2⟩ := alloc_ok (hT t _ e1) h2 hr
    rw [← v1, ← s1] at q2
    exact ⟨u, w', q1, q2⟩
theorem loadX_ok {t : TypeId} {hf : Bool} {a : C} {u : Value} {out : Out S} (hT : TabOk P T) (h : evLoadX T hf t a st = some out) (hs : out.side) (hr : RelI X I ι st tm w) (ha : Rc w I ι st.var st.arr a u) :
    out.st = st ∧ ∃ v, (Instr.loadAt t u).run P w = .ok v w ∧ Rs w I ι st.var st.arr out.val v := by
  unfold evLoadX at h
  cases hf with
  | true => exact loadArr_ok hT h hs hr ha
  | false => exact load_ok hT h hs hr ha
theorem indexX_ok {t : TypeId} {hf : Option C} {x : S} {k : IntKind} {n : Int} {u : Value} {out : Out S} (hT : TabOk P T) (h : evIndexX T hf t x n st = some out) (hs : out.side) (hx : Rs w I ι st.var st.arr x u) :
    out.st = st ∧ ∃ v, (Instr.index t u (.int k n)).run P w = .ok v w ∧ Rs w I ι st.var st.arr out.val v := by
  unfold evIndexX at h
  cases hf with
  | some c => exact indexDyn_ok hT h hs hx
  | none => exact index_ok hT h hs hx
end
end Go.Ev
