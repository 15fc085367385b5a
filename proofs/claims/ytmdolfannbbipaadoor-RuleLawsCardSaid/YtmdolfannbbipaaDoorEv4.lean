/- The evaluator, part 4: triples, the rule of a function, what printed proofs are made of. -/
import Derived.Test.YtmdolfannbbipaaDoorEv3
import Derived.RangeFuncRecord
import Derived.KernelRfl
import Derived.Laws.StructEq
import Derived.RangeFuncSeq
namespace Go.Ev
open Go Go.RowKit
set_option linter.unusedVariables false

abbrev Post := Exit → St → Prop
def thenQ (next : St → Prop) (Q : Post) : Post
  | .normal, st => next st
  | e, st => Q e st
def inB (id : Nat) (Q : Post) : Post
  | .exit id', st => if id' = id then Q .normal st else Q (.exit id') st
  | e, st => Q e st
/-- The marks that loops over functions have left. -/
def marks (dl : List Nat) : List Deferred := dl.map fun D => { target := .collected D, args := #[] }
/-- What is seen from later on; the blocks of the marks lie where nobody writes. -/
structure Later (X : Ctx) (r : Option Nat) (X' : Ctx) (dl : List Nat) : Prop where
  out : r.isSome = true → dl = []
  back : ∀ I ι st tm w, RelI X' I ι st tm w → RelI X I ι st tm w ∧ (FamI X' I ι st tm w → FamI X I ι st tm w)
  B : X.B ≤ X'.B
  nodup : dl.Nodup
  mark : ∀ D ∈ dl, X.B ≤ D ∧ D < X'.B ∧ ¬ X'.ext D ∧ ¬ X'.I0 D ∧ X'.w0.heap[D]? = some (.deferred (some []))
theorem Later.refl (X : Ctx) (r : Option Nat) : Later X r X [] := ⟨fun _ => rfl, fun _ _ _ _ _ h => ⟨h, fun h => h⟩, Nat.le_refl _, List.nodup_nil, by simp⟩
/-- Slot i is not written. -/
def noDst (i : Nat) : Code → Bool
  | .region _ ops _ => ops.toList.all fun o => match o.dst with
    | some d => !(Nat.beq d i)
    | none => true
  | .seq a b => noDst i a && noDst i b
  | .cond _ a b => noDst i a && noDst i b
  | .block _ c => noDst i c
  | .loop c => noDst i c
  | .scope c => noDst i c
  | _ => true
/-- No loop over a function within. -/
def noRF : Code → Bool
  | .rangeFunc _ _ _ _ => false
  | .seq a b => noRF a && noRF b
  | .cond _ a b => noRF a && noRF b
  | .block _ c => noRF c
  | .loop c => noRF c
  | .scope c => noRF c
  | _ => true
structure Hyp (r : Option Nat) (fx : Nat → Option Value) (c : Code) : Prop where
  rf : r.isSome = true → noRF c = true
  nd : ∀ i v, fx i = some v → noDst i c = true
/-- The frame: the marks that it bears, the slots that nobody writes. -/
structure ActOk (dl : List Nat) (fx : Nat → Option Value) (a : Act) : Prop where
  df : a.defers = marks dl
  fd : ∀ i v, fx i = some v → a.tmps.getD i undef = v
def lift (X : Ctx) (r : Option Nat) (fx : Nat → Option Value) (Q : Post) : Exit → Act → World → Prop := fun e a w => ∃ X' dl, Later X r X' dl ∧ ActOk dl fx a ∧ ∃ st, Q e st ∧ Rel X' st a.tmps w

def Tri (X : Ctx) (P : Program) (c : Code) (st : St) (Q : Post) : Prop :=
  ∀ (r : Option Nat) (fx : Nat → Option Value) (n : Nat) (X' : Ctx) (dl : List Nat) a w, Hyp r fx c → Later X r X' dl → ActOk dl fx a → Rel X' st a.tmps w → c.wpIn (FW r) n P (lift X r fx Q) a w

/-- A loop's body, with the loop behind it. -/
def wpL (r : Option Nat) (P : Program) (c : Code) (Q : Exit → Act → World → Prop) (a : Act) (w : World) : Prop :=
  ∀ (b : Frame) (k : List Item) (cs : List Frame), b.roundOf = r → ∃ e a' w', Q e a' w' ∧ ArrivesIn (Machine.fenced P (FW r)) P (lone (b.atR a (.code c :: .inLoop c :: k)) cs w) b k cs e a' w'
def TriIn (X : Ctx) (P : Program) (c : Code) (st : St) (Q : Post) : Prop :=
  ∀ (r : Option Nat) (fx : Nat → Option Value) (X' : Ctx) (dl : List Nat) a w, Hyp r fx c → Later X r X' dl → ActOk dl fx a → Rel X' st a.tmps w → wpL r P c (lift X r fx Q) a w

def evStep (mixed : Bool) (P : Program) (T : Tab) (hh : Hints) (ops : Array Oper) (base md : Nat) (gs : List Gh) (st : St) : Option (St × List Prop) :=
  match evReg mixed P T (FnOk P) hh ops base md st with
  | none => none
  | some r =>
    match evGhs gs r.1 with
    | none => none
    | some o => some (o.st, r.2 ++ o.needs)
def evTell (gs : List Gh) (st : St) : Option (St × List Prop) :=
  match evGhs gs st with
  | none => none
  | some o => some (o.st, o.needs)

/-- What stands for the whole program. -/
structure Env (P : Program) (T : Tab) : Prop where
  tab : TabOk P T
  mixed : P.follows .mixedOrders = true

section
variable {X : Ctx} {P : Program} {T : Tab} {Q : Post} {st st' : St}

theorem Hyp.seq {r : Option Nat} {fx : Nat → Option Value} {x y : Code} (h : Hyp r fx (.seq x y)) : Hyp r fx x ∧ Hyp r fx y := by
  have h1 := h.rf
  have h2 := h.nd
  simp only [noRF, noDst, Bool.and_eq_true] at h1 h2
  exact ⟨⟨fun e => (h1 e).1, fun i v e => (h2 i v e).1⟩, ⟨fun e => (h1 e).2, fun i v e => (h2 i v e).2⟩⟩
theorem Hyp.cond {r : Option Nat} {fx : Nat → Option Value} {t : Operand} {x y : Code} (h : Hyp r fx (.cond t x y)) : Hyp r fx x ∧ Hyp r fx y := by
  have h1 := h.rf
  have h2 := h.nd
  simp only [noRF, noDst, Bool.and_eq_true] at h1 h2
  exact ⟨⟨fun e => (h1 e).1, fun i v e => (h2 i v e).1⟩, ⟨fun e => (h1 e).2, fun i v e => (h2 i v e).2⟩⟩
theorem Hyp.block {r : Option Nat} {fx : Nat → Option Value} {id : Nat} {x : Code} (h : Hyp r fx (.block id x)) : Hyp r fx x := ⟨h.rf, h.nd⟩
theorem Hyp.loop {r : Option Nat} {fx : Nat → Option Value} {x : Code} (h : Hyp r fx (.loop x)) : Hyp r fx x := ⟨h.rf, h.nd⟩
theorem ActOk.same {r : Option Nat} {fx : Nat → Option Value} {dl : List Nat} {id : Nat} {ops : Array Oper} {mixed : Bool} {a a' : Act} (h : ActOk dl fx a) (hy : Hyp r fx (.region id ops mixed)) (e : Same ops a a') : ActOk dl fx a' := by
  refine ⟨e.1.trans h.df, fun i v hv => (e.2 i fun j o ho hd => ?_).trans (h.fd i v hv)⟩
  have := hy.nd i v hv
  simp only [noDst, List.all_eq_true] at this
  have := this o (List.mem_of_getElem? (by simpa using ho))
  rw [hd] at this
  simp at this
theorem wp_lift_seq {r : Option Nat} {fx : Nat → Option Value} {n : Nat} {x y : Code} {a : Act} {w : World} (hn : Hyp r fx y) (h : x.wpIn (FW r) n P (lift X r fx (thenQ (fun s => Tri X P y s Q) Q)) a w) : (Code.seq x y).wpIn (FW r) n P (lift X r fx Q) a w := by
  refine wpIn_seq (wpIn_mono h fun e a' w' hq => ?_)
  obtain ⟨X2, dl, hl, hd, s, hq, hr⟩ := hq
  cases e with
  | normal => exact hq r fx n X2 dl a' w' hn hl hd hr
  | exit id => exact ⟨X2, dl, hl, hd, s, hq, hr⟩
  | goto l => exact ⟨X2, dl, hl, hd, s, hq, hr⟩
  | ret => exact ⟨X2, dl, hl, hd, s, hq, hr⟩
  | panic c => exact ⟨X2, dl, hl, hd, s, hq, hr⟩
  | outgrown => exact ⟨X2, dl, hl, hd, s, hq, hr⟩

theorem tri_seq {x y : Code} (h : Tri X P x st (thenQ (fun s => Tri X P y s Q) Q)) : Tri X P (.seq x y) st Q :=
  fun r fx n X' dl a w hn hl hd hr => wp_lift_seq hn.seq.2 (h r fx n X' dl a w hn.seq.1 hl hd hr)

theorem evStep_inv {mixed : Bool} {hh : Hints} {ops : Array Oper} {base md : Nat} {gs : List Gh} {needs : List Prop} (h : evStep mixed P T hh ops base md gs st = some (st', needs)) :
    ∃ s n o, evReg mixed P T (FnOk P) hh ops base md st = some (s, n) ∧ evGhs gs s = some o ∧ o.st = st' ∧ needs = n ++ o.needs := by
  unfold evStep at h
  cases h1 : evReg mixed P T (FnOk P) hh ops base md st with
  | none => rw [h1] at h; cases h
  | some r =>
    rw [h1] at h
    simp only at h
    cases h2 : evGhs gs r.1 with
    | none => rw [h2] at h; cases h
    | some o =>
      rw [h2] at h
      simp only [Option.some.injEq, Prod.mk.injEq] at h
      exact ⟨r.1, r.2, o, rfl, h2, h.1, h.2.symm⟩

theorem wp_reg (E : Env P T) {r : Option Nat} {n : Nat} {X' : Ctx} {mixed : Bool} {id : Nat} {hh : Hints} {ops : Array Oper} {base md : Nat} {gs : List Gh} {needs : List Prop} (h : evStep mixed P T hh ops base md gs st = some (st', needs)) (hs : All needs)
    {a : Act} {w : World} (hr : Rel X' st a.tmps w) {R : Exit → Act → World → Prop} (hR : ∀ a' w', Same ops a a' → Rel X' st' a'.tmps w' → R .normal a' w') : (Code.region id ops mixed).wpIn (FW r) n P R a w := by
  obtain ⟨s, m, o, h1, h2, rfl, rfl⟩ := evStep_inv h
  have hs' := all_append.mp hs
  exact region_ok E.tab (fun _ _ _ _ k => k) E.mixed h1 hs'.1 hr fun a' w' hd' hr' => hR a' w' hd' (evGhs_ok h2 hs'.2 hr')

theorem tri_reg (E : Env P T) {mixed : Bool} {id : Nat} {ops : Array Oper} {y : Code} (hh : Hints) (base md : Nat) (gs : List Gh) (st' : St) (needs : List Prop) (h : evStep mixed P T hh ops base md gs st = some (st', needs)) (hs : All needs) (hk : Tri X P y st' Q) :
    Tri X P (.seq (.region id ops mixed) y) st Q :=
  fun r fx n X' dl a w hn hl hd hr => wp_lift_seq hn.seq.2 (wp_reg E h hs hr fun a' w' hd' hr' => ⟨X', dl, hl, hd.same hn.seq.1 hd', st', hk, hr'⟩)

theorem tri_reg_end (E : Env P T) {mixed : Bool} {id : Nat} {ops : Array Oper} (hh : Hints) (base md : Nat) (gs : List Gh) (st' : St) (needs : List Prop) (h : evStep mixed P T hh ops base md gs st = some (st', needs)) (hs : All needs) (hk : Q .normal st') :
    Tri X P (.region id ops mixed) st Q :=
  fun r fx n X' dl a w hn hl hd hr => wp_reg E h hs hr fun a' w' hd' hr' => ⟨X', dl, hl, hd.same hn hd', st', hk, hr'⟩

theorem tri_tell {c : Code} (gs : List Gh) (st' : St) (needs : List Prop) (h : evTell gs st = some (st', needs)) (hs : All needs) (hk : Tri X P c st' Q) : Tri X P c st Q := by
  intro r fx n X' dl a w hn hl hd hr
  unfold evTell at h
  cases h2 : evGhs gs st with
  | none => rw [h2] at h; cases h
  | some o =>
    rw [h2] at h
    simp only [Option.some.injEq, Prod.mk.injEq] at h
    obtain ⟨rfl, rfl⟩ := h
    exact hk r fx n X' dl a w hn hl hd (evGhs_ok h2 hs hr)
theorem triIn_tell {c : Code} (gs : List Gh) (st' : St) (needs : List Prop) (h : evTell gs st = some (st', needs)) (hs : All needs) (hk : TriIn X P c st' Q) : TriIn X P c st Q := by
  intro r fx X' dl a w hn hl hd hr
  unfold evTell at h
  cases h2 : evGhs gs st with
  | none => rw [h2] at h; cases h
  | some o =>
    rw [h2] at h
    simp only [Option.some.injEq, Prod.mk.injEq] at h
    obtain ⟨rfl, rfl⟩ := h
    exact hk r fx X' dl a w hn hl hd (evGhs_ok h2 hs hr)

theorem tri_cond {t : Tmp} {x y : Code} (b : Bool) (hb : boolO (st.slot t) = some b) (h1 : b = true → Tri X P x st Q) (h2 : b = false → Tri X P y st Q) : Tri X P (.cond (.tmp t) x y) st Q := by
  intro r fx n X' dl a w hn hl hd hr
  have hv : a.eval (.tmp t) = .bool b := by
    obtain ⟨I, ι, hr, _⟩ := hr
    exact boolO_inv hb (hr.slots t)
  exact wpIn_cond_split hv (fun e => h1 e r fx n X' dl a w hn.cond.1 hl hd hr) (fun e => h2 e r fx n X' dl a w hn.cond.2 hl hd hr)

theorem tri_block {id : Nat} {c : Code} (h : Tri X P c st (inB id Q)) : Tri X P (.block id c) st Q := by
  intro r fx n X' dl a w hn hl hd hr
  refine wpIn_block (wpIn_mono (h r fx n X' dl a w hn.block hl hd hr) fun e a' w' hq => ?_)
  obtain ⟨X2, d2, hl', hd', s, hq, hr'⟩ := hq
  cases e with
  | exit id' =>
    simp only [inB, Exit.inBlock] at hq ⊢
    split
    · rename_i e; rw [if_pos e] at hq; exact ⟨X2, d2, hl', hd', s, hq, hr'⟩
    · rename_i e; rw [if_neg e] at hq; exact ⟨X2, d2, hl', hd', s, hq, hr'⟩
  | normal => exact ⟨X2, d2, hl', hd', s, hq, hr'⟩
  | goto l => exact ⟨X2, d2, hl', hd', s, hq, hr'⟩
  | ret => exact ⟨X2, d2, hl', hd', s, hq, hr'⟩
  | panic c => exact ⟨X2, d2, hl', hd', s, hq, hr'⟩
  | outgrown => exact ⟨X2, d2, hl', hd', s, hq, hr'⟩

theorem tri_skip (h : Q .normal st) : Tri X P .skip st Q := fun r fx n X' dl a w _ hl hd hr => wpIn_skip ⟨X', dl, hl, hd, st, h, hr⟩
theorem tri_exit {id : Nat} (h : Q (.exit id) st) : Tri X P (.exit id) st Q := fun r fx n X' dl a w _ hl hd hr => wpIn_exit ⟨X', dl, hl, hd, st, h, hr⟩
theorem tri_ret (h : Q .ret st) : Tri X P .ret st Q := fun r fx n X' dl a w _ hl hd hr => wpIn_ret ⟨X', dl, hl, hd, st, h, hr⟩

theorem fenced_FW (r : Option Nat) (m : Machine) : m.fenced P (FW r) := fenced_wide P m

theorem tri_loop {c : Code} (h : TriIn X P c st Q) : Tri X P (.loop c) st Q := by
  intro r fx n X' dl a w hn hl hd hr b k cs hro _ _
  obtain ⟨e, a', w', hq, harr⟩ := h r fx X' dl a w hn.loop hl hd hr b k cs hro
  exact ⟨e, a', w', hq, .of_steps (.one (fenced_FW r _) stepR_loop) harr⟩

theorem triIn_step {c : Code} (h : Tri X P c st (thenQ (fun s => TriIn X P c s Q) Q)) : TriIn X P c st Q := by
  intro r fx X' dl a w hn hl hd hr b k cs hro
  obtain ⟨e, a₁, w₁, hq, harr⟩ := h r fx 0 X' dl a w hn hl hd hr b (.inLoop c :: k) cs hro trivial (fun _ h => by cases h)
  obtain ⟨X2, d2, hl', hd', s, hq, hr'⟩ := hq
  cases e with
  | normal =>
    obtain ⟨e₂, a₂, w₂, hq₂, harr₂⟩ := hq r fx X2 d2 a₁ w₁ hn hl' hd' hr' b k cs hro
    exact ⟨e₂, a₂, w₂, hq₂, .of_steps (StepsIn.trans harr (.one (fenced_FW r _) stepR_inLoop)) harr₂⟩
  | exit id => exact ⟨_, a₁, w₁, ⟨X2, d2, hl', hd', s, hq, hr'⟩, .pass (x := .inLoop c) rfl (fun _ _ => .inl (by simp)) harr⟩
  | goto l => exact ⟨_, a₁, w₁, ⟨X2, d2, hl', hd', s, hq, hr'⟩, .pass (x := .inLoop c) rfl (fun _ _ => .inl (by simp)) harr⟩
  | ret => exact ⟨_, a₁, w₁, ⟨X2, d2, hl', hd', s, hq, hr'⟩, .pass (x := .inLoop c) rfl (fun _ _ => .inl (by simp)) harr⟩
  | panic ch => exact ⟨_, a₁, w₁, ⟨X2, d2, hl', hd', s, hq, hr'⟩, .pass (x := .inLoop c) rfl (fun _ _ => .inl (by simp)) harr⟩
  | outgrown => exact ⟨_, a₁, w₁, ⟨X2, d2, hl', hd', s, hq, hr'⟩, .pass (x := .inLoop c) rfl (fun _ _ => .inl (by simp)) harr⟩

theorem tri_mono {c : Code} {Q' : Post} (h : Tri X P c st Q) (hq : ∀ e s, Q e s → Q' e s) : Tri X P c st Q' :=
  fun r fx n X' dl a w hn hl hd hr => wpIn_mono (h r fx n X' dl a w hn hl hd hr) fun e a' w' ⟨X2, d2, hl', hd', s, q, hr'⟩ => ⟨X2, d2, hl', hd', s, hq e s q, hr'⟩
end
end Go.Ev
namespace Go.Ev
open Go Go.RowKit
set_option linter.unusedVariables false

def number : Nat → List S → List (Nat × S)
  | _, [] => []
  | i, x :: r => (i, x) :: number (i + 1) r

/-- Where a call begins: what its parameters hold, and the variables that they point to. -/
def evInit (n : Nat) (args : List X) : Option (St × List Name) :=
  match impSs 0 0 args ⟨n, [], [], []⟩ with
  | none => none
  | some o => bif (Nat.ble args.length n && o.val.1.all (fun s => !isSp s)) && (o.val.1.flatMap ptrS).all (fun m => Nat.beq m.1 0) then some ({ o.st with slots := number 0 o.val.1 }, o.val.1.flatMap ptrS) else none

def evRes (T : Tab) : List ResultVar → M (List S)
  | [] => pure []
  | .tmp t :: r => do
    let x ← rdS t
    let l ← evRes T r
    pure (x :: l)
  | .cell a t :: r => do
    let p ← ofO (asC (← rdS a))
    let x ← evLoad T t p
    let l ← evRes T r
    pure (x :: l)
def evPouts : List Name → M (List (List X))
  | [] => pure []
  | m :: r => do
    let cs ← varOf m
    let p ← expCs true cs
    let l ← evPouts r
    pure (p :: l)
def packX : List X → X
  | [x] => x
  | l => .tup l
def evRet (T : Tab) (rs : List ResultVar) (ns : List Name) : M (X × List (List X)) := do
  let ss ← evRes T rs
  bif nodupN (ss.flatMap ptrS ++ ns) then pure () else fail
  let xs ← expSs (rs.map fun _ => true) ss
  let ps ← evPouts ns
  pure (packX xs, ps)

def evRet' (T : Tab) (rs : List ResultVar) (ns : List Name) (st : St) : Option (X × List (List X) × List Prop) :=
  match evRet T rs ns st with
  | none => none
  | some o => some (o.val.1, o.val.2, o.needs)

def retQ (T : Tab) (rs : List ResultVar) (ns : List Name) (res : X) (pout : List (List X)) : Post
  | .ret, st => ∃ needs, evRet' T rs ns st = some (res, pout, needs) ∧ All needs
  | .normal, st => ∃ needs, evRet' T rs ns st = some (res, pout, needs) ∧ All needs
  | _, _ => False

section
variable {X' : Ctx} {P : Program} {T : Tab} {I : Nat → Prop} {ι : Im} {st : St} {tm : Array Value} {w : World}

theorem lookN_number {i : Nat} : ∀ {l : List S} {k : Nat}, lookN i (number k l) = if k ≤ i then l[i - k]? else none
  | [], k => by simp [number, lookN]
  | x :: r, k => by
    simp only [number, lookN]
    cases h : Nat.beq i k with
    | true =>
      obtain rfl := Nat.eq_of_beq_eq_true h
      simp
    | false =>
      have hne : i ≠ k := fun e => by rw [e, Nat.beq_refl] at h; cases h
      simp only [cond_false]
      rw [lookN_number]
      by_cases hk : k + 1 ≤ i
      · rw [if_pos hk, if_pos (by omega), show i - k = (i - (k + 1)) + 1 by omega, List.getElem?_cons_succ]
      · rw [if_neg hk, if_neg (by omega)]

theorem RelI.pinned (h : RelI X' I ι st tm w) {pin : Name → Option Nat} (hp : ∀ m b, pin m = some b → m.1 = 0 ∧ st.var m ≠ none ∧ ι.v m = some b) : RelI { X' with pin := pin } I ι st tm w := by
  refine ⟨h.size, h.slots, fun m cs hm => ?_, fun m A hA => h.arrs m A hA, h.inI, h.vv, h.va, h.aa, h.fr, hp⟩
  obtain ⟨b, f, q⟩ := h.vars m cs hm
  exact ⟨b, f, q.at_, q.lt, q.notI, q.mine, q.cell⟩

/-- The parameters that are pointers. -/
theorem impS_ptr {base j : Nat} {x : X} {out : Out (S × Nat)} (h : impS base j x st = some out) : if isCell x = true then ∃ m, out.val.1 = .c (.pvar m 0) else ptrS out.val.1 = [] := by
  have other : ∀ {y : X}, impS base j y st = some out → (impS base j y = (do let q ← impC base j y; pure (.c q.1, q.2))) → ptrS out.val.1 = [] := by
    intro y hy he
    rw [he] at hy
    obtain ⟨o1, o2, h1, h2, v1, s1, d1⟩ := bind_inv hy
    have hp := pure_inv h2
    rw [v1, hp]
    unfold impC at h1
    split at h1
    · obtain ⟨p1, p2, g1, g2, w1, r1, c1⟩ := bind_inv h1
      have hq := pure_inv g2
      rw [w1, hq]
      have := (newA_inv g1).2.1
      simp only [this, ptrS]
    · obtain ⟨p1, p2, g1, g2, w1, r1, c1⟩ := bind_inv h1
      have hq := pure_inv g2
      rw [w1, hq]
      obtain ⟨f1, f2⟩ := ofO_inv g1
      show ptrS (.c p1.val) = []
      unfold immO at f1
      split at f1 <;> first | cases f1 | (obtain h' := Option.some.inj f1; rw [← h']; rfl)
  cases x with
  | c y => exact other (y := .c y) h rfl
  | own s n g => exact other (y := .own s n g) h rfl
  | tup l => unfold impS at h; exact (fail_inv h).elim
  | agg l =>
    unfold impS at h
    obtain ⟨o1, o2, h1, h2, v1, s1, d1⟩ := bind_inv h
    have hp := pure_inv h2
    rw [v1, hp]
    rfl
  | cell l =>
    unfold impS at h
    obtain ⟨o1, o2, h1, h2, v1, s1, d1⟩ := bind_inv h
    obtain ⟨o3, o4, h3, h4, v3, s3, d3⟩ := bind_inv h2
    have hp := pure_inv h4
    rw [v1, v3, hp]
    exact ⟨_, by rw [(newV_inv h3).2.1]⟩

theorem impSs_al {base : Nat} : ∀ {xs : List X} {j : Nat} {us : List Value} {st : St} {va : VA} {ar : AR} {out : Out (List S × Nat)}, impSs base j xs st = some out → us.length = xs.length →
    (∀ (k : Nat) x, out.val.1[k]? = some x → ∃ y, us[k]? = some y ∧ Rs1 w I ι va ar x y) → Al ι out.val.1 xs us ∧ out.val.1.length = xs.length := by
  intro xs
  induction xs with
  | nil =>
    intro j us st va ar out h hl hx
    unfold impSs at h
    have hp := pure_inv h
    rw [hp]
    cases us with
    | nil => exact ⟨trivial, rfl⟩
    | cons _ _ => simp at hl
  | cons x xs ih =>
    intro j us st va ar out h hl hx
    cases us with
    | nil => simp at hl
    | cons u us =>
      unfold impSs at h
      obtain ⟨o1, o2, h1, h2, v1, s1, d1⟩ := bind_inv h
      obtain ⟨o3, o4, h3, h4, v3, s3, d3⟩ := bind_inv h2
      have hp := pure_inv h4
      have hv : out.val.1 = o1.val.1 :: o3.val.1 := by rw [v1, v3, hp]
      rw [hv] at hx ⊢
      obtain ⟨q1, q2⟩ := ih (us := us) h3 (by simpa using hl) (fun k y hy => by simpa using hx (k + 1) y (by simpa using hy))
      refine ⟨⟨?_, q1⟩, by simp [q2]⟩
      have hi := impS_ptr h1
      cases hc : isCell x with
      | false => rw [hc, if_neg (by simp)] at hi; rw [if_neg (by simp)]; exact hi
      | true =>
        rw [hc, if_pos rfl] at hi
        rw [if_pos rfl]
        obtain ⟨m, hm⟩ := hi
        obtain ⟨y, hy, hr⟩ := hx 0 o1.val.1 rfl
        obtain rfl : u = y := by simpa using hy
        rw [hm] at hr
        obtain ⟨_, b, hb, hu⟩ := (show Rc w I ι va ar (.pvar m 0) u from hr)
        exact ⟨m, b, by rw [hm]; rfl, hb, hu⟩

theorem evPouts_ok : ∀ {l : List S} {xs : List X} {us : List Value} {st : St} {out : Out (List (List X))}, evPouts (l.flatMap ptrS) st = some out → out.side → RelI X' I ι st tm w → Al ι l xs us → (∀ m ∈ l.flatMap ptrS, st.var m ≠ none) →
    ∃ fq, RelI X' I ι out.st tm w ∧ Fewer st out.st ∧ Pouts w I xs us out.val fq ∧ fq.Nodup ∧ ∀ b ∈ fq, Gone st out.st ι b := by
  intro l
  induction l with
  | nil =>
    intro xs us st out h hs hr ha hv
    have hp := pure_inv (show (pure [] : M _) st = some out from h)
    rw [hp]
    cases xs <;> cases us <;> first | exact ha.elim | exact ⟨[], hr, .refl _, rfl, List.nodup_nil, by simp⟩
  | cons x l ih =>
    intro xs us st out h hs hr ha hv
    cases xs with
    | nil => exact ha.elim
    | cons y xs =>
      cases us with
      | nil => exact ha.elim
      | cons u us =>
        obtain ⟨ha1, ha2⟩ := ha
        cases hc : isCell y with
        | false =>
          rw [hc, if_neg (by simp)] at ha1
          rw [List.flatMap_cons, ha1, List.nil_append] at h
          obtain ⟨fq, q1, q2, q3, q4, q5⟩ := ih h hs hr ha2 (fun m hm => hv m (by rw [List.flatMap_cons]; exact List.mem_append.mpr (.inr hm)))
          refine ⟨fq, q1, q2, ?_, q4, q5⟩
          unfold Pouts
          rw [hc, if_neg (by simp)]
          exact q3
        | true =>
          rw [hc, if_pos rfl] at ha1
          obtain ⟨m, b, hm, hb, rfl⟩ := ha1
          rw [List.flatMap_cons, hm] at h
          have h' : (do
            let cs ← varOf m
            let p ← expCs true cs
            let l ← evPouts (l.flatMap ptrS)
            pure (p :: l) : M _) st = some out := h
          obtain ⟨o1, o2, h1, h2, v1, s1, d1⟩ := bind_inv h'
          obtain ⟨e1, e2⟩ := varOf_inv h1
          rw [e2] at h2
          obtain ⟨o3, o4, h3, h4, v3, s3, d3⟩ := bind_inv h2
          obtain ⟨o5, o6, h5, h6, v5, s5, d5⟩ := bind_inv h4
          have hp := pure_inv h6
          have hs3 := (d3 (d1 hs).2).1
          have hs5 := (d5 (d3 (d1 hs).2).2).1
          obtain ⟨b', f, q⟩ := hr.vars m o1.val e1
          have hbb : b' = b := by
            have := q.at_
            rw [hb] at this
            injection this with this
            exact this.symm
          subst hbb
          have cell : ∀ j, j < o1.val.length → w.cell? ⟨b', j, none⟩ = some (f j) ∧ w.frozen? ⟨b', j, none⟩ = false ∧ Rc w I ι st.var st.arr (o1.val.getD j .undef) (f j) := by
            intro j hj
            have := q.cell j _ (List.getElem?_eq_getElem hj)
            rw [List.getD_eq_getElem?_getD, List.getElem?_eq_getElem hj]
            exact this
          obtain ⟨f1, r1, E1, F1, X1, N1, G1⟩ := expCs_ok (I0 := I) (us := (List.range o1.val.length).map f) h3 hs3 hr (by simp) (fun j y hy => by
            have hj : j < o1.val.length := by
              rcases Nat.lt_or_ge j o1.val.length with hj | hj
              · exact hj
              · rw [List.getElem?_eq_none hj] at hy; cases hy
            refine ⟨f j, by rw [List.getElem?_map, List.getElem?_range hj]; rfl, ?_⟩
            have := (cell j hj).2.2
            rw [List.getD_eq_getElem?_getD, hy] at this
            exact this) (fun _ h => h) (fun e => by cases e)
          obtain ⟨f2, r2, F2, X2, N2, G2⟩ := ih (st := o3.st) (xs := xs) (us := us) h5 hs5 r1 ha2 (fun k hk => by
            rw [F1.var]
            exact hv k (by rw [List.flatMap_cons]; exact List.mem_append.mpr (.inr hk)))
          have hst : out.st = o5.st := by rw [s1, s3, s5, hp]
          have hval : out.val = o3.val :: o5.val := by rw [v1, v3, v5, hp]
          rw [hst, hval]
          refine ⟨f1 ++ f2, r2, F1.trans F2, ?_, ?_, ?_⟩
          · unfold Pouts
            rw [hc, if_pos rfl]
            refine ⟨b', (List.range o1.val.length).map f, o3.val, o5.val, f1, f2, rfl, rfl, ⟨q.lt, fun j u hu => ?_⟩, X1, X2, rfl⟩
            rw [List.getElem?_map] at hu
            rcases Nat.lt_or_ge j o1.val.length with hj | hj
            · rw [List.getElem?_range hj] at hu
              obtain rfl := Option.some.inj hu
              exact ⟨(cell j hj).1, (cell j hj).2.1⟩
            · rw [List.getElem?_eq_none (by simpa using hj)] at hu; cases hu
          · rw [List.nodup_append]
            refine ⟨N1, N2, fun a ha b hb e => ?_⟩
            subst e
            exact Gone.apart hr (G1 a ha) (G2 a hb) F1 rfl
          · intro c hc
            rcases List.mem_append.mp hc with hc | hc
            · exact (G1 c hc).later F2
            · exact (G2 c hc).earlier F1
end
end Go.Ev
namespace Go.Ev
open Go Go.RowKit
set_option linter.unusedVariables false

section
variable {X' : Ctx} {P : Program} {T : Tab} {I : Nat → Prop} {ι : Im} {st : St} {w : World}

def resV (tm : Array Value) : ResultVar → Sem Value
  | .tmp t => pure (tm.getD t undef)
  | .cell x t => do loadVar t (← asAddr (tm.getD x undef))

theorem evRes_ok (hT : TabOk P T) {a : Act} (hr : RelI X' I ι st a.tmps w) : ∀ {rs : List ResultVar} {out : Out (List S)}, evRes T rs st = some out → out.side → out.st = st ∧ ∃ us : List Value,
    (rs.mapM (m := Sem) (resV a.tmps)).run P w = .ok us w ∧ us.length = out.val.length ∧ us.length = rs.length ∧
    ∀ (j : Nat) x, out.val[j]? = some x → ∃ y, us[j]? = some y ∧ Rs w I ι st.var st.arr x y := by
  intro rs
  induction rs with
  | nil =>
    intro out h hs
    have hp := pure_inv h
    rw [hp]
    exact ⟨rfl, [], by simp, rfl, rfl, fun j x hx => by simp at hx⟩
  | cons r rs ih =>
    intro out h hs
    cases r with
    | tmp t =>
      unfold evRes at h
      obtain ⟨o1, o2, h1, h2, v1, s1, d1⟩ := bind_inv h
      obtain ⟨e1, e2⟩ := rdS_inv h1
      rw [e2] at h2
      obtain ⟨o3, o4, h3, h4, v3, s3, d3⟩ := bind_inv h2
      have hp := pure_inv h4
      obtain ⟨q1, us, q2, q3, q3', q4⟩ := ih h3 (d3 (d1 hs).2).1
      have hst : out.st = st := by rw [s1, s3, hp]; exact q1
      have hv : out.val = o1.val :: o3.val := by rw [v1, v3, hp]
      rw [hv]
      refine ⟨hst, a.tmps.getD t undef :: us, ?_, by simp [q3], by simp [q3'], fun j x hx => ?_⟩
      · have hload : (resV a.tmps (.tmp t)).run P w = .ok (a.tmps.getD t undef) w := rfl
        rw [List.mapM_cons, Sem.run_bind, hload]
        simp only [Sem.run_bind, Sem.run_pure, Result.andThen_ok, q2]
      · cases j with
        | zero => simp at hx; subst hx; exact ⟨_, rfl, by rw [e1]; exact hr.slots t⟩
        | succ j => simpa using q4 j x (by simpa using hx)
    | cell x t =>
      unfold evRes at h
      obtain ⟨o1, o2, h1, h2, v1, s1, d1⟩ := bind_inv h
      obtain ⟨e1, e2⟩ := rdS_inv h1
      rw [e1, e2] at h2
      obtain ⟨o3, o4, h3, h4, v3, s3, d3⟩ := bind_inv h2
      obtain ⟨e3, e4⟩ := ofO_inv h3
      rw [e4] at h4
      obtain ⟨o5, o6, h5, h6, v5, s5, d5⟩ := bind_inv h4
      have hd := d5 (d3 (d1 hs).2).2
      have hx := hr.slots x
      have hc : st.slot x = .c o3.val := by
        cases hq : st.slot x with
        | c y => rw [hq] at e3; injection e3 with e3; rw [e3]
        | agg _ => rw [hq] at e3; cases e3
        | tup _ => rw [hq] at e3; cases e3
        | sp _ => rw [hq] at e3; cases e3
      rw [hc] at hx
      obtain ⟨l1, v, l2, l3⟩ := load_ok hT h5 hd.1 hr (show Rc w I ι st.var st.arr o3.val _ from hx)
      rw [l1] at h6
      obtain ⟨o7, o8, h7, h8, v7, s7, d7⟩ := bind_inv h6
      have hp := pure_inv h8
      obtain ⟨q1, us, q2, q3, q3', q4⟩ := ih h7 (d7 hd.2).1
      have hst : out.st = st := by rw [s1, s3, s5, s7, hp]; exact q1
      have hv : out.val = o5.val :: o7.val := by rw [v1, v3, v5, v7, hp]
      rw [hv]
      have hload : (do loadVar t (← asAddr (a.tmps.getD x undef)) : Sem Value).run P w = .ok v w := by
        unfold Instr.loadAt Instr.sureAddr at l2
        unfold asAddr
        generalize a.tmps.getD x undef = u at l2 ⊢
        split at l2
        · simpa using l2
        · simp [stuck] at l2
      refine ⟨hst, v :: us, ?_, by simp [q3], by simp [q3'], fun j z hz => ?_⟩
      · have hload' : (resV a.tmps (.cell x t)).run P w = .ok v w := hload
        rw [List.mapM_cons, Sem.run_bind, hload']
        simp only [Sem.run_bind, Sem.run_pure, Result.andThen_ok, q2]
      · cases j with
        | zero => simp at hz; subst hz; exact ⟨_, rfl, l3⟩
        | succ j => simpa using q4 j z (by simpa using hz)

def packV : List Value → Value
  | [u] => u
  | l => .tuple l.toArray

theorem results_run {fn : Func} {tm : Array Value} {us : List Value} (h : (fn.results.toList.mapM (m := Sem) (resV tm)).run P w = .ok us w) :
    (results fn tm).run P w = .ok (packV us) w := by
  have e : results fn tm = (do
      let vs ← fn.results.mapM (resV tm)
      pure (if h : vs.size = 1 then vs[0] else .tuple vs)) := by
    unfold results
    have : (fun | .tmp t => (pure (tm.getD t undef) : Sem Value) | .cell a t => do loadVar t (← asAddr (tm.getD a undef))) = resV tm := by
      funext r
      cases r <;> rfl
    rw [← this]
    rfl
  rw [e, Array.mapM_eq_mapM_toList]
  simp only [Sem.run_bind, Sem.run_map]
  rw [h]
  simp only [Result.andThen_ok, Sem.run_pure]
  congr 1
  match us with
  | [] => rfl
  | [u] => rfl
  | _ :: _ :: _ => rfl

theorem RXl_of {I0 : Nat → Prop} {xs : List X} {us : List Value} {fp : List Nat} (h : RXl w I0 xs us fp) : RXr w I0 (packX xs) (packV us) fp := by
  match xs, us with
  | [], [] => exact ⟨#[], rfl, h⟩
  | [x], [u] =>
    obtain ⟨f1, f2, rfl, hx, rfl⟩ := h
    rw [List.append_nil]
    cases x with
    | tup l => exact hx.elim
    | _ => exact hx
  | x :: y :: xs, u :: v :: us => exact ⟨(u :: v :: us).toArray, rfl, h⟩
  | [], _ :: _ => exact h.elim
  | _ :: _, [] => exact h.elim
  | [x], u :: v :: us => obtain ⟨_, _, _, _, h⟩ := h; exact h.elim
  | x :: y :: xs, [u] => obtain ⟨_, _, _, _, h⟩ := h; exact h.elim

theorem ret_ok (hT : TabOk P T) {w0 : World} {I0 : Nat → Prop} {fp : List Nat} {ns : List Name} {l : List S} {args : List X} {vs : List Value} {pin : Name → Option Nat} {ι0 : Im} (hal : Al ι0 l args vs) (hns : ns = l.flatMap ptrS) (hpin : ∀ m ∈ ns, ∃ b, ι0.v m = some b ∧ pin m = some b)
    {fn : Func} {res : X} {pout : List (List X)} {needs : List Prop} (h : evRet' T fn.results.toList ns st = some (res, pout, needs)) (hs : All needs) {a : Act} {I : Nat → Prop} {ι : Im} (hr : RelI ⟨(· ∈ fp), w0, I0, pin⟩ I ι st a.tmps w) :
    ∃ v, (results fn a.tmps).run P w = .ok v w ∧ Ret w0 I0 fp args vs res pout v w := by
  subst hns
  unfold evRet' at h
  cases h0 : evRet T fn.results.toList (l.flatMap ptrS) st with
  | none => rw [h0] at h; cases h
  | some o0 =>
    rw [h0] at h
    simp only [Option.some.injEq, Prod.mk.injEq] at h
    obtain ⟨rfl, rfl, rfl⟩ := h
    have hs0 : o0.side := hs
    unfold evRet at h0
    obtain ⟨o1, o2, h1, h2, v1, s1, d1⟩ := bind_inv h0
    obtain ⟨g1, us, g2, g3, g4, g5⟩ := evRes_ok hT hr h1 (d1 hs0).1
    rw [g1] at h2
    obtain ⟨o3, o4, h3, h4, v3, s3, d3⟩ := bind_inv h2
    obtain ⟨e3, e4⟩ := guard_inv h3
    rw [e4] at h4
    have hnd := nodupN_iff e3
    rw [List.nodup_append] at hnd
    obtain ⟨o5, o6, h5, h6, v5, s5, d5⟩ := bind_inv h4
    obtain ⟨o7, o8, h7, h8, v7, s7, d7⟩ := bind_inv h6
    have hp := pure_inv h8
    have hd3 := (d3 (d1 hs0).2).2
    have hd5 := (d5 hd3).1
    have hd7 := (d7 (d5 hd3).2).1
    have himm : ∀ (n : List ResultVar) (k : List S), ∀ m ∈ immRefs (n.map fun _ => true) k, n.length < k.length := by
      intro n
      induction n with
      | nil =>
        intro k m hm
        cases k with
        | nil => simp [immRefs] at hm
        | cons _ _ => simp
      | cons r n ih =>
        intro k m hm
        cases k with
        | nil => simp [immRefs] at hm
        | cons x k =>
          have := ih k m (by simpa [immRefs] using hm)
          simpa using this
    obtain ⟨fr, r1, E1, F1, X1, N1, T1, A1⟩ := expSs_ok (I0 := I) (us := us) h5 hd5 hr g3 g5 (fun _ h => h) (fun m hm => absurd (himm _ _ m hm) (by omega)) hnd.1
    have hpv : ∀ m ∈ l.flatMap ptrS, st.var m ≠ none ∧ ι.v m = ι0.v m := by
      intro m hm
      obtain ⟨b, hb, hb'⟩ := hpin m hm
      obtain ⟨_, p1, p2⟩ := hr.pin m b hb'
      exact ⟨p1, p2.trans hb.symm⟩
    have hal' : Al ι l args vs := by
      have gen : ∀ (l : List S) (args : List X) (vs : List Value), Al ι0 l args vs → (∀ m ∈ l.flatMap ptrS, ι.v m = ι0.v m) → Al ι l args vs := by
        intro l
        induction l with
        | nil => intro args vs h _; cases args <;> cases vs <;> first | exact h.elim | trivial
        | cons x l ih =>
          intro args vs h hm
          cases args with
          | nil => exact h.elim
          | cons y args =>
            cases vs with
            | nil => exact h.elim
            | cons u vs =>
              obtain ⟨ha, hb⟩ := h
              refine ⟨?_, ih args vs hb (fun m hm' => hm m (by rw [List.flatMap_cons]; exact List.mem_append.mpr (.inr hm')))⟩
              split
              · rename_i hc
                rw [if_pos hc] at ha
                obtain ⟨m, b, h1, h2, h3⟩ := ha
                exact ⟨m, b, h1, (hm m (by rw [List.flatMap_cons, h1]; simp)).trans h2, h3⟩
              · rename_i hc
                rw [if_neg hc] at ha
                exact ha
      exact gen l args vs hal (fun m hm => (hpv m hm).2)
    obtain ⟨fq, r2, F2, X2, N2, G2⟩ := evPouts_ok h7 hd7 r1 hal' (fun m hm => by rw [F1.var]; exact (hpv m hm).1)
    refine ⟨_, results_run g2, I, fr, fq, ?_, ?_, ?_, ?_, ?_, ?_, ?_⟩
    · intro b hb
      obtain ⟨q1, q2⟩ := r2.inI b hb
      refine ⟨q1, ?_⟩
      rcases q2 with q2 | q2 | q2
      · exact .inl q2
      · exact .inr (.inl q2)
      · exact .inr (.inr q2)
    · have hv : o0.val.1 = packX o5.val := by rw [v1, v3, v5, v7, hp]
      rw [hv]
      exact RXl_of X1
    · have hv : o0.val.2 = o7.val := by rw [v1, v3, v5, v7, hp]
      rw [hv]
      exact X2
    · rw [List.nodup_append]
      refine ⟨N1, N2, fun b hb c hc e => ?_⟩
      subst e
      rcases T1 b hb with g | ⟨m, hm, q1, q2⟩
      · exact Gone.apart hr g (G2 b hc) F1 rfl
      · obtain ⟨k, A, c, k1, k2, k3, k4⟩ := (G2 b hc).earlier F1
        exact hr.va m k A b c q1 k1 q2 k3
    · intro b hb
      have key : b < w.heap.size ∧ ¬ I b ∧ (Ctx.mine ⟨(· ∈ fp), w0, I0, pin⟩ b) ∧ b ∉ ptrBlocks args vs := by
        have ofGone : ∀ {st' : St}, Gone st st' ι b → b < w.heap.size ∧ ¬ I b ∧ (Ctx.mine ⟨(· ∈ fp), w0, I0, pin⟩ b) ∧ b ∉ ptrBlocks args vs := by
          intro st' g
          obtain ⟨m, A, c, k1, k2, k3, k4⟩ := g
          have hok := hr.arrs m A k1
          rw [k3] at hok
          obtain ⟨⟨f, hrow⟩, hz⟩ := hok
          rw [k2] at hz
          refine ⟨hrow.lt, hz.1, hz.2, fun hb' => ?_⟩
          obtain ⟨m', hm', hb''⟩ := ptr_mem hal' hb'
          exact hr.va m' m A b c (hpv m' hm').1 k1 hb'' k3
        rcases List.mem_append.mp hb with hb | hb
        · rcases T1 b hb with g | ⟨m, hm, q1, q2⟩
          · exact ofGone g
          · cases hcs : st.var m with
            | none => exact absurd hcs q1
            | some cs =>
              obtain ⟨b', f, q⟩ := hr.vars m cs hcs
              have := q.at_
              rw [q2] at this
              injection this with this
              subst this
              refine ⟨q.lt, q.notI, q.mine, fun hb' => ?_⟩
              obtain ⟨m', hm', hb''⟩ := ptr_mem hal' hb'
              have := hr.vv m m' b q1 (hpv m' hm').1 q2 hb''
              exact hnd.2.2 m hm m' hm' this
        · exact ofGone ((G2 b hb).earlier F1)
      refine ⟨key.1, key.2.1, ?_, key.2.2.2⟩
      exact key.2.2.1
    · intro b hb hI
      obtain ⟨m, hm, hb'⟩ := ptr_mem hal' hb
      obtain ⟨p1, p2⟩ := hpv m hm
      cases hcs : st.var m with
      | none => exact absurd hcs p1
      | some cs =>
        obtain ⟨b', f, q⟩ := hr.vars m cs hcs
        have := q.at_
        rw [hb'] at this
        injection this with this
        subst this
        exact q.notI hI
    · exact hr.fr

/-- The world has turned at a block of which the state knows nothing. -/
theorem RelI.other {X : Ctx} {tm : Array Value} (h : RelI X I ι st tm w) {D : Nat} {o : Obj} (hB : X.B ≤ D) (hI : ¬ I D) (hU : Unused st ι D) : RelI X I ι st tm (w.putObj D o) := by
  have hb : ∀ k, k ≠ D → (w.putObj D o).heap[k]? = w.heap[k]? := fun k hk => World.putObj_heap_other hk
  have E : Ext w I ι st.var st.arr (w.putObj D o) I ι st.var st.arr :=
    ⟨fun b hIb => hb b (fun e => hI (e ▸ hIb)), fun _ h => h, fun m hm => ⟨hm, rfl⟩, fun _ h => h, fun m A hA => .inr ⟨A, hA, rfl, rfl, rfl⟩⟩
  have hsz : (w.putObj D o).heap.size = w.heap.size := World.putObj_size
  refine ⟨h.size, fun i => (h.slots i).ext E, ?_, ?_, fun b hIb => ⟨by rw [hsz]; exact (h.inI b hIb).1, (h.inI b hIb).2⟩, h.vv, h.va, h.aa, ?_, h.pin⟩
  · intro m cs hm
    obtain ⟨b, f, hv⟩ := h.vars m cs hm
    have hne : b ≠ D := fun e => hU.1 m (by rw [hm]; simp) (e ▸ hv.at_)
    refine ⟨b, f, hv.at_, by rw [hsz]; exact hv.lt, hv.notI, hv.mine, fun j x hx => ?_⟩
    obtain ⟨h1, h2, h3⟩ := hv.cell j x hx
    exact ⟨(World.cell?_of_block (hb b hne)).trans h1, (World.frozen?_of_block (hb b hne)).trans h2, h3.ext E⟩
  · intro m A hA
    have := h.arrs m A hA
    unfold ArrOk at this ⊢
    split at this
    · exact this
    · rename_i b cap hp
      have hne : b ≠ D := fun e => hU.2 m A cap hA (e ▸ hp)
      obtain ⟨⟨f, hr⟩, hz⟩ := this
      exact ⟨⟨f, by rw [hsz]; exact hr.lt, hr.pos, hr.fit, hr.max, fun o' ho => by
        rw [World.cell?_of_block (hb b hne), World.frozen?_of_block (hb b hne)]; exact hr.there o' ho, hr.len,
        fun i j x hi hx => (World.cell?_of_block (hb b hne)).trans (hr.cell i j x hi hx), fun i j x hi hx => (hr.rel i j x hi hx).mono E.hw E.hI⟩, hz⟩
  · refine ⟨h.fr.gl, h.fr.os, h.fr.tape, h.fr.output, by rw [hsz]; exact h.fr.size, fun k hk he => (hb k (fun e => ?_)).trans (h.fr.block k hk he)⟩
    subst e
    exact absurd hk (Nat.not_lt.mpr hB)

theorem leaves_marks {X : Ctx} {r : Option Nat} {n : Nat} {fn : Func} {tm : Array Value} {R : Ending → World → Prop} (hk : ∀ w', RelI X I ι st tm w' → ∃ v, (results fn tm).run P w' = .ok v w' ∧ R (.returned v) w') :
    ∀ (dl : List Nat) (w : World), dl.Nodup → (∀ D ∈ dl, X.B ≤ D ∧ ¬ I D ∧ Unused st ι D ∧ w.heap[D]? = some (.deferred (some []))) → RelI X I ι st tm w → LeavesInM (FW r) n P fn tm R (marks dl) .returning w := by
  intro dl
  induction dl with
  | nil => intro w _ _ hr; exact hk w hr
  | cons D dl ih =>
    intro w hnd hD hr
    obtain ⟨h1, h2, h3, h4⟩ := hD D List.mem_cons_self
    refine ⟨by simp, .inl ⟨D, _, rfl, run_takeDeferred h4, ?_⟩⟩
    have hnd' := List.nodup_cons.mp hnd
    refine ih _ hnd'.2 (fun D' hD' => ?_) (hr.other h1 h2 h3)
    obtain ⟨k1, k2, k3, k4⟩ := hD D' (List.mem_cons_of_mem _ hD')
    have hne : D' ≠ D := fun e => hnd'.1 (by rw [← e]; exact hD')
    exact ⟨k1, k2, k3, (World.putObj_heap_other hne).trans k4⟩

/-- The blocks of the marks, as they lie now. -/
theorem Later.now {X X' : Ctx} {r : Option Nat} {dl : List Nat} {tm : Array Value} (hl : Later X r X' dl) (h : RelI X' I ι st tm w) : ∀ D ∈ dl, X.B ≤ D ∧ ¬ I D ∧ Unused st ι D ∧ w.heap[D]? = some (.deferred (some [])) := by
  intro D hD
  obtain ⟨h1, h2, h3, h4, h5⟩ := hl.mark D hD
  have hnm : ¬ X'.mine D := by
    rintro (hm | hm)
    · exact absurd h2 (Nat.not_lt.mpr hm)
    · exact h3 hm
  have hI : ¬ I D := by
    intro hi
    rcases (h.inI D hi).2 with hq | hq
    · exact h4 hq
    · exact hnm hq
  refine ⟨h1, hI, ?_, (h.fr.block D h2 h3).trans h5⟩
  rcases Classical.em (Unused st ι D) with hu | hu
  · exact hu
  · exact absurd (h.used_mine hu hI) hnm

/-- What a function promises, out of what its code does. -/
theorem fn_ok (E : Env P T) {f : FuncId} {fn : Func} {c : Code} {args : List X} {res : X} {pout : List (List X)} (hf : P.funcs[f]? = some fn) (hb : fn.body = some c) (st0 : St) (ns : List Name) (hi : evInit fn.ntmps args = some (st0, ns))
    (h : ∀ X : Ctx, Tri X P c st0 (retQ T fn.results.toList ns res pout)) : Ok P f args res pout := by
  intro w0 I0 vs fp hI0 hx hn hfp hgl
  unfold evInit at hi
  cases h1 : impSs 0 0 args ⟨fn.ntmps, [], [], []⟩ with
  | none => rw [h1] at hi; cases hi
  | some o =>
    rw [h1] at hi
    simp only at hi
    rcases cond_inv' hi with ⟨hc, hi⟩ | ⟨_, hi⟩
    case inr => cases hi
    simp only [Option.some.injEq, Prod.mk.injEq] at hi
    obtain ⟨rfl, rfl⟩ := hi
    simp only [Bool.and_eq_true, List.all_eq_true] at hc
    obtain ⟨⟨c1, c3⟩, c2⟩ := hc
    have hle := Nat.le_of_ble_eq_true c1
    have hlen : vs.toList.length = args.length := by
      have gen : ∀ (xs : List X) (us : List Value) (fp : List Nat), RXl w0 I0 xs us fp → us.length = xs.length := by
        intro xs
        induction xs with
        | nil => intro us fp h; cases us with | nil => rfl | cons _ _ => exact h.elim
        | cons x xs ih =>
          intro us fp h
          cases us with
          | nil => exact h.elim
          | cons u us => obtain ⟨_, _, _, _, h⟩ := h; simp [ih _ _ h]
      exact gen _ _ _ hx
    let tm : Array Value := vs ++ Array.replicate (fn.ntmps - vs.size) undef
    let X0 : Ctx := ⟨(· ∈ fp), w0, I0, fun _ => none⟩
    have hsz : vs.size = args.length := by simpa using hlen
    have htm : tm.size = fn.ntmps := by simp [tm]; omega
    have rel0 : RelI X0 I0 ⟨fun _ => none, fun _ => none⟩ ⟨fn.ntmps, [], [], []⟩ tm w0 := by
      refine ⟨htm, fun i => trivial, fun m cs hm => (by cases hm), fun m A hm => (by cases hm), fun b hb => ⟨hI0 b hb, .inl hb⟩, fun m m' b hm => absurd rfl hm, fun m m' A b c hm => absurd rfl hm, fun m m' A A' b c c' hm => (by cases hm), .refl hgl, fun m b hb => (by cases hb)⟩
    obtain ⟨ι', r1, M1, R1⟩ := impSs_ok h1 rel0 hx hn (fun b hb => ⟨⟨fun k hk => absurd rfl hk, fun k D c hk => by cases hk⟩, (hfp b hb).2, .inr hb⟩)
    obtain ⟨A1, L1⟩ := impSs_al h1 hlen R1
    have hval : ∀ i, Rs w0 I0 ι' o.st.var o.st.arr ((lookN i (number 0 o.val.1)).getD (.c .undef)) (tm.getD i undef) := by
      intro i
      rw [lookN_number, if_pos (Nat.zero_le _), Nat.sub_zero]
      cases hg : o.val.1[i]? with
      | none => trivial
      | some x =>
        obtain ⟨y, hy, hr⟩ := R1 i x hg
        have hi : i < vs.size := by
          rw [hsz, ← L1]
          exact (List.getElem?_eq_some_iff.mp hg).1
        have : tm.getD i undef = y := by
          have hy' : vs[i]? = some y := by simpa using hy
          have hyi : vs[i] = y := by rw [Array.getElem?_eq_getElem hi] at hy'; exact Option.some.inj hy'
          simp only [tm, Array.getD_eq_getD_getElem?]
          rw [Array.getElem?_append_left hi, hy']
          rfl
        rw [this]
        simp only [Option.getD_some]
        cases x with
        | c z => exact hr
        | agg z => exact hr
        | tup z => exact hr.elim
        | sp z => trivial
    have r2 : RelI X0 I0 ι' { o.st with slots := number 0 o.val.1 } tm w0 :=
      ⟨r1.size, hval, r1.vars, r1.arrs, r1.inI, r1.vv, r1.va, r1.aa, r1.fr, fun m b hb => by cases hb⟩
    let pin : Name → Option Nat := fun m => if m ∈ o.val.1.flatMap ptrS then ι'.v m else none
    have hmem : ∀ m ∈ o.val.1.flatMap ptrS, o.st.var m ≠ none ∧ ∃ b, ι'.v m = some b := by
      have gen : ∀ (l : List S), (∀ (k : Nat) x, l[k]? = some x → ∃ y, vs.toList[k]? = some y ∧ Rs1 w0 I0 ι' o.st.var o.st.arr x y) → ∀ m ∈ l.flatMap ptrS, o.st.var m ≠ none ∧ ∃ b, ι'.v m = some b := by
        intro l hl m hm
        obtain ⟨x, hx, hmx⟩ := List.mem_flatMap.mp hm
        obtain ⟨k, hk⟩ := List.mem_iff_getElem?.mp hx
        obtain ⟨y, _, hr⟩ := hl k x hk
        cases x with
        | c z =>
          cases z with
          | pvar m' q =>
            simp only [ptrS, List.mem_singleton] at hmx
            subst hmx
            obtain ⟨h1, b, h2, _⟩ := (show Rc w0 I0 ι' o.st.var o.st.arr (.pvar m q) y from hr)
            exact ⟨h1, b, h2⟩
          | _ => simp [ptrS] at hmx
        | agg _ => simp [ptrS] at hmx
        | tup _ => simp [ptrS] at hmx
        | sp _ => simp [ptrS] at hmx
      exact gen _ R1
    have r3 : RelI { X0 with pin := pin } I0 ι' { o.st with slots := number 0 o.val.1 } tm w0 := by
      refine r2.pinned fun m b hb => ?_
      simp only [pin] at hb
      split at hb
      · rename_i hm
        exact ⟨Nat.eq_of_beq_eq_true (c2 m hm), (hmem m hm).1, hb⟩
      · cases hb
    have nosp : ∀ i x, ({ o.st with slots := number 0 o.val.1 } : St).slot i ≠ .sp x := by
      intro i x hx
      have hx' : (lookN i (number 0 o.val.1)).getD (.c .undef) = .sp x := hx
      rw [lookN_number, if_pos (Nat.zero_le _), Nat.sub_zero] at hx'
      cases hg : o.val.1[i]? with
      | none => rw [hg] at hx'; cases hx'
      | some y =>
        rw [hg] at hx'
        have hy : y = .sp x := hx'
        subst hy
        have := c3 _ (List.mem_of_getElem? hg)
        cases this
    have hfam : FamI { X0 with pin := pin } I0 ι' { o.st with slots := number 0 o.val.1 } tm w0 := by
      unfold FamI
      cases hq : ({ o.st with slots := number 0 o.val.1 } : St).slot o.st.nt with
      | sp y => exact absurd hq (nosp _ _)
      | _ => exact nosp
    have ht := h { X0 with pin := pin } none (fun _ => none) 0 _ [] { tmps := tm, defers := [] } w0 ⟨fun e => (by cases e), fun _ _ e => (by cases e)⟩ (Later.refl _ _) ⟨rfl, fun _ _ e => (by cases e)⟩ ⟨I0, ι', r3, hfam⟩
    refine (callsIn_wide (n := 0)).1 (callsIn_of_wp_marks (F := FW none) hf hb trivial (wpIn_mono ht fun e a' w' hq => ?_))
    obtain ⟨X2, dl, hl, hd, st', hq, I', ι2, hr', _⟩ := hq
    have fin : ∀ needs, evRet' T fn.results.toList (o.val.1.flatMap ptrS) st' = some (res, pout, needs) → All needs → ∀ w2, RelI { X0 with pin := pin } I' ι2 st' a'.tmps w2 → ∃ v, (results fn a'.tmps).run P w2 = .ok v w2 ∧ Ret w0 I0 fp args vs.toList res pout v w2 := by
      intro needs hq1 hq2 w2 hr2
      refine ret_ok E.tab A1 rfl (pin := pin) (fun m hm => ?_) hq1 hq2 hr2
      obtain ⟨_, b, hb⟩ := hmem m hm
      exact ⟨b, hb, by simp only [pin, if_pos hm]; exact hb⟩
    have go : ∀ needs, evRet' T fn.results.toList (o.val.1.flatMap ptrS) st' = some (res, pout, needs) → All needs → LeavesInM (FW none) 0 P fn a'.tmps (fun e w' => ∃ v, e = .returned v ∧ Ret w0 I0 fp args vs.toList res pout v w') a'.defers .returning w' := by
      intro needs q1 q2
      rw [hd.df]
      refine leaves_marks (X := { X0 with pin := pin }) (I := I') (ι := ι2) (st := st') (fun w2 hr2 => ?_) dl w' hl.nodup (hl.now hr') (hl.back _ _ _ _ _ hr').1
      obtain ⟨v, g1, g2⟩ := fin needs q1 q2 w2 hr2
      exact ⟨v, g1, v, rfl, g2⟩
    cases e with
    | ret =>
      obtain ⟨needs, q1, q2⟩ := hq
      exact go needs q1 q2
    | normal =>
      obtain ⟨needs, q1, q2⟩ := hq
      exact go needs q1 q2
    | exit _ => exact hq.elim
    | goto _ => exact hq.elim
    | panic _ => exact hq.elim
    | outgrown => exact hq.elim
end
end Go.Ev
namespace Go.Ev
open Go Go.RowKit
set_option linter.unusedVariables false

section
variable {X : Ctx} {P : Program} {Q : Post} {st : St}

theorem tri_join {x y : Code} (N : St → Prop) (hy : ∀ s, N s → Tri X P y s Q) (hx : Tri X P x st (thenQ N Q)) : Tri X P (.seq x y) st Q :=
  tri_seq (tri_mono hx fun e s h => by
    cases e with
    | normal => exact hy s h
    | exit id => exact h
    | goto l => exact h
    | ret => exact h
    | panic c => exact h
    | outgrown => exact h)

theorem tri_fix {c : Code} (N : Nat → St → Prop) (h0 : ∀ s, ¬ N 0 s) (hs : ∀ k s, N (k + 1) s → Tri X P c s (thenQ (N k) Q)) : ∀ k s, N k s → TriIn X P c s Q := by
  intro k
  induction k with
  | zero => intro s h; exact absurd h (h0 s)
  | succ k ih =>
    intro s h
    exact triIn_step (tri_mono (hs k s h) fun e s' h' => by
      cases e with
      | normal => exact ih s' h'
      | exit id => exact h'
      | goto l => exact h'
      | ret => exact h'
      | panic c => exact h'
      | outgrown => exact h')

theorem tri_loopN {c : Code} (N : Nat → St → Prop) (h0 : ∀ s, ¬ N 0 s) (hs : ∀ k s, N (k + 1) s → Tri X P c s (thenQ (N k) Q)) (k : Nat) (h : N k st) : Tri X P (.loop c) st Q :=
  tri_loop (tri_fix N h0 hs k st h)

theorem tri_here {c : Code} {s : St} (e : st = s) (h : Tri X P c s Q) : Tri X P c st Q := e ▸ h
end

/-! ### what a pure function asks -/
def ask {α : Type} (p : Prop) [Decidable p] (x : Option α) : Option α := if p then x else none
theorem ask_inv {α : Type} {p : Prop} [Decidable p] {x : Option α} {r : α} (h : ask p x = some r) : p ∧ x = some r := by
  unfold ask at h
  split at h
  · rename_i hp; exact ⟨hp, h⟩
  · cases h
theorem ask_ok {α : Type} {p : Prop} [Decidable p] {x : Option α} (h : p) : ask p x = x := if_pos h
theorem cnd_t {α : Type} {b : Bool} {x y : Option α} {r : α} (h : (bif b then x else y) = some r) (e : b = true) : x = some r := by rw [e] at h; exact h
theorem cnd_f {α : Type} {b : Bool} {x y : Option α} {r : α} (h : (bif b then x else y) = some r) (e : b = false) : y = some r := by rw [e] at h; exact h
theorem cnd_split {α : Type} {b : Bool} {x y : Option α} {r : α} {G : Prop} (h : (bif b then x else y) = some r) (h1 : b = true → x = some r → G) (h2 : b = false → y = some r → G) : G := by
  cases b with
  | true => exact h1 rfl h
  | false => exact h2 rfl h
def bnd {α β : Type} (x : Option α) (f : α → Option β) : Option β := x.bind f
theorem bnd_inv {α β : Type} {x : Option α} {f : α → Option β} {r : β} (h : bnd x f = some r) : ∃ y, x = some y ∧ f y = some r := Option.bind_eq_some_iff.mp h
theorem bnd_ok {α β : Type} {x : Option α} {f : α → Option β} {y : α} (h : x = some y) : bnd x f = f y := by rw [h]; rfl

/-! ### lists -/
def encF {α : Type} (e : α → List C) (d : α) (l : List α) : Nat → List C := fun i => e (l.getD i d)

section
variable {α : Type} {e : α → List C} {d : α}
theorem tell_nil : (0 = ([] : List α).length ∧ ∀ i, i < ([] : List α).length → (fun _ => [] : Nat → List C) i = encF e d [] i) := ⟨rfl, fun i h => absurd h (Nat.not_lt_zero _)⟩
theorem tell_app (l k : List α) : (l.length + k.length = (l ++ k).length ∧ ∀ i, i < (l ++ k).length → appG l.length (encF e d l) (encF e d k) i = encF e d (l ++ k) i) := by
  refine ⟨by simp, fun i _ => ?_⟩
  unfold appG encF
  cases h : Nat.blt i l.length with
  | true =>
    have hi : i < l.length := Nat.le_of_ble_eq_true h
    simp [List.getD_eq_getElem?_getD, List.getElem?_append_left hi]
  | false =>
    have hi : l.length ≤ i := by
      rcases Nat.lt_or_ge i l.length with h' | h'
      · have h1 : Nat.ble (i + 1) l.length = true := Nat.ble_eq_true_of_le h'
        have h2 : Nat.ble (i + 1) l.length = false := h
        rw [h1] at h2
        cases h2
      · exact h'
    simp [List.getD_eq_getElem?_getD, List.getElem?_append_right hi]
/-- Behind the first n of a list. -/
theorem tell_app_take (l k : List α) (n : Nat) (hn : n ≤ l.length) : (n + k.length = (l.take n ++ k).length ∧ ∀ i, i < (l.take n ++ k).length → appG n (encF e d l) (encF e d k) i = encF e d (l.take n ++ k) i) := by
  have h := tell_app (e := e) (d := d) (l.take n) k
  have hl : (l.take n).length = n := by simp [hn]
  rw [hl] at h
  refine ⟨h.1, fun i hi => ?_⟩
  rw [← h.2 i hi]
  unfold appG encF
  cases hb : Nat.blt i n with
  | true =>
    have hin : i < n := Nat.le_of_ble_eq_true hb
    simp [List.getD_eq_getElem?_getD, hin]
  | false => rfl
theorem tell_repl (n : Nat) {z : List C} (x : α) (hz : z = e x) : (n = (List.replicate n x).length ∧ ∀ i, i < (List.replicate n x).length → (fun _ => z : Nat → List C) i = encF e d (List.replicate n x) i) := by
  refine ⟨by simp, fun i hi => ?_⟩
  have hi' : i < n := by simpa using hi
  simp [encF, List.getD_eq_getElem?_getD, hi', hz]
theorem tell_set (l : List α) (k o : Nat) (cs : List C) (x : α) (hk : k < l.length) (hx : setL (e (l.getD k d)) o cs = e x) : (l.length = (l.set k x).length ∧ ∀ i, i < (l.set k x).length → putG (encF e d l) k o cs i = encF e d (l.set k x) i) := by
  refine ⟨by simp, fun i _ => ?_⟩
  unfold putG encF
  cases h : Nat.beq i k with
  | true =>
    obtain rfl := Nat.eq_of_beq_eq_true h
    simp [List.getD_eq_getElem?_getD, hk] at hx ⊢
    exact hx
  | false =>
    have hne : k ≠ i := fun e => by rw [e, Nat.beq_refl] at h; cases h
    simp [List.getD_eq_getElem?_getD, List.getElem?_set_ne hne]
theorem tell_drop (l : List α) (a b : Nat) (ha : a ≤ b) (hb : b ≤ l.length) : (b - a = ((l.take b).drop a).length ∧ ∀ i, i < b - a → encF e d l (a + i) = encF e d ((l.take b).drop a) i) := by
  refine ⟨by simp; omega, fun i hi => ?_⟩
  unfold encF
  have h1 : a + i < b := by omega
  simp [List.getD_eq_getElem?_getD, h1]
theorem below1 {G H : Nat → List C} (h0 : G 0 = H 0) : ∀ i, i < 1 → G i = H i := fun i hi => by
  obtain rfl : i = 0 := by omega
  exact h0
theorem below2 {G H : Nat → List C} (h0 : G 0 = H 0) (h1 : G 1 = H 1) : ∀ i, i < 2 → G i = H i := fun i hi => by
  rcases (by omega : i = 0 ∨ i = 1) with rfl | rfl <;> assumption
theorem below3 {G H : Nat → List C} (h0 : G 0 = H 0) (h1 : G 1 = H 1) (h2 : G 2 = H 2) : ∀ i, i < 3 → G i = H i := fun i hi => by
  rcases (by omega : i = 0 ∨ i = 1 ∨ i = 2) with rfl | rfl | rfl <;> assumption
theorem below6 {G H : Nat → List C} (h0 : G 0 = H 0) (h1 : G 1 = H 1) (h2 : G 2 = H 2) (h3 : G 3 = H 3) (h4 : G 4 = H 4) (h5 : G 5 = H 5) : ∀ i, i < 6 → G i = H i := fun i hi => by
  rcases (by omega : i = 0 ∨ i = 1 ∨ i = 2 ∨ i = 3 ∨ i = 4 ∨ i = 5) with rfl | rfl | rfl | rfl | rfl | rfl <;> assumption
theorem flat_enc (he : ∀ x : α, ∀ c ∈ e x, scalarC c) (s : Nat) (l : List α) : flatX (.own s l.length (encF e d l)) := by
  unfold flatX
  exact fun i _ c hc => he (l.getD i d) c hc
end

/-! ### the same, told alike -/
theorem EqC.refl : ∀ x : C, EqC x x
  | .v x => by unfold EqC; split <;> first | trivial | rfl | simp_all
  | .nil _ => trivial
  | .lst _ _ _ => ⟨rfl, .inr rfl, fun _ _ => rfl⟩
  | .ref _ _ => rfl
  | .pvar _ _ => rfl
  | .pelem _ _ _ => rfl
  | .pimm _ _ => rfl
  | .err _ => rfl
  | .undef => rfl
end Go.Ev
namespace Go.Ev
open Go Go.RowKit
set_option linter.unusedVariables false

theorem eqc {a b : C} (h : EqC a b) : EqX (.c a) (.c b) := by simpa [EqX] using h
theorem eqr (a : C) : EqX (.c a) (.c a) := eqc (EqC.refl a)
theorem eqo (s n : Nat) (g : Nat → List C) : EqX (.own s n g) (.own s n g) := by simp [EqX]
theorem eqa0 : EqX (.agg []) (.agg []) := by simp [EqX]
theorem eqa {a b : X} {l k : List X} (h : EqX a b) (h' : EqX (.agg l) (.agg k)) : EqX (.agg (a :: l)) (.agg (b :: k)) := by rw [EqX]; exact ⟨h, h'⟩
theorem eqp0 : EqX (.cell []) (.cell []) := by simp [EqX]
theorem eqp {a b : X} {l k : List X} (h : EqX a b) (h' : EqX (.cell l) (.cell k)) : EqX (.cell (a :: l)) (.cell (b :: k)) := by rw [EqX]; exact ⟨h, h'⟩
theorem eqs0 : EqXs [] [] := trivial
theorem eqs {a b : X} {l k : List X} (h : EqX a b) (h' : EqXs l k) : EqXs (a :: l) (b :: k) := ⟨h, h'⟩
theorem flv (x : Value) : flatX (.c (.v x)) := by simp [flatX, scalarC]
theorem fla0 : flatX (.agg []) := by simp [flatX]
theorem fla {a : X} {l : List X} (h : flatX a) (h' : flatX (.agg l)) : flatX (.agg (a :: l)) := by rw [flatX]; exact ⟨h, h'⟩
theorem flt0 : flatX (.tup []) := by simp [flatX]
theorem flt {a : X} {l : List X} (h : flatX a) (h' : flatX (.tup l)) : flatX (.tup (a :: l)) := by rw [flatX]; exact ⟨h, h'⟩
theorem flp0 : flatX (.cell []) := by simp [flatX]
theorem flp {a : X} {l : List X} (h : flatX a) (h' : flatX (.cell l)) : flatX (.cell (a :: l)) := by rw [flatX]; exact ⟨h, h'⟩
theorem fls0 : flatXs [] := trivial
theorem fls {a : X} {l : List X} (h : flatX a) (h' : flatXs l) : flatXs (a :: l) := ⟨h, h'⟩
theorem flss0 : flatXss [] := trivial
theorem flss {a : List X} {l : List (List X)} (h : flatXs a) (h' : flatXss l) : flatXss (a :: l) := ⟨h, h'⟩

/-! ### pure functions in direct style, and the code beside them -/
theorem bask {α β : Type} {p : Prop} [Decidable p] {x : Option α} {c : α → Option β} {r : β} (h : bnd (ask p x) c = some r) : p ∧ bnd x c = some r := by
  unfold ask at h
  split at h
  · rename_i hp; exact ⟨hp, h⟩
  · cases h
theorem bcnd {α β : Type} {b : Bool} {x y : Option α} {c : α → Option β} {r : β} {G : Prop} (h : bnd (bif b then x else y) c = some r) (h1 : b = true → bnd x c = some r → G) (h2 : b = false → bnd y c = some r → G) : G := by
  cases b with
  | true => exact h1 rfl h
  | false => exact h2 rfl h
theorem bbnd {α β γ : Type} {x : Option α} {f : α → Option β} {c : β → Option γ} {r : γ} (h : bnd (bnd x f) c = some r) : bnd x (fun v => bnd (f v) c) = some r := by
  cases x with
  | none => cases h
  | some v => exact h
theorem bcall {α β γ : Type} {x : Option α} {f : α → Option β} {c : β → Option γ} {r : γ} (h : bnd (bnd x f) c = some r) : ∃ y, x = some y ∧ bnd (f y) c = some r := by
  cases x with
  | none => cases h
  | some v => exact ⟨v, rfl, h⟩
/-- What a part of the code ends in: what the rest of the function is, or what goes on here. -/
def sumO {β α : Type} (F : α → Option β) : Sum (Option β) α → Option β
  | .inl o => o
  | .inr v => F v
/-- What a loop ends in: the function's result, or what goes on behind it. -/
def sumL {ρ β α : Type} (G : ρ → Option β) (F : α → Option β) : Sum ρ α → Option β
  | .inl r => G r
  | .inr v => F v

def jN {α ρ : Type} (J : α → St) (g : α → Option ρ) (r : ρ) : St → Prop := fun s => ∃ v, s = J v ∧ g v = some r

section
variable {X : Ctx} {P : Program} {Q : Post} {st : St}
theorem tri_joinB {x y : Code} {α β ρ : Type} (J : α → St) {A : Option α} {f : α → Option β} {c : β → Option ρ} {r : ρ} (h : bnd (bnd A f) c = some r)
    (hy : ∀ v, bnd (f v) c = some r → Tri X P y (J v) Q) (hx : bnd A (fun v => bnd (f v) c) = some r → Tri X P x st (thenQ (jN J (fun v => bnd (f v) c) r) Q)) : Tri X P (.seq x y) st Q :=
  tri_join (jN J (fun v => bnd (f v) c) r) (fun s ⟨v, e, hv⟩ => e ▸ hy v hv) (hx (bbnd h))
/-- The same where the part may end the function. -/
theorem tri_joinS {x y : Code} {α β ρ : Type} (J : α → St) {A : Option (Sum (Option β) α)} {F : α → Option β} {c : β → Option ρ} {r : ρ} (h : bnd (bnd A (sumO F)) c = some r)
    (hy : ∀ v, bnd (F v) c = some r → Tri X P y (J v) Q) (hx : bnd A (fun v => bnd (sumO F v) c) = some r → Tri X P x st (thenQ (jN J (fun v => bnd (F v) c) r) Q)) : Tri X P (.seq x y) st Q :=
  tri_join (jN J (fun v => bnd (F v) c) r) (fun s ⟨v, e, hv⟩ => e ▸ hy v hv) (hx (bbnd h))
theorem tri_joinL {x y : Code} {α β ρ σ : Type} (J : α → St) {A : Option (Sum σ α)} {G : σ → Option β} {F : α → Option β} {c : β → Option ρ} {r : ρ} (h : bnd (bnd A (sumL G F)) c = some r)
    (hy : ∀ v, bnd (F v) c = some r → Tri X P y (J v) Q) (hx : bnd A (fun v => bnd (sumL G F v) c) = some r → Tri X P x st (thenQ (jN J (fun v => bnd (F v) c) r) Q)) : Tri X P (.seq x y) st Q :=
  tri_join (jN J (fun v => bnd (F v) c) r) (fun s ⟨v, e, hv⟩ => e ▸ hy v hv) (hx (bbnd h))
/-- A way out of the part. -/
theorem inlO {α β ρ : Type} {T : Option β} {F : α → Option β} {c : β → Option ρ} {r : ρ} (h : bnd (some (Sum.inl T)) (fun v => bnd (sumO F v) c) = some r) : bnd T c = some r := h
theorem jleaf {α ρ : Type} {J : α → St} {g : α → Option ρ} {r : ρ} {v : α} (h : g v = some r) : jN J g r (J v) := ⟨v, rfl, h⟩

theorem tri_loopB {c : Code} {α β ρ : Type} (L : Nat → α → Option β) (S : α → St) {g : β → Option ρ} {r : ρ} {k : Nat} {v : α} (h : bnd (L k v) g = some r) (h0 : ∀ v, L 0 v = none)
    (hs : ∀ k v, bnd (L (k + 1) v) g = some r → Tri X P c (S v) (thenQ (fun s => ∃ v', s = S v' ∧ bnd (L k v') g = some r) Q)) : Tri X P (.loop c) (S v) Q :=
  tri_loopN (fun k s => ∃ v', s = S v' ∧ bnd (L k v') g = some r) (fun s ⟨v', _, h'⟩ => by rw [h0] at h'; cases h') (fun k s ⟨v', e, h'⟩ => e ▸ hs k v' h') k ⟨v, rfl, h⟩
theorem lleaf {α β ρ : Type} {L : Nat → α → Option β} {S : α → St} {g : β → Option ρ} {r : ρ} {k : Nat} {v : α} (h : bnd (L k v) g = some r) : ∃ v', S v = S v' ∧ bnd (L k v') g = some r := ⟨v, rfl, h⟩
end
end Go.Ev
namespace Go.Ev
open Go Go.RowKit
set_option linter.unusedVariables false

/-! ### pure functions -/
def ck {α : Type} (p : Prop) [Decidable p] (x : Option α) : Option α := if p then x else none
theorem ck_inv {α : Type} {p : Prop} [Decidable p] {x : Option α} {r : α} (h : ck p x = some r) : p ∧ x = some r := by
  unfold ck at h
  split at h
  · rename_i hp; exact ⟨hp, h⟩
  · cases h
theorem ck_ok {α : Type} {p : Prop} [Decidable p] {x : Option α} (h : p) : ck p x = x := if_pos h
def letj {α ρ : Type} (j : α → Option ρ) (A : (α → Option ρ) → Option ρ) : Option ρ := A j
def loopK {α ρ : Type} (B : (α → Option ρ) → α → Option ρ) : Nat → α → Option ρ
  | 0, _ => none
  | k + 1, v => B (loopK B k) v

/-! ### ways out -/
section
variable {X : Ctx} {P : Program} {Q : Post} {st : St}
theorem thenN {y : Code} (h : Tri X P y st Q) : thenQ (fun s => Tri X P y s Q) Q .normal st := h
theorem thenE {N : St → Prop} {id : Nat} (h : Q (.exit id) st) : thenQ N Q (.exit id) st := h
theorem thenR {N : St → Prop} (h : Q .ret st) : thenQ N Q .ret st := h
theorem inBN {id : Nat} (h : Q .normal st) : inB id Q .normal st := h
theorem inBR {id : Nat} (h : Q .ret st) : inB id Q .ret st := h
theorem inBX {id : Nat} (h : Q .normal st) : inB id Q (.exit id) st := by simp only [inB, if_true]; exact h
theorem inBE {id id' : Nat} (hn : Nat.beq id' id = false) (h : Q (.exit id') st) : inB id Q (.exit id') st := by
  have : ¬ id' = id := fun e => by rw [e, Nat.beq_refl] at hn; cases hn
  simp only [inB, if_neg this]; exact h
theorem thenJ {α ρ : Type} {S : α → St} {j : α → Option ρ} {r : ρ} (v : α) (h : j v = some r) (e : st = S v) : thenQ (jN S j r) Q .normal st := ⟨v, e, h⟩
theorem tri_joinC {x y : Code} {α ρ : Type} (S : α → St) {J : α → Option ρ} {A : (α → Option ρ) → Option ρ} {r : ρ} (h : letj J A = some r)
    (hy : ∀ v, J v = some r → Tri X P y (S v) Q) (hx : ∀ j, A j = some r → Tri X P x st (thenQ (jN S j r) Q)) : Tri X P (.seq x y) st Q :=
  tri_join (jN S J r) (fun s ⟨v, e, hv⟩ => e ▸ hy v hv) (hx J h)
theorem tri_loopK {c : Code} {α ρ : Type} (S : α → St) {B : (α → Option ρ) → α → Option ρ} {k : Nat} {v : α} {r : ρ} (h : loopK B k v = some r)
    (hs : ∀ self v, B self v = some r → Tri X P c (S v) (thenQ (jN S self r) Q)) (e : st = S v) : Tri X P (.loop c) st Q :=
  tri_loopN (fun k s => jN S (loopK B k) r s) (fun s ⟨v', _, h'⟩ => by cases h') (fun k s ⟨v', e, h'⟩ => e ▸ hs (loopK B k) v' h') k ⟨v, e, h⟩
theorem some_inv {α : Type} {x y : α} (h : some x = some y) : y = x := (Option.some.inj h).symm
theorem boolT {b : Bool} (p : b = true) (e : b = false) {G : Prop} : G := by rw [p] at e; cases e
theorem boolF {b : Bool} (p : b = false) (e : b = true) {G : Prop} : G := by rw [p] at e; cases e
theorem notT {b : Bool} (p : b = false) : (!b) = true := by rw [p]; rfl
theorem notF {b : Bool} (p : b = true) : (!b) = false := by rw [p]; rfl
end

/-! ### what an array is told to hold -/
structure Tells {α : Type} (e : α → List C) (d : α) (n : Nat) (g : Nat → List C) (L : List α) : Prop where
  len : n = L.length
  at_ : ∀ i, i < n → g i = encF e d L i
namespace Tells
variable {α : Type} {e : α → List C} {d : α} {n m : Nat} {g h : Nat → List C} {L M : List α}
theorem rfl' : Tells e d L.length (encF e d L) L := ⟨rfl, fun _ _ => rfl⟩
theorem nil {g : Nat → List C} : Tells e d 0 g [] := ⟨rfl, fun _ h => absurd h (Nat.not_lt_zero _)⟩
theorem app (x : Tells e d n g L) (y : Tells e d m h M) : Tells e d (n + m) (appG n g h) (L ++ M) := by
  obtain ⟨rfl, hx⟩ := x
  obtain ⟨rfl, hy⟩ := y
  have t := tell_app (e := e) (d := d) L M
  refine ⟨t.1, fun i hi => ?_⟩
  rw [← t.2 i (by rw [← t.1]; exact hi)]
  unfold appG
  cases hb : Nat.blt i L.length with
  | true => exact hx i (Nat.le_of_ble_eq_true hb)
  | false =>
    have : L.length ≤ i := by
      rcases Nat.lt_or_ge i L.length with h' | h'
      · have h1 : Nat.ble (i + 1) L.length = true := Nat.ble_eq_true_of_le h'
        have h2 : Nat.ble (i + 1) L.length = false := hb
        rw [h1] at h2; cases h2
      · exact h'
    exact hy (i - L.length) (by omega)
theorem app0 {h : Nat → List C} (x : Tells e d n g L) : Tells e d (n + 0) (appG n g h) L := by
  have := app x (nil (g := h) (e := e) (d := d))
  rwa [List.append_nil] at this
theorem repl (k : Nat) {z : List C} {x : α} (hz : z = e x) : Tells e d k (fun _ => z) (List.replicate k x) :=
  ⟨(tell_repl (d := d) k x hz).1, fun i hi => (tell_repl (d := d) k x hz).2 i (by simpa using hi)⟩
theorem set (x : Tells e d n g L) (k o : Nat) (cs : List C) (y : α) (hk : k < n) (hy : setL (e (L.getD k d)) o cs = e y) : Tells e d n (putG g k o cs) (L.set k y) := by
  obtain ⟨rfl, hx⟩ := x
  have t := tell_set (e := e) (d := d) L k o cs y hk hy
  refine ⟨t.1, fun i hi => ?_⟩
  rw [← t.2 i (by rw [← t.1]; exact hi)]
  unfold putG
  cases hb : Nat.beq i k with
  | true =>
    obtain rfl := Nat.eq_of_beq_eq_true hb
    simp only [cond_true]
    rw [hx i hi]
  | false => exact hx i hi
theorem take (x : Tells e d n g L) {k : Nat} (hk : k ≤ n) : Tells e d k g (L.take k) := by
  obtain ⟨rfl, hx⟩ := x
  refine ⟨by simp; omega, fun i hi => ?_⟩
  rw [hx i (by omega)]
  unfold encF
  simp [List.getD_eq_getElem?_getD, hi]
theorem drop (x : Tells e d n g L) {a : Nat} (ha : a ≤ n) : Tells e d (n - a) (fun i => g (a + i)) (L.drop a) := by
  obtain ⟨rfl, hx⟩ := x
  refine ⟨by simp, fun i hi => ?_⟩
  rw [hx (a + i) (by omega)]
  unfold encF
  simp [List.getD_eq_getElem?_getD]
theorem cut (x : Tells e d n g L) {a b : Nat} (ha : a ≤ b) (hb : b ≤ n) : Tells e d (b - a) (fun i => g (a + i)) ((L.take b).drop a) := (x.take hb).drop ha
theorem take0 (x : Tells e d n g L) {b : Nat} (hb : b ≤ n) : Tells e d (b - 0) (fun i => g (0 + i)) (L.take b) := by
  have := x.cut (Nat.zero_le b) hb
  rwa [List.drop_zero] at this
theorem eqc {s : Nat} (x : Tells e d n g L) : EqC (.lst s n g) (.lst s L.length (encF e d L)) := ⟨x.len, .inr rfl, x.at_⟩
theorem arr (x : Tells e d n g L) : n = L.length ∧ ∀ i, i < L.length → g i = encF e d L i := ⟨x.len, fun i hi => x.at_ i (by rw [x.len]; exact hi)⟩
theorem items {k : Nat} {g : Nat → List C} (hl : k = L.length) (h : ∀ i, i < k → g i = encF e d L i) : Tells e d k g L := ⟨hl, h⟩
end Tells
theorem belowS {G H : Nat → List C} {k : Nat} (h0 : G 0 = H 0) (hs : ∀ i, i < k → G (i + 1) = H (i + 1)) : ∀ i, i < k + 1 → G i = H i
  | 0, _ => h0
  | i + 1, hi => hs i (Nat.lt_of_succ_lt_succ hi)
theorem below0 {G H : Nat → List C} : ∀ i, i < 0 → G i = H i := fun i hi => absurd hi (Nat.not_lt_zero _)

theorem EqX.reflO (s n : Nat) (g : Nat → List C) : EqX (.own s n g) (.own s n g) := by simp [EqX]
theorem inr' {k : Int} {n : Nat} (h : 0 ≤ k ∧ k < (n : Int)) : k.toNat < n := by omega

theorem TellC.refl (x : C) : TellC x x := by
  cases x with
  | undef => trivial
  | ref m n => exact ⟨rfl, rfl⟩
  | pvar m o => exact (rfl : C.pvar m o = C.pvar m o)
  | pelem m i o => exact (rfl : C.pelem m i o = C.pelem m i o)
  | pimm cs o => exact (rfl : C.pimm cs o = C.pimm cs o)
  | err b => simp only [TellC]; exact EqC.refl _
  | v y => simp only [TellC]; exact EqC.refl _
  | nil s => simp only [TellC]; exact EqC.refl _
  | lst s n g => simp only [TellC]; exact EqC.refl _
theorem TellC.ref {m : Name} {n k : Nat} (h : n = k) : TellC (.ref m n) (.ref m k) := ⟨rfl, h⟩
theorem TellC.of {a b : C} (h : EqC a b) (ha : immB a = true) : TellC a b := by
  cases a <;> simp [immB] at ha <;> cases b <;> first | (simp only [TellC]; exact h) | (simp [EqC] at h)
theorem tnl {s s' : Nat} {g : Nat → List C} : TellC (.nil s) (.lst s' 0 g) := by simp only [TellC]; exact (rfl : (0 : Nat) = 0)
theorem tnlv {s' : Nat} {g : Nat → List C} : TellC (.v (.slice none 0 0)) (.lst s' 0 g) := by simp only [TellC]; exact (rfl : (0 : Nat) = 0)
theorem TellC.u (x : C) : TellC x .undef := by cases x <;> trivial

/-! ### '==' of structs -/
section
variable {P : Program} {d : Nat} {xs ys : Array Value} {f : Field} {fs : List Field} {a b : Value} {r s : Bool} {w : World}
theorem eqf_cons (hn : (f.name == "_") = false) (ha : (part f.type xs f.offset).run P w = .ok a w) (hb : (part f.type ys f.offset).run P w = .ok b w) (he : (Op.equalIn d f.type a b).run P w = .ok r w) (hr : (Op.eqFields d xs ys fs).run P w = .ok s w) : (Op.eqFields d xs ys (f :: fs)).run P w = .ok (r && s) w := by
  have hn' : f.name ≠ "_" := by simpa using hn
  unfold Op.eqFields
  rw [if_pos hn']
  simp only [Sem.run_bind, ha, hb, he, Result.andThen_ok]
  cases r with
  | false => simp
  | true => simpa using hr
theorem eqf_last (hn : (f.name == "_") = false) (ha : (part f.type xs f.offset).run P w = .ok a w) (hb : (part f.type ys f.offset).run P w = .ok b w) (he : (Op.equalIn d f.type a b).run P w = .ok r w) : (Op.eqFields d xs ys [f]).run P w = .ok r w := by
  have h := eqf_cons (fs := []) (s := true) hn ha hb he (by simp [Op.eqFields])
  rwa [Bool.and_true] at h
theorem eqA_of {t : TypeId} {fs : Array Field} (hu : P.underlying t = some (.struct fs)) (hp : P.stoodInHeld t = false) (h : (Op.eqFields d xs ys fs.toList).run P w = .ok r w) : (Op.equalIn (d + 1) t (.agg xs) (.agg ys)).run P w = .ok r w := by
  have hf : P.fieldsOf t = fs := by unfold Program.fieldsOf; rw [hu]
  rw [run_equalIn_struct w d t xs ys (by rw [hf]; exact hu) hp, hf]
  exact h
theorem eq_int {t : TypeId} {k k' : IntKind} {x y : Int} (hu : P.underlying t = some (.int k')) : (Op.equalIn (d + 1) t (.int k x) (.int k y)).run P w = .ok (x == y) w := by
  simp only [Op.equalIn, Sem.run_bind, run_underlying hu, Result.andThen_ok, if_true, Sem.run_pure]
theorem eq_bool {t : TypeId} {x y : Bool} (hu : P.underlying t = some .bool) : (Op.equalIn (d + 1) t (.bool x) (.bool y)).run P w = .ok (x == y) w := by
  simp only [Op.equalIn, Sem.run_bind, run_underlying hu, Result.andThen_ok, Sem.run_pure]
theorem eq_str {t : TypeId} {x y : ByteArray} (hu : P.underlying t = some .string) : (Op.equalIn (d + 1) t (.string x) (.string y)).run P w = .ok (x == y) w := by
  simp only [Op.equalIn, Sem.run_bind, run_underlying hu, Result.andThen_ok, Sem.run_pure]
theorem eqfact_of {t : TypeId} {x y : Operand} {us vs : List Value} {e : Bool} (hg : ∀ w, (eqGuard .eql t x y (.agg us.toArray) (.agg vs.toArray)).run P w = .ok () w) (he : ∀ w, (Op.equalIn 10000 t (.agg us.toArray) (.agg vs.toArray)).run P w = .ok e w) : EqFact P t x y us vs e := by
  intro w
  have he' : (Op.equal t (.agg us.toArray) (.agg vs.toArray)).run P w = .ok e w := he w
  have hb : Go.binOp .eql t (.agg us.toArray) (.agg vs.toArray) = (do pure (.bool (← Op.equal t (.agg us.toArray) (.agg vs.toArray)))) := rfl
  rw [hb]
  simp only [Sem.run_bind, hg, Result.andThen_ok, he', Sem.run_pure]
end
theorem eqoT {α : Type} {e : α → List C} {d : α} {n : Nat} {g : Nat → List C} {L : List α} {s : Nat} (t : Tells e d n g L) : EqX (.own s n g) (.own s L.length (encF e d L)) := by
  unfold EqX; exact ⟨t.len, rfl, t.at_⟩
theorem eqn {s s' : Nat} {g : Nat → List C} : EqX (.c (.nil s)) (.own s' 0 g) := by simp [EqX]
theorem eqnv {s' : Nat} {g : Nat → List C} : EqX (.c (.v (.slice none 0 0))) (.own s' 0 g) := by simp [EqX]

/-! ### how values lie in cells -/
def eI (k : IntKind) (x : Int) : List C := [.v (.int k x)]
def eB (x : Bool) : List C := [.v (.bool x)]
def eS (x : ByteArray) : List C := [.v (.string x)]
def eL {α : Type} (s : Nat) (e : α → List C) (d : α) (l : List α) : List C := [.lst s l.length (encF e d l)]
theorem scI (k : IntKind) : ∀ x : Int, ∀ c ∈ eI k x, scalarC c := by
  intro x c hc
  simp only [eI, List.mem_cons, List.not_mem_nil, or_false] at hc
  rcases hc with rfl; trivial
theorem scB : ∀ x : Bool, ∀ c ∈ eB x, scalarC c := by
  intro x c hc
  simp only [eB, List.mem_cons, List.not_mem_nil, or_false] at hc
  rcases hc with rfl; trivial
theorem scS : ∀ x : ByteArray, ∀ c ∈ eS x, scalarC c := by
  intro x c hc
  simp only [eS, List.mem_cons, List.not_mem_nil, or_false] at hc
  rcases hc with rfl; trivial

/-! ### lists of own rows -/
def famR {α : Type} (e : α → Value) (L : List (List α)) : Nat → List Value := fun k => (L.getD k []).map e
theorem fam_new {α : Type} (e : α → Value) (n : Nat) : n = (List.replicate n ([] : List α)).length ∧ ∀ i, i < (List.replicate n ([] : List α)).length → (fun _ => [] : Nat → List Value) i = famR e (List.replicate n ([] : List α)) i := by
  refine ⟨by simp, fun i hi => ?_⟩
  have : i < n := by simpa using hi
  simp [famR, List.getD_eq_getElem?_getD, this]
theorem fam_upd {α : Type} (e : α → Value) (L : List (List α)) (k : Nat) (x : α) (v : Value) (hv : v = e x) (hk : k < L.length) :
    L.length = (L.set k (L.getD k [] ++ [x])).length ∧ ∀ i, i < (L.set k (L.getD k [] ++ [x])).length → updR (famR e L) k (famR e L k ++ [v]) i = famR e (L.set k (L.getD k [] ++ [x])) i := by
  refine ⟨by simp, fun i hi => ?_⟩
  unfold updR
  cases hb : Nat.beq i k with
  | true =>
    obtain rfl := Nat.eq_of_beq_eq_true hb
    simp [famR, List.getD_eq_getElem?_getD, hk, hv]
  | false =>
    have hne : k ≠ i := fun e => by rw [e, Nat.beq_refl] at hb; cases hb
    simp [famR, List.getD_eq_getElem?_getD, List.getElem?_set_ne hne]
theorem row_app (l : List Value) (v : Value) (g : Nat → List C) (hg : g 0 = [.v v]) : l.length + 1 = (l ++ [v]).length ∧ l.length + 1 = (l ++ [v]).length ∧ ∀ i, i < (l ++ [v]).length → appG l.length (rowG l) g i = rowG (l ++ [v]) i := by
  refine ⟨by simp, by simp, fun i hi => ?_⟩
  have hi' : i < l.length + 1 := by simpa using hi
  unfold appG
  cases hb : Nat.blt i l.length with
  | true =>
    have : i < l.length := Nat.le_of_ble_eq_true hb
    simp [rowG, List.getD_eq_getElem?_getD, List.getElem?_append_left this]
  | false =>
    have : i = l.length := by
      rcases Nat.lt_or_ge i l.length with h' | h'
      · have h1 : Nat.ble (i + 1) l.length = true := Nat.ble_eq_true_of_le h'
        have h2 : Nat.ble (i + 1) l.length = false := hb
        rw [h1] at h2; cases h2
      · omega
    subst this
    simp [rowG, hg]
theorem rows_told {α : Type} (e : α → Value) (ec : α → List C) (d : α) (hec : ∀ x, ec x = [.v (e x)]) (L : List (List α)) : ∀ k, k < L.length → RowTold (famR e L k) (encF (eL 1 ec d) [] L k) := by
  intro k hk
  refine ⟨encF ec d (L.getD k []), by simp [famR, encF, eL], fun j hj => ?_⟩
  have hj' : j < (L.getD k []).length := by simpa [famR] using hj
  simp only [famR, rowG, encF, hec]
  simp [List.getD_eq_getElem?_getD, List.getElem?_map] at hj' ⊢
  simp [hj']
/-! ### what a value of a type is, whatever it is -/
def okI (k : IntKind) (n : Int) : Prop := (Lit.int k n).wf = true
def okB (b : Bool) : Prop := True
def okL {α : Type} (ok : α → Prop) (l : List α) : Prop := (∀ a ∈ l, ok a) ∧ l.length ≤ maxLen
def okS (s : ByteArray) : Prop := s.size ≤ maxLen

end Go.Ev
namespace Go.Ev
open Go Go.RowKit
set_option linter.unusedVariables false

def onN (N : St → Prop) : Post
  | .normal, s => N s
  | _, _ => False
def nof (s : St) : Prop := ∀ i x, s.slot i ≠ .sp x
def nofB (s : St) : Bool := s.slots.all fun p => !isSp p.2
theorem lookN_all {p : S → Prop} : ∀ {l : List (Nat × S)} {i : Nat} {x : S}, (∀ q ∈ l, p q.2) → lookN i l = some x → p x
  | [], _, _, _, h => by simp [lookN] at h
  | q :: l, i, x, hp, h => by
    simp only [lookN] at h
    cases hb : Nat.beq i q.1 with
    | true => rw [hb] at h; simp only [cond_true, Option.some.injEq] at h; subst h; exact hp _ List.mem_cons_self
    | false => rw [hb] at h; exact lookN_all (fun q hq => hp q (List.mem_cons_of_mem _ hq)) h
theorem nof_of {s : St} (h : nofB s = true) : nof s := by
  intro i x hx
  have hx' : (lookN i s.slots).getD (.c .undef) = .sp x := hx
  cases hl : lookN i s.slots with
  | none => rw [hl] at hx'; cases hx'
  | some y =>
    rw [hl] at hx'
    have hy : y = .sp x := hx'
    have := lookN_all (p := fun y => isSp y = false) (fun q hq => by have := List.all_eq_true.mp h q hq; simpa using this) hl
    rw [hy] at this
    cases this

section
variable {X X0 : Ctx} {I I' : Nat → Prop} {ι ι' : Im} {st s s' : St} {tm tm' : Array Value} {w w' : World} {P : Program} {l D : Nat}

theorem FamI.of_nof (h : nof st) : FamI X I ι st tm w := by
  unfold FamI
  cases hq : st.slot st.nt with
  | sp y => exact absurd hq (h _ _)
  | _ => exact h
theorem ArrOk.back {A : Arr} {p : Option (Nat × Nat)} (h : RelI X I ι st tm w) (k : ArrOk (X.re I ι st w) w' I' A p) : ArrOk X w' I' A p := by
  unfold ArrOk at k ⊢
  split at k
  · exact k
  · obtain ⟨hr, hz⟩ := k
    refine ⟨hr, ?_⟩
    cases hf : A.frozen with
    | true => rw [hf] at hz; exact hz
    | false => rw [hf] at hz; exact ⟨hz.1, re_mine h hz.2⟩
theorem FamI.back (h : RelI X I ι st tm w) (k : FamI (X.re I ι st w) I' ι' s' tm' w') : FamI X I' ι' s' tm' w' := by
  unfold FamI at k ⊢
  split at k
  · obtain ⟨hh, pv, L, f1, f2⟩ := k
    exact ⟨hh, pv, L, ⟨fun x A hA => (f1.arr x A hA).back h, f1.un, f1.ap, f1.row, f1.fl, f1.pend⟩, f2⟩
  · exact k

/-- What a loop over a function carries from round to round; l: its record's block; D: its mark's block. -/
structure Carry (X0 : Ctx) (l D : Nat) (s : St) (tm : Array Value) (W : World) (I : Nat → Prop) (ι : Im) : Prop where
  rel : RelI X0 I ι s tm W
  lI : ¬ I l
  lU : Unused s ι l
  DI : ¬ I D
  DU : Unused s ι D
  lB : X0.B ≤ l
  lW : l < W.heap.size
  DW : D < W.heap.size

theorem seg {n : Nat} {c : Code} {N : St → Prop} {fx : Nat → Option Value} (h : ∀ X, Tri X P c s (onN N)) (hn : Hyp (some l) fx c) (hs : nof s) {W : World} (k : Carry X0 l D s tm W I ι) (hfx : ∀ i v, fx i = some v → tm.getD i undef = v) :
    c.wpIn (FW (some l)) n P (fun e a' W' => e = .normal ∧ a'.defers = [] ∧ (∀ i v, fx i = some v → a'.tmps.getD i undef = v) ∧ ∃ s' I' ι', N s' ∧ Carry X0 l D s' a'.tmps W' I' ι' ∧ W'.heap[l]? = W.heap[l]? ∧ W'.heap[D]? = W.heap[D]?) { tmps := tm, defers := [] } W := by
  have k1 := k.rel.re
  refine wpIn_mono (h (X0.re I ι s W) (some l) fx n _ [] { tmps := tm, defers := [] } W hn (Later.refl _ _) ⟨rfl, hfx⟩ ⟨I, ι, k1, FamI.of_nof hs⟩) fun e a' W' hq => ?_
  obtain ⟨X2, dl, hl, ⟨hd, hf2⟩, s', hq, I', ι', hr, hf⟩ := hq
  rw [hl.out rfl] at hd
  have hk := (hl.back _ _ _ _ _ hr).1
  obtain ⟨a1, a2, a3⟩ := k.rel.kept hk k.lW k.lI k.lU
  obtain ⟨b1, b2, b3⟩ := k.rel.kept hk k.DW k.DI k.DU
  have hsz : W.heap.size ≤ W'.heap.size := hk.fr.size
  cases e with
  | normal => exact ⟨rfl, hd, hf2, s', I', ι', hq, ⟨k.rel.back hk, a2, a3, b2, b3, k.lB, Nat.lt_of_lt_of_le k.lW hsz, Nat.lt_of_lt_of_le k.DW hsz⟩, a1, b1⟩
  | exit _ => exact hq.elim
  | goto _ => exact hq.elim
  | ret => exact hq.elim
  | panic _ => exact hq.elim
  | outgrown => exact hq.elim

theorem Carry.put {W : World} (k : Carry X0 l D s tm W I ι) (o : Obj) : Carry X0 l D s tm (W.putObj l o) I ι :=
  ⟨k.rel.other k.lB k.lI k.lU, k.lI, k.lU, k.DI, k.DU, k.lB, by rw [World.putObj_size]; exact k.lW, by rw [World.putObj_size]; exact k.DW⟩

theorem one_round {n : Nat} {assign body : Code} {M N : St → Prop} {fx : Nat → Option Value} {W : World} {r : Loop} (k : Carry X0 l D s tm W I ι) (hne : D ≠ l) (hs : nof s) (hl : W.heap[l]? = some (.loop r)) (hr : r.state = .ready)
    (hA : ∀ X, Tri X P assign s (onN M)) (hB : ∀ s', M s' → nof s' ∧ ∀ X, Tri X P body s' (onN N)) (nA : Hyp (some l) fx assign) (nB : Hyp (some l) fx body) (hfx : ∀ i v, fx i = some v → tm.getD i undef = v) (f : FuncId) :
    RoundIn (FW none) n P l f tm assign body W (fun e W' => e = .returned (.bool true) ∧ ∃ s' tm' I' ι', N s' ∧ (∀ i v, fx i = some v → tm'.getD i undef = v) ∧ Carry X0 l D s' tm' W' I' ι' ∧ W'.heap[l]? = some (.loop { r with state := .ready, pending := none }) ∧ W'.heap[D]? = W.heap[D]?) := by
  refine roundIn_of_wpIn (F := FW none) trivial (wpIn_mono (seg hA nA hs k hfx) fun e a1 W1 hq => ?_)
  obtain ⟨rfl, hd1, hf1, s1, I1, ι1, hM, k1, e1, e2⟩ := hq
  rw [hl] at e1
  refine ⟨_, run_beginRound e1 hr, ?_⟩
  have hl2 : (W1.putObj l (.loop { r with state := .busy })).heap[l]? = some (.loop { r with state := .busy }) := World.putObj_heap_same k1.lW
  obtain ⟨hn1, hB1⟩ := hB s1 hM
  have ha : a1 = { tmps := a1.tmps, defers := [] } := by rw [← hd1]
  rw [ha]
  refine wpIn_mono (seg hB1 nB hn1 (k1.put _) hf1) fun e a2 W2 hq => ?_
  obtain ⟨rfl, _, hf2, s2, I2, ι2, hN, k2, f1, f2⟩ := hq
  rw [hl2] at f1
  refine ⟨_, _, run_endRound none f1, rfl, s2, a2.tmps, I2, ι2, hN, hf2, k2.put _, ?_, ?_⟩
  · exact World.putObj_heap_same k2.lW
  · rw [World.putObj_heap_other hne, f2, World.putObj_heap_other hne, e2]

/-! ### back in the frame -/
/-- Of a state, the slots U. -/
def backSt (U : List Nat) (s : St) : St := { s with slots := s.slots.filter fun p => U.any (Nat.beq p.1) }
theorem lookN_filter {U : List Nat} {i : Nat} : ∀ {l : List (Nat × S)}, lookN i (l.filter fun p => U.any (Nat.beq p.1)) = if U.any (Nat.beq i) = true then lookN i l else none
  | [] => by simp [lookN]
  | q :: l => by
    have ih := lookN_filter (U := U) (i := i) (l := l)
    cases hb : Nat.beq i q.1 with
    | true =>
      obtain e := Nat.eq_of_beq_eq_true hb
      cases hu : U.any (Nat.beq q.1) with
      | true => rw [List.filter_cons_of_pos (p := fun p : Nat × S => U.any (Nat.beq p.1)) hu]; simp only [lookN, hb, cond_true]; rw [e, if_pos hu]
      | false => rw [List.filter_cons_of_neg (by rw [hu]; simp), ih, e, if_neg (by rw [hu]; simp), if_neg (by rw [hu]; simp)]
    | false =>
      cases hu : U.any (Nat.beq q.1) with
      | true => rw [List.filter_cons_of_pos (p := fun p : Nat × S => U.any (Nat.beq p.1)) hu]; simp only [lookN, hb, cond_false]; exact ih
      | false => rw [List.filter_cons_of_neg (by rw [hu]; simp), ih]; simp only [lookN, hb, cond_false]
theorem backSt_slot (U : List Nat) (s : St) (i : Nat) : (backSt U s).slot i = if U.any (Nat.beq i) = true then s.slot i else .c .undef := by
  show (lookN i (s.slots.filter fun p => U.any (Nat.beq p.1))).getD (.c .undef) = _
  rw [lookN_filter]
  split <;> rfl
theorem backSt_nof {U : List Nat} (h : nof s) : nof (backSt U s) := by
  intro i x hx
  rw [backSt_slot] at hx
  split at hx
  · exact h i x hx
  · cases hx
theorem backRel {U : List Nat} (k : RelI X I' ι' s tm' w') (hsz : tm.size = s.nt) (hU : ∀ i ∈ U, tm'.getD i undef = tm.getD i undef) : RelI X I' ι' (backSt U s) tm w' := by
  refine ⟨hsz, fun i => ?_, k.vars, k.arrs, k.inI, k.vv, k.va, k.aa, k.fr, k.pin⟩
  rw [backSt_slot]
  split
  · rename_i h
    obtain ⟨j, hj, e⟩ := List.any_eq_true.mp h
    obtain rfl := Nat.eq_of_beq_eq_true e
    rw [← hU _ hj]
    exact k.slots _
  · trivial

/-- A function that yields false, then true, as long as it is let. -/
def BothOk (P : Program) (f : FuncId) : Prop := ∀ (n l : Nat) (W : World) (J1 J2 : World → Prop),
  YieldAt (FW none) n P l #[.bool false] W (fun e W' => e = .returned (.bool true) ∧ J1 W') →
  (∀ W1, J1 W1 → YieldAt (FW none) n P l #[.bool true] W1 (fun e W' => e = .returned (.bool true) ∧ J2 W')) →
  CallsIn (FW none) (n + 1) P f #[.func (.yield l) #[] #[]] W (fun e W' => (∃ v, e = .returned v) ∧ J2 W')

theorem yield_one {l : Nat} {r : Loop} {t : Tmp} {v : Value} (h : w.heap[l]? = some (.loop r)) (hp : r.params = #[t]) : (Instr.yield l #[v]).run P w = .ok (.round l r.fn (r.tmps.setIfInBounds t v) r.assign r.body) w := by
  have := run_yield (P := P) (args := #[v]) h (by rw [hp]; rfl)
  rw [hp] at this
  simpa using this

def putB (t : Tmp) (b : Bool) (st : St) : St := { st with slots := (t, .c (.v (.bool b))) :: st.slots }
theorem putB_nof {t : Tmp} {b : Bool} (h : nof st) : nof (putB t b st) := by
  intro i x hx
  unfold putB at hx
  rw [slot_cons] at hx
  split at hx
  · cases hx
  · exact h i x hx
theorem unused_new (h : RelI X I ι st tm w) {b : Nat} (hb : w.heap.size ≤ b) : Unused st ι b := by
  constructor
  · intro m hm e
    cases hcs : st.var m with
    | none => exact hm hcs
    | some cs =>
      obtain ⟨b', f, q⟩ := h.vars m cs hcs
      have := q.at_
      rw [e] at this
      injection this with this
      subst this
      exact absurd q.lt (Nat.not_lt.mpr hb)
  · intro m A c hm e
    have hok := h.arrs m A hm
    rw [e] at hok
    exact absurd hok.lt (Nat.not_lt.mpr hb)

theorem tri_both {fid : FuncId} (hBo : BothOk P fid) (hE : ∀ args w, (callFunc fid args).run P w = .ok (.enter fid args) w) {t : Tmp} {assign body : Code} {Q : Post} (U : List Nat) (hUn : U.all (fun i => noDst i assign && noDst i body && !(Nat.beq i t)) = true)
    (ht : t < st.nt) (hs : nof st) (N1 N2 : St → Prop) {M1 : St → Prop} (hN1 : ∀ s, N1 s → s.nt = st.nt ∧ nof s) (hN2 : ∀ s, N2 s → s.nt = st.nt ∧ nof s)
    (hA1 : ∀ X, Tri X P assign (putB t false st) (onN M1)) (hB1 : ∀ s, M1 s → nof s ∧ ∀ X, Tri X P body s (onN N1))
    (h2 : ∀ s1, N1 s1 → ∃ M2 : St → Prop, (∀ X, Tri X P assign (putB t true (backSt U s1)) (onN M2)) ∧ ∀ s, M2 s → nof s ∧ ∀ X, Tri X P body s (onN N2))
    (nA : noRF assign = true) (nB : noRF body = true) (hQ : ∀ s2, N2 s2 → Q .normal (backSt U s2)) : Tri X P (.rangeFunc (.func fid) #[t] assign body) st Q := by
  intro r fx0 n X' dl a w hn hl ⟨hd, hfx0⟩ hr
  have hr0 : r = none := by
    cases r with
    | none => rfl
    | some _ => have := hn.rf rfl; cases this
  subst hr0
  obtain ⟨I, ι, hr, _⟩ := hr
  refine wpIn_rangeFunc fun fn _ => ?_
  obtain ⟨rec, hrec⟩ : ∃ rec : Loop, rec = { state := .ready, pending := none, fn, tmps := a.tmps, params := #[t], assign, body, defers := w.heap.size } := ⟨_, rfl⟩
  obtain ⟨W1, hW1⟩ : ∃ W1, W1 = (w.alloc (.deferred (some []))).alloc (.loop rec) := ⟨_, rfl⟩
  have hsz1 : W1.heap.size = w.heap.size + 2 := by rw [hW1, World.size_alloc, World.size_alloc]
  have hL1 : W1.heap[w.heap.size + 1]? = some (.loop rec) := by
    rw [hW1]; have := World.alloc_heap_new (w.alloc (.deferred (some []))) (.loop rec); rwa [World.size_alloc] at this
  have hD1 : W1.heap[w.heap.size]? = some (.deferred (some [])) := by
    rw [hW1]; exact (Below.heap_alloc _ _ _ (by rw [World.size_alloc]; omega)).trans (World.alloc_heap_new w _)
  have hold : ∀ k, k < w.heap.size → W1.heap[k]? = w.heap[k]? := fun k hk => by
    rw [hW1]; exact (Below.heap_alloc _ _ _ (by rw [World.size_alloc]; omega)).trans (Below.heap_alloc _ _ _ hk)
  refine ⟨w.heap.size + 1, [{ target := .collected w.heap.size, args := #[] }], W1, { target := .fn (.func fid) #[], args := #[.func (.yield (w.heap.size + 1)) #[] #[]] }, W1, fid,
    #[.func (.yield (w.heap.size + 1)) #[] #[]] ++ #[], W1, ?_, ?_, fun _ _ => trivial, ?_, fun h => absurd h (by simp), ?_⟩
  · rw [hW1, hrec]; exact run_enterLoop_outer _ _ _ _ _
  · simp only [resolve, show a.eval (.func fid) = .func (.func fid) #[] #[] from rfl]
    simp [go_sem]
  · simp [invoke, go_sem, hE]
  have k0 : RelI (X'.re I ι st w) I ι st a.tmps w := hr.re
  have k1 : RelI (X'.re I ι st w) I ι st a.tmps W1 := by
    refine k0.world ⟨k0.fr.gl, ?_, ?_, ?_, ?_, fun k hk _ => hold k hk⟩ (by omega) hold
    · rw [hW1]; rfl
    · rw [hW1]; rfl
    · rw [hW1]; rfl
    · show w.heap.size ≤ W1.heap.size; omega
  have hnI : ∀ b, w.heap.size ≤ b → ¬ I b := fun b hb hI => absurd (hr.inI b hI).1 (Nat.not_lt.mpr hb)
  have c1 : Carry (X'.re I ι st w) (w.heap.size + 1) w.heap.size (putB t false st) (a.tmps.setIfInBounds t (.bool false)) W1 I ι :=
    ⟨k1.put ht (.v _ rfl), hnI _ (by omega), unused_new hr (by omega), hnI _ (Nat.le_refl _), unused_new hr (Nat.le_refl _), by show w.heap.size ≤ _; omega, by omega, by omega⟩
  obtain ⟨fx, hfx⟩ : ∃ fx : Nat → Option Value, fx = fun i => if i ∈ U then some (a.tmps.getD i undef) else none := ⟨_, rfl⟩
  have fxU : ∀ i v, fx i = some v → i ∈ U ∧ a.tmps.getD i undef = v := by
    intro i v h
    rw [hfx] at h
    simp only at h
    split at h
    · rename_i hm; exact ⟨hm, Option.some.inj h⟩
    · cases h
  have hU : ∀ i ∈ U, noDst i assign = true ∧ noDst i body = true ∧ i ≠ t := by
    intro i hi
    have := List.all_eq_true.mp hUn i hi
    simp only [Bool.and_eq_true, Bool.not_eq_true'] at this
    exact ⟨this.1.1, this.1.2, fun e => by rw [e, Nat.beq_refl] at this; cases this.2⟩
  have fA : Hyp (some (w.heap.size + 1)) fx assign := ⟨fun _ => nA, fun i v h => (hU i (fxU i v h).1).1⟩
  have fB : Hyp (some (w.heap.size + 1)) fx body := ⟨fun _ => nB, fun i v h => (hU i (fxU i v h).1).2.1⟩
  have fxs : ∀ (b : Bool) i v, fx i = some v → (a.tmps.setIfInBounds t (.bool b)).getD i undef = v := fun b i v h => by
    rw [getD_put (hU i (fxU i v h).1).2.2]; exact (fxU i v h).2
  have fxb : ∀ {tm1 : Array Value}, (∀ i v, fx i = some v → tm1.getD i undef = v) → ∀ i ∈ U, tm1.getD i undef = a.tmps.getD i undef := fun h i hi => h i _ (by rw [hfx]; simp only; rw [if_pos hi])
  have hcall := hBo n (w.heap.size + 1) W1
    (fun W' => ∃ s1 tm1 I1 ι1, N1 s1 ∧ (∀ i v, fx i = some v → tm1.getD i undef = v) ∧ Carry (X'.re I ι st w) (w.heap.size + 1) w.heap.size s1 tm1 W' I1 ι1 ∧ W'.heap[w.heap.size + 1]? = some (.loop rec) ∧ W'.heap[w.heap.size]? = some (.deferred (some [])))
    (fun W' => ∃ s1 tm1 I1 ι1, N2 s1 ∧ (∀ i v, fx i = some v → tm1.getD i undef = v) ∧ Carry (X'.re I ι st w) (w.heap.size + 1) w.heap.size s1 tm1 W' I1 ι1 ∧ W'.heap[w.heap.size + 1]? = some (.loop rec) ∧ W'.heap[w.heap.size]? = some (.deferred (some [])))
    ⟨fn, _, assign, body, by have := yield_one (P := P) (v := .bool false) hL1 (t := t) (by rw [hrec]); rw [hrec] at this; exact this,
      (one_round c1 (by omega) (putB_nof hs) hL1 (by rw [hrec]) hA1 hB1 fA fB (fxs false) fn).mono fun e W' ⟨q1, s', tm', I', ι', q2, qf, q3, q4, q5⟩ => ⟨q1, s', tm', I', ι', q2, qf, q3, by rw [q4, hrec], q5.trans hD1⟩⟩
    (fun W2 ⟨s1, tm1, I1, ι1, q2, qf, q3, q4, q5⟩ => by
      obtain ⟨M2, m1, m2⟩ := h2 s1 q2
      have b1 := backRel (U := U) (tm := a.tmps) q3.rel (hr.size.trans (hN1 s1 q2).1.symm) (fxb qf)
      have c2 : Carry (X'.re I ι st w) (w.heap.size + 1) w.heap.size (putB t true (backSt U s1)) (a.tmps.setIfInBounds t (.bool true)) W2 I1 ι1 :=
        ⟨b1.put (show t < s1.nt by rw [(hN1 s1 q2).1]; exact ht) (.v _ rfl), q3.lI, q3.lU, q3.DI, q3.DU, q3.lB, q3.lW, q3.DW⟩
      exact ⟨fn, _, assign, body, by have := yield_one (P := P) (v := .bool true) q4 (t := t) (by rw [hrec]); rw [hrec] at this; exact this,
        (one_round c2 (by omega) (putB_nof (backSt_nof (hN1 s1 q2).2)) q4 (by rw [hrec]) m1 m2 fA fB (fxs true) fn).mono fun e W' ⟨p1, s', tm', I', ι', p2, pf, p3, p4, p5⟩ => ⟨p1, s', tm', I', ι', p2, pf, p3, by rw [p4, hrec], p5.trans q5⟩⟩)
  refine ⟨trivial, fun cs _ => ?_⟩
  obtain ⟨e, w', fr, ⟨⟨v, hv⟩, s2, tm2, I2, ι2, p2, pf, p3, p4, p5⟩, rest⟩ := hcall.2 cs (fun _ h => by cases h)
  refine ⟨e, w', fr, ?_, rest⟩
  subst hv
  refine ⟨_, _, run_endLoop p4 (by rw [hrec]; simp), ?_⟩
  rw [hrec]
  simp only
  have b2 := backRel (U := U) (tm := a.tmps) p3.rel (hr.size.trans (hN2 s2 p2).1.symm) (fxb pf)
  have b3 := b2.other (D := w.heap.size + 1) (o := .loop { state := .exhausted, pending := none, fn := fn, tmps := a.tmps, params := #[t], assign := assign, body := body, defers := w.heap.size }) p3.lB p3.lI p3.lU
  have b5 := hr.back b3
  have hB : X.B ≤ X'.B := hl.B
  have hB' : X'.B ≤ w.heap.size := hr.fr.size
  have hnow := hl.now b5
  refine ⟨X'.re _ ι2 (backSt U s2) _, w.heap.size :: dl, ⟨fun h => absurd h (by simp), fun I5 ι5 st5 tm5 w5 k5 => ?_, ?_, ?_, ?_⟩, ⟨?_, hfx0⟩, backSt U s2, hQ s2 p2, _, ι2, b5.re, FamI.of_nof (backSt_nof (hN2 s2 p2).2)⟩
  · have z := b5.back k5
    exact ⟨(hl.back _ _ _ _ _ z).1, fun f => (hl.back _ _ _ _ _ z).2 (f.back b5)⟩
  · have : X'.B ≤ _ := b5.fr.size
    exact Nat.le_trans hB this
  · refine List.nodup_cons.mpr ⟨fun hm => ?_, hl.nodup⟩
    have := (hl.mark _ hm).2.1
    omega
  · intro D hD
    rcases List.mem_cons.mp hD with rfl | hD
    · refine ⟨Nat.le_trans hB hB', ?_, fun z => z.1 p3.DU, p3.DI, ?_⟩
      · have hlt : w.heap.size < (w'.putObj (w.heap.size + 1) (.loop { state := .exhausted, pending := none, fn := fn, tmps := a.tmps, params := #[t], assign := assign, body := body, defers := w.heap.size })).heap.size := by
          rw [World.putObj_size]; exact p3.DW
        exact hlt
      · exact (World.putObj_heap_other (by omega)).trans p5
    · obtain ⟨z1, z2, z3, z4⟩ := hnow D hD
      refine ⟨z1, ?_, fun z => z.1 z3, z2, z4⟩
      exact (Array.getElem?_eq_some_iff.mp z4).1
  · show _ :: a.defers = marks (w.heap.size :: dl)
    rw [hd]; rfl

theorem onJ {α ρ : Type} {S : α → St} {j : α → Option ρ} {r : ρ} (v : α) (h : j v = some r) (e : st = S v) : onN (jN S j r) .normal st := ⟨v, e, h⟩
theorem tri_bothC {α β ρ : Type} (S1 : α → St) (S2 : β → St) {J : β → Option ρ} {A2 : α → (β → Option ρ) → Option ρ} {A1 : (α → Option ρ) → Option ρ} {r : ρ} (h : letj (fun v1 => letj J (A2 v1)) A1 = some r)
    {fid : FuncId} (hBo : BothOk P fid) (hE : ∀ args w, (callFunc fid args).run P w = .ok (.enter fid args) w) {t : Tmp} {assign body : Code} {Q : Post} (U : List Nat) (hUn : U.all (fun i => noDst i assign && noDst i body && !(Nat.beq i t)) = true)
    (ht : Nat.ble (t + 1) st.nt = true) (hs : nofB st = true) (hS1 : ∀ v, (S1 v).nt = st.nt ∧ nofB (S1 v) = true) (hS2 : ∀ v, (S2 v).nt = st.nt ∧ nofB (S2 v) = true) (sA1 : St) (sA2 : α → St) (n1 : nofB sA1 = true) (n2 : ∀ v, nofB (sA2 v) = true)
    (nA : noRF assign = true) (nB : noRF body = true) (hA1 : ∀ X, Tri X P assign (putB t false st) (onN (· = sA1))) (hB1 : ∀ X j, A1 j = some r → Tri X P body sA1 (onN (jN S1 j r)))
    (hA2 : ∀ v X, Tri X P assign (putB t true (backSt U (S1 v))) (onN (· = sA2 v))) (hB2 : ∀ v X j, A2 v j = some r → Tri X P body (sA2 v) (onN (jN S2 j r)))
    (hQ : ∀ v, J v = some r → Q .normal (backSt U (S2 v))) : Tri X P (.rangeFunc (.func fid) #[t] assign body) st Q := by
  refine tri_both hBo hE U hUn (Nat.le_of_ble_eq_true ht) (nof_of hs) (jN S1 (fun v1 => letj J (A2 v1)) r) (jN S2 J r) (M1 := (· = sA1)) ?_ ?_ hA1 ?_ ?_ nA nB ?_
  · rintro s ⟨v, rfl, _⟩; exact ⟨(hS1 v).1, nof_of (hS1 v).2⟩
  · rintro s ⟨v, rfl, _⟩; exact ⟨(hS2 v).1, nof_of (hS2 v).2⟩
  · rintro s rfl; exact ⟨nof_of n1, fun X => hB1 X _ h⟩
  · rintro s ⟨v, rfl, hv⟩
    exact ⟨(· = sA2 v), hA2 v, fun s hs => by subst hs; exact ⟨nof_of (n2 v), fun X => hB2 v X _ hv⟩⟩
  · rintro s ⟨v, rfl, hv⟩; exact hQ v hv
end
end Go.Ev
namespace Go.Ev
open Go Go.RowKit
set_option linter.unusedVariables false

/-- What a function promises that ends in a panic: it writes nothing but what it was given. -/
def Bad (P : Program) (f : FuncId) (pv : Value) (args : List X) : Prop :=
  ∀ (w0 : World) (I0 : Nat → Prop) (vs : Array Value) (fp : List Nat), (∀ b, I0 b → b < w0.heap.size) → RXl w0 I0 args vs.toList fp → fp.Nodup → (∀ b ∈ fp, b < w0.heap.size ∧ ¬ I0 b) → Glob w0.heap.size (· ∈ fp) w0 →
    Calls P f vs w0 fun e w' => e = .panicked [{ v := pv, recovered := false }] ∧ Fr w0.heap.size (· ∈ fp) w0 w'
def FnBad (P : Program) (f : FuncId) (pv : Value) (args : List X) : Prop := Enters P f ∧ Bad P f pv args
def badQ (pv : Value) : Post
  | .panic c, _ => c = [{ v := pv, recovered := false }]
  | _, _ => False
def evBadCall (G : List X → Prop) (own : List Bool) (hargs : List X) (args : List S) : M Unit := do
  let xs ← expSs own args
  need (EqXs xs hargs)
  need (G hargs)
  bif nodupN (args.flatMap ptrS) then pure () else fail
  liveAll (immRefs own args)
def calleeF (o : Oper) : Option (FuncId × List Operand) :=
  match o.guard, o.op with
  | none, .call c => match c.callee with
    | .value (.func f) => some (f, c.args.toList)
    | _ => none
  | _, _ => none
def evBad (P : Program) (T : Tab) (hh : Hints) (ops : Array Oper) (base md : Nat) (pv : Value) (k : Nat) (own : List Bool) (hargs : List X) (st : St) : Option (List Prop) :=
  match evTr P T (FnOk P) hh ops base md 0 (ops.toList.take k) st with
  | none => none
  | some t =>
    match (ops[k]?).bind calleeF with
    | none => none
    | some q =>
      match (do let l ← opnds q.2; evBadCall (FnBad P q.1 pv) own hargs l : M Unit) t.st with
      | none => none
      | some o => some (t.needs ++ o.needs)
/-- Nothing is told any more. -/
def blank (st : St) : St := ⟨st.nt, [], st.vars.map (fun p => (p.1, [])), []⟩

section
variable {X' : Ctx} {I : Nat → Prop} {ι : Im} {st : St} {tm : Array Value} {w : World} {P : Program} {T : Tab}

theorem badcall_ok {f : FuncId} {pv : Value} {G : List X → Prop} (hG : ∀ a, G a → Bad P f pv a) {own : List Bool} {hargs : List X} {args : List S} {us : List Value} {out : Out Unit} (he : evBadCall G own hargs args st = some out) (hs : out.side) (hr : RelI X' I ι st tm w) (hlen : us.length = args.length)
    (hc : ∀ (j : Nat) x, args[j]? = some x → ∃ y, us[j]? = some y ∧ Rs w I ι st.var st.arr x y) : Calls P f us.toArray w fun e w' => e = .panicked [{ v := pv, recovered := false }] ∧ ∃ fp : List Nat, Fr w.heap.size (· ∈ fp) w w' ∧ ∀ b ∈ fp, X'.mine b := by
  unfold evBadCall at he
  obtain ⟨o1, o2, h1, h2, v1, s1, d1⟩ := bind_inv he
  obtain ⟨o3, o4, h3, h4, v2, s2, d2⟩ := bind_inv h2
  obtain ⟨e3, e4⟩ := need_inv h3
  rw [e3] at h4
  obtain ⟨o5, o6, h5, h6, v3, s3, d3⟩ := bind_inv h4
  obtain ⟨e5, e6⟩ := need_inv h5
  rw [e5] at h6
  obtain ⟨o7, o8, h7, h8, v4, s4, d4⟩ := bind_inv h6
  obtain ⟨e7, e8⟩ := guard_inv h7
  rw [e8] at h8
  have D1 := d1 hs
  have D2 := d2 D1.2
  have D3 := d3 D2.2
  have hEq := D2.1
  rw [e4] at hEq
  have hKf := D3.1
  rw [e6] at hKf
  have hOk := hG _ hKf
  have hnd := nodupN_iff e7
  have hlive := (liveAll_inv h8).2
  let names := immRefs own args
  let I0 : Nat → Prop := fun b => I b ∨ ∃ m ∈ names, (∃ A, o1.st.arr m = some (some A)) ∧ ∃ c, ι.a m = some (b, c)
  obtain ⟨fp, hr1, E1, F1, R1, N1, T1, A1⟩ := expSs_ok (I0 := I0) h1 D1.1 hr hlen hc (fun b hb => .inl hb) (fun m hm b c hbc => .inr ⟨m, hm, hlive m hm, c, hbc⟩) hnd
  obtain ⟨R2, A2⟩ := R1.eqX hEq A1
  have hfpI : ∀ b ∈ fp, b < w.heap.size ∧ ¬ I0 b ∧ ¬ I b ∧ X'.mine b := by
    intro b hb
    rcases T1 b hb with ⟨m, A, c, q1, q2, q3, q4⟩ | ⟨m, hm, q1, q2⟩
    · have hok := hr.arrs m A q1
      rw [q3] at hok
      obtain ⟨⟨f, hrow⟩, hz⟩ := hok
      rw [q2] at hz
      simp only [Bool.false_eq_true, if_false] at hz
      refine ⟨hrow.lt, fun hh => ?_, hz.1, hz.2⟩
      rcases hh with hh | ⟨m', hm', ⟨A', hA'⟩, c', hc'⟩
      · exact hz.1 hh
      · have hA0 : st.arr m' = some (some A') := by
          rcases F1.arr m' with e | ⟨e, _⟩
          · rw [← e]; exact hA'
          · rw [e] at hA'; cases hA'
        have := hr.aa m m' A A' b c c' q1 hA0 q3 hc'
        subst this
        rw [q4] at hA'; cases hA'
    · cases hcs : st.var m with
      | none => exact absurd hcs q1
      | some cs =>
        obtain ⟨b', f, hok⟩ := hr.vars m cs hcs
        rw [hok.at_] at q2; injection q2 with q2; subst q2
        refine ⟨hok.lt, fun hh => ?_, hok.notI, hok.mine⟩
        rcases hh with hh | ⟨m', hm', ⟨A', hA'⟩, c', hc'⟩
        · exact hok.notI hh
        · have hA0 : st.arr m' = some (some A') := by
            rcases F1.arr m' with e | ⟨e, _⟩
            · rw [← e]; exact hA'
            · rw [e] at hA'; cases hA'
          exact hr.va m m' A' b' c' q1 hA0 hok.at_ hc'
  have hI0lt : ∀ b, I0 b → b < w.heap.size := by
    intro b hb
    rcases hb with hb | ⟨m, hm, ⟨A, hA⟩, c, hc⟩
    · exact (hr.inI b hb).1
    · have hok := hr1.arrs m A hA
      rw [hc] at hok
      exact hok.1.choose_spec.lt
  refine (hOk w I0 us.toArray fp hI0lt R2 N1 (fun b hb => ⟨(hfpI b hb).1, (hfpI b hb).2.1⟩) (hr.fr.glob fun b hb => (hfpI b hb).2.2.2)).mono ?_
  rintro e w' ⟨rfl, hF⟩
  exact ⟨rfl, fp, hF, fun b hb => (hfpI b hb).2.2.2⟩

theorem lookM_blank (m : Name) : ∀ l : List (Name × List C), lookM m (l.map fun p => (p.1, [])) = (lookM m l).map fun _ => ([] : List C)
  | [] => rfl
  | (k, x) :: r => by
    simp only [List.map_cons, lookM]
    cases nameEq m k with
    | true => rfl
    | false => exact lookM_blank m r
theorem blank_ok {w' : World} {fp : List Nat} (hr : RelI X' I ι st tm w) (hF : Fr w.heap.size (· ∈ fp) w w') (hfp : ∀ b ∈ fp, X'.mine b) {tm' : Array Value} (ht : tm'.size = tm.size) : Rel X' (blank st) tm' w' := by
  have hv : ∀ m, (blank st).var m = (st.var m).map fun _ => [] := fun m => lookM_blank m st.vars
  have hne : ∀ m, (blank st).var m ≠ none ↔ st.var m ≠ none := by
    intro m
    rw [hv m]
    cases st.var m <;> simp
  refine ⟨fun _ => False, ι, ⟨ht.trans hr.size, fun i => trivial, fun m cs hm => ?_, fun m A hm => (by cases hm), fun b hb => hb.elim, fun m m' b h1 h2 => hr.vv m m' b ((hne m).mp h1) ((hne m').mp h2), fun m m' A b c hm hA => (by cases hA), fun m m' A A' b c c' hA => (by cases hA), ?_, fun m b hp => ?_⟩, fun i x hx => by cases hx⟩
  · cases hcs : st.var m with
    | none => rw [hv m, hcs] at hm; cases hm
    | some l =>
      rw [hv m, hcs] at hm
      obtain rfl := Option.some.inj hm
      obtain ⟨b, f, q⟩ := hr.vars m l hcs
      exact ⟨b, f, q.at_, Nat.lt_of_lt_of_le q.lt hF.size, fun h => h, q.mine, fun j x hx => by simp at hx⟩
  · refine ⟨hr.fr.gl, hF.os.trans hr.fr.os, hF.tape.trans hr.fr.tape, hF.output.trans hr.fr.output, Nat.le_trans hr.fr.size hF.size, fun k hk he => ?_⟩
    refine (hF.block k (Nat.lt_of_lt_of_le hk hr.fr.size) (fun hm => ?_)).trans (hr.fr.block k hk he)
    rcases hfp k hm with hq | hq
    · exact absurd hk (Nat.not_lt.mpr hq)
    · exact he hq
  · obtain ⟨h1, h2, h3⟩ := hr.pin m b hp
    exact ⟨h1, (hne m).mpr h2, h3⟩
end

section
variable {Z : Ctx} {P : Program} {T : Tab} {Q : Post} {st : St} {hh : Hints} {ops : Array Oper} {base md : Nat}

theorem evL_of_evTr' {K : Facts} : ∀ (l : List Oper) (i : Nat) (st : St) (t : Tr), (∀ j, j < l.length → l[j]? = ops[i + j]?) → evTr P T K hh ops base md i l st = some t → evL P T K hh ops base md (List.range' i l.length) st = some t := by
  intro l
  induction l with
  | nil => intro i st t _ h; exact h
  | cons o r ih =>
    intro i st t hl h
    have h0 := hl 0 (by simp)
    simp only [List.getElem?_cons_zero, Nat.add_zero] at h0
    rw [List.length_cons, List.range'_succ]
    unfold evTr at h
    unfold evL evI
    rw [← h0]
    simp only
    cases he : evOp P T K hh ops base i o st with
    | none => rw [he] at h; cases h
    | some out =>
      rw [he] at h
      simp only at h ⊢
      cases ht : evTr P T K hh ops base md (i + 1) r out.st with
      | none => rw [ht] at h; cases h
      | some t' =>
        rw [ht] at h
        rw [ih (i + 1) out.st t' (fun j hj => by
          have := hl (j + 1) (by simpa using hj)
          rw [List.getElem?_cons_succ] at this
          rw [this]
          congr 1
          omega) ht]
        exact h
theorem evL_pre (hT : TabOk P T) {K : Facts} (hK : ∀ f a r p, K f a r p → FnOk P f a r p) {r' : Option Nat} {n' : Nat} {R : Exit → Act → World → Prop} {a0 : Act} {rest : List Nat} : ∀ {l : List Nat} {st : St} {t : Tr} {a : Act} {w : World}, evL P T K hh ops base md l st = some t → All t.needs → Rel Z st a.tmps w → Same ops a0 a →
    (∀ a' w', Same ops a0 a' → Rel Z t.st a'.tmps w' → wpOpsIn (FW r') n' P ops R rest a' w') → wpOpsIn (FW r') n' P ops R (l ++ rest) a w := by
  intro l
  induction l with
  | nil =>
    intro st t a w h hs hr hd hQ
    obtain rfl := Option.some.inj h
    exact hQ a w hd hr
  | cons i r ih =>
    intro st t a w h hs hr hd hQ
    obtain ⟨out, t', h1, h2, rfl⟩ := evL_cons h
    have hs' := all_append.mp hs
    rw [List.cons_append, wpOpsIn_cons]
    unfold evI at h1
    cases ho : ops[i]? with
    | none => rw [ho] at h1; cases h1
    | some o =>
      rw [ho] at h1
      exact evOp_ok hT hK ho h1 hs'.1 hr fun a' w' hd' hr' => ih h2 hs'.2 hr' (hd.put ho hd') hQ

theorem calleeF_inv {o : Oper} {f : FuncId} {l : List Operand} (h : calleeF o = some (f, l)) : o.guard = none ∧ ∃ c, o.op = .call c ∧ c.callee = .value (.func f) ∧ c.args.toList = l := by
  unfold calleeF at h
  split at h
  · rename_i c h1 h2
    split at h
    · rename_i g h3
      simp only [Option.some.injEq, Prod.mk.injEq] at h
      obtain ⟨rfl, rfl⟩ := h
      exact ⟨h1, c, h2, h3, rfl⟩
    · cases h
  · cases h

/-- A region in which a call ends in a panic. -/
theorem tri_bad (E : Env P T) {id : Nat} {ops : Array Oper} (hh : Hints) (base md : Nat) (pv : Value) (k : Nat) (own : List Bool) (hargs : List X) (needs : List Prop) (h : evBad P T hh ops base md pv k own hargs st = some needs) (hs : All needs)
    (hq : ∀ s, Q (.panic [{ v := pv, recovered := false }]) s) : Tri Z P (.region id ops false) st Q := by
  intro r fx n X' dl a w hn hl hd hr
  unfold evBad at h
  cases ht : evTr P T (FnOk P) hh ops base md 0 (ops.toList.take k) st with
  | none => rw [ht] at h; cases h
  | some t =>
    rw [ht] at h
    simp only at h
    cases hk : (ops[k]?).bind calleeF with
    | none => rw [hk] at h; cases h
    | some q =>
      rw [hk] at h
      simp only at h
      cases hm : (do let l ← opnds q.2; evBadCall (FnBad P q.1 pv) own hargs l : M Unit) t.st with
      | none => rw [hm] at h; cases h
      | some out =>
        rw [hm] at h
        obtain rfl := Option.some.inj h
        obtain ⟨hs1, hs2⟩ := all_append.mp hs
        cases ho : ops[k]? with
        | none => rw [ho] at hk; cases hk
        | some o =>
          rw [ho] at hk
          obtain ⟨hg, c, hop, hcal, hargs'⟩ := calleeF_inv (show calleeF o = some (q.1, q.2) from hk)
          have hkl := (Array.getElem?_eq_some_iff.mp ho).1
          have hlen : (ops.toList.take k).length = k := by rw [List.length_take, Array.length_toList]; omega
          have hL := evL_of_evTr' (ops := ops) (ops.toList.take k) 0 st t (fun j hj => by
            rw [hlen] at hj
            rw [List.getElem?_take, if_pos hj]; simp) ht
          rw [hlen] at hL
          refine wpIn_region ?_
          rw [List.range_eq_range']
          have hsplit : List.range' 0 ops.size = List.range' 0 k ++ (k :: List.range' (k + 1) (ops.size - (k + 1))) := by
            have e1 : ops.size = k + (ops.size - (k + 1) + 1) := by omega
            conv => lhs; rw [e1]
            rw [← List.range'_append_1, List.range'_succ]
            simp
          rw [hsplit]
          refine evL_pre E.tab (fun _ _ _ _ k => k) hL hs1 hr (Same.refl _ _) fun a' w' hd' hr' => ?_
          rw [wpOpsIn_cons]
          unfold wpOpIn
          rw [ho]
          simp only
          unfold Region.wanted
          rw [hg]
          simp only [if_true]
          obtain ⟨I, ι, hri, hf⟩ := hr'
          obtain ⟨o5, o6, h5, h6, v5, s5, d5⟩ := bind_inv hm
          obtain ⟨e5, e6, e7⟩ := opnds_ok hri h5
          rw [e5] at h6
          have hside := (d5 hs2).2
          have hen : Enters P q.1 := by
            unfold evBadCall at h6
            obtain ⟨p1, p2, g1, g2, w1, t1, c1⟩ := bind_inv h6
            obtain ⟨p3, p4, g3, g4, w2, t2, c2⟩ := bind_inv g2
            obtain ⟨p5, p6, g5, g6, w3, t3, c3⟩ := bind_inv g4
            have := (c3 (c2 (c1 hside).2).2).1
            rw [(need_inv g5).2] at this
            exact this.1
          have hcl := badcall_ok (fun a h => h.2) h6 hside hri e6 e7
          refine wp_In (fun c' e => by rw [hop] at e; cases e) ?_
          unfold Oper.wp
          rw [exec_call hop hcal hen, Oper.upon_enter]
          have ea : (List.map a'.eval q.2).toArray = c.args.map a'.eval := by rw [← hargs']; apply Array.ext'; simp
          rw [ea] at hcl
          refine Calls.mono hcl ?_
          rintro e w2 ⟨rfl, fp, hF, hfp⟩
          exact ⟨X', dl, hl, hd.same hn hd', blank t.st, hq _, blank_ok hri hF hfp rfl⟩

theorem tri_bad_seq (E : Env P T) {id : Nat} {ops : Array Oper} {y : Code} (hh : Hints) (base md : Nat) (pv : Value) (k : Nat) (own : List Bool) (hargs : List X) (needs : List Prop) (h : evBad P T hh ops base md pv k own hargs st = some needs) (hs : All needs)
    (hq : ∀ s, Q (.panic [{ v := pv, recovered := false }]) s) : Tri Z P (.seq (.region id ops false) y) st Q :=
  tri_seq (tri_bad E hh base md pv k own hargs needs h hs hq)

theorem leaves_marks_bad {X : Ctx} {I : Nat → Prop} {ι : Im} {r : Option Nat} {n : Nat} {fn : Func} {tm : Array Value} {R : Ending → World → Prop} {c : List PanicEntry} (hk : ∀ w', RelI X I ι st tm w' → R (.panicked c) w') :
    ∀ (dl : List Nat) (w : World), dl.Nodup → (∀ D ∈ dl, X.B ≤ D ∧ ¬ I D ∧ Unused st ι D ∧ w.heap[D]? = some (.deferred (some []))) → RelI X I ι st tm w → LeavesInM (FW r) n P fn tm R (marks dl) (.panicking c) w := by
  intro dl
  induction dl with
  | nil => intro w _ _ hr; exact hk w hr
  | cons D dl ih =>
    intro w hnd hD hr
    obtain ⟨h1, h2, h3, h4⟩ := hD D List.mem_cons_self
    refine ⟨by simp, .inl ⟨D, _, rfl, run_takeDeferred h4, ?_⟩⟩
    have hnd' := List.nodup_cons.mp hnd
    refine ih _ hnd'.2 (fun D' hD' => ?_) (hr.other h1 h2 h3)
    obtain ⟨k1, k2, k3, k4⟩ := hD D' (List.mem_cons_of_mem _ hD')
    have hne : D' ≠ D := fun e => hnd'.1 (by rw [← e]; exact hD')
    exact ⟨k1, k2, k3, (World.putObj_heap_other hne).trans k4⟩
end
section
variable {X' : Ctx} {P : Program} {T : Tab} {I : Nat → Prop} {ι : Im} {st : St} {w : World}
/-- What a function promises that ends in a panic, out of what its code does. -/
theorem fn_bad (E : Env P T) {f : FuncId} {fn : Func} {c : Code} {args : List X} {pv : Value} (hf : P.funcs[f]? = some fn) (hb : fn.body = some c) (st0 : St) (ns : List Name) (hi : evInit fn.ntmps args = some (st0, ns))
    (h : ∀ X : Ctx, Tri X P c st0 (badQ pv)) : Bad P f pv args := by
  intro w0 I0 vs fp hI0 hx hn hfp hgl
  unfold evInit at hi
  cases h1 : impSs 0 0 args ⟨fn.ntmps, [], [], []⟩ with
  | none => rw [h1] at hi; cases hi
  | some o =>
    rw [h1] at hi
    simp only at hi
    rcases cond_inv' hi with ⟨hc, hi⟩ | ⟨_, hi⟩
    case inr => cases hi
    simp only [Option.some.injEq, Prod.mk.injEq] at hi
    obtain ⟨rfl, rfl⟩ := hi
    simp only [Bool.and_eq_true, List.all_eq_true] at hc
    obtain ⟨⟨c1, c3⟩, c2⟩ := hc
    have hle := Nat.le_of_ble_eq_true c1
    have hlen : vs.toList.length = args.length := by
      have gen : ∀ (xs : List X) (us : List Value) (fp : List Nat), RXl w0 I0 xs us fp → us.length = xs.length := by
        intro xs
        induction xs with
        | nil => intro us fp h; cases us with | nil => rfl | cons _ _ => exact h.elim
        | cons x xs ih =>
          intro us fp h
          cases us with
          | nil => exact h.elim
          | cons u us => obtain ⟨_, _, _, _, h⟩ := h; simp [ih _ _ h]
      exact gen _ _ _ hx
    let tm : Array Value := vs ++ Array.replicate (fn.ntmps - vs.size) undef
    let X0 : Ctx := ⟨(· ∈ fp), w0, I0, fun _ => none⟩
    have hsz : vs.size = args.length := by simpa using hlen
    have htm : tm.size = fn.ntmps := by simp [tm]; omega
    have rel0 : RelI X0 I0 ⟨fun _ => none, fun _ => none⟩ ⟨fn.ntmps, [], [], []⟩ tm w0 := by
      refine ⟨htm, fun i => trivial, fun m cs hm => (by cases hm), fun m A hm => (by cases hm), fun b hb => ⟨hI0 b hb, .inl hb⟩, fun m m' b hm => absurd rfl hm, fun m m' A b c hm => absurd rfl hm, fun m m' A A' b c c' hm => (by cases hm), .refl hgl, fun m b hb => (by cases hb)⟩
    obtain ⟨ι', r1, M1, R1⟩ := impSs_ok h1 rel0 hx hn (fun b hb => ⟨⟨fun k hk => absurd rfl hk, fun k D c hk => by cases hk⟩, (hfp b hb).2, .inr hb⟩)
    obtain ⟨A1, L1⟩ := impSs_al h1 hlen R1
    have hval : ∀ i, Rs w0 I0 ι' o.st.var o.st.arr ((lookN i (number 0 o.val.1)).getD (.c .undef)) (tm.getD i undef) := by
      intro i
      rw [lookN_number, if_pos (Nat.zero_le _), Nat.sub_zero]
      cases hg : o.val.1[i]? with
      | none => trivial
      | some x =>
        obtain ⟨y, hy, hr⟩ := R1 i x hg
        have hi : i < vs.size := by
          rw [hsz, ← L1]
          exact (List.getElem?_eq_some_iff.mp hg).1
        have : tm.getD i undef = y := by
          have hy' : vs[i]? = some y := by simpa using hy
          have hyi : vs[i] = y := by rw [Array.getElem?_eq_getElem hi] at hy'; exact Option.some.inj hy'
          simp only [tm, Array.getD_eq_getD_getElem?]
          rw [Array.getElem?_append_left hi, hy']
          rfl
        rw [this]
        simp only [Option.getD_some]
        cases x with
        | c z => exact hr
        | agg z => exact hr
        | tup z => exact hr.elim
        | sp z => trivial
    have r2 : RelI X0 I0 ι' { o.st with slots := number 0 o.val.1 } tm w0 :=
      ⟨r1.size, hval, r1.vars, r1.arrs, r1.inI, r1.vv, r1.va, r1.aa, r1.fr, fun m b hb => by cases hb⟩
    let pin : Name → Option Nat := fun m => if m ∈ o.val.1.flatMap ptrS then ι'.v m else none
    have hmem : ∀ m ∈ o.val.1.flatMap ptrS, o.st.var m ≠ none ∧ ∃ b, ι'.v m = some b := by
      have gen : ∀ (l : List S), (∀ (k : Nat) x, l[k]? = some x → ∃ y, vs.toList[k]? = some y ∧ Rs1 w0 I0 ι' o.st.var o.st.arr x y) → ∀ m ∈ l.flatMap ptrS, o.st.var m ≠ none ∧ ∃ b, ι'.v m = some b := by
        intro l hl m hm
        obtain ⟨x, hx, hmx⟩ := List.mem_flatMap.mp hm
        obtain ⟨k, hk⟩ := List.mem_iff_getElem?.mp hx
        obtain ⟨y, _, hr⟩ := hl k x hk
        cases x with
        | c z =>
          cases z with
          | pvar m' q =>
            simp only [ptrS, List.mem_singleton] at hmx
            subst hmx
            obtain ⟨h1, b, h2, _⟩ := (show Rc w0 I0 ι' o.st.var o.st.arr (.pvar m q) y from hr)
            exact ⟨h1, b, h2⟩
          | _ => simp [ptrS] at hmx
        | agg _ => simp [ptrS] at hmx
        | tup _ => simp [ptrS] at hmx
        | sp _ => simp [ptrS] at hmx
      exact gen _ R1
    have r3 : RelI { X0 with pin := pin } I0 ι' { o.st with slots := number 0 o.val.1 } tm w0 := by
      refine r2.pinned fun m b hb => ?_
      simp only [pin] at hb
      split at hb
      · rename_i hm
        exact ⟨Nat.eq_of_beq_eq_true (c2 m hm), (hmem m hm).1, hb⟩
      · cases hb
    have nosp : ∀ i x, ({ o.st with slots := number 0 o.val.1 } : St).slot i ≠ .sp x := by
      intro i x hx
      have hx' : (lookN i (number 0 o.val.1)).getD (.c .undef) = .sp x := hx
      rw [lookN_number, if_pos (Nat.zero_le _), Nat.sub_zero] at hx'
      cases hg : o.val.1[i]? with
      | none => rw [hg] at hx'; cases hx'
      | some y =>
        rw [hg] at hx'
        have hy : y = .sp x := hx'
        subst hy
        have := c3 _ (List.mem_of_getElem? hg)
        cases this
    have hfam : FamI { X0 with pin := pin } I0 ι' { o.st with slots := number 0 o.val.1 } tm w0 := by
      unfold FamI
      cases hq : ({ o.st with slots := number 0 o.val.1 } : St).slot o.st.nt with
      | sp y => exact absurd hq (nosp _ _)
      | _ => exact nosp
    have ht := h { X0 with pin := pin } none (fun _ => none) 0 _ [] { tmps := tm, defers := [] } w0 ⟨fun e => (by cases e), fun _ _ e => (by cases e)⟩ (Later.refl _ _) ⟨rfl, fun _ _ e => (by cases e)⟩ ⟨I0, ι', r3, hfam⟩
    refine (callsIn_wide (n := 0)).1 (callsIn_of_wp_marks (F := FW none) hf hb trivial (wpIn_mono ht fun e a' w' hq => ?_))
    obtain ⟨X2, dl, hl, hd, st', hq, I', ι2, hr', _⟩ := hq
    cases e with
    | panic ch =>
      obtain rfl : ch = _ := hq
      show LeavesInM (FW none) 0 P fn a'.tmps _ a'.defers (.panicking _) w'
      rw [hd.df]
      exact leaves_marks_bad (X := { X0 with pin := pin }) (I := I') (ι := ι2) (st := st') (fun w2 hr2 => ⟨rfl, hr2.fr⟩) dl w' hl.nodup (hl.now hr') (hl.back _ _ _ _ _ hr').1
    | _ => exact hq.elim
end
end Go.Ev
namespace Go.Ev
open Go Go.RowKit
/-! ### what printed proofs are made of -/
section
variable {α β : Type}
def bex (x : Option (Option α)) (f : α → Option (Option β)) : Option (Option β) := x.bind fun y => match y with
  | none => some none
  | some z => f z
theorem bex_ok {x : Option (Option α)} {f : α → Option (Option β)} {r : β} (h : bex x f = some (some r)) : ∃ y, x = some (some y) ∧ f y = some (some r) := by
  obtain ⟨y, h1, h2⟩ := Option.bind_eq_some_iff.mp h
  cases y with
  | none => cases h2
  | some z => exact ⟨z, h1, h2⟩
theorem bex_bad {x : Option (Option α)} {f : α → Option (Option β)} (h : bex x f = some none) : x = some none ∨ ∃ y, x = some (some y) ∧ f y = some none := by
  obtain ⟨y, h1, h2⟩ := Option.bind_eq_some_iff.mp h
  cases y with
  | none => exact .inl h1
  | some z => exact .inr ⟨z, h1, h2⟩
theorem bex_go {x : Option (Option α)} {f : α → Option (Option β)} {y : α} (h : x = some (some y)) : bex x f = f y := by rw [h]; rfl
theorem bex_no {x : Option (Option α)} {f : α → Option (Option β)} (h : x = some none) : bex x f = some none := by rw [h]; rfl
theorem noso {a : α} (h : some (some a) = (some none : Option (Option α))) : False := by cases h
theorem some_inv2 {x y : α} (h : some (some x) = some (some y)) : y = x := some_inv (some_inv h).symm
end
/-- A value of an interface's type: an error, or nil. -/
def eE (b : Bool) : C := .err b
theorem tellSC {a b : C} (h : TellC a b) : TellS (.c a) (.c b) := by
  cases b <;> first | trivial | exact h
theorem tellErr {b : Bool} (h : b = true) : TellS (.c (eE b)) (.c (.err true)) := by rw [h]; exact tellSC (TellC.refl _)
theorem tellNil {b : Bool} (h : b = false) : TellS (.c (eE b)) (.c (.err false)) := by rw [h]; exact tellSC (TellC.refl _)
theorem nilfact_err {P : Program} {t : TypeId} {x y : Operand} (h1 : ∀ T v w, (do eqGuard .eql t x y (.iface T v) .nilIface; Go.binOp .eql t (.iface T v) .nilIface : Sem Value).run P w = .ok (.bool false) w) (h2 : ∀ T v w, (do eqGuard .neq t x y (.iface T v) .nilIface; Go.binOp .neq t (.iface T v) .nilIface : Sem Value).run P w = .ok (.bool true) w) : NilFact P t x y false := by
  intro u w h
  rw [if_neg (by simp)] at h
  obtain ⟨T, v, rfl⟩ := h
  exact ⟨h1 T v w, h2 T v w⟩
theorem nilfact_nil {P : Program} {t : TypeId} {x y : Operand} (h1 : ∀ w, (do eqGuard .eql t x y .nilIface .nilIface; Go.binOp .eql t .nilIface .nilIface : Sem Value).run P w = .ok (.bool true) w) (h2 : ∀ w, (do eqGuard .neq t x y .nilIface .nilIface; Go.binOp .neq t .nilIface .nilIface : Sem Value).run P w = .ok (.bool false) w) : NilFact P t x y true := by
  intro u w h
  rw [if_pos rfl] at h
  subst h
  exact ⟨h1 w, h2 w⟩
theorem tellG {n k : Nat} {g : Nat → List C} {c : C} (hk : k < n) (hc : (g k).getD 0 .undef = c) : TellS (.c ((flatG n g).getD k .undef)) (.c c) := by
  have : (flatG n g).getD k .undef = c := by
    rw [← hc]
    unfold flatG
    rw [List.getD_eq_getElem?_getD, List.getElem?_map, List.getElem?_range hk]
    rfl
  rw [this]
  exact tellSC (TellC.refl _)
theorem flatG_at {n k : Nat} {g : Nat → List C} {c : C} (hk : k < n) (hc : (g k).getD 0 .undef = c) : (flatG n g).getD k .undef = c := by
  rw [← hc]
  unfold flatG
  rw [List.getD_eq_getElem?_getD, List.getElem?_map, List.getElem?_range hk]
  rfl
theorem flatG_lt {n : Nat} {g : Nat → List C} {k : Nat} (h : k < n) : k < (flatG n g).length := by rw [flatG_len]; exact h
/-- A string, by its bytes. -/
def sB (l : List UInt8) : ByteArray := ⟨l.toArray⟩
end Go.Ev
