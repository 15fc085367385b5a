/- The evaluator, part 3: families, regions, ghost steps. -/
import Derived.Test.YtmdolfannbbipaaDoorEv2
import Derived.OrdersIn
import Derived.RangeFuncLeaves
namespace Go.Ev
open Go Go.RowKit
set_option linter.unusedVariables false

section
variable {X : Ctx} {I I' : Nat → Prop} {ι ι' : Im} {st st' : St} {tm tm' : Array Value} {w w' : World} {P : Program} {T : Tab}

/-- Seen from now on: what the state leads to may be written, nothing else. -/
def Ctx.re (X : Ctx) (I : Nat → Prop) (ι : Im) (st : St) (w : World) : Ctx := ⟨fun b => ¬ Unused st ι b ∧ ¬ I b, w, I, X.pin⟩

theorem RelI.used_mine (h : RelI X I ι st tm w) {b : Nat} (hu : ¬ Unused st ι b) (hI : ¬ I b) : X.mine b := by
  unfold Unused at hu
  rw [Classical.not_and_iff_not_or_not] at hu
  rcases hu with hu | hu
  · obtain ⟨m, hm⟩ := Classical.not_forall.mp hu
    simp only [Classical.not_imp, Classical.not_not] at hm
    obtain ⟨hm, hb⟩ := hm
    cases hcs : st.var m with
    | none => exact absurd hcs hm
    | some cs =>
      obtain ⟨b', f, q⟩ := h.vars m cs hcs
      have := q.at_
      rw [hb] at this
      injection this with this
      subst this
      exact q.mine
  · obtain ⟨m, hm⟩ := Classical.not_forall.mp hu
    obtain ⟨D, hm⟩ := Classical.not_forall.mp hm
    obtain ⟨c, hm⟩ := Classical.not_forall.mp hm
    simp only [Classical.not_imp, Classical.not_not] at hm
    obtain ⟨hm, hb⟩ := hm
    have hok := h.arrs m D hm
    rw [hb] at hok
    obtain ⟨_, hz⟩ := hok
    cases hf : D.frozen with
    | true => rw [if_pos hf] at hz; exact absurd hz hI
    | false => rw [hf] at hz; exact hz.2

theorem RelI.re (h : RelI X I ι st tm w) : RelI (X.re I ι st w) I ι st tm w := by
  refine ⟨h.size, h.slots, fun m cs hm => ?_, fun m A hm => ?_, fun b hb => ⟨(h.inI b hb).1, .inl hb⟩, h.vv, h.va, h.aa, .refl ⟨h.fr.now, fun b hb => ⟨Nat.lt_of_lt_of_le (h.fr.gl.2 b hb).1 h.fr.size, fun hx => by
    rcases h.used_mine hx.1 hx.2 with hm | hm
    · exact absurd (h.fr.gl.2 b hb).1 (Nat.not_lt.mpr hm)
    · exact (h.fr.gl.2 b hb).2 hm⟩⟩, h.pin⟩
  · obtain ⟨b, f, q⟩ := h.vars m cs hm
    exact ⟨b, f, q.at_, q.lt, q.notI, .inr ⟨fun hu => hu.1 m (by rw [hm]; simp) q.at_, q.notI⟩, q.cell⟩
  · have hok := h.arrs m A hm
    unfold ArrOk at hok ⊢
    split at hok
    · exact hok
    · rename_i b cap hp
      obtain ⟨hr, hz⟩ := hok
      refine ⟨hr, ?_⟩
      cases hf : A.frozen with
      | true => rw [hf] at hz; exact hz
      | false =>
        rw [hf] at hz
        exact ⟨hz.1, .inr ⟨fun hu => hu.2 m A cap hm hp, hz.1⟩⟩

theorem re_mine (h : RelI X I ι st tm w) {b : Nat} (hb : (X.re I ι st w).mine b) : X.mine b := by
  rcases hb with hb | hb
  · exact .inl (Nat.le_trans h.fr.size hb)
  · exact h.used_mine hb.1 hb.2

theorem RelI.back (h : RelI X I ι st tm w) (k : RelI (X.re I ι st w) I' ι' st' tm' w') : RelI X I' ι' st' tm' w' := by
  refine ⟨k.size, k.slots, fun m cs hm => ?_, fun m A hm => ?_, fun b hb => ⟨(k.inI b hb).1, ?_⟩, k.vv, k.va, k.aa, ?_, k.pin⟩
  · obtain ⟨b, f, q⟩ := k.vars m cs hm
    exact ⟨b, f, q.at_, q.lt, q.notI, re_mine h q.mine, q.cell⟩
  · have hok := k.arrs m A hm
    unfold ArrOk at hok ⊢
    split at hok
    · exact hok
    · obtain ⟨hr, hz⟩ := hok
      refine ⟨hr, ?_⟩
      cases hf : A.frozen with
      | true => rw [hf] at hz; exact hz
      | false => rw [hf] at hz; exact ⟨hz.1, re_mine h hz.2⟩
  · rcases (k.inI b hb).2 with hq | hq
    · exact (h.inI b hq).2
    · exact .inr (re_mine h hq)
  · refine ⟨h.fr.gl, k.fr.os.trans h.fr.os, k.fr.tape.trans h.fr.tape, k.fr.output.trans h.fr.output, Nat.le_trans h.fr.size k.fr.size, fun b hb he => ?_⟩
    refine (k.fr.block b (Nat.lt_of_lt_of_le hb h.fr.size) (fun hx => ?_)).trans (h.fr.block b hb he)
    rcases h.used_mine hx.1 hx.2 with hm | hm
    · exact absurd hb (by simpa using hm)
    · exact he hm

theorem RelI.kept (h : RelI X I ι st tm w) (k : RelI (X.re I ι st w) I' ι' st' tm' w') {b : Nat} (hb : b < w.heap.size) (hI : ¬ I b) (hu : Unused st ι b) : w'.heap[b]? = w.heap[b]? ∧ ¬ I' b ∧ Unused st' ι' b := by
  have hno : ¬ (X.re I ι st w).mine b := by
    rintro (hx | hx)
    · exact absurd hb (by have : w.heap.size ≤ b := hx; omega)
    · exact hx.1 hu
  have hI' : ¬ I' b := by
    intro hi
    rcases (k.inI b hi).2 with hq | hq
    · exact hI hq
    · exact hno hq
  refine ⟨k.fr.block b hb (fun hx => hx.1 hu), hI', fun m hm hb' => ?_, fun m D c hm hb' => ?_⟩
  · cases hcs : st'.var m with
    | none => exact hm hcs
    | some cs =>
      obtain ⟨b', f, q⟩ := k.vars m cs hcs
      have := q.at_
      rw [hb'] at this
      injection this with this
      subst this
      exact hno q.mine
  · have hok := k.arrs m D hm
    rw [hb'] at hok
    obtain ⟨_, hz⟩ := hok
    cases hf : D.frozen with
    | true => rw [if_pos hf] at hz; exact hI' hz
    | false => rw [hf] at hz; exact hno hz.2

/-- Arrays of single plain values. -/
def PlainA (A : Arr) : Prop := A.frozen = false ∧ ∀ i (j : Nat) x, (A.g i)[j]? = some x → ∃ u, x = .v u
theorem famArr_plain {h : Nat → Value} {F : FamS} {x : FN} {A : Arr} (hA : FamArr h F x A) : PlainA A := by
  cases x with
  | hd =>
    obtain rfl : A = _ := hA
    exact ⟨rfl, fun i j x hx => by cases j <;> simp at hx; exact ⟨_, hx.symm⟩⟩
  | pend =>
    obtain ⟨k, l, t, _, rfl⟩ := hA
    exact ⟨rfl, fun i j x hx => by cases j <;> simp [rowG] at hx; exact ⟨_, hx.symm⟩⟩
  | row k =>
    obtain ⟨_, _, rfl⟩ := hA
    exact ⟨rfl, fun i j x hx => by cases j <;> simp [rowG] at hx; exact ⟨_, hx.symm⟩⟩

theorem RowOk.plain {A : Arr} {b cap : Nat} {f : Nat → Nat → Value} (hp : PlainA A) (h : RowOk w I A b cap f) (hb : w'.heap[b]? = w.heap[b]?) (hs : b < w'.heap.size) : RowOk w' I' A b cap f := by
  refine ⟨hs, h.pos, h.fit, h.max, fun o ho => ?_, h.len, fun i j x hi hx => (World.cell?_of_block hb).trans (h.cell i j x hi hx), fun i j x hi hx => ?_⟩
  · rw [World.cell?_of_block hb, World.frozen?_of_block hb]; exact h.there o ho
  · obtain ⟨u, rfl⟩ := hp.2 i j x hx
    have := h.rel i j _ hi hx
    cases this with
    | v _ hf => exact .v _ hf

theorem ArrOk.plain {A : Arr} {p : Option (Nat × Nat)} {Y : Ctx} (hp : PlainA A) (h : ArrOk X w I A p) (hb : ∀ b c, p = some (b, c) → w'.heap[b]? = w.heap[b]? ∧ b < w'.heap.size ∧ ¬ I' b ∧ (X.mine b → Y.mine b)) : ArrOk Y w' I' A p := by
  unfold ArrOk at h ⊢
  split at h
  · exact h
  · rename_i b cap
    obtain ⟨⟨f, hr⟩, hz⟩ := h
    obtain ⟨h1, h2, h3, h4⟩ := hb b cap rfl
    rw [hp.1] at hz ⊢
    exact ⟨⟨f, hr.plain hp h1 h2⟩, h3, h4 hz.2⟩
theorem ArrOk.lt {A : Arr} {b c : Nat} (h : ArrOk X w I A (some (b, c))) : b < w.heap.size := by
  obtain ⟨⟨f, hr⟩, _⟩ := h; exact hr.lt
theorem ArrOk.own {A : Arr} {b c : Nat} (hf : A.frozen = false) (h : ArrOk X w I A (some (b, c))) : ¬ I b ∧ X.mine b := by
  obtain ⟨_, hz⟩ := h
  rw [hf] at hz; exact hz

theorem FamOk.kept {F : FamS} {h : Nat → Value} {pv : Value} {L : FN → Option (Nat × Nat)} (hf : FamOk X I ι st w F h pv L) (hr : RelI X I ι st tm w) (k : RelI (X.re I ι st w) I' ι' st' tm' w') : FamOk X I' ι' st' w' F h pv L := by
  have key : ∀ x A b c, FamArr h F x A → L x = some (b, c) → w'.heap[b]? = w.heap[b]? ∧ ¬ I' b ∧ Unused st' ι' b ∧ b < w'.heap.size := by
    intro x A b c hA hL
    have hok := hf.arr x A hA
    rw [hL] at hok
    obtain ⟨h1, h2, h3⟩ := hr.kept k hok.lt (hok.own (famArr_plain hA).1).1 (hf.un x A b c hA hL)
    exact ⟨h1, h2, h3, Nat.lt_of_lt_of_le hok.lt k.fr.size⟩
  refine ⟨fun x A hA => ?_, fun x A b c hA hL => (key x A b c hA hL).2.2.1, hf.ap, hf.row, hf.fl, hf.pend⟩
  refine (hf.arr x A hA).plain (famArr_plain hA) fun b c hL => ?_
  obtain ⟨h1, h2, h3, h4⟩ := key x A b c hA hL
  exact ⟨h1, h4, h2, fun h => h⟩

theorem FamI.kept (hf : FamI X I ι st tm w) (hr : RelI X I ι st tm w) (k : RelI (X.re I ι st w) I' ι' st' tm' w') (hn : st'.slot st'.nt = st.slot st.nt) (hs : ∀ i x, st'.slot i = .sp x → st.slot i = .sp x ∧ tm'.getD i undef = tm.getD i undef) : FamI X I' ι' st' tm' w' := by
  unfold FamI at hf ⊢
  rw [hn]
  split at hf
  · rename_i F hF
    obtain ⟨h, pv, L, h1, h2⟩ := hf
    refine ⟨h, pv, L, h1.kept hr k, fun i x hx => ?_⟩
    obtain ⟨e1, e2⟩ := hs i x hx
    rw [e2]; exact h2 i x e1
  · intro i x hx
    exact hf i x (hs i x hx).1

/-- One of the arrays that the rows are made of, seen as an array of the state. -/
theorem FamOk.view {F : FamS} {h : Nat → Value} {pv : Value} {L : FN → Option (Nat × Nat)} (hf : FamOk X I ι st w F h pv L) (hr : RelI X I ι st tm w) {x : FN} {A : Arr} (hA : FamArr h F x A) {m : Name} (hm : st.arr m = none) :
    ∃ ι', RelI X I ι' { st with arrs := (m, some A) :: st.arrs } tm w ∧ ι'.a m = L x ∧ ι'.v = ι.v ∧ (∀ k, k ≠ m → ι'.a k = ι.a k) ∧ Ext w I ι st.var st.arr w I ι' st.var ({ st with arrs := (m, some A) :: st.arrs } : St).arr := by
  have hok := hf.arr x A hA
  have hp := famArr_plain hA
  cases hL : L x with
  | none =>
    rw [hL] at hok
    have hn : A.n = 0 := hok
    obtain ⟨fr, s, n, g⟩ := A
    obtain rfl : fr = false := hp.1
    obtain rfl : n = 0 := hn
    obtain ⟨ι', h1, h2, h3, h4, h5⟩ := hr.newA0' hm s g
    exact ⟨ι', h1, h3, h4, h5, h2⟩
  | some p =>
    obtain ⟨b, c⟩ := p
    rw [hL] at hok
    have ho := hok.own hp.1
    obtain ⟨⟨f, hrow⟩, _⟩ := hok
    have hu := hf.un x A b c hA hL
    obtain ⟨ι', h1, h2, h3, h4, h5⟩ := hr.addA' hm hp.1 ho.1 ho.2 hu.1 hu.2 (fun _ _ => rfl) rfl ⟨rfl, rfl, rfl⟩ hrow
    exact ⟨ι', h1, h3, h4, h5, h2⟩

/-- The other ones lie apart from it. -/
theorem FamOk.view_unused {F : FamS} {h : Nat → Value} {pv : Value} {L : FN → Option (Nat × Nat)} (hf : FamOk X I ι st w F h pv L) {x y : FN} {A B : Arr} (hA : FamArr h F x A) (hB : FamArr h F y B) (hxy : x ≠ y) {m : Name}
    (e1 : ι'.a m = L x) (e2 : ι'.v = ι.v) (e3 : ∀ k, k ≠ m → ι'.a k = ι.a k) {b c : Nat} (hb : L y = some (b, c)) : Unused { st with arrs := (m, some A) :: st.arrs } ι' b := by
  have hu := hf.un y B b c hB hb
  refine ⟨fun k hk => by rw [e2]; exact hu.1 k hk, fun k D d hk hd => ?_⟩
  have har : ({ st with arrs := (m, some A) :: st.arrs } : St).arr k = if k = m then some (some A) else st.arr k := arr_cons st m _ k
  rw [har] at hk
  by_cases e : k = m
  · subst e
    rw [e1] at hd
    exact hxy (hf.ap x y A B b d c hA hB hd hb)
  · rw [if_neg e] at hk
    rw [e3 k e] at hd
    exact hu.2 k D d hk hd

/-- An array that is not told any more lies apart from the rest. -/
theorem RelI.kill_unused (h : RelI X I ι st tm w) {m : Name} {A : Arr} (hm : st.arr m = some (some A)) {b c : Nat} (hb : ι.a m = some (b, c)) : Unused { st with arrs := (m, none) :: st.arrs } ι b := by
  refine ⟨fun k hk hb' => h.va k m A b c hk hm hb' hb, fun k D d hk hd => ?_⟩
  have har : ({ st with arrs := (m, none) :: st.arrs } : St).arr k = if k = m then some none else st.arr k := arr_cons st m _ k
  rw [har] at hk
  by_cases e : k = m
  · rw [if_pos e] at hk; cases hk
  · rw [if_neg e] at hk
    exact e (h.aa k m D A b d c hk hm hd hb)
end
end Go.Ev
namespace Go.Ev
open Go Go.RowKit
set_option linter.unusedVariables false

section
variable {X : Ctx} {I I' : Nat → Prop} {ι ι' : Im} {st st' : St} {tm tm' : Array Value} {w w' : World} {P : Program} {T : Tab} {K : Facts}

theorem RelI.slot (h : RelI X I ι st tm w) {i : Nat} {x : S} (hx : Rs w I ι st.var st.arr x (tm.getD i undef)) : RelI X I ι { st with slots := (i, x) :: st.slots } tm w := by
  refine ⟨h.size, fun k => ?_, h.vars, h.arrs, h.inI, h.vv, h.va, h.aa, h.fr, h.pin⟩
  have hg := get_slot_cons st i x (.s k)
  simp only [St.get] at hg
  by_cases hi : k = i
  · subst hi
    simp only [if_pos] at hg
    injection hg with hg
    show Rs w I ι st.var st.arr (St.slot _ k) _
    rw [hg]
    exact hx
  · rw [if_neg (by simpa using hi)] at hg
    injection hg with hg
    show Rs w I ι st.var st.arr (St.slot _ k) _
    rw [hg]
    exact h.slots k
theorem slot_cons (st : St) (i : Nat) (x : S) (k : Nat) : ({ st with slots := (i, x) :: st.slots } : St).slot k = if k = i then x else st.slot k := by
  have hg := get_slot_cons st i x (.s k)
  simp only [St.get, Key.s.injEq] at hg
  split at hg
  · rename_i h; rw [if_pos h]; injection hg
  · rename_i h; rw [if_neg h]; injection hg

/-- A name that nobody has is told as used up. -/
theorem RelI.deadA (h : RelI X I ι st tm w) {m : Name} (hm : st.arr m = none) : RelI X I ι { st with arrs := (m, none) :: st.arrs } tm w := by
  have har : ∀ k, ({ st with arrs := (m, none) :: st.arrs } : St).arr k = if k = m then some none else st.arr k := arr_cons st m _
  have old : ∀ k A, ({ st with arrs := (m, none) :: st.arrs } : St).arr k = some (some A) → st.arr k = some (some A) := by
    intro k A hA
    rw [har] at hA
    split at hA
    · cases hA
    · exact hA
  have E : Ext w I ι st.var st.arr w I ι st.var ({ st with arrs := (m, none) :: st.arrs } : St).arr := by
    refine ⟨fun b hb => rfl, fun _ hb => hb, fun k hk => ⟨hk, rfl⟩, fun k hk => ?_, fun k A hA => .inr ⟨A, ?_, rfl, rfl, rfl⟩⟩
    · rw [har]; split
      · rfl
      · exact hk
    · rw [har, if_neg (fun e => by rw [e, hm] at hA; cases hA)]; exact hA
  refine h.upd E rfl (fun _ => rfl) (Nat.le_refl _) h.fr ?_ ?_ h.inI h.vv (fun k k' A b c hk hA => h.va k k' A b c hk (old _ _ hA)) (fun k k' A A' b c c' hk hk' => h.aa k k' A A' b c c' (old _ _ hk) (old _ _ hk'))
  · intro k cs hk
    refine .inl ⟨hk, fun b hb => ?_⟩
    obtain ⟨b', f, hok⟩ := h.vars k cs hk
    rw [hok.at_] at hb; injection hb with hb; subst hb
    exact ⟨rfl, hok.notI⟩
  · intro k A hA
    refine .inl ⟨old _ _ hA, rfl, fun b c hb => ⟨rfl, fun hf => ?_⟩⟩
    have := h.arrs k A (old _ _ hA)
    rw [hb] at this
    have := this.2
    rw [hf] at this
    exact this.1
theorem Unused.dead {m : Name} {b : Nat} (h : Unused st ι b) : Unused { st with arrs := (m, none) :: st.arrs } ι b := by
  refine ⟨h.1, fun k D c hk => ?_⟩
  have har : ({ st with arrs := (m, none) :: st.arrs } : St).arr k = if k = m then some none else st.arr k := arr_cons st m _ k
  rw [har] at hk
  split at hk
  · cases hk
  · exact h.2 k D c hk
theorem FamOk.dead {F : FamS} {h : Nat → Value} {pv : Value} {L : FN → Option (Nat × Nat)} (hf : FamOk X I ι st w F h pv L) (m : Name) : FamOk X I ι { st with arrs := (m, none) :: st.arrs } w F h pv L :=
  ⟨hf.arr, fun x A b c hA hL => (hf.un x A b c hA hL).dead, hf.ap, hf.row, hf.fl, hf.pend⟩
theorem FamOk.slots {F : FamS} {h : Nat → Value} {pv : Value} {L : FN → Option (Nat × Nat)} (hf : FamOk X I ι st w F h pv L) (l : List (Nat × S)) : FamOk X I ι { st with slots := l } w F h pv L :=
  ⟨hf.arr, fun x A b c hA hL => hf.un x A b c hA hL, hf.ap, hf.row, hf.fl, hf.pend⟩

theorem FamI.of {F : FamS} (hF : famO (st.slot st.nt) = some F) {h : Nat → Value} {pv : Value} {L : FN → Option (Nat × Nat)} (h1 : FamOk X I ι st w F h pv L) (h2 : ∀ i x, st.slot i = .sp x → SpOk F h pv L i x (tm.getD i undef)) : FamI X I ι st tm w := by
  unfold FamI; rw [hF]; exact ⟨h, pv, L, h1, h2⟩
theorem FamI.get (hf : FamI X I ι st tm w) {F : FamS} (hF : famO (st.slot st.nt) = some F) : ∃ h pv L, FamOk X I ι st w F h pv L ∧ ∀ i x, st.slot i = .sp x → SpOk F h pv L i x (tm.getD i undef) := by
  unfold FamI at hf; rw [hF] at hf; exact hf

theorem guardM_inv {b : Bool} {st : St} {o : Out Unit} (h : guardM b st = some o) : b = true ∧ o.st = st := guard_inv h
theorem rdF_inv {st : St} {o : Out S} (h : rdF st = some o) : o.val = st.slot st.nt ∧ o.st = st := by obtain rfl := Option.some.inj h; exact ⟨rfl, rfl⟩
theorem wrF_inv {x : Sp} {st : St} {o : Out Unit} (h : wrF x st = some o) : o.st = { st with slots := (st.nt, .sp x) :: st.slots } := by obtain rfl := Option.some.inj h; rfl
theorem wrA_inv' {m : Name} {x : Option Arr} {st : St} {out : Out Unit} (h : wrA m x st = some out) : out.st = { st with arrs := (m, x) :: st.arrs } := by obtain rfl := Option.some.inj h; rfl
theorem putDst_inv {d : Option Tmp} {x : S} {st : St} {out : Out Unit} (h : putDst d x st = some out) : (d = none ∧ out.st = st) ∨ ∃ i, d = some i ∧ i < st.nt ∧ out.st = { st with slots := (i, x) :: st.slots } := by
  cases d with
  | none => have hp := pure_inv (show (pure () : M Unit) st = some out from h); rw [hp]; exact .inl ⟨rfl, rfl⟩
  | some i =>
    replace h : wrS i x st = some out := h
    unfold wrS at h
    cases hb : Nat.blt i st.nt with
    | true => rw [hb] at h; obtain rfl := Option.some.inj h; exact .inr ⟨i, rfl, by simpa using hb, rfl⟩
    | false => rw [hb] at h; cases h
theorem tmpO_inv {x : Operand} {t : Nat} (h : tmpO x = some t) (a : Act) : a.eval x = a.tmps.getD t undef := by
  cases x with
  | tmp s => injection h with h; subst h; rfl
  | _ => cases h
theorem famO_inv {s : S} {F : FamS} (h : famO s = some F) : s = .sp (.fam F.n F.R F.q) := by
  unfold famO at h; split at h
  · obtain rfl := Option.some.inj h; rfl
  · cases h
theorem hdO_inv {s : S} {u : Unit} (h : hdO s = some u) : s = .sp .hd := by unfold hdO at h; split at h <;> first | rfl | cases h
theorem atO_inv {s : S} {k : Nat} (h : atO s = some k) : s = .sp (.at_ k) := by
  unfold atO at h; split at h
  · obtain rfl := Option.some.inj h; rfl
  · cases h
theorem rowO_inv {s : S} {u : Unit} (h : rowO s = some u) : s = .sp .row := by unfold rowO at h; split at h <;> first | rfl | cases h
theorem pendO_inv {s : S} {u : Unit} (h : pendO s = some u) : s = .sp .pend := by unfold pendO at h; split at h <;> first | rfl | cases h
theorem mvO_inv {s y : S} (h : mvO s = some y) : y = s ∧ (s = .sp .hd ∨ ∃ k, s = .sp (.at_ k)) := by
  unfold mvO at h; split at h
  · injection h with h; exact ⟨h.symm, .inl rfl⟩
  · injection h with h; exact ⟨h.symm, .inr ⟨_, rfl⟩⟩
  · cases h
theorem ldQ_inv {q : FQ} {p : Nat × Nat} (h : ldQ q = some p) : q = .ld p.1 p.2 := by
  cases q <;> simp [ldQ] at h; subst h; rfl
theorem pdQ_inv {q : FQ} {p : Nat × List Value × Nat} (h : pdQ q = some p) : q = .pd p.1 p.2.1 p.2.2 := by
  cases q <;> simp [pdQ] at h; subst h; rfl
theorem freeQ_inv {q : FQ} {u : Unit} (h : freeQ q = some u) : q = .none := by cases q <;> simp [freeQ] at h; rfl

/-- The slot of an operation that is special is written. -/
theorem put_sp (hr : RelI X I ι st tm w) {d : Nat} (hd : d < st.nt) (x : S) (hx : ∀ u, Rs w I ι st.var st.arr x u) (u : Value) : RelI X I ι { st with slots := (d, x) :: st.slots } (tm.setIfInBounds d u) w :=
  hr.put hd (hx u)
theorem getD_put {tm : Array Value} {d i : Nat} {u : Value} (h : i ≠ d) : (tm.setIfInBounds d u).getD i undef = tm.getD i undef := by
  simp only [Array.getD_eq_getD_getElem?]
  rw [Array.getElem?_setIfInBounds_ne (Ne.symm h)]
theorem getD_put_self {tm : Array Value} {d : Nat} {u : Value} (h : d < tm.size) : (tm.setIfInBounds d u).getD d undef = u := by
  simp [h]

theorem FamI.intro {F : FamS} {h : Nat → Value} {pv : Value} {L : FN → Option (Nat × Nat)} (hF : famO (st.slot st.nt) = some F) (h1 : FamOk X I ι st w F h pv L) (h2 : ∀ i x, st.slot i = .sp x → SpOk F h pv L i x (tm.getD i undef)) : FamI X I ι st tm w := FamI.of hF h1 h2
/-- move -/
theorem fam_mv {x : Operand} {d : Option Tmp} {out : Out Unit} {a : Act} {t : Nat} {y : S} (ht : tmpO x = some t) (hy : mvO (st.slot t) = some y) (h : putDst d y st = some out)
    (hr : RelI X I ι st a.tmps w) (hf : FamI X I ι st a.tmps w) : RelI X I ι out.st (a.put d (a.eval x)).tmps w ∧ FamI X I ι out.st (a.put d (a.eval x)).tmps w := by
  obtain ⟨rfl, hyy⟩ := mvO_inv hy
  rcases putDst_inv h with ⟨rfl, e⟩ | ⟨i, rfl, hi, e⟩
  · rw [e]; exact ⟨hr, hf⟩
  · rw [e, tmpO_inv ht a]
    have hRs : ∀ u, Rs w I ι st.var st.arr (st.slot t) u := by
      intro u
      rcases hyy with hq | ⟨k, hq⟩ <;> rw [hq] <;> trivial
    refine ⟨put_sp hr hi _ hRs _, ?_⟩
    have hnt : ({ st with slots := (i, st.slot t) :: st.slots } : St).slot st.nt = st.slot st.nt := by rw [slot_cons, if_neg (Nat.ne_of_gt hi)]
    cases hF : famO (st.slot st.nt) with
    | some F =>
      obtain ⟨h, pv, L, h1, h2⟩ := hf.get hF
      refine FamI.of (F := F) (by show famO (St.slot _ st.nt) = _; rw [hnt]; exact hF) (h1.slots _) fun j x hx => ?_
      rw [slot_cons] at hx
      show SpOk F h pv L j x ((a.tmps.setIfInBounds i _).getD j undef)
      split at hx
      · rename_i e; subst e
        rw [getD_put_self (by rw [hr.size]; exact hi)]
        have := h2 t x hx
        rcases hyy with hq | ⟨k, hq⟩ <;> rw [hq] at hx <;> injection hx with hx <;> subst hx <;> exact this
      · rename_i e
        rw [getD_put e]; exact h2 j x hx
    | none =>
      exfalso
      unfold FamI at hf
      rw [hF] at hf
      rcases hyy with hq | ⟨k, hq⟩ <;> exact hf _ _ hq

/-! ### running the evaluator ahead -/
theorem bind_mk {α β : Type} {m : M α} {f : α → M β} {st : St} {o : Out α} {p : Out β} (h1 : m st = some o) (h2 : f o.val o.st = some p) : (m >>= f) st = some ⟨p.val, p.st, o.needs ++ p.needs, o.rd ++ p.rd, o.wr ++ p.wr⟩ := by
  show M.bind m f st = _
  unfold M.bind
  rw [h1]; simp only; rw [h2]
theorem ti_mk {T : Tab} {t : TypeId} {i : TI} {st : St} (h : lookN t T = some i) : ti T t st = some ⟨i, st, [], [], []⟩ := by unfold ti ofO; rw [h]
theorem ofO_mk {α : Type} {x : Option α} {y : α} {st : St} (h : x = some y) : ofO x st = some ⟨y, st, [], [], []⟩ := by unfold ofO; rw [h]
theorem liveA_mk {m : Name} {A : Arr} {st : St} (h : st.arr m = some (some A)) : liveA m st = some ⟨A, st, [], [.a m], []⟩ := by
  have := bind_mk (m := rdA m) (f := fun x => ofO (liveO x)) (st := st) rfl (ofO_mk (y := A) (by show liveO (st.arr m) = _; rw [h]; rfl))
  exact this
theorem need_mk {p : Prop} {st : St} : need p st = some ⟨(), st, [p], [], []⟩ := rfl
theorem cond_mk {α : Type} {b : Bool} {x y : M α} {st : St} {o : Out α} (hb : b = true) (h : x st = some o) : (bif b then x else y) st = some o := by rw [hb]; exact h

theorem arr_mk {k : TK} {α : Type} {f : Nat × TypeId → M α} {g : M α} {o : Out α} {st : St} (hk : arrO k = none) (h : g st = some o) : (match arrO k with | some q => f q | none => g) st = some o := by rw [hk]; exact h
theorem evIndexAddr_mk {t e : TypeId} {i z : TI} (h1 : lookN t T = some i) (h2 : i.kind = .slice e) (h3 : lookN e T = some z) {m : Name} {n : Nat} {A : Arr} (hA : st.arr m = some (some A)) (hs : Nat.beq A.s z.size = true) (k : Int) :
    ∃ out, evIndexAddr T t (.ref m n) k st = some out ∧ out.val = .c (.pelem m k.toNat 0) ∧ (0 ≤ k ∧ k < n → out.side) := by
  refine ⟨_, bind_mk (ti_mk h1) (arr_mk (by rw [h2]; rfl) (bind_mk (ofO_mk (y := e) (by show sliceO i.kind = _; rw [h2]; rfl)) (bind_mk (ti_mk h3) (bind_mk (liveA_mk hA) (bind_mk need_mk (cond_mk hs rfl)))))), rfl, fun h => ?_⟩
  exact ⟨h, trivial⟩
theorem evLoad_mk {t : TypeId} {i : TI} (h1 : lookN t T = some i) {m : Name} {k : Nat} {A : Arr} (hA : st.arr m = some (some A)) (hs : (Nat.ble (0 + i.size) A.s && Nat.ble 1 i.size) = true) (hk : isAggK i.kind = false) :
    ∃ out, evLoad T t (.pelem m k 0) st = some out ∧ out.val = .c ((A.g k).getD 0 .undef) ∧ (k < A.n → out.side) := by
  refine ⟨_, bind_mk (ti_mk h1) (bind_mk (liveA_mk hA) (bind_mk need_mk (bind_mk (cond_mk hs rfl) (by rw [hk]; rfl)))), rfl, fun h => ?_⟩
  exact ⟨h, trivial⟩
theorem evStore_mk {t : TypeId} {i : TI} (h1 : lookN t T = some i) {m : Name} {k : Nat} {A : Arr} (hA : st.arr m = some (some A)) (hf : A.frozen = false) (h2 : Nat.beq 1 i.size = true) (hs : Nat.ble (0 + i.size) A.s = true) (v : Value) (hz : retagL i.zero [.v v] = [.v v] ∨ ∃ s, retagL i.zero [.v v] = [.nil s] ∧ v = .slice none 0 0) :
    ∃ out c, evStore T t (.pelem m k 0) (.c (.v v)) st = some out ∧ out.st = { st with arrs := (m, some { A with g := putG A.g k 0 [c] }) :: st.arrs } ∧ (k < A.n → out.side) := by
  have him : ∃ c, toImms (retagL i.zero [.v v]) st = some ⟨[c], st, [], [], []⟩ := by
    rcases hz with hz | ⟨s, hz, _⟩ <;> rw [hz] <;> exact ⟨_, rfl⟩
  obtain ⟨c, him⟩ := him
  have hfree : freeA m st = some ⟨A, st, [], [.a m], []⟩ := by
    have := bind_mk (m := liveA m) (f := fun A => bif A.frozen then fail else pure A) (liveA_mk hA) (p := ⟨A, st, [], [], []⟩) (by show (bif A.frozen then fail else pure A : M Arr) st = _; rw [hf]; rfl)
    exact this
  refine ⟨_, c, bind_mk (ti_mk h1) (bind_mk (ofO_mk (y := [.v v]) rfl) (bind_mk (cond_mk h2 rfl) (bind_mk him (bind_mk hfree (bind_mk need_mk (bind_mk (cond_mk hs rfl) rfl)))))), rfl, fun h => ?_⟩
  exact ⟨h, trivial⟩

/-- A place in the headers. -/
theorem fam_ix (hT : TabOk P T) {a : Act} {t e : TypeId} {i z : TI} (h1 : lookN t T = some i) (h2 : i.kind = .slice e) (h3 : lookN e T = some z) (hz : Nat.beq z.size 1 = true) {F : FamS} (hF : famO (st.slot st.nt) = some F) {t0 : Nat} (ht : st.slot t0 = .sp .hd)
    {k : IntKind} {n : Int} (hn : 0 ≤ n ∧ n < F.n) {m : Name} (hm : st.arr m = none) {d : Option Tmp} {out : Out Unit} (h : putDst d (.sp (.at_ n.toNat)) { st with arrs := (m, none) :: st.arrs } = some out) (hr : RelI X I ι st a.tmps w) (hf : FamI X I ι st a.tmps w) :
    ∃ v, (Instr.indexAt t (a.tmps.getD t0 undef) (.int k n)).run P w = .ok v w ∧ RelI X I ι out.st (a.put d v).tmps w ∧ FamI X I ι out.st (a.put d v).tmps w := by
  obtain ⟨hh, pv, L, f1, f2⟩ := hf.get hF
  have hhd := f2 t0 _ ht
  have hA : FamArr hh F .hd ⟨false, 1, F.n, fun j => [.v (hh j)]⟩ := rfl
  obtain ⟨ι1, r1, e1, e2, e3, E1⟩ := f1.view hr hA hm
  have har : ({ st with arrs := (m, some (⟨false, 1, F.n, fun j => [.v (hh j)]⟩ : Arr)) :: st.arrs } : St).arr m = some (some ⟨false, 1, F.n, fun j => [.v (hh j)]⟩) := by rw [arr_cons]; simp
  obtain ⟨o1, g1, g2, g3⟩ := evIndexAddr_mk (T := T) (st := { st with arrs := (m, some (⟨false, 1, F.n, fun j => [.v (hh j)]⟩ : Arr)) :: st.arrs }) (n := F.n) h1 h2 h3 har (by rw [Nat.eq_of_beq_eq_true hz]; rfl) n
  have hRc : Rc w I ι1 st.var ({ st with arrs := (m, some (⟨false, 1, F.n, fun j => [.v (hh j)]⟩ : Arr)) :: st.arrs } : St).arr (.ref m F.n) (a.tmps.getD t0 undef) := by
    simp only [Rc, har]
    exact ⟨Nat.le_refl _, by rw [e1]; exact hhd⟩
  obtain ⟨_, v, hv1, hv2⟩ := indexAddr_ok (k := k) hT g1 (g3 hn) r1 hRc
  rw [g2] at hv2
  have hv3 : ∃ b cap, L .hd = some (b, cap) ∧ v = .pointer (some ⟨b, n.toNat, none⟩) := by
    have hv2' : Rc w I ι1 st.var ({ st with arrs := (m, some (⟨false, 1, F.n, fun j => [.v (hh j)]⟩ : Arr)) :: st.arrs } : St).arr (.pelem m n.toNat 0) v := hv2
    simp only [Rc, har] at hv2'
    obtain ⟨b, cap, q1, q2⟩ := hv2'
    refine ⟨b, cap, by rw [← e1]; exact q1, ?_⟩
    simpa using q2
  refine ⟨v, hv1, ?_⟩
  have r2 := hr.deadA hm
  have f3 := f1.dead m
  rcases putDst_inv h with ⟨rfl, e⟩ | ⟨i', rfl, hi, e⟩
  · rw [e]
    exact ⟨r2, FamI.of hF f3 f2⟩
  · rw [e]
    refine ⟨put_sp r2 hi (.sp (.at_ n.toNat)) (fun u => trivial) _, FamI.of (F := F) ?_ (f3.slots _) fun j x hx => ?_⟩
    · show famO (St.slot _ st.nt) = _
      rw [slot_cons, if_neg (Nat.ne_of_gt hi)]; exact hF
    · rw [slot_cons] at hx
      show SpOk F hh pv L j x ((a.tmps.setIfInBounds i' v).getD j undef)
      split at hx
      · rename_i e; subst e
        rw [getD_put_self (by rw [hr.size]; exact hi)]
        injection hx with hx; subst hx
        exact hv3
      · rename_i e
        rw [getD_put e]; exact f2 j x hx

/-- A row's header is read. -/
theorem fam_ld (hT : TabOk P T) {a : Act} {t : TypeId} {i : TI} (h1 : lookN t T = some i) (hi1 : Nat.beq i.size 1 = true) (hk1 : isAggK i.kind = false) {F : FamS} (hF : famO (st.slot st.nt) = some F) (hq : F.q = .none) {t0 k : Nat} (ht : st.slot t0 = .sp (.at_ k)) (hk : k < F.n)
    {m : Name} (hm : st.arr m = none) {d : Nat} {out : Out Unit} (h : putDst (some d) (.sp .row) { st with slots := (st.nt, .sp (.fam F.n F.R (.ld k d))) :: st.slots, arrs := (m, none) :: st.arrs } = some out) (hr : RelI X I ι st a.tmps w) (hf : FamI X I ι st a.tmps w) :
    ∃ v, (Instr.loadAt t (a.tmps.getD t0 undef)).run P w = .ok v w ∧ RelI X I ι out.st (a.put (some d) v).tmps w ∧ FamI X I ι out.st (a.put (some d) v).tmps w := by
  obtain ⟨hh, pv, L, f1, f2⟩ := hf.get hF
  obtain ⟨b, c, hb, hu⟩ := f2 t0 _ ht
  have hA : FamArr hh F .hd ⟨false, 1, F.n, fun j => [.v (hh j)]⟩ := rfl
  obtain ⟨ι1, r1, e1, e2, e3, E1⟩ := f1.view hr hA hm
  have har : ({ st with arrs := (m, some (⟨false, 1, F.n, fun j => [.v (hh j)]⟩ : Arr)) :: st.arrs } : St).arr m = some (some ⟨false, 1, F.n, fun j => [.v (hh j)]⟩) := by rw [arr_cons]; simp
  have hsz : i.size = 1 := Nat.eq_of_beq_eq_true hi1
  obtain ⟨o1, g1, g2, g3⟩ := evLoad_mk (T := T) (st := { st with arrs := (m, some (⟨false, 1, F.n, fun j => [.v (hh j)]⟩ : Arr)) :: st.arrs }) (k := k) h1 har (by rw [hsz]; rfl) hk1
  have hRc : Rc w I ι1 st.var ({ st with arrs := (m, some (⟨false, 1, F.n, fun j => [.v (hh j)]⟩ : Arr)) :: st.arrs } : St).arr (.pelem m k 0) (a.tmps.getD t0 undef) := by
    simp only [Rc, har]
    exact ⟨b, c, by rw [e1]; exact hb, by simpa using hu⟩
  obtain ⟨_, v, hv1, hv2⟩ := load_ok hT g1 (g3 hk) r1 hRc
  rw [g2] at hv2
  have hv3 : v = hh k := by
    have hv2' : Rimm w I (.v (hh k)) v := hv2
    cases hv2'; rfl
  refine ⟨v, hv1, ?_⟩
  have r2 := hr.deadA hm
  rcases putDst_inv h with ⟨hd, _⟩ | ⟨i', hd, hi, e⟩
  · cases hd
  · injection hd with hd; subst hd
    have f3 : FamOk X I ι { st with arrs := (m, none) :: st.arrs } w ⟨F.n, F.R, .ld k d⟩ hh pv L := by
      have f4 := f1.dead m
      obtain ⟨Fn, FR, Fq⟩ := F
      obtain rfl : Fq = .none := hq
      have same : ∀ x A, FamArr hh ⟨Fn, FR, .ld k d⟩ x A → FamArr hh ⟨Fn, FR, .none⟩ x A := by
        intro x A hA
        cases x with
        | hd => exact hA
        | pend => obtain ⟨_, _, _, hA, _⟩ := hA; cases hA
        | row j => exact ⟨hA.1, fun h => h, hA.2.2⟩
      exact ⟨fun x A hA => f4.arr x A (same x A hA), fun x A b c hA => f4.un x A b c (same x A hA), fun x y A A' b c c' hA hA' => f4.ap x y A A' b c c' (same x A hA) (same y A' hA'), fun j hj _ => f4.row j hj (fun h => h), f4.fl, fun _ _ _ h => by cases h⟩
    rw [e]
    refine ⟨put_sp ((r2.slot (i := st.nt) (x := .sp (.fam F.n F.R (.ld k d))) trivial)) hi (.sp .row) (fun u => trivial) _, FamI.of (F := ⟨F.n, F.R, .ld k d⟩) ?_ (f3.slots _) fun j x hx => ?_⟩
    · show famO (St.slot _ st.nt) = _
      rw [slot_cons, if_neg (Nat.ne_of_gt hi)]
      show famO (({ st with slots := (st.nt, .sp (.fam F.n F.R (.ld k d))) :: st.slots } : St).slot st.nt) = _
      rw [slot_cons, if_pos rfl]; rfl
    · rw [slot_cons] at hx
      show SpOk _ hh pv L j x ((a.tmps.setIfInBounds d v).getD j undef)
      split at hx
      · rename_i e; subst e
        rw [getD_put_self (by rw [hr.size]; exact hi)]
        injection hx with hx; subst hx
        intro k' hk'
        injection hk' with hk' _
        subst hk'
        exact ⟨hk, hv3⟩
      · rename_i e
        rw [getD_put e]
        have hx' : ({ st with slots := (st.nt, .sp (.fam F.n F.R (.ld k d))) :: st.slots } : St).slot j = .sp x := hx
        rw [slot_cons] at hx'
        split at hx'
        · injection hx' with hx'; subst hx'; trivial
        · have := f2 j x hx'
          cases x with
          | fam _ _ _ => trivial
          | hd => exact this
          | at_ k' => exact this
          | row => intro k' hk'; injection hk' with _ hk'; exact absurd hk' (Ne.symm e)
          | pend => intro k' l hk'; cases hk'

theorem hdr_flat {p : Option (Nat × Nat)} {n : Nat} {u : Value} (h : hdr p n u) : flat u = true := by
  unfold hdr at h; split at h
  · rw [h.1]; rfl
  · rw [h]; rfl

/-- What was told of an array may be told alike. -/
theorem ArrOk.alike {A B : Arr} {p : Option (Nat × Nat)} (h : ArrOk X w I A p) (hf : B.frozen = A.frozen) (hs : B.s = A.s) (hn : B.n = A.n) (hg : ∀ i, i < A.n → B.g i = A.g i) : ArrOk X w I B p := by
  unfold ArrOk at h ⊢
  split at h
  · exact hn.trans h
  · obtain ⟨⟨f, r⟩, hz⟩ := h
    rw [hf]
    refine ⟨⟨f, r.lt, by rw [hs]; exact r.pos, by rw [hn]; exact r.fit, r.max, by rw [hs]; exact r.there, fun i hi => by rw [hn] at hi; rw [hg i hi, hs]; exact r.len i hi,
      fun i j x hi hx => by rw [hn] at hi; rw [hg i hi] at hx; rw [hs]; exact r.cell i j x hi hx, fun i j x hi hx => by rw [hn] at hi; rw [hg i hi] at hx; exact r.rel i j x hi hx⟩, hz⟩

theorem RelI.alike (h : RelI X I ι st tm w) (hn : st'.nt = st.nt) (hs : ∀ i, st'.slot i = st.slot i) (hv : st'.var = st.var) (ha : ∀ m, st'.arr m = st.arr m) : RelI X I ι st' tm w := by
  have ha' : st'.arr = st.arr := funext ha
  refine ⟨by rw [hn]; exact h.size, fun i => ?_, ?_, ?_, h.inI, ?_, ?_, ?_, h.fr, ?_⟩
  · rw [hs, hv, ha']; exact h.slots i
  · rw [hv, ha']; exact h.vars
  · rw [ha']; exact h.arrs
  · rw [hv]; exact h.vv
  · rw [hv, ha']; exact h.va
  · rw [ha']; exact h.aa
  · rw [hv]; exact h.pin
theorem Unused.via {m : Name} {b : Nat} (h : Unused st ι b) (e2 : ι'.v = ι.v) (e3 : ∀ k, k ≠ m → ι'.a k = ι.a k) : Unused { st with arrs := (m, none) :: st.arrs } ι' b := by
  refine ⟨fun k hk => by rw [e2]; exact h.1 k hk, fun k D c hk => ?_⟩
  have har : ({ st with arrs := (m, none) :: st.arrs } : St).arr k = if k = m then some none else st.arr k := arr_cons st m _ k
  rw [har] at hk
  split at hk
  · cases hk
  · rename_i e; rw [e3 k e]; exact h.2 k D c hk

/-- A row's header is written. -/
theorem fam_st (hT : TabOk P T) {a : Act} {t : TypeId} {i : TI} (h1 : lookN t T = some i) (hi1 : Nat.beq i.size 1 = true) {F : FamS} (hF : famO (st.slot st.nt) = some F) {k : Nat} {l : List Value} {tx : Nat} (hq : F.q = .pd k l tx) {t0 : Nat} (ht : st.slot t0 = .sp (.at_ k)) (hx : st.slot tx = .sp .pend)
    {m : Name} (hm : st.arr m = none) {d : Option Tmp} {out : Out Unit} (h : putDst d (.c .undef) { st with slots := (st.nt, .sp (.fam F.n (updR F.R k l) .none)) :: st.slots, arrs := (m, none) :: st.arrs } = some out) (hr : RelI X I ι st a.tmps w) (hf : FamI X I ι st a.tmps w) :
    ∃ w', (Instr.storeAt t (a.tmps.getD t0 undef) (a.tmps.getD tx undef)).run P w = .ok () w' ∧ ∃ I' ι', RelI X I' ι' out.st (a.put d undef).tmps w' ∧ FamI X I' ι' out.st (a.put d undef).tmps w' := by
  obtain ⟨hh, pv, L, f1, f2⟩ := hf.get hF
  obtain ⟨b, c, hb, hu⟩ := f2 t0 _ ht
  have hxv : a.tmps.getD tx undef = pv := f2 tx _ hx k l hq
  obtain ⟨hk, hpv⟩ := f1.pend k l tx hq
  have hpf := hdr_flat hpv
  have hA : FamArr hh F .hd ⟨false, 1, F.n, fun j => [.v (hh j)]⟩ := rfl
  obtain ⟨ι1, r1, e1, e2, e3, E1⟩ := f1.view hr hA hm
  have har : ({ st with arrs := (m, some (⟨false, 1, F.n, fun j => [.v (hh j)]⟩ : Arr)) :: st.arrs } : St).arr m = some (some ⟨false, 1, F.n, fun j => [.v (hh j)]⟩) := by rw [arr_cons]; simp
  have hsz : i.size = 1 := Nat.eq_of_beq_eq_true hi1
  obtain ⟨r2, _, s1, s2⟩ := r1.setA har rfl (e1.trans hb) hk (o := 0) (l := [.v pv]) (us := #[pv]) rfl (fun j x hx => by cases j <;> simp at hx; subst hx; exact ⟨pv, rfl, .v _ hpf⟩) (by simp)
  have hcells : pv.cells.toList = [pv] := by cases pv <;> first | rfl | simp [flat, Value.oneCell'] at hpf
  have hcs : pv.cells.size = 1 := by rw [← Array.length_toList, hcells]; rfl
  refine ⟨w.setCells b (k * 1 + 0) #[pv].toList, ?_, I, ι1, ?_⟩
  · rw [hu, hxv]
    simp only [Instr.storeAt, Instr.sureAddr, Sem.run_bind, Sem.run_pure, Result.andThen_ok]
    have := storeVar_run (P := P) (w := w) (hT t i h1) (b := b) (o := k * 1 + 0) (v := pv) (by rw [hcs, hsz]) (by rw [hcells]; exact s1) (by rw [hcells]; exact s2) (by rw [hcells]; intro x hx; simp at hx; subst hx; exact hpf)
    rw [hcells] at this
    simpa using this
  generalize hw' : w.setCells b (k * 1 + 0) #[pv].toList = w' at r2
  have har2 : ∀ g, (({ st with arrs := (m, some (⟨false, 1, F.n, g⟩ : Arr)) :: (m, some (⟨false, 1, F.n, fun j => [.v (hh j)]⟩ : Arr)) :: st.arrs } : St).arr m) = some (some ⟨false, 1, F.n, g⟩) := by
    intro g
    show lookM m _ = _
    simp [lookM, nameEq_iff.mpr (rfl : m = m)]
  have okA := r2.arrs m _ (har2 _)
  rw [e1] at okA
  have r3 := (r2.kill (har2 _)).1
  let h' : Nat → Value := fun j => if j = k then pv else hh j
  let L' : FN → Option (Nat × Nat) := fun x => match x with | .hd => L .hd | .pend => none | .row j => if j = k then L .pend else L (.row j)
  let sg : FN → FN := fun x => match x with | .hd => .hd | .pend => .pend | .row j => if j = k then .pend else .row j
  have old : ∀ x A, FamArr h' ⟨F.n, updR F.R k l, .none⟩ x A → L' x = L (sg x) ∧ x ≠ .pend ∧ (x = .hd ∨ (x ≠ .hd ∧ FamArr hh F (sg x) A)) := by
    intro x A hA'
    cases x with
    | hd => exact ⟨rfl, by simp, .inl rfl⟩
    | pend => obtain ⟨_, _, _, hq', _⟩ := hA'; cases hq'
    | row j =>
      obtain ⟨hj, _, hA'⟩ := hA'
      replace hA' : A = ⟨false, 1, (updR F.R k l j).length, rowG (updR F.R k l j)⟩ := hA'
      by_cases e : j = k
      · subst e
        refine ⟨by simp [L', sg], by simp, .inr ⟨by simp, ?_⟩⟩
        have : updR F.R j l j = l := by simp [updR]
        rw [this] at hA'
        show FamArr hh F (sg (.row j)) A
        simp only [sg, if_true]
        exact ⟨j, l, tx, hq, hA'⟩
      · refine ⟨by simp [L', sg, e], by simp, .inr ⟨by simp, ?_⟩⟩
        have : updR F.R k l j = F.R j := by
          unfold updR
          cases hb' : Nat.beq j k with
          | true => exact absurd (Nat.eq_of_beq_eq_true hb') e
          | false => rfl
        rw [this] at hA'
        show FamArr hh F (sg (.row j)) A
        simp only [sg, if_neg e]
        exact ⟨hj, by rw [hq]; exact fun h => e h.symm, hA'⟩
  have blk : ∀ x A b' c', FamArr hh F x A → x ≠ .hd → L x = some (b', c') → w'.heap[b']? = w.heap[b']? := by
    intro x A b' c' hA' hx' hL
    rw [← hw']
    refine heap_setCells b _ _ w b' fun e => hx' ?_
    subst e
    exact f1.ap x .hd A _ b' c' c hA' hA hL hb
  have hsize : w'.heap.size = w.heap.size := by rw [← hw']; exact size_setCells b _ _ w
  have f3 : FamOk X I ι1 { st with arrs := (m, none) :: st.arrs } w' ⟨F.n, updR F.R k l, .none⟩ h' pv L' := by
    refine ⟨fun x A hA' => ?_, fun x A b' c' hA' hL => ?_, fun x y A A' b' c' c'' hA' hB' hL hL' => ?_, fun j hj _ => ?_, fun j hj => ?_, fun _ _ _ hq' => by cases hq'⟩
    · obtain ⟨o1, o2, o3⟩ := old x A hA'
      rcases o3 with rfl | ⟨oh, o3⟩
      · obtain rfl : A = _ := hA'
        refine okA.alike rfl rfl rfl fun j hj => ?_
        show [C.v (h' j)] = putG (fun j => [.v (hh j)]) k 0 [.v pv] j
        unfold putG
        simp only [h']
        cases hb' : Nat.beq j k with
        | true => obtain rfl := Nat.eq_of_beq_eq_true hb'; simp [setL]
        | false =>
          have : j ≠ k := fun e => by rw [e, Nat.beq_refl] at hb'; cases hb'
          simp [this]
      · rw [o1]
        have hne : sg x ≠ .hd := by
          cases x with
          | hd => exact absurd rfl oh
          | pend => exact absurd rfl o2
          | row j => simp only [sg]; split <;> simp
        refine (f1.arr _ A o3).plain (famArr_plain o3) fun b' c' hL => ⟨blk _ A b' c' o3 hne hL, ?_, ?_, fun h => h⟩
        · rw [hsize]; have := f1.arr _ A o3; rw [hL] at this; exact this.lt
        · have := f1.arr _ A o3; rw [hL] at this; exact (this.own (famArr_plain o3).1).1
    · obtain ⟨o1, o2, o3⟩ := old x A hA'
      rw [o1] at hL
      rcases o3 with rfl | ⟨oh, o3⟩
      · exact (f1.un .hd _ b' c' hA hL).via e2 e3
      · exact (f1.un _ A b' c' o3 hL).via e2 e3
    · obtain ⟨o1, o2, o3⟩ := old x A hA'
      obtain ⟨p1, p2, p3⟩ := old y A' hB'
      rw [o1] at hL; rw [p1] at hL'
      have hsx : ∃ B, FamArr hh F (sg x) B := by
        rcases o3 with rfl | ⟨oh, o3⟩
        · exact ⟨_, hA⟩
        · exact ⟨A, o3⟩
      have hsy : ∃ B, FamArr hh F (sg y) B := by
        rcases p3 with rfl | ⟨ph, p3⟩
        · exact ⟨_, hA⟩
        · exact ⟨A', p3⟩
      obtain ⟨B, hB⟩ := hsx
      obtain ⟨B', hB''⟩ := hsy
      have e := f1.ap _ _ B B' b' c' c'' hB hB'' hL hL'
      cases x with
      | pend => exact absurd rfl o2
      | hd =>
        cases y with
        | pend => exact absurd rfl p2
        | hd => rfl
        | row j => simp only [sg] at e; split at e <;> cases e
      | row j =>
        cases y with
        | pend => exact absurd rfl p2
        | hd => simp only [sg] at e; split at e <;> cases e
        | row j' =>
          simp only [sg] at e
          split at e <;> split at e
          · rename_i a1 a2; rw [a1, a2]
          · cases e
          · cases e
          · exact e
    · by_cases e : j = k
      · subst e
        have h1' : L' (.row j) = L .pend := by simp [L']
        have h2' : updR F.R j l j = l := by simp [updR]
        have h3' : h' j = pv := by simp [h']
        rw [h1', h3']
        show hdr (L .pend) (updR F.R j l j).length pv
        rw [h2']; exact hpv
      · have h1' : L' (.row j) = L (.row j) := by simp [L', e]
        have h2' : updR F.R k l j = F.R j := by
          unfold updR
          cases hb' : Nat.beq j k with
          | true => exact absurd (Nat.eq_of_beq_eq_true hb') e
          | false => rfl
        have h3' : h' j = hh j := by simp [h', e]
        rw [h1', h3']
        show hdr (L (.row j)) (updR F.R k l j).length (hh j)
        rw [h2']; exact f1.row j hj (by rw [hq]; exact fun h => e h.symm)
    · by_cases e : j = k
      · simp [h', e, hpf]
      · simp only [h', if_neg e]; exact f1.fl j hj
  have r4 : RelI X I ι1 { st with arrs := (m, none) :: st.arrs } a.tmps w' := by
    refine r3.alike rfl (fun _ => rfl) rfl fun k' => ?_
    show lookM k' _ = lookM k' _
    simp only [lookM]
    cases nameEq k' m <;> rfl
  have g1 : ∀ i' x, st.slot i' = .sp x → SpOk ⟨F.n, updR F.R k l, .none⟩ h' pv L' i' x (a.tmps.getD i' undef) := by
    intro i' x hx'
    have := f2 i' x hx'
    cases x with
    | fam _ _ _ => trivial
    | hd => exact this
    | at_ k' => exact this
    | row => intro k' hk'; cases hk'
    | pend => intro k' l' hk'; cases hk'
  have slotF : ∀ i', ({ st with slots := (st.nt, .sp (.fam F.n (updR F.R k l) .none)) :: st.slots, arrs := (m, none) :: st.arrs } : St).slot i' = if i' = st.nt then .sp (.fam F.n (updR F.R k l) .none) else st.slot i' := slot_cons st _ _
  have r5 : RelI X I ι1 { st with slots := (st.nt, .sp (.fam F.n (updR F.R k l) .none)) :: st.slots, arrs := (m, none) :: st.arrs } a.tmps w' := r4.slot (i := st.nt) (x := .sp (.fam F.n (updR F.R k l) .none)) trivial
  have g2 : ∀ i' x, ({ st with slots := (st.nt, .sp (.fam F.n (updR F.R k l) .none)) :: st.slots, arrs := (m, none) :: st.arrs } : St).slot i' = .sp x → SpOk ⟨F.n, updR F.R k l, .none⟩ h' pv L' i' x (a.tmps.getD i' undef) := by
    intro i' x hx'
    rw [slotF] at hx'
    split at hx'
    · injection hx' with hx'; subst hx'; trivial
    · exact g1 i' x hx'
  rcases putDst_inv h with ⟨rfl, e⟩ | ⟨i', rfl, hi, e⟩
  · rw [e]
    refine ⟨r5, FamI.of (F := ⟨F.n, updR F.R k l, .none⟩) ?_ (f3.slots _) g2⟩
    show famO (St.slot _ st.nt) = _
    rw [slotF, if_pos rfl]; rfl
  · rw [e]
    refine ⟨put_sp r5 hi (.c .undef) (fun u => trivial) _, FamI.of (F := ⟨F.n, updR F.R k l, .none⟩) ?_ (f3.slots _) fun j x hx' => ?_⟩
    · show famO (St.slot _ st.nt) = _
      rw [slot_cons, if_neg (Nat.ne_of_gt hi), slotF, if_pos rfl]; rfl
    · rw [slot_cons] at hx'
      show SpOk _ h' pv L' j x ((a.tmps.setIfInBounds i' undef).getD j undef)
      split at hx'
      · cases hx'
      · rename_i e'
        rw [getD_put e']; exact g2 j x hx'

theorem slotFree_inv {α : Type} {m : M α} (hm : Local m) {o : Out α} (h : slotFree m st = some o) : m st = some o ∧ o.st.nt = st.nt ∧ ∀ i, o.st.slot i = st.slot i := by
  unfold slotFree at h
  cases hq : m st with
  | none => rw [hq] at h; cases h
  | some q =>
    rw [hq] at h
    simp only at h
    cases hb : q.wr.any keyS with
    | true => rw [hb] at h; cases h
    | false =>
      rw [hb] at h
      obtain rfl : q = o := Option.some.inj h
      obtain ⟨h1, h2, _⟩ := hm st q hq
      refine ⟨rfl, h1, fun i => ?_⟩
      have := h2 (.s i) (fun hi => by
        have := List.any_eq_false.mp hb (.s i) hi
        exact this rfl)
      simpa [St.get] using this
theorem refO_inv {m : Name} {x : Option S} {n : Nat} (h : refO m x = some n) : x = some (.c (.ref m n)) := by
  unfold refO at h
  split at h
  · rename_i k n'
    cases hb : nameEq k m with
    | true => rw [hb] at h; obtain rfl := nameEq_iff.mp hb; obtain rfl := Option.some.inj h; rfl
    | false => rw [hb] at h; cases h
  · cases h

/-- A list of rows is made. -/
theorem fam_mk (hT : TabOk P T) {a : Act} {o : Oper} (hnc : isFuncCall o.op = false) (h0 : noFamO (st.slot st.nt) = some ()) {base idx : Nat} {o1 : Out (Option S)} (h1 : slotFree (evVal P T K [] base idx o) st = some o1) (hs1 : o1.side) {n : Nat} (h2 : refO (base, 0) o1.val = some n) {A : Arr} (h3 : o1.st.arr (base, 0) = some (some A)) (h4 : A.s = 1) (h5 : A.frozen = false) (h6 : A.n = n) (h7 : ∀ i, A.g i = [.nil 1])
    {d : Option Tmp} {out : Out Unit} (h : putDst d (.sp .hd) { o1.st with slots := (o1.st.nt, .sp (.fam n (fun _ => []) .none)) :: o1.st.slots, arrs := ((base, 0), none) :: o1.st.arrs } = some out) (hr : RelI X I ι st a.tmps w) (hf : FamI X I ι st a.tmps w) :
    ∃ u w', (execOp a.eval o).run P w = .ok (.value u) w' ∧ ∃ I' ι', RelI X I' ι' out.st (a.put d u).tmps w' ∧ FamI X I' ι' out.st (a.put d u).tmps w' := by
  obtain ⟨g1, gn, gs⟩ := slotFree_inv (local_evVal _ _ _ _ _ _ _) h1
  have hno : ∀ i x, st.slot i ≠ .sp x := by
    unfold FamI at hf
    have : famO (st.slot st.nt) = none := by
      unfold noFamO at h0
      split at h0
      · cases h0
      · rename_i hq
        cases hs : st.slot st.nt with
        | sp x => exact absurd hs (hq x)
        | _ => rfl
    rw [this] at hf; exact hf
  have hd := evVal_ok hT hnc g1 hs1 hr
  unfold Done at hd
  rw [refO_inv h2] at hd
  obtain ⟨u, w', e1, I', ι', r1, hx⟩ := hd
  refine ⟨u, w', e1, I', ι', ?_⟩
  have hx' : Rc w' I' ι' o1.st.var o1.st.arr (.ref (base, 0) n) u := hx
  simp only [Rc, h3] at hx'
  have okA := r1.arrs _ _ h3
  have r2 := (r1.kill h3).1
  have okH : ArrOk X w' I' ⟨false, 1, n, fun j => [.v (.slice none 0 0)]⟩ (ι'.a (base, 0)) := by
    obtain ⟨fr, s, m', g⟩ := A
    obtain rfl : s = 1 := h4
    obtain rfl : fr = false := h5
    obtain rfl : m' = n := h6
    unfold ArrOk at okA ⊢
    split at okA
    · exact okA
    · obtain ⟨⟨f, q⟩, hz⟩ := okA
      have rl : ∀ (i j : Nat) x, i < m' → ([.v (.slice none 0 0)] : List C)[j]? = some x → x = .v (.slice none 0 0) ∧ (g i)[j]? = some (.nil 1) := by
        intro i j x hi hx
        have hg : g i = [.nil 1] := h7 i
        rw [hg]
        cases j with
        | zero => simp at hx; exact ⟨hx.symm, rfl⟩
        | succ j => simp at hx
      refine ⟨⟨f, q.lt, q.pos, q.fit, q.max, q.there, fun i hi => rfl, fun i j x hi hx => q.cell i j _ hi (rl i j x hi hx).2, fun i j x hi hx => ?_⟩, hz⟩
      obtain ⟨rfl, hx2⟩ := rl i j x hi hx
      have := q.rel i j _ hi hx2
      generalize f i j = u' at this ⊢
      cases this with
      | nil => exact .v _ rfl
  let L : FN → Option (Nat × Nat) := fun x => match x with | .hd => ι'.a (base, 0) | _ => none
  have f3 : FamOk X I' ι' { o1.st with arrs := ((base, 0), none) :: o1.st.arrs } w' ⟨n, fun _ => [], .none⟩ (fun _ => .slice none 0 0) undef L := by
    refine ⟨fun x A' hA => ?_, fun x A' b c hA hL => ?_, fun x y A' B b c c' hA hB hL hL' => ?_, fun k hk _ => ⟨rfl, rfl⟩, fun k hk => rfl, fun _ _ _ hq => by cases hq⟩
    · cases x with
      | hd => obtain rfl : A' = _ := hA; exact okH
      | pend => obtain ⟨_, _, _, hq, _⟩ := hA; cases hq
      | row k => obtain ⟨_, _, rfl⟩ := hA; rfl
    · cases x with
      | hd => exact r1.kill_unused h3 hL
      | pend => cases hL
      | row k => cases hL
    · cases x with
      | hd => cases y with
        | hd => rfl
        | pend => cases hL'
        | row k => cases hL'
      | pend => cases hL
      | row k => cases hL
  have r5 : RelI X I' ι' { o1.st with slots := (o1.st.nt, .sp (.fam n (fun _ => []) .none)) :: o1.st.slots, arrs := ((base, 0), none) :: o1.st.arrs } a.tmps w' := r2.slot (i := o1.st.nt) (x := .sp (.fam n (fun _ => []) .none)) trivial
  have slotF : ∀ i', ({ o1.st with slots := (o1.st.nt, .sp (.fam n (fun _ => []) .none)) :: o1.st.slots, arrs := ((base, 0), none) :: o1.st.arrs } : St).slot i' = if i' = o1.st.nt then .sp (.fam n (fun _ => []) .none) else o1.st.slot i' := slot_cons o1.st _ _
  have g2 : ∀ i' x, ({ o1.st with slots := (o1.st.nt, .sp (.fam n (fun _ => []) .none)) :: o1.st.slots, arrs := ((base, 0), none) :: o1.st.arrs } : St).slot i' = .sp x → SpOk ⟨n, fun _ => [], .none⟩ (fun _ => .slice none 0 0) undef L i' x (a.tmps.getD i' undef) := by
    intro i' x hx'
    rw [slotF] at hx'
    split at hx'
    · injection hx' with hx'; subst hx'; trivial
    · rw [gs] at hx'; exact absurd hx' (hno _ _)
  rcases putDst_inv h with ⟨rfl, e⟩ | ⟨i', rfl, hi, e⟩
  · rw [e]
    refine ⟨r5, FamI.of (F := ⟨n, fun _ => [], .none⟩) ?_ (f3.slots _) g2⟩
    show famO (St.slot _ o1.st.nt) = _
    rw [slotF, if_pos rfl]; rfl
  · rw [e]
    refine ⟨put_sp r5 hi (.sp .hd) (fun u => trivial) _, FamI.of (F := ⟨n, fun _ => [], .none⟩) ?_ (f3.slots _) fun j x hx'' => ?_⟩
    · show famO (St.slot _ o1.st.nt) = _
      rw [slot_cons, if_neg (Nat.ne_of_gt hi), slotF, if_pos rfl]; rfl
    · rw [slot_cons] at hx''
      show SpOk _ _ _ L j x ((a.tmps.setIfInBounds i' u).getD j undef)
      split at hx''
      · rename_i e'; subst e'
        rw [getD_put_self (by rw [r1.size]; exact hi)]
        injection hx'' with hx''; subst hx''
        exact hx'.2
      · rename_i e'
        rw [getD_put e']; exact g2 j x hx''

/-- A row is made longer. -/
theorem fam_ap (hT : TabOk P T) {a : Act} {o : Oper} (hnc : isFuncCall o.op = false) {F : FamS} (hF : famO (st.slot st.nt) = some F) {k tx : Nat} (hq : F.q = .ld k tx) (ht : st.slot tx = .sp .row) (htn : tx ≠ st.nt) {m1 : Name} (hm1 : st.arr m1 = none) {base idx : Nat} {o1 : Out (Option S)}
    (h1 : slotFree (evVal P T K [] base idx o) { st with slots := (tx, .c (.ref m1 (F.R k).length)) :: st.slots, arrs := (m1, some ⟨false, 1, (F.R k).length, rowG (F.R k)⟩) :: st.arrs } = some o1) (hs1 : o1.side) {l : List Value} (h2 : refO (base, 0) o1.val = some l.length) {A : Arr} (h3 : o1.st.arr (base, 0) = some (some A)) (h4 : A.s = 1) (h5 : A.frozen = false) (h6 : A.n = l.length) (h7 : ∀ i, i < l.length → A.g i = rowG l i)
    {d : Nat} {out : Out Unit} (h : putDst (some d) (.sp .pend) { o1.st with slots := (o1.st.nt, .sp (.fam F.n F.R (.pd k l d))) :: o1.st.slots, arrs := ((base, 0), none) :: o1.st.arrs } = some out) (hr : RelI X I ι st a.tmps w) (hf : FamI X I ι st a.tmps w) :
    ∃ u w', (execOp a.eval o).run P w = .ok (.value u) w' ∧ ∃ I' ι', RelI X I' ι' out.st (a.put (some d) u).tmps w' ∧ FamI X I' ι' out.st (a.put (some d) u).tmps w' := by
  obtain ⟨hh, pv, L, f1, f2⟩ := hf.get hF
  obtain ⟨hk, hu⟩ := f2 tx _ ht k hq
  have hnt : ¬ F.q.takes k := by rw [hq]; exact fun h => h
  have hA : FamArr hh F (.row k) ⟨false, 1, (F.R k).length, rowG (F.R k)⟩ := ⟨hk, hnt, rfl⟩
  obtain ⟨ι1, r1, e1, e2, e3, E1⟩ := f1.view hr hA hm1
  have har : ({ st with arrs := (m1, some (⟨false, 1, (F.R k).length, rowG (F.R k)⟩ : Arr)) :: st.arrs } : St).arr m1 = some (some ⟨false, 1, (F.R k).length, rowG (F.R k)⟩) := by rw [arr_cons]; simp
  have r2 := r1.slot (i := tx) (x := .c (.ref m1 (F.R k).length)) (by
    show Rc w I ι1 st.var ({ st with arrs := (m1, some (⟨false, 1, (F.R k).length, rowG (F.R k)⟩ : Arr)) :: st.arrs } : St).arr (.ref m1 (F.R k).length) (a.tmps.getD tx undef)
    simp only [Rc, har]
    exact ⟨Nat.le_refl _, by rw [e1, hu]; exact f1.row k hk hnt⟩)
  obtain ⟨g1, gn, gs⟩ := slotFree_inv (local_evVal _ _ _ _ _ _ _) h1
  have hd := evVal_ok hT hnc g1 hs1 r2.re
  unfold Done at hd
  rw [refO_inv h2] at hd
  obtain ⟨u, w', x1, I', ι', q1, hx⟩ := hd
  refine ⟨u, w', x1, I', ι', ?_⟩
  have hx' : Rc w' I' ι' o1.st.var o1.st.arr (.ref (base, 0) l.length) u := hx
  simp only [Rc, h3] at hx'
  have q2 := r2.back q1
  have okA := q2.arrs _ _ h3
  have q3 := (q2.kill h3).1
  have key : ∀ y B b c, FamArr hh F y B → y ≠ .row k → L y = some (b, c) → w'.heap[b]? = w.heap[b]? ∧ ¬ I' b ∧ Unused o1.st ι' b ∧ b < w'.heap.size := by
    intro y B b c hB hy hL
    have hu2 := f1.view_unused hA hB (fun e => hy e.symm) e1 e2 e3 hL
    have hok := f1.arr y B hB
    rw [hL] at hok
    obtain ⟨k1, k2, k3⟩ := r2.kept q1 hok.lt (hok.own (famArr_plain hB).1).1 hu2
    exact ⟨k1, k2, k3, Nat.lt_of_lt_of_le hok.lt q1.fr.size⟩
  let L' : FN → Option (Nat × Nat) := fun x => match x with | .pend => ι'.a (base, 0) | x => L x
  have old : ∀ x B, FamArr hh ⟨F.n, F.R, .pd k l d⟩ x B → x = .pend ∨ (L' x = L x ∧ x ≠ .row k ∧ FamArr hh F x B) := by
    intro x B hB
    cases x with
    | hd => exact .inr ⟨rfl, by simp, hB⟩
    | pend => exact .inl rfl
    | row j =>
      obtain ⟨b1, b2, b3⟩ := hB
      exact .inr ⟨rfl, fun e => by injection e with e; exact b2 e.symm, b1, by rw [hq]; exact fun h => h, b3⟩
  have f3 : FamOk X I' ι' { o1.st with arrs := ((base, 0), none) :: o1.st.arrs } w' ⟨F.n, F.R, .pd k l d⟩ hh u L' := by
    refine ⟨fun x B hB => ?_, fun x B b c hB hL => ?_, fun x y B B' b c c' hB hB' hL hL' => ?_, fun j hj hj' => f1.row j hj (by rw [hq]; exact fun h => h), f1.fl, fun k' l' t' hq' => ?_⟩
    · rcases old x B hB with rfl | ⟨o1', o2, o3⟩
      · obtain ⟨k', l', t', hq', rfl⟩ := hB
        injection hq' with a1 a2 a3
        subst a2
        exact okA.alike h5.symm h4.symm h6.symm fun i hi => (h7 i (by rw [← h6]; exact hi)).symm
      · rw [o1']
        refine (f1.arr x B o3).plain (famArr_plain o3) fun b c hL => ?_
        obtain ⟨k1, k2, k3, k4⟩ := key x B b c o3 o2 hL
        exact ⟨k1, k4, k2, fun h => h⟩
    · rcases old x B hB with rfl | ⟨o1', o2, o3⟩
      · exact q2.kill_unused h3 hL
      · rw [o1'] at hL
        exact (key x B b c o3 o2 hL).2.2.1.dead
    · rcases old x B hB with rfl | ⟨o1', o2, o3⟩ <;> rcases old y B' hB' with rfl | ⟨p1, p2, p3⟩
      · rfl
      · rw [p1] at hL'
        exact absurd hL ((key y B' b c' p3 p2 hL').2.2.1.2 _ _ _ h3)
      · rw [o1'] at hL
        exact absurd hL' ((key x B b c o3 o2 hL).2.2.1.2 _ _ _ h3)
      · rw [o1'] at hL; rw [p1] at hL'
        exact f1.ap x y B B' b c c' o3 p3 hL hL'
    · injection hq' with a1 a2 a3
      subst a1 a2
      exact ⟨hk, hx'.2⟩
  have slot2 : ∀ i', o1.st.slot i' = if i' = tx then .c (.ref m1 (F.R k).length) else st.slot i' := fun i' => (gs i').trans (slot_cons st _ _ _)
  have gn' : o1.st.nt = st.nt := gn
  have r5 : RelI X I' ι' { o1.st with slots := (o1.st.nt, .sp (.fam F.n F.R (.pd k l d))) :: o1.st.slots, arrs := ((base, 0), none) :: o1.st.arrs } a.tmps w' := q3.slot (i := o1.st.nt) (x := .sp (.fam F.n F.R (.pd k l d))) trivial
  have slotF : ∀ i', ({ o1.st with slots := (o1.st.nt, .sp (.fam F.n F.R (.pd k l d))) :: o1.st.slots, arrs := ((base, 0), none) :: o1.st.arrs } : St).slot i' = if i' = o1.st.nt then .sp (.fam F.n F.R (.pd k l d)) else o1.st.slot i' := slot_cons o1.st _ _
  rcases putDst_inv h with ⟨hd', _⟩ | ⟨i', hd', hi, e⟩
  · cases hd'
  · injection hd' with hd'; subst hd'
    rw [e]
    refine ⟨put_sp r5 hi (.sp .pend) (fun u => trivial) _, FamI.of (F := ⟨F.n, F.R, .pd k l d⟩) ?_ (f3.slots _) fun j x hx'' => ?_⟩
    · show famO (St.slot _ o1.st.nt) = _
      rw [slot_cons, if_neg (Nat.ne_of_gt hi), slotF, if_pos rfl]; rfl
    · rw [slot_cons] at hx''
      show SpOk _ hh u L' j x ((a.tmps.setIfInBounds d u).getD j undef)
      split at hx''
      · rename_i e'; subst e'
        rw [getD_put_self (by rw [hr.size, ← gn']; exact hi)]
        injection hx'' with hx''; subst hx''
        intro k' l' hk'; rfl
      · rename_i e'
        rw [getD_put e']
        have hx3 : ({ o1.st with slots := (o1.st.nt, .sp (.fam F.n F.R (.pd k l d))) :: o1.st.slots, arrs := ((base, 0), none) :: o1.st.arrs } : St).slot j = .sp x := hx''
        rw [slotF] at hx3
        split at hx3
        · injection hx3 with hx3; subst hx3; trivial
        · rw [slot2] at hx3
          split at hx3
          · cases hx3
          · have := f2 j x hx3
            cases x with
            | fam _ _ _ => trivial
            | hd => exact this
            | at_ k' => exact this
            | row => intro k' hk'; cases hk'
            | pend => intro k' l' hk'; injection hk' with _ _ hk'; exact absurd hk' (Ne.symm e')
end
end Go.Ev
namespace Go.Ev
open Go Go.RowKit
set_option linter.unusedVariables false

/-- A function of the program that has a body and is called plainly. -/
def Enters (P : Program) (f : FuncId) : Prop := ∃ fn, P.funcs[f]? = some fn ∧ (fn.name == "runtime.NumGoroutine") = false ∧ fn.body.isNone = false

def FnOk (P : Program) (f : FuncId) (args : List X) (res : X) (pout : List (List X)) : Prop := Enters P f ∧ Ok P f args res pout

section
variable {X : Ctx} {I : Nat → Prop} {ι : Im} {st : St} {w : World} {P : Program} {T : Tab} {K : Facts} {ops : Array Oper}

theorem cond_inv' {α : Type} {b : Bool} {x y : Option α} {o : Option α} (h : (bif b then x else y) = o) : (b = true ∧ x = o) ∨ (b = false ∧ y = o) := by
  cases b with
  | true => exact .inl ⟨rfl, h⟩
  | false => exact .inr ⟨rfl, h⟩
theorem cond_app {α : Type} {b : Bool} {x y : M α} {st : St} : (bif b then x else y) st = (bif b then x st else y st) := by cases b <;> rfl
theorem call_facts {base : Nat} {f : FuncId} {h : CallH} {args : List S} {out : Out S} (he : evCall K base f h args st = some out) (hs : out.side) : K f h.args h.res h.pout := by
  unfold evCall at he
  obtain ⟨o1, o2, h1, h2, v1, s1, d1⟩ := bind_inv he
  obtain ⟨o3, o4, h3, h4, v2, s2, d2⟩ := bind_inv h2
  obtain ⟨o5, o6, h5, h6, v3, s3, d3⟩ := bind_inv h4
  have := (d3 (d2 (d1 hs).2).2).1
  rw [(need_inv h5).2] at this
  exact this

theorem callFunc_enters {f : FuncId} (h : Enters P f) (args : Array Value) : (callFunc f args).run P w = .ok (.enter f args) w := by
  obtain ⟨fn, h1, h2, h3⟩ := h
  have h2' : ¬ fn.name = "runtime.NumGoroutine" := by simpa using h2
  have h3' : ¬ fn.body = none := fun e => by rw [e] at h3; cases h3
  unfold callFunc
  simp [h1, h2', h3']

theorem exec_call {a : Act} {o : Oper} {c : Call} {f : FuncId} (hop : o.op = .call c) (hc : c.callee = .value (.func f)) (h : Enters P f) :
    (execOp a.eval o).run P w = .ok (.enter f (c.args.map a.eval)) w := by
  unfold execOp
  rw [hop]
  simp [resolve, hc, Act.eval, Deferred.ofValue, invoke, callFunc_enters h]

theorem putDst_ok {d : Option Tmp} {x : S} {out : Out Unit} (h : putDst d x st = some out) {a : Act} (hr : RelI X I ι st a.tmps w) {u : Value} (hx : Rs w I ι st.var st.arr x u) :
    (a.put d u).defers = a.defers ∧ RelI X I ι out.st (a.put d u).tmps w := by
  unfold putDst at h
  cases d with
  | none =>
    have hp := pure_inv h
    rw [hp]
    exact ⟨rfl, hr⟩
  | some i =>
    unfold wrS at h
    rcases cond_inv' h with ⟨h1, h2⟩ | ⟨h1, h2⟩
    · obtain rfl := Option.some.inj h2
      exact ⟨rfl, hr.put (by simpa using h1) hx⟩
    · cases h2

theorem evRun_ok (hT : TabOk P T) (hK : ∀ f a r p, K f a r p → FnOk P f a r p) {hh : Hints} {base idx : Nat} {o : Oper} {out : Out Unit}
    (h : evRun P T K hh base idx o st = some out) (hs : out.side) {a : Act} (hr : RelI X I ι st a.tmps w) {next : Act → World → Prop} {Q : Exit → Act → World → Prop}
    (hk : ∀ u w', (∃ I' ι', RelI X I' ι' out.st (a.put o.dst u).tmps w') → next (a.put o.dst u) w') : o.wp P a w next Q := by
  unfold evRun at h
  obtain ⟨o1, o2, h1', h2, v1, s1, d1⟩ := bind_inv h
  obtain ⟨h1, _, _⟩ := slotFree_inv (local_evVal _ _ _ _ _ _ _) h1'
  have hs1 := (d1 hs).1
  rw [s1] at hk
  unfold Oper.wp
  by_cases hnc : isFuncCall o.op = false
  · have hd := evVal_ok hT hnc h1 hs1 hr
    unfold Done at hd
    cases hv : o1.val with
    | some x =>
      rw [hv] at hd h2
      obtain ⟨u, w', e1, I', ι', hr', hx⟩ := hd
      rw [e1]
      simp only [Oper.upon]
      simp only [cond_app] at h2
      rcases cond_inv' h2 with ⟨_, h2⟩ | ⟨_, h2⟩
      · exact absurd h2 (by simp [fail])
      · have hp := putDst_ok h2 hr' hx
        exact hk _ _ ⟨_, _, hp.2⟩
    | none =>
      rw [hv] at hd h2
      obtain ⟨w', I', ι', e1, hr'⟩ := hd
      rw [e1]
      simp only [Oper.upon]
      have hp := putDst_ok h2 hr' (u := undef) (show Rs w' I' ι' _ _ (.c .undef) undef from trivial)
      exact hk _ _ ⟨_, _, hp.2⟩
  · cases hop : o.op with
    | call c =>
      rw [hop] at hnc
      unfold evVal at h1
      rw [hop] at h1
      simp only at h1
      cases hc : c.callee with
      | builtin b => simp [isFuncCall, hc] at hnc
      | invoke r n => rw [hc] at h1; exact (fail_inv h1).elim
      | value x =>
        rw [hc] at h1
        cases x with
        | func f =>
          simp only at h1
          obtain ⟨o3, o4, h3, h4, v3, s3, d3⟩ := bind_inv h1
          obtain ⟨_, e4⟩ := ofO_inv h3
          rw [e4] at h4
          obtain ⟨o5, o6, h5, h6, v5, s5, d5⟩ := bind_inv h4
          obtain ⟨e5, e6, e7⟩ := opnds_ok hr h5
          rw [e5] at h6
          obtain ⟨o7, o8, h7, h8, v7, s7, d7⟩ := bind_inv h6
          have hp := pure_inv h8
          have hs7 := (d7 (d5 (d3 hs1).2).2).1
          have hKf := call_facts h7 hs7
          have hen := (hK _ _ _ _ hKf).1
          have hcl := call_ok (fun f a r p hk => (hK f a r p hk).2) h7 hs7 hr e6 e7
          rw [exec_call hop hc hen, Oper.upon_enter]
          have ea : (List.map a.eval c.args.toList).toArray = c.args.map a.eval := by apply Array.ext'; simp
          rw [ea] at hcl
          refine Calls.mono hcl ?_
          rintro e w' ⟨v, rfl, I', ι', hr', hx⟩
          have hv : o1.val = some o7.val := by rw [v3, v5, v7, hp]
          have hst : o1.st = o7.st := by rw [s3, s5, s7, hp]
          rw [hv, hst] at h2
          simp only [cond_app] at h2
          rcases cond_inv' h2 with ⟨_, h2⟩ | ⟨_, h2⟩
          · exact absurd h2 (by simp [fail])
          · have hq := putDst_ok h2 hr' hx
            exact hk _ _ ⟨_, _, hq.2⟩
        | _ => exact (fail_inv h1).elim
    | _ => rw [hop] at hnc; simp [isFuncCall] at hnc

/-- A plain operation leaves the list of rows alone. -/
theorem evRun_Rel (hT : TabOk P T) (hK : ∀ f a r p, K f a r p → FnOk P f a r p) {hh : Hints} {base idx : Nat} {o : Oper} {out : Out Unit}
    (h : evRun P T K hh base idx o st = some out) (hs : out.side) {a : Act} (hr : RelI X I ι st a.tmps w) (hf : FamI X I ι st a.tmps w) {next : Act → World → Prop} {Q : Exit → Act → World → Prop}
    (hk : ∀ a' w', (∃ u, a' = a.put o.dst u) → Rel X out.st a'.tmps w' → next a' w') : o.wp P a w next Q := by
  refine evRun_ok hT hK h hs hr.re fun u w' ⟨I', ι', k⟩ => hk _ _ ⟨u, rfl⟩ ⟨I', ι', hr.back k, hf.kept hr k ?_ ?_⟩
  all_goals
    have hsl : out.st.nt = st.nt ∧ ∀ i, (o.dst ≠ some i ∧ out.st.slot i = st.slot i) ∨ (o.dst = some i ∧ i < st.nt ∧ ∀ x, out.st.slot i ≠ .sp x) := by
      unfold evRun at h
      obtain ⟨o1, o2, h1', h2, v1, s1, d1⟩ := bind_inv h
      obtain ⟨h1, g2, g3⟩ := slotFree_inv (local_evVal _ _ _ _ _ _ _) h1'
      have fin : ∀ y : S, (∀ x, y ≠ .sp x) → putDst o.dst y o1.st = some o2 → out.st.nt = st.nt ∧ ∀ i, (o.dst ≠ some i ∧ out.st.slot i = st.slot i) ∨ (o.dst = some i ∧ i < st.nt ∧ ∀ x, out.st.slot i ≠ .sp x) := by
        intro y hy hput
        rcases putDst_inv hput with ⟨hd, e⟩ | ⟨i', hd, hi, e⟩
        · rw [s1, e]; exact ⟨g2, fun i => .inl ⟨by rw [hd]; simp, g3 i⟩⟩
        · rw [s1, e]
          refine ⟨g2, fun i => ?_⟩
          rw [slot_cons]
          by_cases ei : i = i'
          · right
            subst ei
            exact ⟨hd, by rw [← g2]; exact hi, by rw [if_pos rfl]; exact hy⟩
          · left; rw [if_neg ei, hd]; exact ⟨fun e => ei (by injection e with e; exact e.symm), g3 i⟩
      cases hv : o1.val with
      | some x =>
        rw [hv] at h2
        simp only [cond_app] at h2
        rcases cond_inv' h2 with ⟨_, h2⟩ | ⟨hb, h2⟩
        · exact absurd h2 (by simp [fail])
        · exact fin x (fun z e => by rw [e] at hb; cases hb) h2
      | none =>
        rw [hv] at h2
        exact fin (.c .undef) (fun z e => by cases e) h2
  · rw [hsl.1]
    rcases hsl.2 st.nt with e | ⟨_, hlt, _⟩
    · exact e.2
    · exact absurd hlt (Nat.lt_irrefl _)
  · intro i x hx
    rcases hsl.2 i with ⟨hne, e⟩ | ⟨hd, hlt, hne⟩
    · refine ⟨by rw [← e]; exact hx, ?_⟩
      cases hdst : o.dst with
      | none => rfl
      | some j => exact getD_put (fun eij => hne (by rw [hdst, eij]))
    · exact absurd hx (hne x)

theorem upon_value {o : Oper} {a : Act} {u : Value} {w' : World} {next : Act → World → Prop} {Q : Exit → Act → World → Prop} (he : (execOp a.eval o).run P w = .ok (.value u) w') (hk : next (a.put o.dst u) w') : o.wp P a w next Q := by
  unfold Oper.wp
  rw [he]
  exact hk
theorem upon_skip {o : Oper} {a : Act} {w' : World} {next : Act → World → Prop} {Q : Exit → Act → World → Prop} (he : (execOp a.eval o).run P w = .ok .skip w') (hk : next (a.put o.dst undef) w') : o.wp P a w next Q := by
  unfold Oper.wp
  rw [he]
  exact hk
theorem defers_put (a : Act) (d : Option Tmp) (u : Value) : (a.put d u).defers = a.defers := by cases d <;> rfl

theorem evFam_ok (hT : TabOk P T) {base idx : Nat} {f : FamH} {o : Oper} {out : Out Unit} (h : evFam P T K base idx f o st = some out) (hs : out.side) {a : Act} (hr : RelI X I ι st a.tmps w) (hf : FamI X I ι st a.tmps w) {next : Act → World → Prop} {Q : Exit → Act → World → Prop}
    (hk : ∀ a' w', (∃ u, a' = a.put o.dst u) → Rel X out.st a'.tmps w' → next a' w') : o.wp P a w next Q := by
  unfold evFam at h
  cases f with
  | mv =>
    cases hop : o.op with
    | move x =>
      rw [hop] at h; simp only at h
      obtain ⟨o1, o2, h1, h2, v1, s1, d1⟩ := bind_inv h
      obtain ⟨e1, e2⟩ := ofO_inv h1
      rw [e2] at h2
      obtain ⟨o3, o4, h3, h4, v2, s2, d2⟩ := bind_inv h2
      obtain ⟨e3, e4⟩ := rdS_inv h3
      rw [e4] at h4
      obtain ⟨o5, o6, h5, h6, v3, s3, d3⟩ := bind_inv h4
      obtain ⟨e5, e6⟩ := ofO_inv h5
      rw [e6] at h6
      have hst : out.st = o6.st := by rw [s1, s2, s3]
      obtain ⟨q1, q2⟩ := fam_mv e1 (by rw [← e3]; exact e5) h6 hr hf
      refine upon_value (u := a.eval x) (by rw [execOp, hop]; rfl) (hk _ _ ⟨_, rfl⟩ ?_)
      rw [hst]; exact ⟨_, _, q1, q2⟩
    | assign x =>
      rw [hop] at h; simp only at h
      obtain ⟨o1, o2, h1, h2, v1, s1, d1⟩ := bind_inv h
      obtain ⟨e1, e2⟩ := ofO_inv h1
      rw [e2] at h2
      obtain ⟨o3, o4, h3, h4, v2, s2, d2⟩ := bind_inv h2
      obtain ⟨e3, e4⟩ := rdS_inv h3
      rw [e4] at h4
      obtain ⟨o5, o6, h5, h6, v3, s3, d3⟩ := bind_inv h4
      obtain ⟨e5, e6⟩ := ofO_inv h5
      rw [e6] at h6
      have hst : out.st = o6.st := by rw [s1, s2, s3]
      obtain ⟨q1, q2⟩ := fam_mv e1 (by rw [← e3]; exact e5) h6 hr hf
      refine upon_value (u := a.eval x) (by rw [execOp, hop]; rfl) (hk _ _ ⟨_, rfl⟩ ?_)
      rw [hst]; exact ⟨_, _, q1, q2⟩
    | _ => rw [hop] at h; exact (fail_inv h).elim
  | mk =>
    cases hop : o.op with
    | makeSlice t l c =>
      rw [hop] at h; simp only at h
      obtain ⟨o1, o2, h1, h2, v1, s1, d1⟩ := bind_inv h
      obtain ⟨e1, e2⟩ := rdF_inv h1
      rw [e2] at h2
      obtain ⟨o3, o4, h3, h4, v2, s2, d2⟩ := bind_inv h2
      obtain ⟨e3, e4⟩ := ofO_inv h3
      rw [e4] at h4
      obtain ⟨o5, o6, h5, h6, v3, s3, d3⟩ := bind_inv h4
      obtain ⟨o7, o8, h7, h8, v4, s4, d4⟩ := bind_inv h6
      obtain ⟨e7, e8⟩ := ofO_inv h7
      rw [e8] at h8
      obtain ⟨o9, oa, h9, ha, v5, s5, d5⟩ := bind_inv h8
      obtain ⟨e9, ea⟩ := liveA_inv h9
      rw [ea] at ha
      obtain ⟨ob, oc, hb, hc, v6, s6, d6⟩ := bind_inv ha
      obtain ⟨eb, ec⟩ := guardM_inv hb
      rw [ec] at hc
      obtain ⟨od, oe, hd, he, v7, s7, d7⟩ := bind_inv hc
      obtain ⟨ed, ee⟩ := need_inv hd
      rw [ed] at he
      obtain ⟨of, og, hff, hg, v8, s8, d8⟩ := bind_inv he
      have ef := wrA_inv' hff
      rw [ef] at hg
      obtain ⟨oh, oi, hh, hi, v9, s9, d9⟩ := bind_inv hg
      have eh := wrF_inv hh
      rw [eh] at hi
      have hst : out.st = oi.st := by rw [s1, s2, s3, s4, s5, s6, s7, s8, s9]
      have ds := (d3 (d2 (d1 hs).2).2)
      have dn := (d7 (d6 (d5 (d4 ds.2).2).2).2).1
      rw [ee] at dn
      simp only [Bool.and_eq_true, Bool.not_eq_true'] at eb
      obtain ⟨u, w', x1, I', ι', q1, q2⟩ := fam_mk hT (by rw [hop]; rfl) (by rw [← e1]; exact e3) h5 ds.1 e7 e9 (Nat.eq_of_beq_eq_true eb.1) eb.2 dn.1 dn.2 hi hr hf
      refine upon_value x1 (hk _ _ ⟨_, rfl⟩ ?_)
      rw [hst]; exact ⟨_, _, q1, q2⟩
    | _ => rw [hop] at h; exact (fail_inv h).elim
  | ix =>
    cases hop : o.op with
    | indexAddr t x k =>
      rw [hop] at h; simp only at h
      obtain ⟨o1, o2, h1, h2, v1, s1, d1⟩ := bind_inv h
      obtain ⟨e1, e2⟩ := ofO_inv h1
      rw [e2] at h2
      obtain ⟨o3, o4, h3, h4, v2, s2, d2⟩ := bind_inv h2
      obtain ⟨e3, e4⟩ := rdS_inv h3
      rw [e4] at h4
      obtain ⟨o5, o6, h5, h6, v3, s3, d3⟩ := bind_inv h4
      obtain ⟨e5, e6⟩ := ofO_inv h5
      rw [e6] at h6
      obtain ⟨o7, o8, h7, h8, v4, s4, d4⟩ := bind_inv h6
      obtain ⟨e7, _, hkk⟩ := opnd_ok h7 hr
      rw [e7] at h8
      obtain ⟨o9, oa, h9, ha, v5, s5, d5⟩ := bind_inv h8
      obtain ⟨e9, ea⟩ := ofO_inv h9
      rw [ea] at ha
      obtain ⟨ob, oc, hb, hc, v6, s6, d6⟩ := bind_inv ha
      unfold rowT at hb
      obtain ⟨p1, p2, g1, g2, w1, t1, c1⟩ := bind_inv hb
      obtain ⟨i1, i2⟩ := ti_inv g1
      rw [i2] at g2
      obtain ⟨p3, p4, g3, g4, w2, t2, c2⟩ := bind_inv g2
      obtain ⟨i3, i4⟩ := ofO_inv g3
      rw [i4] at g4
      obtain ⟨p5, p6, g5, g6, w3, t3, c3⟩ := bind_inv g4
      obtain ⟨i5, i6⟩ := ti_inv g5
      rw [i6] at g6
      have hp := pure_inv g6
      have obst : ob.st = st := by rw [t1, t2, t3, hp]
      have obv : ob.val = (p1.val, p3.val, p5.val) := by rw [w1, w2, w3, hp]
      rw [obst] at hc
      obtain ⟨od, oe, hd, he, v7, s7, d7⟩ := bind_inv hc
      obtain ⟨ed, ee⟩ := rdF_inv hd
      rw [ee] at he
      obtain ⟨of, og, hff, hg, v8, s8, d8⟩ := bind_inv he
      obtain ⟨ef, eg⟩ := ofO_inv hff
      rw [eg] at hg
      obtain ⟨oh, oi, hh, hi, v9, s9, d9⟩ := bind_inv hg
      obtain ⟨eh, ei⟩ := need_inv hh
      rw [eh] at hi
      obtain ⟨oj, ok, hj, hk', va, sa, da⟩ := bind_inv hi
      obtain ⟨ej, ek⟩ := guardM_inv hj
      rw [ek] at hk'
      obtain ⟨ol, om, hl, hm, vb, sb, db⟩ := bind_inv hk'
      obtain ⟨el, em⟩ := freshA_inv hl
      rw [em] at hm
      obtain ⟨on, oo, hn, ho, vc, sc, dc⟩ := bind_inv hm
      have en := wrA_inv' hn
      rw [en] at ho
      have hst : out.st = oo.st := by rw [s1, s2, s3, s4, s5, s6, s7, s8, s9, sa, sb, sc]
      have dn := (d9 (d8 (d7 (d6 (d5 (d4 (d3 (d2 (d1 hs).2).2).2).2).2).2).2).2).1
      rw [ei] at dn
      rw [obv] at ej
      obtain ⟨v, x1, q1, q2⟩ := fam_ix (k := o9.val.1) hT i1 (sliceO_inv i3) i5 ej (by rw [← ed]; exact ef) (by rw [← e3]; exact hdO_inv e5) dn el ho hr hf
      refine upon_value (u := v) (w' := w) ?_ (hk _ _ ⟨_, rfl⟩ ?_)
      · have : execOp a.eval o = (do pure (.value (← Instr.indexAt t (a.eval x) (a.eval k)))) := by rw [execOp, hop]
        rw [this, tmpO_inv e1 a, intO_inv e9 hkk]
        simp only [Sem.run_bind, x1, Result.andThen_ok, Sem.run_pure]
      · rw [hst]; exact ⟨_, _, q1, q2⟩
    | _ => rw [hop] at h; exact (fail_inv h).elim
  | ld =>
    cases hop : o.op with
    | load t p =>
      rw [hop] at h; simp only at h
      obtain ⟨o1, o2, h1, h2, v1, s1, d1⟩ := bind_inv h
      obtain ⟨e1, e2⟩ := ofO_inv h1
      rw [e2] at h2
      obtain ⟨o3, o4, h3, h4, v2, s2, d2⟩ := bind_inv h2
      obtain ⟨e3, e4⟩ := ofO_inv h3
      rw [e4] at h4
      obtain ⟨o5, o6, h5, h6, v3, s3, d3⟩ := bind_inv h4
      obtain ⟨e5, e6⟩ := rdS_inv h5
      rw [e6] at h6
      obtain ⟨o7, o8, h7, h8, v4, s4, d4⟩ := bind_inv h6
      obtain ⟨e7, e8⟩ := ofO_inv h7
      rw [e8] at h8
      obtain ⟨o9, oa, h9, ha, v5, s5, d5⟩ := bind_inv h8
      obtain ⟨e9, ea⟩ := ti_inv h9
      rw [ea] at ha
      obtain ⟨ob, oc, hb, hc, v6, s6, d6⟩ := bind_inv ha
      obtain ⟨eb, ec⟩ := rdF_inv hb
      rw [ec] at hc
      obtain ⟨od, oe, hd, he, v7, s7, d7⟩ := bind_inv hc
      obtain ⟨ed, ee⟩ := ofO_inv hd
      rw [ee] at he
      obtain ⟨of, og, hff, hg, v8, s8, d8⟩ := bind_inv he
      obtain ⟨ef, eg⟩ := ofO_inv hff
      rw [eg] at hg
      obtain ⟨oh, oi, hh, hi, v9, s9, d9⟩ := bind_inv hg
      obtain ⟨eh, ei⟩ := need_inv hh
      rw [eh] at hi
      obtain ⟨oj, ok, hj, hk', va, sa, da⟩ := bind_inv hi
      obtain ⟨ej, ek⟩ := guardM_inv hj
      rw [ek] at hk'
      obtain ⟨ol, om, hl, hm, vb, sb, db⟩ := bind_inv hk'
      obtain ⟨el, em⟩ := freshA_inv hl
      rw [em] at hm
      obtain ⟨on, oo, hn, ho, vc, sc, dc⟩ := bind_inv hm
      have en := wrA_inv' hn
      rw [en] at ho
      obtain ⟨op, oq, hp, hq, vd, sd, dd⟩ := bind_inv ho
      have ep := wrF_inv hp
      rw [ep] at hq
      have hst : out.st = oq.st := by rw [s1, s2, s3, s4, s5, s6, s7, s8, s9, sa, sb, sc, sd]
      have dn := (d9 (d8 (d7 (d6 (d5 (d4 (d3 (d2 (d1 hs).2).2).2).2).2).2).2).2).1
      rw [ei] at dn
      simp only [Bool.and_eq_true, Bool.not_eq_true'] at ej
      rw [e1] at hq
      obtain ⟨v, x1, q1, q2⟩ := fam_ld hT e9 ej.1 ej.2 (by rw [← eb]; exact ed) (freeQ_inv ef) (by rw [← e5]; exact atO_inv e7) dn el hq hr hf
      refine upon_value (u := v) (w' := w) ?_ (hk _ _ ⟨_, rfl⟩ ?_)
      · have : execOp a.eval o = (do pure (.value (← Instr.loadAt t (a.eval p)))) := by rw [execOp, hop]
        rw [this, tmpO_inv e3 a]
        simp only [Sem.run_bind, x1, Result.andThen_ok, Sem.run_pure]
      · rw [hst, e1]; exact ⟨_, _, q1, q2⟩
    | _ => rw [hop] at h; exact (fail_inv h).elim
  | ap l =>
    cases hop : o.op with
    | call c =>
      rw [hop] at h; simp only at h
      obtain ⟨o1, o2, h1, h2, v1, s1, d1⟩ := bind_inv h
      obtain ⟨e1, e2⟩ := ofO_inv h1
      rw [e2] at h2
      obtain ⟨o3, o4, h3, h4, v2, s2, d2⟩ := bind_inv h2
      obtain ⟨e3, e4⟩ := ofO_inv h3
      rw [e4] at h4
      obtain ⟨o5, o6, h5, h6, v3, s3, d3⟩ := bind_inv h4
      obtain ⟨e5, e6⟩ := rdS_inv h5
      rw [e6] at h6
      obtain ⟨o7, o8, h7, h8, v4, s4, d4⟩ := bind_inv h6
      obtain ⟨e7, e8⟩ := ofO_inv h7
      rw [e8] at h8
      obtain ⟨o9, oa, h9, ha, v5, s5, d5⟩ := bind_inv h8
      obtain ⟨e9, ea⟩ := rdF_inv h9
      rw [ea] at ha
      obtain ⟨ob, oc, hb, hc, v6, s6, d6⟩ := bind_inv ha
      obtain ⟨eb, ec⟩ := ofO_inv hb
      rw [ec] at hc
      obtain ⟨od, oe, hd, he, v7, s7, d7⟩ := bind_inv hc
      obtain ⟨ed, ee⟩ := ofO_inv hd
      rw [ee] at he
      obtain ⟨of, og, hff, hg, v8, s8, d8⟩ := bind_inv he
      obtain ⟨ef, eg⟩ := guardM_inv hff
      rw [eg] at hg
      obtain ⟨oh, oi, hh, hi, v9, s9, d9⟩ := bind_inv hg
      obtain ⟨eh, ei⟩ := freshA_inv hh
      rw [ei] at hi
      obtain ⟨oj, ok, hj, hk', va, sa, da⟩ := bind_inv hi
      have ej := wrA_inv' hj
      rw [ej] at hk'
      obtain ⟨ol, om, hl, hm, vb, sb, db⟩ := bind_inv hk'
      have hwl : o3.val < st.nt ∧ ol.st = { st with slots := (o3.val, .c (.ref (base, 1) (ob.val.R od.val.1).length)) :: st.slots, arrs := ((base, 1), some ⟨false, 1, (ob.val.R od.val.1).length, rowG (ob.val.R od.val.1)⟩) :: st.arrs } := by
        unfold wrS at hl
        cases hb' : Nat.blt o3.val st.nt with
        | true => 
          have : (bif Nat.blt o3.val st.nt then _ else none) = some ol := hl
          rw [hb'] at this; obtain rfl := Option.some.inj this; exact ⟨by simpa using hb', rfl⟩
        | false => 
          have : (bif Nat.blt o3.val st.nt then _ else none) = some ol := hl
          rw [hb'] at this; cases this
      rw [hwl.2] at hm
      obtain ⟨on, oo, hn, ho, vc, sc, dc⟩ := bind_inv hm
      obtain ⟨op, oq, hp, hq, vd, sd, dd⟩ := bind_inv ho
      obtain ⟨ep, eq⟩ := ofO_inv hp
      rw [eq] at hq
      obtain ⟨or, os, hr', hs', ve, se, de⟩ := bind_inv hq
      obtain ⟨er, es⟩ := liveA_inv hr'
      rw [es] at hs'
      obtain ⟨ot, ou, ht, hu, vf, sf, df⟩ := bind_inv hs'
      obtain ⟨et, eu⟩ := guardM_inv ht
      rw [eu] at hu
      obtain ⟨ov, ow, hv, hw, vg, sg, dg⟩ := bind_inv hu
      obtain ⟨ev, ew⟩ := need_inv hv
      rw [ev] at hw
      obtain ⟨ox, oy, hx, hy, vh, sh, dh⟩ := bind_inv hw
      have ex := wrA_inv' hx
      rw [ex] at hy
      obtain ⟨oz, o0, hz, h0, vi, si, di⟩ := bind_inv hy
      have ez := wrF_inv hz
      rw [ez] at h0
      have hst : out.st = o0.st := by rw [s1, s2, s3, s4, s5, s6, s7, s8, s9, sa, sb, sc, sd, se, sf, sg, sh, si]
      have ds := dc (db (da (d9 (d8 (d7 (d6 (d5 (d4 (d3 (d2 (d1 hs).2).2).2).2).2).2).2).2).2).2).2
      have dn := (dg (df (de (dd ds.2).2).2).2).1
      rw [ew] at dn
      simp only [Bool.and_eq_true, Bool.not_eq_true'] at et
      have hnc : isFuncCall o.op = false := by
        rw [hop]
        unfold apO at e3
        split at e3
        · rename_i b hcal; simp [isFuncCall, hcal]
        · cases e3
      have hld := ldQ_inv ed
      rw [Nat.eq_of_beq_eq_true ef] at hld
      rw [dn.1] at ep

      obtain ⟨u, w', x1, I', ι', q1, q2⟩ := fam_ap hT hnc (by rw [← e9]; exact eb) hld (by rw [← e5]; exact rowO_inv e7) (Nat.ne_of_lt hwl.1) eh hn ds.1 ep er (Nat.eq_of_beq_eq_true et.1) et.2 dn.2.1 dn.2.2 (by rw [← e1]; exact h0) hr hf
      refine upon_value x1 (hk _ _ ⟨_, rfl⟩ ?_)
      rw [hst, e1]; exact ⟨_, _, q1, q2⟩
    | _ => rw [hop] at h; exact (fail_inv h).elim
  | st =>
    cases hop : o.op with
    | store t p x =>
      rw [hop] at h; simp only at h
      obtain ⟨o1, o2, h1, h2, v1, s1, d1⟩ := bind_inv h
      obtain ⟨e1, e2⟩ := ofO_inv h1
      rw [e2] at h2
      obtain ⟨o3, o4, h3, h4, v2, s2, d2⟩ := bind_inv h2
      obtain ⟨e3, e4⟩ := rdS_inv h3
      rw [e4] at h4
      obtain ⟨o5, o6, h5, h6, v3, s3, d3⟩ := bind_inv h4
      obtain ⟨e5, e6⟩ := ofO_inv h5
      rw [e6] at h6
      obtain ⟨o7, o8, h7, h8, v4, s4, d4⟩ := bind_inv h6
      obtain ⟨e7, e8⟩ := ofO_inv h7
      rw [e8] at h8
      obtain ⟨o9, oa, h9, ha, v5, s5, d5⟩ := bind_inv h8
      obtain ⟨e9, ea⟩ := rdS_inv h9
      rw [ea] at ha
      obtain ⟨ob, oc, hb, hc, v6, s6, d6⟩ := bind_inv ha
      obtain ⟨eb, ec⟩ := ofO_inv hb
      rw [ec] at hc
      obtain ⟨od, oe, hd, he, v7, s7, d7⟩ := bind_inv hc
      obtain ⟨ed, ee⟩ := ti_inv hd
      rw [ee] at he
      obtain ⟨of, og, hff, hg, v8, s8, d8⟩ := bind_inv he
      obtain ⟨ef, eg⟩ := rdF_inv hff
      rw [eg] at hg
      obtain ⟨oh, oi, hh, hi, v9, s9, d9⟩ := bind_inv hg
      obtain ⟨eh, ei⟩ := ofO_inv hh
      rw [ei] at hi
      obtain ⟨oj, ok, hj, hk', va, sa, da⟩ := bind_inv hi
      obtain ⟨ej, ek⟩ := ofO_inv hj
      rw [ek] at hk'
      obtain ⟨ol, om, hl, hm, vb, sb, db⟩ := bind_inv hk'
      obtain ⟨el, em⟩ := guardM_inv hl
      rw [em] at hm
      obtain ⟨on, oo, hn, ho, vc, sc, dc⟩ := bind_inv hm
      obtain ⟨en, eo⟩ := need_inv hn
      rw [en] at ho
      obtain ⟨op, oq, hp, hq, vd, sd, dd⟩ := bind_inv ho
      obtain ⟨ep, eq⟩ := freshA_inv hp
      rw [eq] at hq
      obtain ⟨or, os, hr', hs', ve, se, de⟩ := bind_inv hq
      have er := wrA_inv' hr'
      rw [er] at hs'
      obtain ⟨ot, ou, ht, hu, vf, sf, df⟩ := bind_inv hs'
      have et := wrF_inv ht
      rw [et] at hu
      have hst : out.st = ou.st := by rw [s1, s2, s3, s4, s5, s6, s7, s8, s9, sa, sb, sc, sd, se, sf]
      have dn := (dc (db (da (d9 (d8 (d7 (d6 (d5 (d4 (d3 (d2 (d1 hs).2).2).2).2).2).2).2).2).2).2).2).1
      rw [eo] at dn
      simp only [Bool.and_eq_true] at el
      have hpd := pdQ_inv ej
      rw [Nat.eq_of_beq_eq_true el.1] at hpd
      obtain ⟨w', x1, I', ι', q1, q2⟩ := fam_st hT ed el.2 (by rw [← ef]; exact eh) hpd (by rw [← e3, ← dn]; exact atO_inv e5) (by rw [← e9]; exact pendO_inv eb) ep hu hr hf
      refine upon_skip (w' := w') ?_ (hk _ _ ⟨_, rfl⟩ ?_)
      · have : execOp a.eval o = (do Instr.storeAt t (a.eval p) (a.eval x); pure .skip) := by rw [execOp, hop]
        rw [this, tmpO_inv e1 a, tmpO_inv e7 a]
        simp only [Sem.run_bind, x1, Result.andThen_ok, Sem.run_pure]
      · rw [hst]; exact ⟨_, _, q1, q2⟩
    | _ => rw [hop] at h; exact (fail_inv h).elim

theorem evAny_ok (hT : TabOk P T) (hK : ∀ f a r p, K f a r p → FnOk P f a r p) {hh : Hints} {base idx : Nat} {o : Oper} {out : Out Unit}
    (h : evAny P T K hh base idx o st = some out) (hs : out.side) {a : Act} (hr : RelI X I ι st a.tmps w) (hf : FamI X I ι st a.tmps w) {next : Act → World → Prop} {Q : Exit → Act → World → Prop}
    (hk : ∀ a' w', (∃ u, a' = a.put o.dst u) → Rel X out.st a'.tmps w' → next a' w') : o.wp P a w next Q := by
  unfold evAny at h
  cases hq : famHO (lookN idx hh) with
  | some f => rw [hq] at h; exact evFam_ok hT h hs hr hf hk
  | none => rw [hq] at h; exact evRun_Rel hT hK h hs hr hf hk

/-- An operation is passed by. -/
theorem skip_ok {d : Option Tmp} {out : Out Unit} (h : putDst d (.tup []) st = some out) {a : Act} (hr : RelI X I ι st a.tmps w) (hf : FamI X I ι st a.tmps w) : (a.put d undef).defers = a.defers ∧ Rel X out.st (a.put d undef).tmps w := by
  have hp := putDst_ok h hr (u := undef) (show Rs w I ι _ _ (.tup []) undef from ⟨#[], rfl, fun j y hy => by simp at hy⟩)
  refine ⟨hp.1, I, ι, hp.2, ?_⟩
  rcases putDst_inv h with ⟨rfl, e⟩ | ⟨i, rfl, hi, e⟩
  · rw [e]; exact hf
  · rw [e]
    have hnt : ({ st with slots := (i, .tup []) :: st.slots } : St).slot st.nt = st.slot st.nt := by rw [slot_cons, if_neg (Nat.ne_of_gt hi)]
    have hsl : ∀ j x, ({ st with slots := (i, .tup []) :: st.slots } : St).slot j = .sp x → st.slot j = .sp x ∧ (a.tmps.setIfInBounds i undef).getD j undef = a.tmps.getD j undef := by
      intro j x hx
      rw [slot_cons] at hx
      split at hx
      · cases hx
      · rename_i e'; exact ⟨hx, getD_put e'⟩
    cases hF : famO (st.slot st.nt) with
    | some F =>
      obtain ⟨h, pv, L, f1, f2⟩ := hf.get hF
      refine FamI.of (F := F) (by show famO (St.slot _ st.nt) = _; rw [hnt]; exact hF) (f1.slots _) fun j x hx => ?_
      obtain ⟨q1, q2⟩ := hsl j x hx
      show SpOk F h pv L j x ((a.tmps.setIfInBounds i undef).getD j undef)
      rw [q2]; exact f2 j x q1
    | none =>
      unfold FamI at hf ⊢
      rw [hF] at hf
      show match famO (({ st with slots := (i, .tup []) :: st.slots } : St).slot st.nt) with | some F => _ | none => ∀ i' x, _
      rw [hnt, hF]
      exact fun j x hx => hf j x (hsl j x hx).1

/-! ### in a round, too -/
abbrev FW (r : Option Nat) : Fence := { fn := fun _ => True, depth := none, alive := false, round := r }
theorem calls_FW {r : Option Nat} {n : Nat} {f : FuncId} {args : Array Value} {R : Ending → World → Prop} (h : Calls P f args w R) : CallsIn (FW r) n P f args w R :=
  ⟨trivial, fun cs _ => let ⟨e, w', fr, q, s, x⟩ := h cs; ⟨e, w', fr, q, comesIn_wide.2 s, x⟩⟩
theorem rows_FW {r : Option Nat} {n : Nat} {row : String} {args : Array Value} {R : Value → World → Prop} (h : Rows P row args w R) : RowsIn (FW r) n P row args w R :=
  fun c cs _ => let ⟨v, w', q, s⟩ := h c cs; ⟨v, w', q, stepsIn_wide.2 s⟩
theorem wp_In {r : Option Nat} {n : Nat} {o : Oper} {a : Act} {next : Act → World → Prop} {Q : Exit → Act → World → Prop} (hd : ∀ c, o.op ≠ .defer c) (h : o.wp P a w next Q) : o.wpIn (FW r) n P a w next Q := by
  refine ⟨fun _ _ => trivial, ?_⟩
  rw [Oper.semAt_eq r _ o hd]
  unfold Oper.wp at h
  generalize (execOp a.eval o).run P w = z at h ⊢
  cases z with
  | ok x w' =>
    cases x <;> first
      | exact h
      | exact ⟨fun h' => absurd h' (by simp), calls_FW h⟩
      | exact ⟨fun h' => absurd h' (by simp), rows_FW h⟩
      | exact h.elim
  | halt x w' => cases x <;> first | exact h | exact h.elim
theorem evAny_nodefer {hh : Hints} {base idx : Nat} {o : Oper} {out : Out Unit} (h : evAny P T K hh base idx o st = some out) : ∀ c, o.op ≠ .defer c := by
  intro c hc
  unfold evAny at h
  cases hq : famHO (lookN idx hh) with
  | some f =>
    rw [hq] at h
    simp only at h
    unfold evFam at h
    rw [hc] at h
    cases f <;> exact (fail_inv h).elim
  | none =>
    rw [hq] at h
    simp only at h
    unfold evRun at h
    obtain ⟨o1, o2, h1, h2, v1, s1, d1⟩ := bind_inv h
    obtain ⟨h3, _, _⟩ := slotFree_inv (local_evVal _ _ _ _ _ _ _) h1
    unfold evVal at h3
    rw [hc] at h3
    exact (fail_inv h3).elim

theorem evOp_ok {r : Option Nat} {n : Nat} (hT : TabOk P T) (hK : ∀ f a r p, K f a r p → FnOk P f a r p) {hh : Hints} {base idx : Nat} {o : Oper} {out : Out Unit} (hi : ops[idx]? = some o)
    (h : evOp P T K hh ops base idx o st = some out) (hs : out.side) {a : Act} (hr : Rel X st a.tmps w) {next : Act → World → Prop} {Q : Exit → Act → World → Prop}
    (hk : ∀ a' w', (∃ u, a' = a.put o.dst u) → Rel X out.st a'.tmps w' → next a' w') : wpOpIn (FW r) n P ops Q idx next a w := by
  obtain ⟨I, ι, hr, hf⟩ := hr
  unfold wpOpIn
  rw [hi]
  simp only
  unfold evOp at h
  unfold Region.wanted
  cases hg : o.guard with
  | none =>
    rw [hg] at h
    simp only [if_true]
    exact wp_In (evAny_nodefer h) (evAny_ok hT hK h hs hr hf hk)
  | some gw =>
    obtain ⟨j, want⟩ := gw
    rw [hg] at h
    simp only at h
    obtain ⟨o1, o2, h1, h2, v1, s1, d1⟩ := bind_inv h
    obtain ⟨e1, e2⟩ := ofO_inv h1
    rw [e2] at h2
    obtain ⟨o3, o4, h3, h4, v3, s3, d3⟩ := bind_inv h2
    obtain ⟨e3, e4⟩ := rdS_inv h3
    rw [e3, e4] at h4
    rw [cond_app] at h4
    rcases cond_inv' h4 with ⟨q0, h4⟩ | ⟨_, h4⟩
    · have hyn : yielded ops a.tmps j = none := by
        unfold yielded
        rw [e1]
        simp only [Option.bind_some]
        cases hx : st.slot o1.val with
        | tup ss =>
          have hsl := hr.slots o1.val
          rw [hx] at hsl
          obtain ⟨us, hu, _⟩ := hsl
          have hb' : (a.tmps[o1.val]?).getD undef = .tuple us := by simpa [Array.getD_eq_getD_getElem?] using hu
          cases hq : a.tmps[o1.val]? with
          | none => rfl
          | some x => rw [hq] at hb'; simp at hb'; rw [hb']
        | _ => rw [hx] at q0; cases q0
      have : ¬ (yielded ops a.tmps j == some want) = true := by rw [hyn]; simp
      simp only
      rw [if_neg this]
      have hst : out.st = o4.st := by rw [s1, s3]
      rw [hst] at hk
      have hp := skip_ok h4 hr hf
      exact ⟨fun _ _ => trivial, hk _ _ ⟨_, rfl⟩ hp.2⟩
    obtain ⟨o5, o6, h5, h6, v5, s5, d5⟩ := bind_inv h4
    obtain ⟨e5, e6⟩ := ofO_inv h5
    rw [e6] at h6
    obtain ⟨o7, o8, h7, h8, v7, s7, d7⟩ := bind_inv h6
    obtain ⟨e7, e8⟩ := ofO_inv h7
    rw [e8] at h8
    obtain ⟨o9, o10, h9, h10, v9, s9, d9⟩ := bind_inv h8
    obtain ⟨e9, e10⟩ := need_inv h9
    rw [e9] at h10
    have hd9 := d9 (d7 (d5 (d3 (d1 hs).2).2).2).2
    rw [e10] at hd9
    have hb := boolO_inv e5 (hr.slots o1.val)
    have hst : out.st = o10.st := by rw [s1, s3, s5, s7, s9]
    rw [hst] at hk
    have hy : yielded ops a.tmps j = some o5.val := by
      unfold yielded
      rw [e1]
      simp only [Option.bind_some]
      have hb' : (a.tmps[o1.val]?).getD undef = .bool o5.val := by simpa [Array.getD_eq_getD_getElem?] using hb
      cases hx : a.tmps[o1.val]? with
      | none => rw [hx] at hb'; simp [undef] at hb'
      | some x => rw [hx] at hb'; simp at hb'; rw [hb']
    simp only [hy]
    rw [cond_app] at h10
    rcases cond_inv' h10 with ⟨q1, q2⟩ | ⟨q1, q2⟩
    · have : (some o5.val == some want) = true := by rw [hd9.1]; simpa using q1
      rw [if_pos this]
      exact wp_In (evAny_nodefer q2) (evAny_ok hT hK q2 hd9.2 hr hf hk)
    · have : ¬ (some o5.val == some want) = true := by rw [hd9.1]; simpa using q1
      rw [if_neg this]
      have hp := skip_ok q2 hr hf
      exact ⟨fun _ _ => trivial, hk _ _ ⟨_, rfl⟩ hp.2⟩

end
end Go.Ev
namespace Go.Ev
open Go Go.RowKit
set_option linter.unusedVariables false

theorem St.slot_get (a b : St) (i : Nat) (h : a.get (.s i) = b.get (.s i)) : a.slot i = b.slot i := by simpa [St.get] using h
theorem Sim.slot {a b : St} (h : Sim a b) (i : Nat) : a.slot i = b.slot i := by have := h.2 (.s i); simpa [St.get] using this
theorem Sim.var {a b : St} (h : Sim a b) : a.var = b.var := funext fun m => by have := h.2 (.v m); simpa [St.get] using this
theorem Sim.arr {a b : St} (h : Sim a b) : a.arr = b.arr := funext fun m => by have := h.2 (.a m); simpa [St.get] using this
theorem Sim.refl (a : St) : Sim a a := ⟨rfl, fun _ => rfl⟩
theorem Sim.symm {a b : St} (h : Sim a b) : Sim b a := ⟨h.1.symm, fun k => (h.2 k).symm⟩
theorem Sim.trans {a b c : St} (h : Sim a b) (k : Sim b c) : Sim a c := ⟨h.1.trans k.1, fun x => (h.2 x).trans (k.2 x)⟩
theorem Rel.sim {X : Ctx} {a b : St} {tm : Array Value} {w : World} (h : Rel X a tm w) (s : Sim a b) : Rel X b tm w := by
  obtain ⟨I, ι, h, hf⟩ := h
  refine ⟨I, ι, ⟨by rw [← s.1]; exact h.size, fun i => ?_, ?_, ?_, h.inI, ?_, ?_, ?_, h.fr, ?_⟩, ?_⟩
  · rw [← s.slot, ← s.var, ← s.arr]; exact h.slots i
  · rw [← s.var, ← s.arr]; exact h.vars
  · rw [← s.arr]; exact h.arrs
  · rw [← s.var]; exact h.vv
  · rw [← s.var, ← s.arr]; exact h.va
  · rw [← s.arr]; exact h.aa
  · rw [← s.var]; exact h.pin
  · have hs : ∀ i, b.slot i = a.slot i := fun i => (s.slot i).symm
    have hu : ∀ k, Unused a ι k → Unused b ι k := by
      intro k hk
      unfold Unused at hk ⊢
      rw [← s.var, ← s.arr]; exact hk
    cases hF : famO (a.slot a.nt) with
    | some F =>
      obtain ⟨h', pv, L, f1, f2⟩ := hf.get hF
      refine FamI.of (F := F) (by rw [← s.1, hs]; exact hF) ⟨f1.arr, fun x A k c hA hL => hu k (f1.un x A k c hA hL), f1.ap, f1.row, f1.fl, f1.pend⟩ fun i x hx => ?_
      rw [hs] at hx; exact f2 i x hx
    | none =>
      unfold FamI at hf ⊢
      rw [← s.1, hs]
      rw [hF] at hf ⊢
      exact fun i x hx => hf i x (by rw [← hs]; exact hx)

abbrev FP := Nat × Nat
/-- A key as one bit of a number: two keys may share one. -/
def keyBit (md : Nat) : Key → Nat
  | .s i => 2 ^ (2 * i)
  | .v m => 2 ^ (2 * ((m.1 * 8 + m.2) % md) + 1)
  | .a m => 2 ^ (2 * ((m.1 * 8 + m.2 + 1) % md) + 1)
def maskK (md : Nat) : List Key → Nat
  | [] => 0
  | k :: r => keyBit md k ||| maskK md r

theorem keyBit_bit (md : Nat) (k : Key) : ∃ i, (keyBit md k).testBit i = true := by
  cases k <;> exact ⟨_, Nat.testBit_two_pow_self⟩
theorem mem_maskK {md : Nat} {k : Key} {i : Nat} (hi : (keyBit md k).testBit i = true) : ∀ {l : List Key}, k ∈ l → (maskK md l).testBit i = true
  | x :: r, h => by
    simp only [maskK, Nat.testBit_or, Bool.or_eq_true]
    rcases List.mem_cons.mp h with rfl | h
    · exact .inl hi
    · exact .inr (mem_maskK hi h)
theorem apart_of_mask {md : Nat} {a b : List Key} (h : maskK md a &&& maskK md b = 0) : ∀ k ∈ a, k ∉ b := by
  intro k ha hb
  obtain ⟨i, hi⟩ := keyBit_bit md k
  have : (maskK md a &&& maskK md b).testBit i = true := by
    rw [Nat.testBit_and, mem_maskK hi ha, mem_maskK hi hb]; rfl
  rw [h] at this
  simp at this

structure Tr where
  st : St
  needs : List Prop
  fp : List FP

section
variable (P : Program) (T : Tab) (K : Facts) (hh : Hints) (ops : Array Oper) (base md : Nat)
def evTr : Nat → List Oper → St → Option Tr
  | _, [], st => some ⟨st, [], []⟩
  | i, o :: r, st =>
    match evOp P T K hh ops base i o st with
    | none => none
    | some out =>
      match evTr (i + 1) r out.st with
      | none => none
      | some t => some ⟨t.st, out.needs ++ t.needs, (maskK md out.rd, maskK md out.wr) :: t.fp⟩

def evI (i : Nat) : M Unit := fun st =>
  match ops[i]? with
  | none => none
  | some o => evOp P T K hh ops base i o st
def evL : List Nat → St → Option Tr
  | [], st => some ⟨st, [], []⟩
  | i :: r, st =>
    match evI P T K hh ops base i st with
    | none => none
    | some out =>
      match evL r out.st with
      | none => none
      | some t => some ⟨t.st, out.needs ++ t.needs, (maskK md out.rd, maskK md out.wr) :: t.fp⟩
end

section
variable {P : Program} {T : Tab} {K : Facts} {hh : Hints} {ops : Array Oper} {base md : Nat}

theorem local_evI (i : Nat) : Local (evI P T K hh ops base i) := by
  intro st o h
  unfold evI at h
  cases ho : ops[i]? with
  | none => rw [ho] at h; cases h
  | some op =>
    rw [ho] at h
    have := local_evOp P T K hh ops base i op st o h
    unfold evI
    rw [ho]
    exact this

theorem evL_of_evTr : ∀ (l : List Oper) (i : Nat) (st : St) (t : Tr), (∀ j, l[j]? = ops[i + j]?) → evTr P T K hh ops base md i l st = some t → evL P T K hh ops base md (List.range' i l.length) st = some t := by
  intro l
  induction l with
  | nil => intro i st t _ h; exact h
  | cons o r ih =>
    intro i st t hl h
    have h0 := hl 0
    simp only [List.getElem?_cons_zero, Nat.add_zero] at h0
    rw [List.length_cons, List.range'_succ]
    unfold evTr at h
    unfold evL evI
    rw [← h0]
    simp only
    cases he : evOp P T K hh ops base i o st with
    | none => rw [he] at h; cases h
    | some out =>
      rw [he] at h
      simp only at h ⊢
      cases ht : evTr P T K hh ops base md (i + 1) r out.st with
      | none => rw [ht] at h; cases h
      | some t' =>
        rw [ht] at h
        rw [ih (i + 1) out.st t' (fun j => by have := hl (j + 1); rw [List.getElem?_cons_succ] at this; rw [this]; congr 1; omega) ht]
        exact h

theorem evL_cons {i : Nat} {r : List Nat} {st : St} {t : Tr} (h : evL P T K hh ops base md (i :: r) st = some t) :
    ∃ out t', evI P T K hh ops base i st = some out ∧ evL P T K hh ops base md r out.st = some t' ∧ t = ⟨t'.st, out.needs ++ t'.needs, (maskK md out.rd, maskK md out.wr) :: t'.fp⟩ := by
  unfold evL at h
  cases he : evI P T K hh ops base i st with
  | none => rw [he] at h; cases h
  | some out =>
    rw [he] at h
    simp only at h
    cases ht : evL P T K hh ops base md r out.st with
    | none => rw [ht] at h; cases h
    | some t' => rw [ht] at h; exact ⟨out, t', rfl, ht, (Option.some.inj h).symm⟩
theorem evL_mk {i : Nat} {r : List Nat} {st : St} {out : Out Unit} {t' : Tr} (h : evI P T K hh ops base i st = some out) (k : evL P T K hh ops base md r out.st = some t') :
    evL P T K hh ops base md (i :: r) st = some ⟨t'.st, out.needs ++ t'.needs, (maskK md out.rd, maskK md out.wr) :: t'.fp⟩ := by
  rw [evL, h]
  simp only
  rw [k]

theorem evL_sim : ∀ {l : List Nat} {st st' : St} {t : Tr}, evL P T K hh ops base md l st = some t → Sim st st' → ∃ t', evL P T K hh ops base md l st' = some t' ∧ t'.needs = t.needs ∧ t'.fp = t.fp ∧ Sim t.st t'.st := by
  intro l
  induction l with
  | nil =>
    intro st st' t h s
    obtain rfl := Option.some.inj h
    exact ⟨_, rfl, rfl, rfl, s⟩
  | cons i r ih =>
    intro st st' t h s
    obtain ⟨out, t1, h1, h2, rfl⟩ := evL_cons h
    obtain ⟨n1, k1, c1⟩ := local_evI i st out h1
    obtain ⟨o', ho', l1⟩ := c1 st' s.1.symm (fun k _ => (s.2 k).symm)
    have s1 : Sim out.st o'.st := by
      refine ⟨by rw [n1, l1.nt, s.1], fun k => ?_⟩
      by_cases hk : k ∈ out.wr
      · exact (l1.new k hk).symm
      · rw [l1.old k hk, k1 k hk, s.2 k]
    obtain ⟨t2, g1, g2, g3, g4⟩ := ih h2 s1
    exact ⟨_, evL_mk ho' g1, by simp only [l1.side, g2], by simp only [l1.rd, l1.wr, g3], g4⟩

def Free (x y : FP) : Prop := x.2 &&& y.1 = 0 ∧ x.2 &&& y.2 = 0 ∧ x.1 &&& y.2 = 0

/-- Two that do not touch each other, the other way round. -/
theorem evL_swap {i j : Nat} {r : List Nat} {st : St} {x y : FP} {f : List FP} {t : Tr} (h : evL P T K hh ops base md (i :: j :: r) st = some t) (hf : t.fp = x :: y :: f) (hxy : Free x y) :
    ∃ t', evL P T K hh ops base md (j :: i :: r) st = some t' ∧ (All t'.needs ↔ All t.needs) ∧ t'.fp = y :: x :: f ∧ Sim t.st t'.st := by
  obtain ⟨o1, t1, h1, h2, rfl⟩ := evL_cons h
  obtain ⟨o2, t2, h3, h4, rfl⟩ := evL_cons h2
  simp only [List.cons.injEq] at hf
  obtain ⟨hx, hy, hf⟩ := hf
  subst hx hy
  obtain ⟨p1, p2, p3⟩ := hxy
  have q1 := apart_of_mask p1
  have q2 := apart_of_mask p2
  have q3 := apart_of_mask p3
  obtain ⟨n1, k1, c1⟩ := local_evI i st o1 h1
  obtain ⟨n2, k2, c2⟩ := local_evI j o1.st o2 h3
  obtain ⟨u2, hu2, l2⟩ := c2 st n1.symm (fun k hk => (k1 k (fun hw => q1 k hw hk)).symm)
  obtain ⟨m2, b2, _⟩ := local_evI j st u2 hu2
  have hst : ∀ k ∈ o1.rd, u2.st.get k = st.get k := fun k hk => b2 k (by rw [l2.wr]; exact q3 k hk)
  obtain ⟨u1, hu1, l1⟩ := c1 u2.st m2 hst
  have s : Sim o2.st u1.st := by
    refine ⟨by rw [n2, l1.nt, m2, n1], fun k => ?_⟩
    by_cases ha : k ∈ o1.wr
    · rw [l1.new k ha, k2 k (q2 k ha)]
    · rw [l1.old k ha]
      by_cases hb : k ∈ o2.wr
      · exact (l2.new k hb).symm
      · rw [k2 k hb, k1 k ha, b2 k (by rw [l2.wr]; exact hb)]
  obtain ⟨t3, g1, g2, g3, g4⟩ := evL_sim h4 s
  refine ⟨_, evL_mk hu2 (evL_mk hu1 g1), ?_, ?_, g4⟩
  · simp only [all_append, l1.side, l2.side, g2]
    exact ⟨fun ⟨a, b, c⟩ => ⟨b, a, c⟩, fun ⟨a, b, c⟩ => ⟨b, a, c⟩⟩
  · simp only [l1.rd, l1.wr, l2.rd, l2.wr, g3, hf]

/-- One that touches none of those ahead of it goes first. -/
theorem evL_first {F : Nat → FP} {i : Nat} {post : List Nat} : ∀ {pre : List Nat} {st : St} {t : Tr}, evL P T K hh ops base md (pre ++ i :: post) st = some t → t.fp = (pre ++ i :: post).map F → (∀ k ∈ pre, Free (F k) (F i)) →
    ∃ t', evL P T K hh ops base md (i :: (pre ++ post)) st = some t' ∧ (All t'.needs ↔ All t.needs) ∧ t'.fp = (i :: (pre ++ post)).map F ∧ Sim t.st t'.st := by
  intro pre
  induction pre with
  | nil => intro st t h hf _; exact ⟨t, h, Iff.rfl, hf, Sim.refl _⟩
  | cons k pre ih =>
    intro st t h hf hd
    obtain ⟨o1, t1, h1, h2, rfl⟩ := evL_cons (i := k) (r := pre ++ i :: post) h
    simp only [List.cons_append, List.map_cons, List.cons.injEq] at hf
    obtain ⟨t2, g1, g2, g3, g4⟩ := ih h2 hf.2 (fun x hx => hd x (List.mem_cons_of_mem _ hx))
    have h3 := evL_mk h1 g1
    obtain ⟨t4, e1, e2, e3, e4⟩ := evL_swap h3 (x := F k) (y := F i) (f := (pre ++ post).map F) (by simp only [g3, hf.1, List.map_cons]) (hd k List.mem_cons_self)
    refine ⟨t4, e1, ?_, by rw [e3]; rfl, g4.trans e4⟩
    rw [e2]
    simp only [all_append, g2]

/-! ### the order's check -/
def mask1 (acc : List Nat) (es : List Edge) : Nat :=
  match es with
  | [] => 0
  | e :: r => bif Region.binds .any e then (2 ^ e.on ||| acc.getD e.on 0) ||| mask1 acc r else mask1 acc r
def masks : List Oper → List Nat → List Nat
  | [], acc => acc
  | o :: r, acc => masks r (acc ++ [mask1 acc o.after.toList])

def okPair (m : Nat) (k : Nat) (x y : FP) : Bool := m.testBit k || ((x.2 &&& (y.1 ||| y.2)) == 0 && (x.1 &&& y.2) == 0)
def okRow (m : Nat) (y : FP) : Nat → List FP → Bool
  | _, [] => true
  | k, x :: r => okPair m k x y && okRow m y (k + 1) r
def okRows : List Nat → List FP → List FP → Bool
  | m :: ms, acc, y :: r => okRow m y 0 acc && okRows ms (acc ++ [y]) r
  | [], _, [] => true
  | _, _, _ => false
def okEdges : Nat → List Oper → Bool
  | _, [] => true
  | i, o :: r => (o.after.toList.all fun e => !(Region.binds .any e) || Nat.blt e.on i) && okEdges (i + 1) r
def ordered (ops : List Oper) (fp : List FP) : Bool := okEdges 0 ops && okRows (masks ops []) [] fp

theorem okPair_free {m k : Nat} {x y : FP} (h : okPair m k x y = true) (hm : m.testBit k = false) : Free x y := by
  simp only [okPair, hm, Bool.false_or, Bool.and_eq_true, beq_iff_eq] at h
  obtain ⟨h1, h2⟩ := h
  rw [Nat.and_or_distrib_left] at h1
  have := Nat.or_eq_zero_iff.mp h1
  exact ⟨this.1, this.2, h2⟩
theorem okRow_spec {m : Nat} {y : FP} : ∀ {l : List FP} {k : Nat}, okRow m y k l = true → ∀ (j : Nat) x, l[j]? = some x → okPair m (k + j) x y = true
  | x :: r, k, h, 0, z, hz => by
    simp only [okRow, Bool.and_eq_true] at h
    obtain rfl : x = z := by simpa using hz
    exact h.1
  | x :: r, k, h, j + 1, z, hz => by
    simp only [okRow, Bool.and_eq_true] at h
    have := okRow_spec h.2 j z (by simpa using hz)
    rw [show k + (j + 1) = k + 1 + j by omega]
    exact this
theorem okRows_spec : ∀ {ms : List Nat} {acc l : List FP}, okRows ms acc l = true → ms.length = l.length ∧ ∀ (i k : Nat) m x y, ms[i]? = some m → l[i]? = some y → k < acc.length + i → (acc ++ l)[k]? = some x → okPair m k x y = true
  | [], acc, [], _ => ⟨rfl, fun i k m x y h => by simp at h⟩
  | [], acc, _ :: _, h => by simp [okRows] at h
  | _ :: _, acc, [], h => by simp [okRows] at h
  | m :: ms, acc, y :: r, h => by
    simp only [okRows, Bool.and_eq_true] at h
    obtain ⟨i1, i2⟩ := okRows_spec h.2
    refine ⟨by simp [i1], fun i k m' x y' hm hy hk hx => ?_⟩
    cases i with
    | zero =>
      obtain rfl : m = m' := by simpa using hm
      obtain rfl : y = y' := by simpa using hy
      have := okRow_spec h.1 k x (by rw [List.getElem?_append_left (by simpa using hk)] at hx; exact hx)
      simpa using this
    | succ i =>
      refine i2 i k m' x y' (by simpa using hm) (by simpa using hy) ?_ ?_
      · simp; omega
      · rw [List.append_assoc]; exact hx

def Closed (ops : Array Oper) (L : Array Bool) : Prop := ∀ (i : Nat) o, ops[i]? = some o → L.getD i true = true → ∀ e ∈ o.after, Region.binds .any e = true → L.getD e.on false = true

theorem mask1_spec {acc : List Nat} {k : Nat} : ∀ {es : List Edge}, (mask1 acc es).testBit k = true → ∃ e ∈ es, Region.binds .any e = true ∧ (k = e.on ∨ (acc.getD e.on 0).testBit k = true)
  | [], h => by simp [mask1] at h
  | e :: r, h => by
    unfold mask1 at h
    cases hb : Region.binds .any e with
    | false =>
      rw [hb] at h
      obtain ⟨e', h1, h2⟩ := mask1_spec (es := r) h
      exact ⟨e', List.mem_cons_of_mem _ h1, h2⟩
    | true =>
      rw [hb] at h
      simp only [cond_true, Nat.testBit_or, Bool.or_eq_true] at h
      rcases h with (h | h) | h
      · exact ⟨e, List.mem_cons_self, hb, .inl (by have := Nat.testBit_two_pow (n := e.on) (m := k); rw [h] at this; simpa using this.symm |> fun q => (of_decide_eq_true q).symm)⟩
      · exact ⟨e, List.mem_cons_self, hb, .inr h⟩
      · obtain ⟨e', h1, h2⟩ := mask1_spec h
        exact ⟨e', List.mem_cons_of_mem _ h1, h2⟩

/-- Who is in the mask is listed ere the operation is ready. -/
def MaskOk (ops : Array Oper) (acc : List Nat) : Prop := ∀ (i : Nat) m o k L, acc[i]? = some m → ops[i]? = some o → m.testBit k = true → Closed ops L →
  (∀ e ∈ o.after, Region.binds .any e = true → L.getD e.on false = true) → L.size = ops.size → L.getD k false = true

theorem getD_tf {L : Array Bool} {i : Nat} (h : L.getD i false = true) : L.getD i true = true := by
  rcases Nat.lt_or_ge i L.size with h' | h'
  · simpa [Array.getD, h'] using h
  · simp [Array.getElem?_eq_none h']

theorem masks_spec : ∀ (l : List Oper) (acc : List Nat), (∀ j, l[j]? = ops[acc.length + j]?) → MaskOk ops acc → MaskOk ops (masks l acc) := by
  intro l
  induction l with
  | nil => intro acc _ h; exact h
  | cons o r ih =>
    intro acc hl h
    unfold masks
    refine ih _ (fun j => ?_) ?_
    · have := hl (j + 1)
      rw [List.getElem?_cons_succ] at this
      rw [this]
      congr 1
      simp; omega
    · intro i m o' k L hm ho hk hc hd hsz
      rcases Nat.lt_or_ge i acc.length with hlt | hge
      · rw [List.getElem?_append_left hlt] at hm
        exact h i m o' k L hm ho hk hc hd hsz
      · rw [List.getElem?_append_right hge] at hm
        have hi : i = acc.length := by
          rcases Nat.lt_or_ge (i - acc.length) 1 with h1 | h1
          · omega
          · rw [List.getElem?_eq_none (by simpa using h1)] at hm; cases hm
        subst hi
        simp only [Nat.sub_self, List.getElem?_cons_zero, Option.some.injEq] at hm
        subst hm
        have h0 := hl 0
        simp only [List.getElem?_cons_zero, Nat.add_zero] at h0
        rw [ho] at h0
        obtain rfl := Option.some.inj h0
        obtain ⟨e, he, hb, hx⟩ := mask1_spec hk
        have hle := hd e (by simpa using he) hb
        rcases hx with rfl | hx
        · exact hle
        · rw [List.getD_eq_getElem?_getD] at hx
          cases ha : acc[e.on]? with
          | none => rw [ha] at hx; simp at hx
          | some me =>
            rw [ha] at hx
            have hlt : e.on < ops.size := by
              rcases Nat.lt_or_ge e.on ops.size with h1 | h1
              · exact h1
              · rw [Array.getD_eq_getD_getElem?, Array.getElem?_eq_none (by omega)] at hle; simp at hle
            exact h e.on me ops[e.on] k L ha (Array.getElem?_eq_getElem hlt) hx hc (hc e.on _ (Array.getElem?_eq_getElem hlt) (getD_tf hle)) hsz

theorem okEdges_spec : ∀ (l : List Oper) (i : Nat), okEdges i l = true → ∀ (j : Nat) o, l[j]? = some o → ∀ e ∈ o.after, Region.binds .any e = true → e.on < i + j := by
  intro l
  induction l with
  | nil => intro i _ j o ho; simp at ho
  | cons o r ih =>
    intro i h j o' ho e he hb
    rw [okEdges, Bool.and_eq_true, List.all_eq_true] at h
    cases j with
    | zero =>
      obtain rfl : o = o' := by simpa using ho
      have := h.1 e (by simpa using he)
      rw [hb, Bool.not_true, Bool.false_or] at this
      exact Nat.le_of_ble_eq_true this
    | succ j =>
      have := ih (i + 1) h.2 j o' (by simpa using ho) e he hb
      omega
end
end Go.Ev
namespace Go.Ev
open Go Go.RowKit
set_option linter.unusedVariables false

def evReg (mixed : Bool) (P : Program) (T : Tab) (K : Facts) (hh : Hints) (ops : Array Oper) (base md : Nat) (st : St) : Option (St × List Prop) :=
  match evTr P T K hh ops base md 0 ops.toList st with
  | none => none
  | some t => bif !mixed || ordered ops.toList t.fp then some (t.st, t.needs) else none

/-- What operations leave of a frame: its deferred calls, and the slots that none of them writes. -/
def Same (ops : Array Oper) (a0 a : Act) : Prop := a.defers = a0.defers ∧ ∀ i : Nat, (∀ (j : Nat) o, ops[j]? = some o → o.dst ≠ some i) → a.tmps.getD i undef = a0.tmps.getD i undef
theorem Same.refl (ops : Array Oper) (a : Act) : Same ops a a := ⟨rfl, fun _ _ => rfl⟩
theorem Same.put {ops : Array Oper} {a0 a a' : Act} {j : Nat} {o : Oper} (h : Same ops a0 a) (ho : ops[j]? = some o) (e : ∃ u, a' = a.put o.dst u) : Same ops a0 a' := by
  obtain ⟨u, rfl⟩ := e
  refine ⟨(defers_put a o.dst u).trans h.1, fun i hi => ?_⟩
  rw [← h.2 i hi]
  have hne := hi j o ho
  cases hd : o.dst with
  | none => rfl
  | some d =>
    have : d ≠ i := fun e => hne (by rw [hd, e])
    exact getD_put (Ne.symm this)

section
variable {X : Ctx} {P : Program} {T : Tab} {K : Facts} {hh : Hints} {ops : Array Oper} {base md : Nat} {Q : Exit → Act → World → Prop} {r' : Option Nat} {n' : Nat}

theorem evL_text (hT : TabOk P T) (hK : ∀ f a r p, K f a r p → FnOk P f a r p) {a0 : Act} : ∀ {l : List Nat} {st : St} {t : Tr} {a : Act} {w : World}, evL P T K hh ops base md l st = some t → All t.needs → Rel X st a.tmps w → Same ops a0 a →
    (∀ a' w', Same ops a0 a' → Rel X t.st a'.tmps w' → Q .normal a' w') → wpOpsIn (FW r') n' P ops Q l a w := by
  intro l
  induction l with
  | nil =>
    intro st t a w h hs hr hd hQ
    obtain rfl := Option.some.inj h
    exact hQ a w hd hr
  | cons i r ih =>
    intro st t a w h hs hr hd hQ
    obtain ⟨out, t', h1, h2, rfl⟩ := evL_cons h
    have hs' := all_append.mp hs
    rw [wpOpsIn_cons]
    unfold evI at h1
    cases ho : ops[i]? with
    | none => rw [ho] at h1; cases h1
    | some o =>
      rw [ho] at h1
      exact evOp_ok hT hK ho h1 hs'.1 hr fun a' w' hd' hr' => ih h2 hs'.2 hr' (hd.put ho hd') hQ

theorem getD_ft {L : Array Bool} {i : Nat} (hi : i < L.size) (h : L.getD i true = true) : L.getD i false = true := by
  simpa [Array.getD, hi] using h

theorem evL_any (hT : TabOk P T) (hK : ∀ f a r p, K f a r p → FnOk P f a r p) {a0 : Act} {F : Nat → FP} (hE : ∀ (i : Nat) o, ops[i]? = some o → ∀ e ∈ o.after, Region.binds .any e = true → e.on < i)
    (hO : ∀ i k, k < i → i < ops.size → Free (F k) (F i) ∨ ∀ L : Array Bool, L.size = ops.size → Closed ops L → (∀ o, ops[i]? = some o → ∀ e ∈ o.after, Region.binds .any e = true → L.getD e.on false = true) → L.getD k false = true) {fin : St}
    (hQ : ∀ a' w', Same ops a0 a' → Rel X fin a'.tmps w' → Q .normal a' w') :
    ∀ (fuel : Nat) (rem : List Nat) (L : Array Bool) (st : St) (t : Tr) (a : Act) (w : World), evL P T K hh ops base md rem st = some t → All t.needs → t.fp = rem.map F → Sim t.st fin → Rel X st a.tmps w → Same ops a0 a →
      rem.Pairwise (· < ·) → (∀ i, i ∈ rem ↔ i < ops.size ∧ L.getD i true = false) → L.size = ops.size → Closed ops L → rem.length = fuel → wpAnyIn (FW r') n' P .any ops Q fuel L a w := by
  intro fuel
  induction fuel with
  | zero =>
    intro rem L st t a w h hs hf hsim hr hd hp hm hsz hc hl
    obtain rfl : rem = [] := List.length_eq_zero_iff.mp hl
    obtain rfl := Option.some.inj h
    refine ⟨?_, hQ a w hd (hr.sim hsim)⟩
    refine List.eq_nil_iff_forall_not_mem.mpr fun j hj => ?_
    obtain ⟨h1, o, ho, _⟩ := mem_ready.mp hj
    exact absurd ((hm j).mpr ⟨(Array.getElem?_eq_some_iff.mp ho).1, h1⟩) (by simp)
  | succ fuel ih =>
    intro rem L st t a w h hs hf hsim hr hd hp hm hsz hc hl
    refine ⟨fun hnil => ?_, fun i hi => ?_⟩
    · exfalso
      cases rem with
      | nil => simp at hl
      | cons i0 r =>
        have hi0 := (hm i0).mp List.mem_cons_self
        have : i0 ∈ Region.ready .any ops L := by
          refine mem_ready.mpr ⟨hi0.2, ops[i0]'hi0.1, Array.getElem?_eq_getElem hi0.1, fun e he hb => ?_⟩
          have hlt := hE i0 _ (Array.getElem?_eq_getElem hi0.1) e he hb
          have hn : e.on ∉ i0 :: r := by
            intro hmem
            rcases List.mem_cons.mp hmem with h1 | h1
            · omega
            · have := (List.pairwise_cons.mp hp).1 _ h1
              omega
          have := mt (hm e.on).mpr hn
          refine getD_ft (by omega) ?_
          cases hg : L.getD e.on true with
          | true => rfl
          | false => exact absurd ⟨by omega, hg⟩ this
        rw [hnil] at this
        cases this
    · obtain ⟨h1, o, ho, hall⟩ := mem_ready.mp hi
      have hlt := (Array.getElem?_eq_some_iff.mp ho).1
      have hmem := (hm i).mpr ⟨hlt, h1⟩
      obtain ⟨pre, post, rfl⟩ := List.append_of_mem hmem
      have hpw := List.pairwise_append.mp hp
      have hpre : ∀ k ∈ pre, Free (F k) (F i) := by
        intro k hk
        have hki := hpw.2.2 k hk i List.mem_cons_self
        rcases hO i k hki hlt with h2 | h2
        · exact h2
        · have := h2 L hsz hc (fun o' ho' => by rw [ho] at ho'; obtain rfl := Option.some.inj ho'; exact hall)
          have hk' := ((hm k).mp (List.mem_append.mpr (.inl hk))).2
          rw [getD_tf this] at hk'
          cases hk'
      obtain ⟨t', g1, g2, g3, g4⟩ := evL_first h hf hpre
      obtain ⟨out, t2, e1, e2, rfl⟩ := evL_cons g1
      have hs' := all_append.mp (g2.mpr hs)
      simp only [List.map_cons, List.cons.injEq] at g3
      unfold evI at e1
      rw [ho] at e1
      refine evOp_ok hT hK ho e1 hs'.1 hr fun a' w' hd' hr' => ?_
      refine ih (pre ++ post) _ out.st t2 a' w' e2 hs'.2 g3.2 (g4.symm.trans hsim) hr' (hd.put ho hd') ?_ ?_ (by simpa using hsz) ?_ ?_
      · exact List.pairwise_append.mpr ⟨hpw.1, (List.pairwise_cons.mp hpw.2.1).2, fun x hx y hy => hpw.2.2 x hx y (List.mem_cons_of_mem _ hy)⟩
      · intro j
        by_cases hji : j = i
        · subst hji
          constructor
          · intro hj
            exfalso
            rcases List.mem_append.mp hj with hj | hj
            · exact absurd (hpw.2.2 j hj j List.mem_cons_self) (Nat.lt_irrefl _)
            · exact absurd ((List.pairwise_cons.mp hpw.2.1).1 j hj) (Nat.lt_irrefl _)
          · rintro ⟨_, hj⟩
            rw [getD_tf (by simp [hsz, hlt])] at hj
            cases hj
        · rw [getD_set_ne true (Ne.symm hji), ← hm j]
          simp only [List.mem_append, List.mem_cons, hji, false_or]
      · intro j oj hoj hlist e he hb
        by_cases hji : j = i
        · subst hji
          rw [ho] at hoj
          obtain rfl := Option.some.inj hoj
          exact getD_set_true (hall e he hb)
        · rw [getD_set_ne true (Ne.symm hji)] at hlist
          exact getD_set_true (hc j oj hoj hlist e he hb)
      · simp only [List.length_append, List.length_cons] at hl ⊢
        omega

theorem evTr_length : ∀ {l : List Oper} {i : Nat} {st : St} {t : Tr}, evTr P T K hh ops base md i l st = some t → t.fp.length = l.length := by
  intro l
  induction l with
  | nil => intro i st t h; obtain rfl := Option.some.inj h; rfl
  | cons o r ih =>
    intro i st t h
    unfold evTr at h
    cases he : evOp P T K hh ops base i o st with
    | none => rw [he] at h; cases h
    | some out =>
      rw [he] at h
      simp only at h
      cases ht : evTr P T K hh ops base md (i + 1) r out.st with
      | none => rw [ht] at h; cases h
      | some t' =>
        rw [ht] at h
        obtain rfl := Option.some.inj h
        simp only [List.length_cons, ih ht]

/-- A region, evaluated. -/
theorem region_ok (hT : TabOk P T) (hK : ∀ f a r p, K f a r p → FnOk P f a r p) (hm : P.follows .mixedOrders = true) {mixed : Bool} {id : Nat} {st st' : St} {needs : List Prop} (h : evReg mixed P T K hh ops base md st = some (st', needs)) (hs : All needs)
    {a : Act} {w : World} (hr : Rel X st a.tmps w) (hQ : ∀ a' w', Same ops a a' → Rel X st' a'.tmps w' → Q .normal a' w') : (Code.region id ops mixed).wpIn (FW r') n' P Q a w := by
  unfold evReg at h
  cases ht : evTr P T K hh ops base md 0 ops.toList st with
  | none => rw [ht] at h; cases h
  | some t =>
    rw [ht] at h
    simp only at h
    have hl := evL_of_evTr ops.toList 0 st t (fun j => by simp) ht
    have hlen := evTr_length ht
    rw [Array.length_toList] at hl hlen
    cases mixed with
    | false =>
      simp only [Bool.not_false, Bool.true_or, cond_true, Option.some.injEq, Prod.mk.injEq] at h
      obtain ⟨rfl, rfl⟩ := h
      refine wpIn_region ?_
      rw [List.range_eq_range']
      exact evL_text hT hK hl hs hr (Same.refl _ _) hQ
    | true =>
      simp only [Bool.not_true, Bool.false_or] at h
      rcases cond_inv' h with ⟨hord, h⟩ | ⟨_, h⟩
      · simp only [Option.some.injEq, Prod.mk.injEq] at h
        obtain ⟨rfl, rfl⟩ := h
        simp only [ordered, Bool.and_eq_true] at hord
        obtain ⟨o1, o2⟩ := hord
        obtain ⟨q1, q2⟩ := okRows_spec o2
        refine wpIn_region_any hm ?_
        have hr' : Rel X st a.tmps { w with drawn := w.drawn + 1 } := by
          obtain ⟨I, ι, hr, hf⟩ := hr
          exact ⟨I, ι, hr.drew, hf.kept hr hr.re.drew rfl (fun i x hx => ⟨hx, rfl⟩)⟩
        refine evL_any (F := fun i => t.fp.getD i (0, 0)) hT hK (a0 := a) ?_ ?_ hQ ops.size (List.range ops.size) _ st t a _ (by rw [List.range_eq_range']; exact hl) hs ?_ (Sim.refl _) hr' (Same.refl _ _) ?_ ?_ (by simp) ?_ (by simp)
        · intro i o ho e he hb
          have := okEdges_spec ops.toList 0 o1 i o (by simpa using ho) e he hb
          omega
        · intro i k hki hi
          have hmi : i < (masks ops.toList []).length := by rw [q1, hlen]; exact hi
          have hp := q2 i k _ (t.fp.getD k (0, 0)) (t.fp.getD i (0, 0)) (List.getElem?_eq_getElem hmi) (by rw [List.getD_eq_getElem?_getD, List.getElem?_eq_getElem (by omega)]; rfl) (by simpa using hki)
            (by rw [List.nil_append, List.getD_eq_getElem?_getD, List.getElem?_eq_getElem (by omega)]; rfl)
          cases hb : ((masks ops.toList [])[i]).testBit k with
          | false => exact .inl (okPair_free hp hb)
          | true =>
            refine .inr fun L hsz hc hd => ?_
            have hM : MaskOk ops (masks ops.toList []) := masks_spec ops.toList [] (fun j => by simp) (fun i m o k L hm => by simp at hm)
            exact hM i _ ops[i] k L (List.getElem?_eq_getElem hmi) (Array.getElem?_eq_getElem hi) hb hc (hd _ (Array.getElem?_eq_getElem hi)) hsz
        · apply List.ext_getElem
          · simp [hlen]
          · intro i h1 h2
            simp only [List.getElem_map, List.getElem_range]
            rw [List.getD_eq_getElem?_getD, List.getElem?_eq_getElem h1]
            rfl
        · exact List.pairwise_lt_range
        · intro i
          simp only [List.mem_range]
          constructor
          · intro hi
            exact ⟨hi, by simp [Array.getD, hi]⟩
          · intro hi
            exact hi.1
        · intro i o ho hlist
          exfalso
          have hi := (Array.getElem?_eq_some_iff.mp ho).1
          simp [Array.getD, hi] at hlist
      · cases h
end
end Go.Ev
namespace Go.Ev
open Go Go.RowKit
set_option linter.unusedVariables false

def TellC : C → C → Prop
  | _, .undef => True
  | .ref m n, .ref m' n' => m = m' ∧ n = n'
  | .pvar m o, y => C.pvar m o = y
  | .pelem m i o, y => C.pelem m i o = y
  | .pimm cs o, y => C.pimm cs o = y
  | .undef, _ => False
  | .ref _ _, _ => False
  | a, b => EqC a b
def TellCs : List C → List C → Prop
  | [], [] => True
  | a :: l, b :: k => TellC a b ∧ TellCs l k
  | _, _ => False
def TellS1 : S → S → Prop
  | .c a, .c b => TellC a b
  | .agg a, .agg b => TellCs a b
  | _, _ => False
def TellSs : List S → List S → Prop
  | [], [] => True
  | a :: l, b :: k => TellS1 a b ∧ TellSs l k
  | _, _ => False
def TellS : S → S → Prop
  | .tup a, .tup b => TellSs a b
  | _, .c .undef => True
  | a, b => TellS1 a b

section
variable {w : World} {I : Nat → Prop} {ι : Im} {va : VA} {ar : AR}
theorem TellC.ok {x y : C} (t : TellC x y) {u : Value} (h : Rc w I ι va ar x u) : Rc w I ι va ar y u := by
  cases y with
  | undef => trivial
  | err b =>
    cases x with
    | err c => have t' : EqC (.err c) (.err b) := by simpa only [TellC] using t
               exact Rimm.eqC h t'
    | v x => have t' : EqC (.v x) (.err b) := by simpa only [TellC] using t
             exact Rimm.eqC h t'
    | _ => simp [TellC, EqC] at t
  | ref m' n' =>
    cases x with
    | ref m n => obtain ⟨rfl, rfl⟩ := t; exact h
    | v x => simp [TellC, EqC] at t
    | nil s => simp [TellC, EqC] at t
    | lst s n g => simp [TellC, EqC] at t
    | pvar m o => simp [TellC] at t
    | pelem m i o => simp [TellC] at t
    | pimm cs o => simp [TellC] at t
    | err b => simp [TellC, EqC] at t
    | undef => simp [TellC] at t
  | pvar m' o' =>
    cases x with
    | pvar m o => have : C.pvar m o = C.pvar m' o' := t; rw [← this]; exact h
    | v x => simp [TellC, EqC] at t
    | nil s => simp [TellC, EqC] at t
    | lst s n g => simp [TellC, EqC] at t
    | ref m o => simp [TellC] at t
    | pelem m i o => simp [TellC] at t
    | pimm cs o => simp [TellC] at t
    | err b => simp [TellC, EqC] at t
    | undef => simp [TellC] at t
  | pelem m' i' o' =>
    cases x with
    | pelem m i o => have : C.pelem m i o = C.pelem m' i' o' := t; rw [← this]; exact h
    | v x => simp [TellC, EqC] at t
    | nil s => simp [TellC, EqC] at t
    | lst s n g => simp [TellC, EqC] at t
    | ref m o => simp [TellC] at t
    | pvar m i => simp [TellC] at t
    | pimm cs o => simp [TellC] at t
    | err b => simp [TellC, EqC] at t
    | undef => simp [TellC] at t
  | pimm cs' o' =>
    cases x with
    | pimm m o => have : C.pimm m o = C.pimm cs' o' := t; rw [← this]; exact h
    | v x => simp [TellC, EqC] at t
    | nil s => simp [TellC, EqC] at t
    | lst s n g => simp [TellC, EqC] at t
    | ref m o => simp [TellC] at t
    | pvar m i => simp [TellC] at t
    | pelem cs i o => simp [TellC] at t
    | err b => simp [TellC, EqC] at t
    | undef => simp [TellC] at t
  | v y =>
    cases x with
    | v x => have t' : EqC (.v x) (.v y) := by simpa only [TellC] using t
             exact Rimm.eqC h t'
    | nil s => have t' : EqC (.nil s) (.v y) := by simpa only [TellC] using t
               exact Rimm.eqC h t'
    | lst s n g => have t' : EqC (.lst s n g) (.v y) := by simpa only [TellC] using t
                   exact Rimm.eqC h t'
    | ref m o => simp [TellC] at t
    | pvar m i => simp [TellC] at t
    | pelem cs i o => simp [TellC] at t
    | pimm cs o => simp [TellC] at t
    | err b => simp [TellC, EqC] at t
    | undef => simp [TellC] at t
  | nil y =>
    cases x with
    | v x => have t' : EqC (.v x) (.nil y) := by simpa only [TellC] using t
             exact Rimm.eqC h t'
    | nil s => have t' : EqC (.nil s) (.nil y) := by simpa only [TellC] using t
               exact Rimm.eqC h t'
    | lst s n g => have t' : EqC (.lst s n g) (.nil y) := by simpa only [TellC] using t
                   exact Rimm.eqC h t'
    | ref m o => simp [TellC] at t
    | pvar m i => simp [TellC] at t
    | pelem cs i o => simp [TellC] at t
    | pimm cs o => simp [TellC] at t
    | err b => simp [TellC, EqC] at t
    | undef => simp [TellC] at t
  | lst s' n' g' =>
    cases x with
    | v x => have t' : EqC (.v x) (.lst s' n' g') := by simpa only [TellC] using t
             exact Rimm.eqC h t'
    | nil s => have t' : EqC (.nil s) (.lst s' n' g') := by simpa only [TellC] using t
               exact Rimm.eqC h t'
    | lst s n g => have t' : EqC (.lst s n g) (.lst s' n' g') := by simpa only [TellC] using t
                   exact Rimm.eqC h t'
    | ref m o => simp [TellC] at t
    | pvar m i => simp [TellC] at t
    | pelem cs i o => simp [TellC] at t
    | pimm cs o => simp [TellC] at t
    | err b => simp [TellC, EqC] at t
    | undef => simp [TellC] at t

theorem TellCs.at : ∀ {l k : List C}, TellCs l k → l.length = k.length ∧ ∀ (j : Nat) y, k[j]? = some y → ∃ x, l[j]? = some x ∧ TellC x y
  | [], [], _ => ⟨rfl, fun j y h => by simp at h⟩
  | a :: l, b :: k, h => by
    obtain ⟨h1, h2⟩ := h
    obtain ⟨e, f⟩ := h2.at
    refine ⟨by simp [e], fun j y hy => ?_⟩
    cases j with
    | zero => simp at hy; subst hy; exact ⟨a, rfl, h1⟩
    | succ j => simpa using f j y (by simpa using hy)
  | [], _ :: _, h => h.elim
  | _ :: _, [], h => h.elim
theorem TellSs.at : ∀ {l k : List S}, TellSs l k → ∀ (j : Nat) y, k[j]? = some y → ∃ x, l[j]? = some x ∧ TellS1 x y
  | [], [], _, j, y, h => by simp at h
  | a :: l, b :: k, h, 0, y, hy => by
    obtain rfl : b = y := by simpa using hy
    exact ⟨a, rfl, h.1⟩
  | a :: l, b :: k, h, j + 1, y, hy => by simpa using h.2.at j y (by simpa using hy)
  | [], _ :: _, h, _, _, _ => h.elim
  | _ :: _, [], h, _, _, _ => h.elim
theorem TellS1.ok {x y : S} (t : TellS1 x y) {u : Value} (h : Rs1 w I ι va ar x u) : Rs1 w I ι va ar y u := by
  cases x with
  | c a =>
    cases y with
    | c b => exact TellC.ok t h
    | _ => exact t.elim
  | agg a =>
    cases y with
    | agg b =>
      obtain ⟨us, hu, hl, hc⟩ := h
      obtain ⟨e, f⟩ := TellCs.at t
      refine ⟨us, hu, hl.trans e, fun j z hz => ?_⟩
      obtain ⟨q, hq, hqz⟩ := f j z hz
      obtain ⟨v, hv, hr⟩ := hc j q hq
      exact ⟨v, hv, hqz.ok hr⟩
    | _ => exact t.elim
  | tup _ => exact h.elim
  | sp _ => cases y <;> exact t.elim
theorem TellS.ok {x y : S} (t : TellS x y) {u : Value} (h : Rs w I ι va ar x u) : Rs w I ι va ar y u := by
  have und : ∀ {u : Value}, Rs w I ι va ar (.c .undef) u := fun {u} => trivial
  cases x with
  | c a =>
    cases y with
    | c b =>
      cases b with
      | undef => exact und
      | _ => exact TellS1.ok (x := .c a) (by simpa only [TellS] using t) h
    | agg b => exact absurd t (by simp [TellS, TellS1])
    | tup b => exact absurd t (by simp [TellS, TellS1])
    | sp b => exact absurd t (by simp [TellS, TellS1])
  | sp a =>
    cases y with
    | c b =>
      cases b with
      | undef => exact und
      | _ => exact absurd t (by simp [TellS, TellS1])
    | agg b => exact absurd t (by simp [TellS, TellS1])
    | tup b => exact absurd t (by simp [TellS, TellS1])
    | sp b => exact absurd t (by simp [TellS, TellS1])
  | agg a =>
    cases y with
    | c b =>
      cases b with
      | undef => exact und
      | _ => exact absurd t (by simp [TellS, TellS1])
    | agg b => exact TellS1.ok (x := .agg a) (y := .agg b) (by simpa only [TellS] using t) h
    | tup b => exact absurd t (by simp [TellS, TellS1])
    | sp b => exact absurd t (by simp [TellS, TellS1])
  | tup a =>
    cases y with
    | c b =>
      cases b with
      | undef => exact und
      | _ => exact absurd t (by simp [TellS, TellS1])
    | agg b => exact absurd t (by simp [TellS, TellS1])
    | sp b => exact absurd t (by simp [TellS, TellS1])
    | tup b =>
      obtain ⟨us, hu, hc⟩ := h
      refine ⟨us, hu, fun j y hy => ?_⟩
      obtain ⟨q, hq, hqz⟩ := TellSs.at (by simpa only [TellS] using t) j y hy
      obtain ⟨v, hv, hr⟩ := hc j q hq
      exact ⟨v, hv, hqz.ok hr⟩
end

/-! ### keeping and naming anew -/
def memN (m : Name) : List Name → Bool
  | [] => false
  | x :: r => nameEq m x || memN m r
theorem memN_iff {m : Name} : ∀ {l : List Name}, memN m l = true ↔ m ∈ l
  | [] => by simp [memN]
  | x :: r => by
    simp only [memN, Bool.or_eq_true, nameEq_iff, List.mem_cons, memN_iff]
def keptC (vs ars : List Name) : C → Bool
  | .ref m _ => memN m ars
  | .pvar m _ => memN m vs
  | .pelem m _ _ => memN m ars
  | _ => true
def keptS1 (vs ars : List Name) : S → Bool
  | .c x => keptC vs ars x
  | .agg l => l.all (keptC vs ars)
  | .tup _ => true
  | .sp _ => true
def keptS (vs ars : List Name) : S → Bool
  | .tup l => l.all (keptS1 vs ars)
  | x => keptS1 vs ars x

def pickV (st : St) : List Name → Option (List (Name × List C))
  | [] => some []
  | m :: r =>
    match st.var m, pickV st r with
    | some cs, some l => some ((m, cs) :: l)
    | _, _ => none
def pickA (st : St) : List Name → Option (List (Name × Option Arr))
  | [] => some []
  | m :: r =>
    match st.arr m, pickA st r with
    | some A, some l => some ((m, A) :: l)
    | _, _ => none
def pickS (st : St) : List Nat → List (Nat × S)
  | [] => []
  | i :: r => (i, st.slot i) :: pickS st r
def keepSt (ss : List Nat) (vs ars : List Name) (st : St) : Option St :=
  match pickV st vs, pickA st ars with
  | some v, some a => bif (((pickS st ss).all (fun p => keptS vs ars p.2) && ((pickS st ss).any (fun p => Nat.beq p.1 st.nt) || (pickS st ss).all (fun p => !isSp p.2))) && v.all (fun p => p.2.all (keptC vs ars))) && st.vars.all (fun p => !(Nat.beq p.1.1 0) || memN p.1 vs) then some ⟨st.nt, pickS st ss, v, a⟩ else none
  | _, _ => none

theorem pickS_at {st : St} {i : Nat} : ∀ {l : List Nat}, lookN i (pickS st l) = some (st.slot i) ∨ lookN i (pickS st l) = none
  | [] => .inr rfl
  | k :: r => by
    simp only [pickS, lookN]
    cases h : Nat.beq i k with
    | true => obtain rfl := Nat.eq_of_beq_eq_true h; exact .inl rfl
    | false => exact pickS_at
theorem pickV_at {st : St} {m : Name} : ∀ {l : List Name} {v : List (Name × List C)}, pickV st l = some v → (m ∈ l → lookM m v = st.var m ∧ st.var m ≠ none) ∧ (m ∉ l → lookM m v = none)
  | [], v, h => by obtain rfl := Option.some.inj h; exact ⟨fun hm => by simp at hm, fun _ => rfl⟩
  | k :: r, v, h => by
    unfold pickV at h
    cases h1 : st.var k with
    | none => simp [h1] at h
    | some cs =>
      cases h2 : pickV st r with
      | none => simp [h1, h2] at h
      | some l =>
        rw [h1, h2] at h
        obtain rfl := Option.some.inj h
        obtain ⟨q1, q2⟩ := pickV_at (m := m) h2
        simp only [lookM]
        cases hk : nameEq m k with
        | true => obtain rfl := nameEq_iff.mp hk; simp [h1]
        | false =>
          have hne : m ≠ k := fun e => by rw [nameEq_iff.mpr e] at hk; cases hk
          simp only [List.mem_cons, hne, false_or, cond_false]
          exact ⟨q1, q2⟩
theorem pickA_at {st : St} {m : Name} : ∀ {l : List Name} {v : List (Name × Option Arr)}, pickA st l = some v → (m ∈ l → lookM m v = st.arr m ∧ st.arr m ≠ none) ∧ (m ∉ l → lookM m v = none)
  | [], v, h => by obtain rfl := Option.some.inj h; exact ⟨fun hm => by simp at hm, fun _ => rfl⟩
  | k :: r, v, h => by
    unfold pickA at h
    cases h1 : st.arr k with
    | none => simp [h1] at h
    | some cs =>
      cases h2 : pickA st r with
      | none => simp [h1, h2] at h
      | some l =>
        rw [h1, h2] at h
        obtain rfl := Option.some.inj h
        obtain ⟨q1, q2⟩ := pickA_at (m := m) h2
        simp only [lookM]
        cases hk : nameEq m k with
        | true => obtain rfl := nameEq_iff.mp hk; simp [h1]
        | false =>
          have hne : m ≠ k := fun e => by rw [nameEq_iff.mpr e] at hk; cases hk
          simp only [List.mem_cons, hne, false_or, cond_false]
          exact ⟨q1, q2⟩

theorem Rc_kept {w : World} {I : Nat → Prop} {ι : Im} {va va' : VA} {ar ar' : AR} {vs ars : List Name} (hv : ∀ m ∈ vs, va' m = va m) (ha : ∀ m ∈ ars, ar' m = ar m) {x : C} (hk : keptC vs ars x = true) {u : Value} (h : Rc w I ι va ar x u) : Rc w I ι va' ar' x u := by
  cases x with
  | ref m n => simp only [Rc] at h ⊢; rw [ha m (memN_iff.mp hk)]; exact h
  | pvar m o => obtain ⟨h1, h2⟩ := h; exact ⟨by rw [hv m (memN_iff.mp hk)]; exact h1, h2⟩
  | pelem m i o => simp only [Rc] at h ⊢; rw [ha m (memN_iff.mp hk)]; exact h
  | _ => exact h
theorem Rs1_kept {w : World} {I : Nat → Prop} {ι : Im} {va va' : VA} {ar ar' : AR} {vs ars : List Name} (hv : ∀ m ∈ vs, va' m = va m) (ha : ∀ m ∈ ars, ar' m = ar m) {x : S} (hk : keptS1 vs ars x = true) {u : Value} (h : Rs1 w I ι va ar x u) : Rs1 w I ι va' ar' x u := by
  cases x with
  | c y => exact Rc_kept hv ha hk h
  | agg l =>
    obtain ⟨us, hu, hl, hc⟩ := h
    refine ⟨us, hu, hl, fun j y hy => ?_⟩
    obtain ⟨v, hv', hr⟩ := hc j y hy
    exact ⟨v, hv', Rc_kept hv ha (List.all_eq_true.mp hk y (List.mem_of_getElem? hy)) hr⟩
  | tup _ => exact h.elim
  | sp _ => trivial
theorem Rs_kept {w : World} {I : Nat → Prop} {ι : Im} {va va' : VA} {ar ar' : AR} {vs ars : List Name} (hv : ∀ m ∈ vs, va' m = va m) (ha : ∀ m ∈ ars, ar' m = ar m) {x : S} (hk : keptS vs ars x = true) {u : Value} (h : Rs w I ι va ar x u) : Rs w I ι va' ar' x u := by
  cases x with
  | c y => exact Rs1_kept (x := .c y) hv ha hk h
  | agg l => exact Rs1_kept (x := .agg l) hv ha hk h
  | sp _ => trivial
  | tup l =>
    obtain ⟨us, hu, hc⟩ := h
    refine ⟨us, hu, fun j y hy => ?_⟩
    obtain ⟨v, hv', hr⟩ := hc j y hy
    exact ⟨v, hv', Rs1_kept hv ha (List.all_eq_true.mp hk y (List.mem_of_getElem? hy)) hr⟩

theorem keep_ok {X : Ctx} {I : Nat → Prop} {ι : Im} {st st' : St} {tm : Array Value} {w : World} {ss : List Nat} {vs ars : List Name} (h : keepSt ss vs ars st = some st') (hr : RelI X I ι st tm w) : RelI X I ι st' tm w := by
  unfold keepSt at h
  cases h1 : pickV st vs with
  | none => simp [h1] at h
  | some v =>
    cases h2 : pickA st ars with
    | none => simp [h1, h2] at h
    | some a =>
      rw [h1, h2] at h
      simp only at h
      rcases cond_inv' h with ⟨hb, h⟩ | ⟨_, h⟩
      · obtain rfl := Option.some.inj h
        simp only [Bool.and_eq_true, List.all_eq_true] at hb
        have V : ∀ m, (m ∈ vs → lookM m v = st.var m ∧ st.var m ≠ none) ∧ (m ∉ vs → lookM m v = none) := fun m => pickV_at h1
        have A : ∀ m, (m ∈ ars → lookM m a = st.arr m ∧ st.arr m ≠ none) ∧ (m ∉ ars → lookM m a = none) := fun m => pickA_at h2
        have V' : ∀ m cs, lookM m v = some cs → st.var m = some cs := fun m cs hm => by
          by_cases hmem : m ∈ vs
          · rw [← ((V m).1 hmem).1]; exact hm
          · rw [(V m).2 hmem] at hm; cases hm
        have A' : ∀ m cs, lookM m a = some cs → st.arr m = some cs := fun m cs hm => by
          by_cases hmem : m ∈ ars
          · rw [← ((A m).1 hmem).1]; exact hm
          · rw [(A m).2 hmem] at hm; cases hm
        have Vn : ∀ m, lookM m v ≠ none → st.var m ≠ none := fun m hm => by
          cases hq : lookM m v with
          | none => exact absurd hq hm
          | some cs => rw [V' m cs hq]; simp
        have hv : ∀ m ∈ vs, lookM m v = st.var m := fun m hm => ((V m).1 hm).1
        have ha : ∀ m ∈ ars, lookM m a = st.arr m := fun m hm => ((A m).1 hm).1
        refine ⟨hr.size, fun i => ?_, ?_, ?_, hr.inI, ?_, ?_, ?_, hr.fr, fun m b hp => ?pin⟩
        case pin =>
          obtain ⟨p0, p1, p2⟩ := hr.pin m b hp
          refine ⟨p0, ?_, p2⟩
          have lm : ∀ {l : List (Name × List C)}, lookM m l ≠ none → ∃ x, (m, x) ∈ l := by
            intro l
            induction l with
            | nil => intro hx; exact absurd rfl hx
            | cons p r ih =>
              intro hx
              obtain ⟨k, y⟩ := p
              simp only [lookM] at hx
              cases hb : nameEq m k with
              | true => obtain rfl := nameEq_iff.mp hb; exact ⟨y, List.mem_cons_self⟩
              | false => rw [hb] at hx; obtain ⟨z, hz⟩ := ih hx; exact ⟨z, List.mem_cons_of_mem _ hz⟩
          obtain ⟨z, hz⟩ := lm p1
          have hk := hb.2 _ hz
          simp only [p0, Nat.beq_refl, Bool.not_true, Bool.false_or] at hk
          have hmem := memN_iff.mp hk
          show lookM m v ≠ none
          rw [hv m hmem]
          exact p1
        · show Rs w I ι (fun m => lookM m v) (fun m => lookM m a) ((lookN i (pickS st ss)).getD (.c .undef)) _
          rcases pickS_at (st := st) (i := i) (l := ss) with hp | hp
          · rw [hp]
            refine Rs_kept (va := st.var) (ar := st.arr) hv ha ?_ (hr.slots i)
            have : (i, st.slot i) ∈ pickS st ss := by
              have lm : ∀ {l : List (Nat × S)} {x : S}, lookN i l = some x → (i, x) ∈ l := by
                intro l
                induction l with
                | nil => intro x hx; cases hx
                | cons p r ih =>
                  intro x hx
                  obtain ⟨k, y⟩ := p
                  simp only [lookN] at hx
                  cases hb : Nat.beq i k with
                  | true => rw [hb] at hx; obtain rfl := Nat.eq_of_beq_eq_true hb; obtain rfl := Option.some.inj hx; exact List.mem_cons_self
                  | false => rw [hb] at hx; exact List.mem_cons_of_mem _ (ih hx)
              exact lm hp
            exact hb.1.1.1 _ this
          · rw [hp]; trivial
        · intro m cs hm
          obtain ⟨b, f, q⟩ := hr.vars m cs (V' m cs hm)
          refine ⟨b, f, q.at_, q.lt, q.notI, q.mine, fun j x hx => ?_⟩
          obtain ⟨q1, q2, q3⟩ := q.cell j x hx
          refine ⟨q1, q2, Rc_kept (va := st.var) (ar := st.arr) hv ha ?_ q3⟩
          have lm : ∀ {l : List (Name × List C)} {x : List C}, lookM m l = some x → (m, x) ∈ l := by
            intro l
            induction l with
            | nil => intro x hx; cases hx
            | cons p r ih =>
              intro x hx
              obtain ⟨k, y⟩ := p
              simp only [lookM] at hx
              cases hb : nameEq m k with
              | true => rw [hb] at hx; obtain rfl := nameEq_iff.mp hb; obtain rfl := Option.some.inj hx; exact List.mem_cons_self
              | false => rw [hb] at hx; exact List.mem_cons_of_mem _ (ih hx)
          exact hb.1.2 _ (lm hm) x (List.mem_of_getElem? hx)
        · intro m B hm
          exact hr.arrs m B (A' m _ hm)
        · intro m m' b hm hm'
          exact hr.vv m m' b (Vn m hm) (Vn m' hm')
        · intro m m' B b c hm hm'
          exact hr.va m m' B b c (Vn m hm) (A' m' _ hm')
        · intro m m' B B' b c c' hm hm'
          exact hr.aa m m' B B' b c c' (A' m _ hm) (A' m' _ hm')
      · cases h

theorem keep_sp {st st' : St} {ss : List Nat} {vs ars : List Name} (h : keepSt ss vs ars st = some st') : st'.nt = st.nt ∧ (∀ i x, st'.slot i = .sp x → st.slot i = .sp x) ∧ (st'.slot st.nt = st.slot st.nt ∨ ∀ i x, st'.slot i ≠ .sp x) := by
  unfold keepSt at h
  cases h1 : pickV st vs with
  | none => simp [h1] at h
  | some v =>
    cases h2 : pickA st ars with
    | none => simp [h1, h2] at h
    | some a =>
      rw [h1, h2] at h
      simp only at h
      rcases cond_inv' h with ⟨hb, h⟩ | ⟨_, h⟩
      · obtain rfl := Option.some.inj h
        simp only [Bool.and_eq_true] at hb
        have hs := hb.1.1.2
        have at_ : ∀ i x, (lookN i (pickS st ss)).getD (.c .undef) = .sp x → lookN i (pickS st ss) = some (st.slot i) := by
          intro i x hx
          rcases pickS_at (st := st) (i := i) (l := ss) with hp | hp
          · exact hp
          · rw [hp] at hx; cases hx
        have mem : ∀ {i : Nat} {x : S} {l : List (Nat × S)}, lookN i l = some x → (i, x) ∈ l := by
          intro i x l
          induction l with
          | nil => intro hx; cases hx
          | cons p r ih =>
            intro hx
            obtain ⟨k, y⟩ := p
            simp only [lookN] at hx
            cases hb : Nat.beq i k with
            | true => rw [hb] at hx; obtain rfl := Nat.eq_of_beq_eq_true hb; obtain rfl := Option.some.inj hx; exact List.mem_cons_self
            | false => rw [hb] at hx; exact List.mem_cons_of_mem _ (ih hx)
        refine ⟨rfl, fun i x hx => ?_, ?_⟩
        · have hx' : (lookN i (pickS st ss)).getD (.c .undef) = .sp x := hx
          have := at_ i x hx'
          rw [this] at hx'; exact hx'
        · rw [Bool.or_eq_true] at hs
          rcases hs with hs | hs
          · left
            show (lookN st.nt (pickS st ss)).getD (.c .undef) = _
            rcases pickS_at (st := st) (i := st.nt) (l := ss) with hp | hp
            · rw [hp]; rfl
            · exfalso
              have none_ : ∀ l : List (Nat × S), lookN st.nt l = none → l.any (fun p => Nat.beq p.1 st.nt) = false := by
                intro l
                induction l with
                | nil => intro _; rfl
                | cons p r ih =>
                  intro hl
                  obtain ⟨k, y⟩ := p
                  simp only [lookN] at hl
                  cases hb : Nat.beq st.nt k with
                  | true => rw [hb] at hl; cases hl
                  | false =>
                    rw [hb] at hl
                    have hb' : Nat.beq k st.nt = false := by
                      cases hq : Nat.beq k st.nt with
                      | false => rfl
                      | true => rw [Nat.eq_of_beq_eq_true hq, Nat.beq_refl] at hb; cases hb
                    simp [hb', ih hl]
              rw [none_ _ hp] at hs; cases hs
          · right
            intro i x hx
            have hx' : (lookN i (pickS st ss)).getD (.c .undef) = .sp x := hx
            have h3 := at_ i x hx'
            rw [h3] at hx'
            have := List.all_eq_true.mp hs _ (mem h3)
            have hx2 : st.slot i = .sp x := hx'
            rw [hx2] at this; cases this
      · cases h
def renC (m m' : Name) : C → C
  | .ref k n => .ref (bif nameEq k m then m' else k) n
  | .pelem k i o => .pelem (bif nameEq k m then m' else k) i o
  | x => x
def renS1 (m m' : Name) : S → S
  | .c x => .c (renC m m' x)
  | .agg l => .agg (l.map (renC m m'))
  | .tup l => .tup l
  | .sp x => .sp x
def renS (m m' : Name) : S → S
  | .tup l => .tup (l.map (renS1 m m'))
  | x => renS1 m m' x
def renA (m m' : Name) : List (Name × Option Arr) → List (Name × Option Arr)
  | [] => []
  | (k, A) :: r => (bif nameEq k m then m' else k, A) :: renA m m' r
def renSt (m m' : Name) (st : St) : Option St :=
  match st.arr m' with
  | some _ => none
  | none => some ⟨st.nt, st.slots.map (fun p => (p.1, renS m m' p.2)), st.vars.map (fun p => (p.1, p.2.map (renC m m'))), renA m m' st.arrs⟩

theorem lookN_map {α β : Type} (f : α → β) (i : Nat) : ∀ l : List (Nat × α), lookN i (l.map (fun p => (p.1, f p.2))) = (lookN i l).map f
  | [] => rfl
  | (j, x) :: r => by
    simp only [List.map_cons, lookN]
    cases Nat.beq i j with
    | true => rfl
    | false => exact lookN_map f i r
theorem lookM_map {α β : Type} (f : α → β) (i : Name) : ∀ l : List (Name × α), lookM i (l.map (fun p => (p.1, f p.2))) = (lookM i l).map f
  | [] => rfl
  | (j, x) :: r => by
    simp only [List.map_cons, lookM]
    cases nameEq i j with
    | true => rfl
    | false => exact lookM_map f i r
theorem nameEq_self (m : Name) : nameEq m m = true := nameEq_iff.mpr rfl
theorem nameEq_ne {a b : Name} (h : a ≠ b) : nameEq a b = false := by
  cases hb : nameEq a b with
  | false => rfl
  | true => exact absurd (nameEq_iff.mp hb) h
theorem renA_at {m m' : Name} : ∀ {l : List (Name × Option Arr)}, lookM m' l = none → m ≠ m' → (lookM m' (renA m m' l) = lookM m l) ∧ (lookM m (renA m m' l) = none) ∧ ∀ k, k ≠ m → k ≠ m' → lookM k (renA m m' l) = lookM k l
  | [], _, _ => ⟨rfl, rfl, fun _ _ _ => rfl⟩
  | (j, x) :: r, h, hne => by
    simp only [lookM] at h
    cases hj : nameEq m' j with
    | true => rw [hj] at h; cases h
    | false =>
      rw [hj] at h
      obtain ⟨q1, q2, q3⟩ := renA_at h hne
      simp only [renA, lookM]
      by_cases hjm : j = m
      · subst hjm
        simp only [nameEq_self, cond_true]
        refine ⟨trivial, by rw [nameEq_ne hne]; exact q2, fun k hk hk' => by rw [nameEq_ne hk', nameEq_ne hk]; exact q3 k hk hk'⟩
      · simp only [nameEq_ne hjm, cond_false]
        rw [hj, nameEq_ne (Ne.symm hjm)]
        refine ⟨q1, q2, fun k hk hk' => ?_⟩
        rw [q3 k hk hk']

theorem Rc_ren {w : World} {I : Nat → Prop} {ι ι' : Im} {va va' : VA} {ar ar' : AR} {m m' : Name} (hne : m ≠ m') (hm' : ar m' = none) (h1 : ar' m' = ar m) (h3 : ∀ k, k ≠ m → k ≠ m' → ar' k = ar k) (hva : ∀ k, va k ≠ none → va' k ≠ none) (hv : ι'.v = ι.v) (ha1 : ι'.a m' = ι.a m) (ha : ∀ k, k ≠ m' → ι'.a k = ι.a k)
    {x : C} {u : Value} (h : Rc w I ι va ar x u) : Rc w I ι' va' ar' (renC m m' x) u := by
  cases x with
  | ref k n =>
    by_cases hk : k = m
    · subst hk
      simp only [renC, nameEq_self, cond_true, Rc] at h ⊢
      rw [h1, ha1]; exact h
    · by_cases hk' : k = m'
      · subst hk'
        simp only [Rc, hm'] at h
      · simp only [renC, nameEq_ne hk, cond_false, Rc] at h ⊢
        rw [h3 k hk hk', ha k hk']; exact h
  | pelem k i o =>
    by_cases hk : k = m
    · subst hk
      simp only [renC, nameEq_self, cond_true, Rc] at h ⊢
      rw [h1, ha1]; exact h
    · by_cases hk' : k = m'
      · subst hk'
        simp only [Rc, hm'] at h
      · simp only [renC, nameEq_ne hk, cond_false, Rc] at h ⊢
        rw [h3 k hk hk', ha k hk']; exact h
  | pvar k o => obtain ⟨q1, b, q2, q3⟩ := h; exact ⟨hva k q1, b, by rw [hv]; exact q2, q3⟩
  | _ => exact h

theorem ren_ok {X : Ctx} {I : Nat → Prop} {ι : Im} {st st' : St} {tm : Array Value} {w : World} {m m' : Name} (hne : m ≠ m') (h : renSt m m' st = some st') (hr : RelI X I ι st tm w) : ∃ ι', RelI X I ι' st' tm w := by
  unfold renSt at h
  cases hm' : st.arr m' with
  | some _ => rw [hm'] at h; cases h
  | none =>
    rw [hm'] at h
    obtain rfl := Option.some.inj h
    let ι' : Im := ⟨ι.v, fun k => if k = m' then ι.a m else ι.a k⟩
    obtain ⟨a1, a2, a3⟩ := renA_at (m := m) hm' hne
    have sl : ∀ i, (St.slot ⟨st.nt, st.slots.map (fun p => (p.1, renS m m' p.2)), st.vars.map (fun p => (p.1, p.2.map (renC m m'))), renA m m' st.arrs⟩ i) = renS m m' (st.slot i) := fun i => by
      unfold St.slot
      rw [lookN_map]
      cases lookN i st.slots <;> rfl
    have vr : ∀ k, (St.var ⟨st.nt, st.slots.map (fun p => (p.1, renS m m' p.2)), st.vars.map (fun p => (p.1, p.2.map (renC m m'))), renA m m' st.arrs⟩ k) = (st.var k).map (List.map (renC m m')) := fun k => by
      unfold St.var
      rw [lookM_map]
    have vn : ∀ k, (St.var ⟨st.nt, st.slots.map (fun p => (p.1, renS m m' p.2)), st.vars.map (fun p => (p.1, p.2.map (renC m m'))), renA m m' st.arrs⟩ k) ≠ none → st.var k ≠ none := fun k hk hn => hk (by rw [vr, hn]; rfl)
    have C1 : ∀ {x : C} {u : Value}, Rc w I ι st.var st.arr x u → Rc w I ι' (St.var ⟨st.nt, st.slots.map (fun p => (p.1, renS m m' p.2)), st.vars.map (fun p => (p.1, p.2.map (renC m m'))), renA m m' st.arrs⟩) (fun k => lookM k (renA m m' st.arrs)) (renC m m' x) u :=
      fun h => Rc_ren (ι := ι) (ι' := ι') (va := st.var) (ar := st.arr) hne hm' a1 a3 (fun k hk => by rw [vr]; simpa using hk) rfl (if_pos rfl) (fun k hk => if_neg hk) h
    have C2 : ∀ {x : S} {u : Value}, Rs1 w I ι st.var st.arr x u → Rs1 w I ι' (St.var ⟨st.nt, st.slots.map (fun p => (p.1, renS m m' p.2)), st.vars.map (fun p => (p.1, p.2.map (renC m m'))), renA m m' st.arrs⟩) (fun k => lookM k (renA m m' st.arrs)) (renS1 m m' x) u := by
      intro x u hx
      cases x with
      | c y => exact C1 hx
      | agg l =>
        obtain ⟨us, hu, hl, hc⟩ := hx
        refine ⟨us, hu, by simpa using hl, fun j y hy => ?_⟩
        rw [List.getElem?_map] at hy
        cases hz : l[j]? with
        | none => rw [hz] at hy; cases hy
        | some z =>
          rw [hz] at hy
          obtain rfl := Option.some.inj hy
          obtain ⟨v, hv, hq⟩ := hc j z hz
          exact ⟨v, hv, C1 hq⟩
      | tup _ => exact hx.elim
      | sp _ => trivial
    have arr' : ∀ k B, lookM k (renA m m' st.arrs) = some (some B) → ∃ k', st.arr k' = some (some B) ∧ ι'.a k = ι.a k' ∧ (k = m' → k' = m) ∧ (k ≠ m' → k' = k) := by
      intro k B hk
      by_cases e1 : k = m'
      · subst e1
        rw [a1] at hk
        exact ⟨m, hk, if_pos rfl, fun _ => rfl, fun h => absurd rfl h⟩
      · by_cases e2 : k = m
        · subst e2; rw [a2] at hk; cases hk
        · rw [a3 k e2 e1] at hk
          exact ⟨k, hk, if_neg e1, fun h => absurd h e1, fun _ => rfl⟩
    refine ⟨ι', hr.size, fun i => ?_, ?_, ?_, hr.inI, ?_, ?_, ?_, hr.fr, fun k b hp => ⟨(hr.pin k b hp).1, by rw [vr]; simpa using (hr.pin k b hp).2.1, (hr.pin k b hp).2.2⟩⟩
    · rw [sl]
      have hx := hr.slots i
      cases hs : st.slot i with
      | c y => rw [hs] at hx; exact C2 (x := .c y) hx
      | agg l => rw [hs] at hx; exact C2 (x := .agg l) hx
      | sp l => trivial
      | tup l =>
        rw [hs] at hx
        obtain ⟨us, hu, hc⟩ := hx
        refine ⟨us, hu, fun j y hy => ?_⟩
        rw [List.getElem?_map] at hy
        cases hz : l[j]? with
        | none => rw [hz] at hy; cases hy
        | some z =>
          rw [hz] at hy
          obtain rfl := Option.some.inj hy
          obtain ⟨v, hv, hq⟩ := hc j z hz
          exact ⟨v, hv, C2 hq⟩
    · intro k cs hk
      rw [vr] at hk
      cases hq : st.var k with
      | none => rw [hq] at hk; cases hk
      | some cs0 =>
        rw [hq] at hk
        obtain rfl := Option.some.inj hk
        obtain ⟨b, f, q⟩ := hr.vars k cs0 hq
        refine ⟨b, f, q.at_, q.lt, q.notI, q.mine, fun j x hx => ?_⟩
        rw [List.getElem?_map] at hx
        cases hz : cs0[j]? with
        | none => rw [hz] at hx; cases hx
        | some z =>
          rw [hz] at hx
          obtain rfl := Option.some.inj hx
          obtain ⟨q1, q2, q3⟩ := q.cell j z hz
          exact ⟨q1, q2, C1 q3⟩
    · intro k B hk
      obtain ⟨k', h1, h2, _⟩ := arr' k B hk
      rw [h2]
      exact hr.arrs k' B h1
    · intro k k' b hk hk'
      exact hr.vv k k' b (vn k hk) (vn k' hk')
    · intro k k' B b c hk hk' hb hc
      obtain ⟨j, h1, h2, _⟩ := arr' k' B hk'
      rw [h2] at hc
      exact hr.va k j B b c (vn k hk) h1 hb hc
    · intro k k' B B' b c c' hk hk' hb hc
      obtain ⟨j, h1, h2, h3, h4⟩ := arr' k B hk
      obtain ⟨j', h1', h2', h3', h4'⟩ := arr' k' B' hk'
      rw [h2] at hb
      rw [h2'] at hc
      have := hr.aa j j' B B' b c c' h1 h1' hb hc
      by_cases e : k = m'
      · by_cases e' : k' = m'
        · rw [e, e']
        · have hj' : j' = k' := h4' e'
          have hj : j = m := h3 e
          rw [hj, hj'] at this
          rw [← this] at hk'
          have hk2 : lookM m (renA m m' st.arrs) = some (some B') := hk'
          rw [a2] at hk2
          cases hk2
      · by_cases e' : k' = m'
        · have hj : j = k := h4 e
          have hj' : j' = m := h3' e'
          rw [hj, hj'] at this
          rw [this] at hk
          have hk2 : lookM m (renA m m' st.arrs) = some (some B) := hk
          rw [a2] at hk2
          cases hk2
        · rw [← h4 e, ← h4' e', this]
theorem ren_sp {st st' : St} {m m' : Name} (h : renSt m m' st = some st') : st'.nt = st.nt ∧ (∀ i x, st'.slot i = .sp x ↔ st.slot i = .sp x) := by
  unfold renSt at h
  cases hm' : st.arr m' with
  | some _ => rw [hm'] at h; cases h
  | none =>
    rw [hm'] at h
    obtain rfl := Option.some.inj h
    have sl : ∀ i, (St.slot ⟨st.nt, st.slots.map (fun p => (p.1, renS m m' p.2)), st.vars.map (fun p => (p.1, p.2.map (renC m m'))), renA m m' st.arrs⟩ i) = renS m m' (st.slot i) := fun i => by
      unfold St.slot
      rw [lookN_map]
      cases lookN i st.slots <;> rfl
    refine ⟨rfl, fun i x => ?_⟩
    rw [sl]
    cases st.slot i <;> simp [renS, renS1]

/-! ### a variable is named anew -/
def renCV (m m' : Name) : C → C
  | .pvar k o => .pvar (bif nameEq k m then m' else k) o
  | x => x
def renS1V (m m' : Name) : S → S
  | .c x => .c (renCV m m' x)
  | .agg l => .agg (l.map (renCV m m'))
  | .tup l => .tup l
  | .sp x => .sp x
def renSV (m m' : Name) : S → S
  | .tup l => .tup (l.map (renS1V m m'))
  | x => renS1V m m' x
def renN {α : Type} (m m' : Name) : List (Name × α) → List (Name × α)
  | [] => []
  | (k, A) :: r => (bif nameEq k m then m' else k, A) :: renN m m' r
def renVSt (m m' : Name) (st : St) : Option St :=
  match st.var m' with
  | some _ => none
  | none => bif Nat.beq m.1 0 || Nat.beq m'.1 0 then none else some ⟨st.nt, st.slots.map (fun p => (p.1, renSV m m' p.2)), (renN m m' st.vars).map (fun p => (p.1, p.2.map (renCV m m'))), st.arrs⟩
theorem renN_at {α : Type} {m m' : Name} : ∀ {l : List (Name × α)}, lookM m' l = none → m ≠ m' → (lookM m' (renN m m' l) = lookM m l) ∧ (lookM m (renN m m' l) = none) ∧ ∀ k, k ≠ m → k ≠ m' → lookM k (renN m m' l) = lookM k l
  | [], _, _ => ⟨rfl, rfl, fun _ _ _ => rfl⟩
  | (j, x) :: r, h, hne => by
    simp only [lookM] at h
    cases hj : nameEq m' j with
    | true => rw [hj] at h; cases h
    | false =>
      rw [hj] at h
      obtain ⟨q1, q2, q3⟩ := renN_at h hne
      simp only [renN, lookM]
      by_cases hjm : j = m
      · subst hjm
        simp only [nameEq_self, cond_true]
        refine ⟨trivial, by rw [nameEq_ne hne]; exact q2, fun k hk hk' => by rw [nameEq_ne hk', nameEq_ne hk]; exact q3 k hk hk'⟩
      · simp only [nameEq_ne hjm, cond_false]
        rw [hj, nameEq_ne (Ne.symm hjm)]
        refine ⟨q1, q2, fun k hk hk' => ?_⟩
        rw [q3 k hk hk']

theorem renVSt_inv {m m' : Name} {st st' : St} (h : renVSt m m' st = some st') : st.var m' = none ∧ m.1 ≠ 0 ∧ m'.1 ≠ 0 ∧ st' = ⟨st.nt, st.slots.map (fun p => (p.1, renSV m m' p.2)), (renN m m' st.vars).map (fun p => (p.1, p.2.map (renCV m m'))), st.arrs⟩ := by
  unfold renVSt at h
  cases hm' : st.var m' with
  | some _ => rw [hm'] at h; cases h
  | none =>
    rw [hm'] at h
    simp only at h
    rcases cond_inv' h with ⟨_, h⟩ | ⟨hb, h⟩
    · cases h
    · rw [Bool.or_eq_false_iff] at hb
      refine ⟨rfl, fun e => ?_, fun e => ?_, (Option.some.inj h).symm⟩
      · rw [e] at hb; cases hb.1
      · rw [e] at hb; cases hb.2
theorem renV_slot {m m' : Name} (nt : Nat) (sl : List (Nat × S)) (vs : List (Name × List C)) (ars : List (Name × Option Arr)) (i : Nat) :
    (St.slot ⟨nt, sl.map (fun p => (p.1, renSV m m' p.2)), vs, ars⟩ i) = renSV m m' ((lookN i sl).getD (.c .undef)) := by
  unfold St.slot
  rw [lookN_map]
  cases lookN i sl <;> rfl
theorem renV_ok {X : Ctx} {I : Nat → Prop} {ι : Im} {st st' : St} {tm : Array Value} {w : World} {m m' : Name} (hne : m ≠ m') (h : renVSt m m' st = some st') (hr : RelI X I ι st tm w) : ∃ ι', RelI X I ι' st' tm w := by
  obtain ⟨hm', n1, n2, rfl⟩ := renVSt_inv h
  let ι' : Im := ⟨fun k => if k = m' then ι.v m else ι.v k, ι.a⟩
  obtain ⟨a1, a2, a3⟩ := renN_at (m := m) (l := st.vars) hm' hne
  have vr : ∀ k, (St.var ⟨st.nt, st.slots.map (fun p => (p.1, renSV m m' p.2)), (renN m m' st.vars).map (fun p => (p.1, p.2.map (renCV m m'))), st.arrs⟩ k) = (lookM k (renN m m' st.vars)).map (List.map (renCV m m')) := fun k => by
    unfold St.var
    rw [lookM_map]
  have C1 : ∀ {x : C} {u : Value}, Rc w I ι st.var st.arr x u → Rc w I ι' (St.var ⟨st.nt, st.slots.map (fun p => (p.1, renSV m m' p.2)), (renN m m' st.vars).map (fun p => (p.1, p.2.map (renCV m m'))), st.arrs⟩) st.arr (renCV m m' x) u := by
    intro x u hx
    cases x with
    | pvar k o =>
      obtain ⟨q1, b, q2, q3⟩ := hx
      by_cases e : k = m
      · subst e
        simp only [renCV, nameEq_self, cond_true]
        refine ⟨fun hn => ?_, b, ?_, q3⟩
        · rw [vr, a1] at hn
          cases hq : lookM k st.vars with
          | none => exact q1 hq
          | some _ => rw [hq] at hn; cases hn
        · show (if m' = m' then ι.v k else _) = some b
          rw [if_pos rfl]; exact q2
      · have e' : k ≠ m' := fun e' => q1 (by rw [e']; exact hm')
        simp only [renCV, nameEq_ne e, cond_false]
        refine ⟨fun hn => ?_, b, ?_, q3⟩
        · rw [vr, a3 k e e'] at hn
          cases hq : lookM k st.vars with
          | none => exact q1 hq
          | some _ => rw [hq] at hn; cases hn
        · show (if k = m' then _ else ι.v k) = some b
          rw [if_neg e']; exact q2
    | ref k n => exact hx
    | pelem k i o => exact hx
    | v y => exact hx
    | nil y => exact hx
    | lst a b c => exact hx
    | undef => trivial
    | err b => exact hx
    | pimm a b => exact hx
  have C2 : ∀ {x : S} {u : Value}, Rs1 w I ι st.var st.arr x u → Rs1 w I ι' (St.var ⟨st.nt, st.slots.map (fun p => (p.1, renSV m m' p.2)), (renN m m' st.vars).map (fun p => (p.1, p.2.map (renCV m m'))), st.arrs⟩) st.arr (renS1V m m' x) u := by
    intro x u hx
    cases x with
    | c y => exact C1 hx
    | agg l =>
      obtain ⟨us, hu, hl, hc⟩ := hx
      refine ⟨us, hu, by simpa using hl, fun j y hy => ?_⟩
      rw [List.getElem?_map] at hy
      cases hz : l[j]? with
      | none => rw [hz] at hy; cases hy
      | some z =>
        rw [hz] at hy
        obtain rfl := Option.some.inj hy
        obtain ⟨v, hv, hq⟩ := hc j z hz
        exact ⟨v, hv, C1 hq⟩
    | tup _ => exact hx.elim
    | sp _ => trivial
  -- a variable of the new state is one of the old
  have old : ∀ k cs, St.var ⟨st.nt, st.slots.map (fun p => (p.1, renSV m m' p.2)), (renN m m' st.vars).map (fun p => (p.1, p.2.map (renCV m m'))), st.arrs⟩ k = some cs →
      ∃ k0 cs0, st.var k0 = some cs0 ∧ cs = cs0.map (renCV m m') ∧ ι'.v k = ι.v k0 ∧ (k = m' → k0 = m) ∧ (k ≠ m' → k0 = k) := by
    intro k cs hk
    rw [vr] at hk
    by_cases e1 : k = m'
    · subst e1
      rw [a1] at hk
      cases hq : lookM m st.vars with
      | none => rw [hq] at hk; cases hk
      | some c0 =>
        rw [hq] at hk
        exact ⟨m, c0, hq, (Option.some.inj hk).symm, if_pos rfl, fun _ => rfl, fun h => absurd rfl h⟩
    · by_cases e2 : k = m
      · subst e2; rw [a2] at hk; cases hk
      · rw [a3 k e2 e1] at hk
        cases hq : lookM k st.vars with
        | none => rw [hq] at hk; cases hk
        | some c0 =>
          rw [hq] at hk
          exact ⟨k, c0, hq, (Option.some.inj hk).symm, if_neg e1, fun h => absurd h e1, fun _ => rfl⟩
  have old' : ∀ k, St.var ⟨st.nt, st.slots.map (fun p => (p.1, renSV m m' p.2)), (renN m m' st.vars).map (fun p => (p.1, p.2.map (renCV m m'))), st.arrs⟩ k ≠ none → ∃ k0, st.var k0 ≠ none ∧ ι'.v k = ι.v k0 ∧ (k = m' → k0 = m) ∧ (k ≠ m' → k0 = k) := by
    intro k hk
    obtain ⟨cs, hcs⟩ := Option.ne_none_iff_exists'.mp hk
    obtain ⟨k0, c0, q1, _, q2, q3, q4⟩ := old k cs hcs
    exact ⟨k0, by rw [q1]; simp, q2, q3, q4⟩
  have notm : ∀ k, St.var ⟨st.nt, st.slots.map (fun p => (p.1, renSV m m' p.2)), (renN m m' st.vars).map (fun p => (p.1, p.2.map (renCV m m'))), st.arrs⟩ k ≠ none → k ≠ m := by
    intro k hk e
    subst e
    rw [vr, a2] at hk
    exact hk rfl
  refine ⟨ι', hr.size, fun i => ?_, ?_, fun k A hA => hr.arrs k A hA, hr.inI, ?_, ?_, fun k k' A A' b c c' h1 h2 h3 h4 => hr.aa k k' A A' b c c' h1 h2 h3 h4, hr.fr, fun k b hp => ?_⟩
  · rw [renV_slot]
    have hx := hr.slots i
    unfold St.slot at hx
    cases hs : (lookN i st.slots).getD (.c .undef) with
    | c y => rw [hs] at hx; exact C2 (x := .c y) hx
    | agg l => rw [hs] at hx; exact C2 (x := .agg l) hx
    | sp l => trivial
    | tup l =>
      rw [hs] at hx
      obtain ⟨us, hu, hc⟩ := hx
      refine ⟨us, hu, fun j y hy => ?_⟩
      rw [List.getElem?_map] at hy
      cases hz : l[j]? with
      | none => rw [hz] at hy; cases hy
      | some z =>
        rw [hz] at hy
        obtain rfl := Option.some.inj hy
        obtain ⟨v, hv, hq⟩ := hc j z hz
        exact ⟨v, hv, C2 hq⟩
  · intro k cs hk
    obtain ⟨k0, c0, q1, rfl, q2, _, _⟩ := old k cs hk
    obtain ⟨b, f, q⟩ := hr.vars k0 c0 q1
    refine ⟨b, f, q2.trans q.at_, q.lt, q.notI, q.mine, fun j x hx => ?_⟩
    rw [List.getElem?_map] at hx
    cases hz : c0[j]? with
    | none => rw [hz] at hx; cases hx
    | some z =>
      rw [hz] at hx
      obtain rfl := Option.some.inj hx
      obtain ⟨p1, p2, p3⟩ := q.cell j z hz
      exact ⟨p1, p2, C1 p3⟩
  · intro k k' b hk hk' h1 h2
    obtain ⟨j, p1, p2, p3, p4⟩ := old' k hk
    obtain ⟨j', p1', p2', p3', p4'⟩ := old' k' hk'
    rw [p2] at h1
    rw [p2'] at h2
    have hj := hr.vv j j' b p1 p1' h1 h2
    by_cases e : k = m'
    · by_cases e' : k' = m'
      · rw [e, e']
      · exact absurd (by rw [← p4' e', ← hj, p3 e] : k' = m) (notm k' hk')
    · by_cases e' : k' = m'
      · exact absurd (by rw [← p4 e, hj, p3' e'] : k = m) (notm k hk)
      · rw [← p4 e, ← p4' e', hj]
  · intro k k' A b c hk hk' h1 h2
    obtain ⟨j, p1, p2, _, _⟩ := old' k hk
    rw [p2] at h1
    exact hr.va j k' A b c p1 hk' h1 h2
  · obtain ⟨z1, z2, z3⟩ := hr.pin k b hp
    have e1 : k ≠ m := fun e => n1 (by rw [← e]; exact z1)
    have e2 : k ≠ m' := fun e => n2 (by rw [← e]; exact z1)
    refine ⟨z1, ?_, ?_⟩
    · rw [vr, a3 k e1 e2]
      intro hn
      cases hq : lookM k st.vars with
      | none => exact z2 hq
      | some _ => rw [hq] at hn; cases hn
    · show (if k = m' then _ else ι.v k) = some b
      rw [if_neg e2]; exact z3
theorem renV_sp {st st' : St} {m m' : Name} (h : renVSt m m' st = some st') : st'.nt = st.nt ∧ (∀ i x, st'.slot i = .sp x ↔ st.slot i = .sp x) := by
  obtain ⟨_, _, _, rfl⟩ := renVSt_inv h
  refine ⟨rfl, fun i x => ?_⟩
  rw [renV_slot]
  unfold St.slot
  cases (lookN i st.slots).getD (.c .undef) <;> simp [renSV, renS1V]
end Go.Ev
namespace Go.Ev
open Go Go.RowKit
set_option linter.unusedVariables false

inductive Gh where
  | arr (m : Name) (n : Nat) (g : Nat → List C)
  | slot (i : Nat) (x : S)
  | var (m : Name) (cs : List C)
  | nilS (i : Nat) (m : Name) (s : Nat)
  | nilV (v : Name) (j : Nat) (m : Name) (s : Nat)
  | imm (i : Nat)
  | immV (v : Name) (j : Nat)
  | frz (m : Name)
  | ren (m m' : Name)
  | renV (m m' : Name)
  | keep (ss : List Nat) (vs ars : List Name)
  | cutS (i : Nat)
  | famT (n : Nat) (R : Nat → List Value)
  | famF (i : Nat) (G : Nat → List C)

def avoidC (m : Name) : C → Bool
  | .ref k _ => !nameEq k m
  | .pelem k _ _ => !nameEq k m
  | _ => true
def avoidS1 (m : Name) : S → Bool
  | .c x => avoidC m x
  | .agg l => l.all (avoidC m)
  | .tup _ => true
  | .sp _ => true
def avoidS (m : Name) : S → Bool
  | .tup l => l.all (avoidS1 m)
  | x => avoidS1 m x
def cutO : S → Option (Name × Nat)
  | .c (.ref m n) => some (m, n)
  | _ => none
def cutSt (i : Nat) (st : St) : Option St :=
  match cutO (st.slot i) with
  | none => none
  | some (m, n) =>
    match st.arr m with
    | some (some A) => bif st.slots.all (fun p => Nat.beq p.1 i || avoidS m p.2) && st.vars.all (fun p => p.2.all (avoidC m)) then some { st with arrs := (m, some { A with n := n }) :: st.arrs } else none
    | _ => none
/-- How a row is told. -/
def RowTold (l : List Value) (c : List C) : Prop := ∃ g, c = [.lst 1 l.length g] ∧ ∀ j, j < l.length → rowG l j = g j
def liftSt (f : St → Option St) : M Unit := fun st =>
  match f st with
  | some s => some ⟨(), s, [], [], []⟩
  | none => none

def evGh : Gh → M Unit
  | .arr m n g => do
    let A ← liveA m
    need (A.n = n ∧ ∀ i, i < n → A.g i = g i)
    wrA m (some ⟨A.frozen, A.s, n, g⟩)
  | .slot i x => do
    let y ← rdS i
    need (TellS y x)
    wrS i x
  | .var m cs => do
    let l ← varOf m
    need (TellCs l cs)
    wrV m cs
  | .nilS i m s => do
    let y ← ofO (asC (← rdS i))
    ofO (nilO y)
    freshA m
    wrA m (some ⟨false, s, 0, fun _ => []⟩)
    wrS i (.c (.ref m 0))
  | .nilV v j m s => do
    let cs ← varOf v
    let y ← ofO cs[j]?
    ofO (nilO y)
    freshA m
    wrA m (some ⟨false, s, 0, fun _ => []⟩)
    wrV v (cs.set j (.ref m 0))
  | .imm i => do
    let y ← ofO (asC (← rdS i))
    let z ← toImm y
    wrS i (.c z)
  | .immV v j => do
    let cs ← varOf v
    let y ← ofO cs[j]?
    let z ← toImm y
    wrV v (cs.set j z)
  | .frz m => do
    let A ← liveA m
    wrA m (some { A with frozen := true })
  | .ren m m' => bif nameEq m m' then fail else liftSt (renSt m m')
  | .renV m m' => bif nameEq m m' then fail else liftSt (renVSt m m')
  | .keep ss vs ars => liftSt (keepSt ss vs ars)
  | .cutS i => liftSt (cutSt i)
  | .famT n R => do
    let F ← ofO (famO (← rdF))
    need (F.n = n ∧ ∀ i, i < n → F.R i = R i)
    ofO (freeQ F.q)
    wrF (.fam n R .none)
  | .famF i G => do
    ofO (hdO (← rdS i))
    let F ← ofO (famO (← rdF))
    ofO (freeQ F.q)
    need (∀ k, k < F.n → RowTold (F.R k) (G k))
    liftSt (fun st => bif st.slots.all (fun p => Nat.beq p.1 i || Nat.beq p.1 st.nt || !isSp p.2) then some { st with slots := (i, .c (.lst 1 F.n G)) :: (st.nt, .c .undef) :: st.slots } else none)

def evGhs : List Gh → M Unit
  | [] => pure ()
  | x :: r => do
    evGh x
    evGhs r

section
variable {X : Ctx} {I : Nat → Prop} {ι : Im} {st : St} {tm : Array Value} {w : World}

theorem wrA_inv {m : Name} {x : Option Arr} {out : Out Unit} (h : wrA m x st = some out) : out.st = { st with arrs := (m, x) :: st.arrs } := by obtain rfl := Option.some.inj h; rfl
theorem wrV_inv {m : Name} {x : List C} {out : Out Unit} (h : wrV m x st = some out) : out.st = { st with vars := (m, x) :: st.vars } := by obtain rfl := Option.some.inj h; rfl
theorem wrS_inv {i : Nat} {x : S} {out : Out Unit} (h : wrS i x st = some out) : out.st = { st with slots := (i, x) :: st.slots } := by
  unfold wrS at h
  rcases cond_inv' h with ⟨_, h⟩ | ⟨_, h⟩
  · obtain rfl := Option.some.inj h; rfl
  · cases h

/-- A variable's cells, told otherwise. -/
theorem RelI.retell (h : RelI X I ι st tm w) {m : Name} {cs l : List C} (hm : st.var m = some cs) (hl : ∀ (j : Nat) y, l[j]? = some y → (y = .undef ∧ j < cs.length) ∨ ∃ x, cs[j]? = some x ∧ ∀ u, Rc w I ι st.var st.arr x u → Rc w I ι st.var st.arr y u) (hlen : l.length = cs.length) :
    RelI X I ι { st with vars := (m, l) :: st.vars } tm w := by
  obtain ⟨b, f, q⟩ := h.vars m cs hm
  have cell : ∀ j, j < cs.length → w.cell? ⟨b, j, none⟩ = some (f j) ∧ w.frozen? ⟨b, j, none⟩ = false ∧ Rc w I ι st.var st.arr (cs.getD j .undef) (f j) := by
    intro j hj
    have := q.cell j _ (List.getElem?_eq_getElem hj)
    rw [List.getD_eq_getElem?_getD, List.getElem?_eq_getElem hj]
    exact this
  refine (h.tell hm q.at_ (us := (List.range cs.length).map f) ⟨q.lt, fun j u hu => ?_⟩ (fun j y hy => ?_)).1
  · rw [List.getElem?_map] at hu
    rcases Nat.lt_or_ge j cs.length with hj | hj
    · rw [List.getElem?_range hj] at hu
      obtain rfl := Option.some.inj hu
      exact ⟨(cell j hj).1, (cell j hj).2.1⟩
    · rw [List.getElem?_eq_none (by simpa using hj)] at hu; cases hu
  · have hj : j < cs.length := by
      rw [← hlen]
      rcases Nat.lt_or_ge j l.length with hj | hj
      · exact hj
      · rw [List.getElem?_eq_none hj] at hy; cases hy
    refine ⟨f j, by rw [List.getElem?_map, List.getElem?_range hj]; rfl, ?_⟩
    rcases hl j y hy with ⟨rfl, _⟩ | ⟨x, hx, hxy⟩
    · trivial
    · have := (cell j hj).2.2
      rw [List.getD_eq_getElem?_getD, hx] at this
      exact hxy _ this

theorem RelI.arr' (h : RelI X I ι st tm w) {m : Name} {A : Arr} (hm : st.arr m = some (some A)) {n : Nat} {g : Nat → List C} (hn : A.n = n) (hg : ∀ i, i < n → A.g i = g i) :
    RelI X I ι { st with arrs := (m, some ⟨A.frozen, A.s, n, g⟩) :: st.arrs } tm w := by
  subst hn
  have har : ∀ k, ({ st with arrs := (m, some ⟨A.frozen, A.s, A.n, g⟩) :: st.arrs } : St).arr k = if k = m then some (some ⟨A.frozen, A.s, A.n, g⟩) else st.arr k := arr_cons st m _
  have E : Ext w I ι st.var st.arr w I ι st.var ({ st with arrs := (m, some ⟨A.frozen, A.s, A.n, g⟩) :: st.arrs } : St).arr := by
    refine ⟨fun b hb => rfl, fun _ hb => hb, fun k hk => ⟨hk, rfl⟩, fun k hk => ?_, fun k B hB => ?_⟩
    · rw [har, if_neg (fun e => by rw [e, hm] at hk; cases hk)]; exact hk
    · rw [har]
      by_cases e : k = m
      · subst e
        rw [hm] at hB; injection hB with hB; injection hB with hB; subst hB
        exact .inr ⟨⟨A.frozen, A.s, A.n, g⟩, by rw [if_pos rfl], rfl, rfl, rfl⟩
      · exact .inr ⟨B, by rw [if_neg e]; exact hB, rfl, rfl, rfl⟩
  have old : ∀ k B, ({ st with arrs := (m, some ⟨A.frozen, A.s, A.n, g⟩) :: st.arrs } : St).arr k = some (some B) → ∃ B', st.arr k = some (some B') := by
    intro k B hB
    rw [har] at hB
    by_cases e : k = m
    · exact ⟨A, by rw [e]; exact hm⟩
    · rw [if_neg e] at hB; exact ⟨B, hB⟩
  refine h.upd E rfl (fun _ => rfl) (Nat.le_refl _) h.fr ?_ ?_ h.inI h.vv ?_ ?_
  · intro k cs hk
    refine .inl ⟨hk, fun b hb => ?_⟩
    obtain ⟨b', f, hok⟩ := h.vars k cs hk
    rw [hok.at_] at hb; injection hb with hb; subst hb
    exact ⟨rfl, hok.notI⟩
  · intro k B hB
    rw [har] at hB
    by_cases e : k = m
    · rw [if_pos e] at hB
      injection hB with hB; injection hB with hB; subst hB
      right
      have := h.arrs m A hm
      rw [e]
      unfold ArrOk at this ⊢
      split at this
      · exact this
      · obtain ⟨⟨f, hr⟩, hz⟩ := this
        exact ⟨⟨f, hr.eqG rfl rfl hg⟩, hz⟩
    · rw [if_neg e] at hB
      refine .inl ⟨hB, rfl, fun b c hb => ⟨rfl, fun hf => ?_⟩⟩
      have := h.arrs k B hB
      rw [hb] at this
      have := this.2
      rw [hf] at this
      exact this.1
  · intro k k' B b c hk hB
    obtain ⟨B', hB'⟩ := old k' B hB
    exact h.va k k' B' b c hk hB'
  · intro k k' B B' b c c' hB hB'
    obtain ⟨D, hD⟩ := old k B hB
    obtain ⟨D', hD'⟩ := old k' B' hB'
    exact h.aa k k' D D' b c c' hD hD'

theorem Rc_avoid {va : VA} {ar ar' : AR} {m : Name} (ha : ∀ k, k ≠ m → ar' k = ar k) {x : C} (hx : avoidC m x = true) {u : Value} (h : Rc w I ι va ar x u) : Rc w I ι va ar' x u := by
  cases x with
  | ref k n =>
    have : k ≠ m := fun e => by rw [e] at hx; simp [avoidC, nameEq_self] at hx
    simp only [Rc] at h ⊢; rw [ha k this]; exact h
  | pelem k i o =>
    have : k ≠ m := fun e => by rw [e] at hx; simp [avoidC, nameEq_self] at hx
    simp only [Rc] at h ⊢; rw [ha k this]; exact h
  | _ => exact h
theorem Rs1_avoid {va : VA} {ar ar' : AR} {m : Name} (ha : ∀ k, k ≠ m → ar' k = ar k) {x : S} (hx : avoidS1 m x = true) {u : Value} (h : Rs1 w I ι va ar x u) : Rs1 w I ι va ar' x u := by
  cases x with
  | c y => exact Rc_avoid ha hx h
  | agg l =>
    obtain ⟨us, hu, hl, hc⟩ := h
    refine ⟨us, hu, hl, fun j y hy => ?_⟩
    obtain ⟨v, hv', hr⟩ := hc j y hy
    exact ⟨v, hv', Rc_avoid ha (List.all_eq_true.mp hx y (List.mem_of_getElem? hy)) hr⟩
  | tup _ => exact h.elim
  | sp _ => trivial
theorem Rs_avoid {va : VA} {ar ar' : AR} {m : Name} (ha : ∀ k, k ≠ m → ar' k = ar k) {x : S} (hx : avoidS m x = true) {u : Value} (h : Rs w I ι va ar x u) : Rs w I ι va ar' x u := by
  cases x with
  | c y => exact Rs1_avoid (x := .c y) ha hx h
  | agg l => exact Rs1_avoid (x := .agg l) ha hx h
  | sp _ => trivial
  | tup l =>
    obtain ⟨us, hu, hc⟩ := h
    refine ⟨us, hu, fun j y hy => ?_⟩
    obtain ⟨v, hv', hr⟩ := hc j y hy
    exact ⟨v, hv', Rs1_avoid ha (List.all_eq_true.mp hx y (List.mem_of_getElem? hy)) hr⟩
theorem lookN_mem {α : Type} {i : Nat} {x : α} : ∀ {l : List (Nat × α)}, lookN i l = some x → (i, x) ∈ l
  | [], h => by cases h
  | (k, y) :: r, h => by
    simp only [lookN] at h
    cases hb : Nat.beq i k with
    | true => rw [hb] at h; obtain rfl := Nat.eq_of_beq_eq_true hb; obtain rfl := Option.some.inj h; exact List.mem_cons_self
    | false => rw [hb] at h; exact List.mem_cons_of_mem _ (lookN_mem h)
theorem lookM_mem {α : Type} {i : Name} {x : α} : ∀ {l : List (Name × α)}, lookM i l = some x → (i, x) ∈ l
  | [], h => by cases h
  | (k, y) :: r, h => by
    simp only [lookM] at h
    cases hb : nameEq i k with
    | true => rw [hb] at h; obtain rfl := nameEq_iff.mp hb; obtain rfl := Option.some.inj h; exact List.mem_cons_self
    | false => rw [hb] at h; exact List.mem_cons_of_mem _ (lookM_mem h)
/-- An array of which only the beginning is told any more. -/
theorem cut_ok {i : Nat} {s : St} (h : cutSt i st = some s) (hr : RelI X I ι st tm w) : RelI X I ι s tm w ∧ s.nt = st.nt ∧ s.slots = st.slots := by
  unfold cutSt at h
  cases hc : cutO (st.slot i) with
  | none => rw [hc] at h; cases h
  | some p =>
    obtain ⟨m, n⟩ := p
    rw [hc] at h
    simp only at h
    have hsl : st.slot i = .c (.ref m n) := by
      unfold cutO at hc
      split at hc
      · rename_i heq; rw [heq]; obtain ⟨rfl, rfl⟩ := Prod.mk.inj (Option.some.inj hc); rfl
      · cases hc
    cases ha : st.arr m with
    | none => rw [ha] at h; cases h
    | some o =>
      cases o with
      | none => rw [ha] at h; cases h
      | some A =>
        rw [ha] at h
        simp only at h
        rcases cond_inv' h with ⟨hb, h⟩ | ⟨_, h⟩
        case inr => cases h
        obtain rfl := Option.some.inj h
        simp only [Bool.and_eq_true, List.all_eq_true] at hb
        obtain ⟨b1, b2⟩ := hb
        have hi := hr.slots i
        rw [hsl] at hi
        have hi' : Rc w I ι st.var st.arr (.ref m n) (tm.getD i undef) := hi
        simp only [Rc, ha] at hi'
        have har : ∀ k, ({ st with arrs := (m, some { A with n := n }) :: st.arrs } : St).arr k = if k = m then some (some { A with n := n }) else st.arr k := arr_cons st m _
        have hne : ∀ k, k ≠ m → ({ st with arrs := (m, some { A with n := n }) :: st.arrs } : St).arr k = st.arr k := fun k hk => by rw [har, if_neg hk]
        have old : ∀ k B, ({ st with arrs := (m, some { A with n := n }) :: st.arrs } : St).arr k = some (some B) → ∃ B', st.arr k = some (some B') := by
          intro k B hB
          rw [har] at hB
          split at hB
          · rename_i e; exact ⟨A, by rw [e]; exact ha⟩
          · exact ⟨B, hB⟩
        refine ⟨⟨hr.size, fun j => ?_, fun k cs hk => ?_, fun k B hB => ?_, hr.inI, hr.vv, fun k k' B b c hk hB => ?_, fun k k' B B' b c c' hB hB' => ?_, hr.fr, hr.pin⟩, rfl, rfl⟩
        · show Rs w I ι st.var _ (st.slot j) _
          by_cases e : j = i
          · subst e
            rw [hsl]
            show Rc w I ι st.var ({ st with arrs := (m, some { A with n := n }) :: st.arrs } : St).arr (.ref m n) _
            simp only [Rc]
            rw [har, if_pos rfl]
            exact ⟨Nat.le_refl _, hi'.2⟩
          · have hj := hr.slots j
            unfold St.slot at hj ⊢
            cases hq : lookN j st.slots with
            | none => trivial
            | some x =>
              rw [hq] at hj
              have := b1 _ (lookN_mem hq)
              simp only [Bool.or_eq_true] at this
              rcases this with h' | h'
              · exact absurd (Nat.eq_of_beq_eq_true h') e
              · exact Rs_avoid hne h' hj
        · obtain ⟨b, f, q⟩ := hr.vars k cs hk
          refine ⟨b, f, q.at_, q.lt, q.notI, q.mine, fun j x hx => ?_⟩
          obtain ⟨q1, q2, q3⟩ := q.cell j x hx
          exact ⟨q1, q2, Rc_avoid hne (b2 _ (lookM_mem hk) x (List.mem_of_getElem? hx)) q3⟩
        · rw [har] at hB
          split at hB
          · rename_i e; subst e
            injection hB with hB; injection hB with hB; subst hB
            have hok := hr.arrs k A ha
            unfold ArrOk at hok ⊢
            split at hok
            · have : n ≤ A.n := hi'.1
              show n = 0
              omega
            · obtain ⟨⟨f, r⟩, hz⟩ := hok
              have hle : n ≤ A.n := hi'.1
              exact ⟨⟨f, r.lt, r.pos, Nat.le_trans hle r.fit, r.max, r.there, fun i hi => r.len i (Nat.lt_of_lt_of_le hi hle), fun i j x hi hx => r.cell i j x (Nat.lt_of_lt_of_le hi hle) hx, fun i j x hi hx => r.rel i j x (Nat.lt_of_lt_of_le hi hle) hx⟩, hz⟩
          · exact hr.arrs k B hB
        · obtain ⟨B', hB'⟩ := old k' B hB
          exact hr.va k k' B' b c hk hB'
        · obtain ⟨D, hD⟩ := old k B hB
          obtain ⟨D', hD'⟩ := old k' B' hB'
          exact hr.aa k k' D D' b c c' hD hD'

theorem nil_Rc {y : C} (h : nilO y = some ()) {va : VA} {ar : AR} {u : Value} (hy : Rc w I ι va ar y u) : u = .slice none 0 0 := by
  cases y with
  | nil s => cases hy with | nil => rfl
  | v x =>
    cases hy with
    | v _ hf =>
      unfold nilO at h
      split at h
      · rename_i heq; cases heq
      · rename_i heq; injection heq
      · cases h
  | _ => cases h

def plainGh : Gh → Bool
  | .famT .. => false
  | .famF .. => false
  | _ => true
theorem evGh_ok0 {x : Gh} {out : Out Unit} (hx : plainGh x = true) (h : evGh x st = some out) (hs : out.side) (hr : RelI X I ι st tm w) : ∃ I' ι', RelI X I' ι' out.st tm w := by
  cases x with
  | arr m n g =>
    unfold evGh at h
    obtain ⟨o1, o2, h1, h2, v1, s1, d1⟩ := bind_inv h
    obtain ⟨e1, e2⟩ := liveA_inv h1
    rw [e2] at h2
    obtain ⟨o3, o4, h3, h4, v3, s3, d3⟩ := bind_inv h2
    obtain ⟨e3, e4⟩ := need_inv h3
    rw [e3] at h4
    have hd := (d3 (d1 hs).2).1
    rw [e4] at hd
    rw [s1, s3, wrA_inv h4]
    exact ⟨I, ι, hr.arr' e1 hd.1 hd.2⟩
  | slot i x =>
    unfold evGh at h
    obtain ⟨o1, o2, h1, h2, v1, s1, d1⟩ := bind_inv h
    obtain ⟨e1, e2⟩ := rdS_inv h1
    rw [e2] at h2
    obtain ⟨o3, o4, h3, h4, v3, s3, d3⟩ := bind_inv h2
    obtain ⟨e3, e4⟩ := need_inv h3
    rw [e3] at h4
    have hd := (d3 (d1 hs).2).1
    rw [e4] at hd
    rw [s1, s3, wrS_inv h4]
    rw [e1] at hd
    exact ⟨I, ι, hr.slot (hd.ok (hr.slots i))⟩
  | var m cs =>
    unfold evGh at h
    obtain ⟨o1, o2, h1, h2, v1, s1, d1⟩ := bind_inv h
    obtain ⟨e1, e2⟩ := varOf_inv h1
    rw [e2] at h2
    obtain ⟨o3, o4, h3, h4, v3, s3, d3⟩ := bind_inv h2
    obtain ⟨e3, e4⟩ := need_inv h3
    rw [e3] at h4
    have hd := (d3 (d1 hs).2).1
    rw [e4] at hd
    rw [s1, s3, wrV_inv h4]
    obtain ⟨q1, q2⟩ := hd.at
    refine ⟨I, ι, hr.retell e1 (fun j y hy => ?_) q1.symm⟩
    obtain ⟨z, hz, ht⟩ := q2 j y hy
    exact .inr ⟨z, hz, fun u hu => ht.ok hu⟩
  | nilS i m s =>
    unfold evGh at h
    obtain ⟨o1, o2, h1, h2, v1, s1, d1⟩ := bind_inv h
    obtain ⟨e1, e2⟩ := rdS_inv h1
    rw [e1, e2] at h2
    obtain ⟨o3, o4, h3, h4, v3, s3, d3⟩ := bind_inv h2
    obtain ⟨e3, e4⟩ := ofO_inv h3
    rw [e4] at h4
    obtain ⟨o5, o6, h5, h6, v5, s5, d5⟩ := bind_inv h4
    obtain ⟨e5, e6⟩ := ofO_inv h5
    rw [e6] at h6
    obtain ⟨o7, o8, h7, h8, v7, s7, d7⟩ := bind_inv h6
    obtain ⟨e7, e8⟩ := freshA_inv h7
    rw [e8] at h8
    obtain ⟨o9, oa, h9, ha, v9, s9, d9⟩ := bind_inv h8
    rw [s1, s3, s5, s7, s9, wrS_inv ha, wrA_inv h9]
    obtain ⟨ι', hr', E, hi⟩ := hr.newA0 e7 s (fun _ => [])
    have hx := hr.slots i
    have hc : st.slot i = .c o3.val := by
      cases hq : st.slot i with
      | c y => rw [hq] at e3; injection e3 with e3; rw [e3]
      | agg _ => rw [hq] at e3; cases e3
      | tup _ => rw [hq] at e3; cases e3
      | sp _ => rw [hq] at e3; cases e3
    rw [hc] at hx
    have hu := nil_Rc e5 (show Rc w I ι st.var st.arr o3.val _ from hx)
    refine ⟨I, ι', hr'.slot ?_⟩
    rw [hu]
    exact Rc_ref (w := w) (I := I) (ι := ι') (va := st.var) (A := ⟨false, s, 0, fun _ => []⟩) (by rw [arr_cons, if_pos rfl]) (Nat.le_refl _) (by rw [hi]; exact ⟨rfl, rfl⟩)
  | nilV v j m s =>
    unfold evGh at h
    obtain ⟨o1, o2, h1, h2, v1, s1, d1⟩ := bind_inv h
    obtain ⟨e1, e2⟩ := varOf_inv h1
    rw [e2] at h2
    obtain ⟨o3, o4, h3, h4, v3, s3, d3⟩ := bind_inv h2
    obtain ⟨e3, e4⟩ := ofO_inv h3
    rw [e4] at h4
    obtain ⟨o5, o6, h5, h6, v5, s5, d5⟩ := bind_inv h4
    obtain ⟨e5, e6⟩ := ofO_inv h5
    rw [e6] at h6
    obtain ⟨o7, o8, h7, h8, v7, s7, d7⟩ := bind_inv h6
    obtain ⟨e7, e8⟩ := freshA_inv h7
    rw [e8] at h8
    obtain ⟨o9, oa, h9, ha, v9, s9, d9⟩ := bind_inv h8
    rw [s1, s3, s5, s7, s9, wrV_inv ha, wrA_inv h9]
    obtain ⟨ι', hr', E, hi⟩ := hr.newA0 e7 s (fun _ => [])
    have hv1 : ({ st with arrs := (m, some ⟨false, s, 0, fun _ => []⟩) :: st.arrs } : St).var v = some o1.val := e1
    have e3' : o1.val[j]? = some o3.val := e3
    refine ⟨I, ι', hr'.retell hv1 (fun k y hy => ?_) (by simp)⟩
    by_cases hk : k = j
    · subst hk
      have hlt := (List.getElem?_eq_some_iff.mp e3').1
      rw [List.getElem?_set_self hlt] at hy
      obtain rfl := Option.some.inj hy
      refine .inr ⟨o3.val, e3', fun u hu => ?_⟩
      have hu' := nil_Rc e5 hu
      rw [hu']
      exact Rc_ref (w := w) (I := I) (ι := ι') (va := st.var) (A := ⟨false, s, 0, fun _ => []⟩) (by rw [arr_cons, if_pos rfl]) (Nat.le_refl _) (by rw [hi]; exact ⟨rfl, rfl⟩)
    · rw [List.getElem?_set_ne (Ne.symm hk)] at hy
      exact .inr ⟨y, hy, fun u hu => hu⟩
  | imm i =>
    unfold evGh at h
    obtain ⟨o1, o2, h1, h2, v1, s1, d1⟩ := bind_inv h
    obtain ⟨e1, e2⟩ := rdS_inv h1
    rw [e1, e2] at h2
    obtain ⟨o3, o4, h3, h4, v3, s3, d3⟩ := bind_inv h2
    obtain ⟨e3, e4⟩ := ofO_inv h3
    rw [e4] at h4
    obtain ⟨o5, o6, h5, h6, v5, s5, d5⟩ := bind_inv h4
    rw [s1, s3, s5, wrS_inv h6]
    have hx := hr.slots i
    have hc : st.slot i = .c o3.val := by
      cases hq : st.slot i with
      | c y => rw [hq] at e3; injection e3 with e3; rw [e3]
      | agg _ => rw [hq] at e3; cases e3
      | tup _ => rw [hq] at e3; cases e3
      | sp _ => rw [hq] at e3; cases e3
    rw [hc] at hx
    obtain ⟨I', hr', E, hz⟩ := toImm_ok h5 hr (show Rc w I ι st.var st.arr o3.val _ from hx)
    exact ⟨I', ι, hr'.slot (show Rc w I' ι o5.st.var o5.st.arr o5.val _ from immB_Rc hz)⟩
  | immV v j =>
    unfold evGh at h
    obtain ⟨o1, o2, h1, h2, v1, s1, d1⟩ := bind_inv h
    obtain ⟨e1, e2⟩ := varOf_inv h1
    rw [e2] at h2
    obtain ⟨o3, o4, h3, h4, v3, s3, d3⟩ := bind_inv h2
    obtain ⟨e3, e4⟩ := ofO_inv h3
    rw [e4] at h4
    obtain ⟨o5, o6, h5, h6, v5, s5, d5⟩ := bind_inv h4
    rw [s1, s3, s5, wrV_inv h6]
    have e3' : o1.val[j]? = some o3.val := e3
    obtain ⟨b, f, q⟩ := hr.vars v o1.val e1
    obtain ⟨q1, q2, q3⟩ := q.cell j o3.val e3'
    obtain ⟨I', hr', E, hz⟩ := toImm_ok h5 hr q3
    have hv : o5.st.var = st.var := by
      cases hq : o3.val with
      | ref m n =>
        rw [hq] at h5
        unfold toImm at h5
        obtain ⟨p1, p2, g1, g2, w1, r1, c1⟩ := bind_inv h5
        obtain ⟨f1, f2⟩ := liveA_inv g1
        rw [f2] at g2
        obtain ⟨p3, p4, g3, g4, w3, r3, c3⟩ := bind_inv g2
        have hp := pure_inv g4
        rw [r1, r3, hp, wrA_inv g3]
        rfl
      | v y => rw [hq] at h5; rw [pure_inv (st := st) h5]
      | nil s => rw [hq] at h5; rw [pure_inv (st := st) h5]
      | lst s n g => rw [hq] at h5; rw [pure_inv (st := st) h5]
      | pvar m o => rw [hq] at h5; exact (fail_inv (st := st) h5).elim
      | pelem m i o => rw [hq] at h5; exact (fail_inv (st := st) h5).elim
      | pimm cs o => rw [hq] at h5; exact (fail_inv (st := st) h5).elim
      | err b => rw [hq] at h5; rw [pure_inv (st := st) (x := C.err b) h5]
      | undef => rw [hq] at h5; exact (fail_inv (st := st) h5).elim
    have e1' : o5.st.var v = some o1.val := by rw [hv]; exact e1
    obtain ⟨b', f', q'⟩ := hr'.vars v o1.val e1'
    have hbb : b' = b := by
      have := q'.at_
      rw [q.at_] at this
      injection this with this
      exact this.symm
    -- cell by cell, with the values that lie there
    have cell : ∀ k, k < o1.val.length → w.cell? ⟨b', k, none⟩ = some (f' k) ∧ w.frozen? ⟨b', k, none⟩ = false ∧ Rc w I' ι o5.st.var o5.st.arr (o1.val.getD k .undef) (f' k) := by
      intro k hk
      have := q'.cell k _ (List.getElem?_eq_getElem hk)
      rw [List.getD_eq_getElem?_getD, List.getElem?_eq_getElem hk]
      exact this
    refine ⟨I', ι, (hr'.tell e1' q'.at_ (us := (List.range o1.val.length).map f') ⟨q'.lt, fun k u hu => ?_⟩ (fun k y hy => ?_)).1⟩
    · rw [List.getElem?_map] at hu
      rcases Nat.lt_or_ge k o1.val.length with hk | hk
      · rw [List.getElem?_range hk] at hu
        obtain rfl := Option.some.inj hu
        exact ⟨(cell k hk).1, (cell k hk).2.1⟩
      · rw [List.getElem?_eq_none (by simpa using hk)] at hu; cases hu
    · have hk : k < o1.val.length := by
        rcases Nat.lt_or_ge k o1.val.length with hk | hk
        · exact hk
        · rw [List.getElem?_eq_none (by simpa using hk)] at hy; cases hy
      refine ⟨f' k, by rw [List.getElem?_map, List.getElem?_range hk]; rfl, ?_⟩
      by_cases hkj : k = j
      · subst hkj
        rw [List.getElem?_set_self hk] at hy
        obtain rfl := Option.some.inj hy
        have h1 := (cell k hk).1
        rw [hbb, q1] at h1
        rw [← Option.some.inj h1]
        exact immB_Rc hz
      · rw [List.getElem?_set_ne (Ne.symm hkj)] at hy
        have := (cell k hk).2.2
        rw [List.getD_eq_getElem?_getD, hy] at this
        exact this
  | frz m =>
    unfold evGh at h
    obtain ⟨o1, o2, h1, h2, v1, s1, d1⟩ := bind_inv h
    obtain ⟨e1, e2⟩ := liveA_inv h1
    rw [e2] at h2
    rw [s1, wrA_inv h2]
    obtain ⟨I', hr', _⟩ := hr.freeze e1
    exact ⟨I', ι, hr'⟩
  | ren m m' =>
    unfold evGh at h
    rcases cond_inv h with ⟨_, h⟩ | ⟨hne, h⟩
    · exact (fail_inv h).elim
    · unfold liftSt at h
      cases hq : renSt m m' st with
      | none => rw [hq] at h; cases h
      | some s =>
        rw [hq] at h
        obtain rfl := Option.some.inj h
        obtain ⟨ι', hr'⟩ := ren_ok (fun e => by rw [e, nameEq_self] at hne; cases hne) hq hr
        exact ⟨I, ι', hr'⟩
  | renV m m' =>
    unfold evGh at h
    rcases cond_inv h with ⟨_, h⟩ | ⟨hne, h⟩
    · exact (fail_inv h).elim
    · unfold liftSt at h
      cases hq : renVSt m m' st with
      | none => rw [hq] at h; cases h
      | some s =>
        rw [hq] at h
        obtain rfl := Option.some.inj h
        obtain ⟨ι', hr'⟩ := renV_ok (fun e => by rw [e, nameEq_self] at hne; cases hne) hq hr
        exact ⟨I, ι', hr'⟩
  | keep ss vs ars =>
    replace h : liftSt (keepSt ss vs ars) st = some out := h
    unfold liftSt at h
    cases hq : keepSt ss vs ars st with
    | none => rw [hq] at h; cases h
    | some s =>
      rw [hq] at h
      obtain rfl := Option.some.inj h
      exact ⟨I, ι, keep_ok hq hr⟩
  | cutS i =>
    replace h : liftSt (cutSt i) st = some out := h
    unfold liftSt at h
    cases hq : cutSt i st with
    | none => rw [hq] at h; cases h
    | some s =>
      rw [hq] at h
      obtain rfl := Option.some.inj h
      exact ⟨I, ι, (cut_ok hq hr).1⟩
  | famT _ _ => cases hx
  | famF _ _ => cases hx

theorem toImm_slots {x : C} {o : Out C} (h : toImm x st = some o) : o.st.nt = st.nt ∧ o.st.slots = st.slots := by
  cases x with
  | ref m n =>
    unfold toImm at h
    obtain ⟨o1, o2, h1, h2, rfl⟩ := bind_some h
    obtain ⟨e1, e2⟩ := liveA_inv h1
    rw [e2] at h2
    obtain ⟨o3, o4, h3, h4, rfl⟩ := bind_some h2
    obtain rfl := Option.some.inj h3
    obtain rfl := pure_inv h4
    exact ⟨rfl, rfl⟩
  | v y => obtain rfl := pure_inv h; exact ⟨rfl, rfl⟩
  | nil s => obtain rfl := pure_inv h; exact ⟨rfl, rfl⟩
  | lst s n g => obtain rfl := pure_inv h; exact ⟨rfl, rfl⟩
  | pvar _ _ => exact absurd h (by simp [toImm, fail])
  | pelem _ _ _ => exact absurd h (by simp [toImm, fail])
  | pimm _ _ => exact absurd h (by simp [toImm, fail])
  | err b => rw [pure_inv (st := st) (x := C.err b) h]; exact ⟨rfl, rfl⟩
  | undef => exact absurd h (by simp [toImm, fail])

/-- More of what is there is not written any more. -/
theorem RelI.growI (h : RelI X I ι st tm w) (J : Nat → Prop) (hJ : ∀ b, J b → b < w.heap.size ∧ X.mine b ∧ Unused st ι b) : RelI X (fun b => I b ∨ J b) ι st tm w := by
  have E : Ext w I ι st.var st.arr w (fun b => I b ∨ J b) ι st.var st.arr :=
    ⟨fun _ _ => rfl, fun _ hb => .inl hb, fun m hm => ⟨hm, rfl⟩, fun _ h => h, fun m A hA => .inr ⟨A, hA, rfl, rfl, rfl⟩⟩
  refine ⟨h.size, fun i => (h.slots i).ext E, fun m cs hm => ?_, fun m A hm => ?_, fun b hb => ?_, h.vv, h.va, h.aa, h.fr, h.pin⟩
  · obtain ⟨b, f, q⟩ := h.vars m cs hm
    refine ⟨b, f, q.at_, q.lt, ?_, q.mine, fun j x hx => let ⟨a, b, c⟩ := q.cell j x hx; ⟨a, b, c.ext E⟩⟩
    rintro (hb | hb)
    · exact q.notI hb
    · exact (hJ b hb).2.2.1 m (by rw [hm]; simp) q.at_
  · have hok := h.arrs m A hm
    unfold ArrOk at hok ⊢
    split at hok
    · exact hok
    · rename_i b cap hp
      obtain ⟨⟨f, r⟩, hz⟩ := hok
      refine ⟨⟨f, r.lt, r.pos, r.fit, r.max, r.there, r.len, r.cell, fun i j x hi hx => (r.rel i j x hi hx).mono E.hw E.hI⟩, ?_⟩
      cases hf : A.frozen with
      | true => rw [hf] at hz; exact .inl hz
      | false =>
        rw [hf] at hz
        refine ⟨?_, hz.2⟩
        rintro (hb | hb)
        · exact hz.1 hb
        · exact (hJ b hb).2.2.2 m A cap hm hp
  · rcases hb with hb | hb
    · exact h.inI b hb
    · exact ⟨(hJ b hb).1, .inr (hJ b hb).2.1⟩

theorem row_imm {l : List Value} {p : Option (Nat × Nat)} {u : Value} {J : Nat → Prop} (hok : ArrOk X w I ⟨false, 1, l.length, rowG l⟩ p) (hu : hdr p l.length u) (hJ : ∀ b c, p = some (b, c) → J b) : Rimm w J (.lst 1 l.length (rowG l)) u := by
  unfold hdr at hu
  cases p with
  | none =>
    obtain ⟨rfl, h0⟩ := hu
    rw [h0]; exact .lst0 _ _ _ _
  | some q =>
    obtain ⟨b, c⟩ := q
    obtain rfl : u = _ := hu
    obtain ⟨⟨f, r⟩, _⟩ := hok
    rcases Nat.eq_zero_or_pos l.length with h0 | h0
    · rw [h0]; exact .lst0 _ _ _ _
    · refine .lst 1 _ _ b 0 c f h0 r.fit (hJ b c rfl) (fun i hi => rfl) (fun i j x hi hx => by have := r.cell i j x hi hx; simpa using this) (fun i j x hi hx => ?_)
      have hr := r.rel i j x hi hx
      cases j with
      | zero =>
        simp [rowG] at hx; subst hx
        generalize f i 0 = v at hr ⊢
        cases hr with
        | v _ hf => exact .v _ hf
      | succ j => simp [rowG] at hx

theorem evGh_sp {x : Gh} {out : Out Unit} (hx : plainGh x = true) (h : evGh x st = some out) (hs : out.side) : out.st.nt = st.nt ∧ (∀ i y, out.st.slot i = .sp y → st.slot i = .sp y) ∧ (famO (out.st.slot st.nt) = famO (st.slot st.nt) ∨ ∀ i y, out.st.slot i ≠ .sp y) := by
  have same : ∀ {s' : St}, s'.nt = st.nt → s'.slots = st.slots → s'.nt = st.nt ∧ (∀ i y, s'.slot i = .sp y → st.slot i = .sp y) ∧ (famO (s'.slot st.nt) = famO (st.slot st.nt) ∨ ∀ i y, s'.slot i ≠ .sp y) := by
    intro s' h1 h2
    have : ∀ i, s'.slot i = st.slot i := fun i => by unfold St.slot; rw [h2]
    exact ⟨h1, fun i y hy => by rw [← this]; exact hy, .inl (by rw [this])⟩
  have put : ∀ {s1 s' : St} {i : Nat} {y : S}, s1.nt = st.nt → s1.slots = st.slots → wrS i y s1 = some ⟨(), s', [], [], [.s i]⟩ → (∀ z, y ≠ .sp z) → s'.nt = st.nt ∧ (∀ i y, s'.slot i = .sp y → st.slot i = .sp y) ∧ (famO (s'.slot st.nt) = famO (st.slot st.nt) ∨ ∀ i y, s'.slot i ≠ .sp y) := by
    intro s1 s' i y h1 h2 hw hy
    unfold wrS at hw
    cases hb : Nat.blt i s1.nt with
    | false => rw [hb] at hw; cases hw
    | true =>
      rw [hb] at hw
      have := Option.some.inj hw
      injection this with _ hst _ _ _
      subst hst
      have hlt : i < st.nt := by rw [← h1]; simpa using hb
      have hsl : ∀ j, s1.slot j = st.slot j := fun j => by unfold St.slot; rw [h2]
      refine ⟨h1, fun j z hz => ?_, .inl ?_⟩
      · rw [slot_cons] at hz
        split at hz
        · exact absurd hz (hy z)
        · rw [← hsl]; exact hz
      · rw [slot_cons, if_neg (Nat.ne_of_gt hlt), hsl]
  have wrS_form : ∀ {s1 : St} {i : Nat} {y : S} {o : Out Unit}, wrS i y s1 = some o → wrS i y s1 = some ⟨(), o.st, [], [], [.s i]⟩ := by
    intro s1 i y o hw
    have hw' := hw
    unfold wrS at hw
    cases hb : Nat.blt i s1.nt with
    | false => rw [hb] at hw; cases hw
    | true => rw [hb] at hw; obtain rfl := Option.some.inj hw; exact hw'
  cases x with
  | arr m n g =>
    unfold evGh at h
    obtain ⟨o1, o2, h1, h2, v1, s1, d1⟩ := bind_inv h
    obtain ⟨e1, e2⟩ := liveA_inv h1
    rw [e2] at h2
    obtain ⟨o3, o4, h3, h4, v3, s3, d3⟩ := bind_inv h2
    obtain ⟨e3, e4⟩ := need_inv h3
    rw [e3] at h4
    rw [s1, s3, wrA_inv h4]
    exact same rfl rfl
  | slot i x =>
    unfold evGh at h
    obtain ⟨o1, o2, h1, h2, v1, s1, d1⟩ := bind_inv h
    obtain ⟨e1, e2⟩ := rdS_inv h1
    rw [e2] at h2
    obtain ⟨o3, o4, h3, h4, v3, s3, d3⟩ := bind_inv h2
    obtain ⟨e3, e4⟩ := need_inv h3
    rw [e3] at h4
    have hd := (d3 (d1 hs).2).1
    rw [e4] at hd
    rw [s1, s3]
    refine put rfl rfl (wrS_form h4) fun z e => ?_
    subst e
    cases hv : o1.val with
    | c _ => rw [hv] at hd; simp [TellS, TellS1] at hd
    | agg _ => rw [hv] at hd; simp [TellS, TellS1] at hd
    | tup _ => rw [hv] at hd; simp [TellS, TellS1] at hd
    | sp _ => rw [hv] at hd; simp [TellS, TellS1] at hd
  | var m cs =>
    unfold evGh at h
    obtain ⟨o1, o2, h1, h2, v1, s1, d1⟩ := bind_inv h
    obtain ⟨e1, e2⟩ := varOf_inv h1
    rw [e2] at h2
    obtain ⟨o3, o4, h3, h4, v3, s3, d3⟩ := bind_inv h2
    obtain ⟨e3, e4⟩ := need_inv h3
    rw [e3] at h4
    rw [s1, s3, wrV_inv h4]
    exact same rfl rfl
  | nilS i m s =>
    unfold evGh at h
    obtain ⟨o1, o2, h1, h2, v1, s1, d1⟩ := bind_inv h
    obtain ⟨p1, p2, g1, g2, w1, t1, c1⟩ := bind_inv h2
    obtain ⟨r1, r2⟩ := rdS_inv h1
    rw [r2] at g1
    obtain ⟨q1, q2⟩ := ofO_inv g1
    rw [q2] at g2
    obtain ⟨o5, o6, h5, h6, v5, s5, d5⟩ := bind_inv g2
    obtain ⟨e5, e6⟩ := ofO_inv h5
    rw [e6] at h6
    obtain ⟨o7, o8, h7, h8, v7, s7, d7⟩ := bind_inv h6
    obtain ⟨e7, e8⟩ := freshA_inv h7
    rw [e8] at h8
    obtain ⟨o9, oa, h9, ha, v9, s9, d9⟩ := bind_inv h8
    rw [wrA_inv h9] at ha
    rw [s1, t1, s5, s7, s9]
    exact put (s1 := { st with arrs := (m, some ⟨false, s, 0, fun _ => []⟩) :: st.arrs }) rfl rfl (wrS_form ha) fun z e => by cases e
  | nilV v j m s =>
    unfold evGh at h
    obtain ⟨o1, o2, h1, h2, v1, s1, d1⟩ := bind_inv h
    obtain ⟨e1, e2⟩ := varOf_inv h1
    rw [e2] at h2
    obtain ⟨o3, o4, h3, h4, v3, s3, d3⟩ := bind_inv h2
    obtain ⟨e3, e4⟩ := ofO_inv h3
    rw [e4] at h4
    obtain ⟨o5, o6, h5, h6, v5, s5, d5⟩ := bind_inv h4
    obtain ⟨e5, e6⟩ := ofO_inv h5
    rw [e6] at h6
    obtain ⟨o7, o8, h7, h8, v7, s7, d7⟩ := bind_inv h6
    obtain ⟨e7, e8⟩ := freshA_inv h7
    rw [e8] at h8
    obtain ⟨o9, oa, h9, ha, v9, s9, d9⟩ := bind_inv h8
    rw [wrA_inv h9] at ha
    rw [s1, s3, s5, s7, s9, wrV_inv ha]
    exact same rfl rfl
  | imm i =>
    unfold evGh at h
    obtain ⟨o1, o2, h1, h2, v1, s1, d1⟩ := bind_inv h
    obtain ⟨p1, p2, g1, g2, w1, t1, c1⟩ := bind_inv h2
    obtain ⟨r1, r2⟩ := rdS_inv h1
    rw [r2] at g1
    obtain ⟨q1, q2⟩ := ofO_inv g1
    rw [q2] at g2
    obtain ⟨o5, o6, h5, h6, v5, s5, d5⟩ := bind_inv g2
    have him := toImm_slots h5
    rw [s1, t1, s5]
    exact put (s1 := o5.st) him.1 him.2 (wrS_form h6) fun z e => by cases e
  | immV v j =>
    unfold evGh at h
    obtain ⟨o1, o2, h1, h2, v1, s1, d1⟩ := bind_inv h
    obtain ⟨e1, e2⟩ := varOf_inv h1
    rw [e2] at h2
    obtain ⟨o3, o4, h3, h4, v3, s3, d3⟩ := bind_inv h2
    obtain ⟨e3, e4⟩ := ofO_inv h3
    rw [e4] at h4
    obtain ⟨o5, o6, h5, h6, v5, s5, d5⟩ := bind_inv h4
    have him := toImm_slots h5
    rw [s1, s3, s5, wrV_inv h6]
    exact same him.1 him.2
  | frz m =>
    unfold evGh at h
    obtain ⟨o1, o2, h1, h2, v1, s1, d1⟩ := bind_inv h
    obtain ⟨e1, e2⟩ := liveA_inv h1
    rw [e2] at h2
    rw [s1, wrA_inv h2]
    exact same rfl rfl
  | ren m m' =>
    unfold evGh at h
    rcases cond_inv h with ⟨_, h⟩ | ⟨hne, h⟩
    · exact (fail_inv h).elim
    · unfold liftSt at h
      cases hq : renSt m m' st with
      | none => rw [hq] at h; cases h
      | some s =>
        rw [hq] at h
        obtain rfl := Option.some.inj h
        obtain ⟨q1, q2⟩ := ren_sp hq
        refine ⟨q1, fun i y hy => (q2 i y).mp hy, ?_⟩
        left
        have fo : ∀ {a b : S}, (∀ y, a = .sp y ↔ b = .sp y) → famO a = famO b := by
          intro a b hab
          cases a with
          | sp y => rw [(hab y).mp rfl]
          | _ => cases b with
            | sp y => have := (hab y).mpr rfl; cases this
            | _ => rfl
        exact fo (fun y => q2 _ y)
  | renV m m' =>
    unfold evGh at h
    rcases cond_inv h with ⟨_, h⟩ | ⟨hne, h⟩
    · exact (fail_inv h).elim
    · unfold liftSt at h
      cases hq : renVSt m m' st with
      | none => rw [hq] at h; cases h
      | some s =>
        rw [hq] at h
        obtain rfl := Option.some.inj h
        obtain ⟨q1, q2⟩ := renV_sp hq
        refine ⟨q1, fun i y hy => (q2 i y).mp hy, ?_⟩
        left
        have fo : ∀ {a b : S}, (∀ y, a = .sp y ↔ b = .sp y) → famO a = famO b := by
          intro a b hab
          cases a with
          | sp y => rw [(hab y).mp rfl]
          | _ => cases b with
            | sp y => have := (hab y).mpr rfl; cases this
            | _ => rfl
        exact fo (fun y => q2 _ y)
  | keep ss vs ars =>
    replace h : liftSt (keepSt ss vs ars) st = some out := h
    unfold liftSt at h
    cases hq : keepSt ss vs ars st with
    | none => rw [hq] at h; cases h
    | some s =>
      rw [hq] at h
      obtain rfl := Option.some.inj h
      obtain ⟨k1, k2, k3⟩ := keep_sp hq
      exact ⟨k1, k2, k3.imp (fun e => by rw [e]) (fun e => e)⟩
  | cutS i =>
    replace h : liftSt (cutSt i) st = some out := h
    unfold liftSt at h
    cases hq : cutSt i st with
    | none => rw [hq] at h; cases h
    | some s' =>
      rw [hq] at h
      obtain rfl := Option.some.inj h
      have : s'.nt = st.nt ∧ s'.slots = st.slots := by
        unfold cutSt at hq
        split at hq
        · cases hq
        · split at hq
          · rcases cond_inv' hq with ⟨_, hq⟩ | ⟨_, hq⟩
            · obtain rfl := Option.some.inj hq; exact ⟨rfl, rfl⟩
            · cases hq
          · cases hq
      exact same this.1 this.2
  | famT _ _ => cases hx
  | famF _ _ => cases hx

theorem evGh_ok {x : Gh} {out : Out Unit} (h : evGh x st = some out) (hs : out.side) (hr : Rel X st tm w) : Rel X out.st tm w := by
  obtain ⟨I, ι, hr, hf⟩ := hr
  cases hp : plainGh x with
  | true =>
    obtain ⟨I', ι', k⟩ := evGh_ok0 hp h hs hr.re
    obtain ⟨s1, s2, s3⟩ := evGh_sp hp h hs
    refine ⟨I', ι', hr.back k, ?_⟩
    rcases s3 with s3 | s3
    · cases hF : famO (st.slot st.nt) with
      | some F =>
        obtain ⟨h', pv, L, f1, f2⟩ := hf.get hF
        exact FamI.of (F := F) (by rw [s1, s3]; exact hF) (f1.kept hr k) fun i x hx => f2 i x (s2 i x hx)
      | none =>
        unfold FamI at hf ⊢
        rw [s1, s3, hF]
        rw [hF] at hf
        exact fun i x hx => hf i x (s2 i x hx)
    · unfold FamI
      have : famO (out.st.slot out.st.nt) = none := by
        cases hq : out.st.slot out.st.nt with
        | sp y => exact absurd hq (s3 _ _)
        | _ => rfl
      rw [this]; exact s3
  | false =>
    cases x with
    | famT n R =>
      unfold evGh at h
      obtain ⟨o1, o2, h1, h2, v1, s1, d1⟩ := bind_inv h
      obtain ⟨e1, e2⟩ := rdF_inv h1
      rw [e2] at h2
      obtain ⟨o3, o4, h3, h4, v3, s3, d3⟩ := bind_inv h2
      obtain ⟨e3, e4⟩ := ofO_inv h3
      rw [e4] at h4
      obtain ⟨o5, o6, h5, h6, v5, s5, d5⟩ := bind_inv h4
      obtain ⟨e5, e6⟩ := need_inv h5
      rw [e5] at h6
      obtain ⟨o7, o8, h7, h8, v7, s7, d7⟩ := bind_inv h6
      obtain ⟨e7, e8⟩ := ofO_inv h7
      rw [e8] at h8
      have hd := (d5 (d3 (d1 hs).2).2).1
      rw [e6] at hd
      rw [s1, s3, s5, s7, wrF_inv h8]
      have hF : famO (st.slot st.nt) = some o3.val := by rw [← e1]; exact e3
      obtain ⟨hh, pv, L, f1, f2⟩ := hf.get hF
      generalize o3.val = F at hF f1 f2 hd e7
      obtain ⟨Fn, FR, Fq⟩ := F
      obtain ⟨rfl, hR⟩ := hd
      obtain rfl : Fq = .none := freeQ_inv e7
      have same : ∀ x A, FamArr hh ⟨Fn, R, .none⟩ x A → FamArr hh ⟨Fn, FR, .none⟩ x A := by
        intro x A hA
        cases x with
        | hd => exact hA
        | pend => obtain ⟨_, _, _, hq, _⟩ := hA; cases hq
        | row k => 
          obtain ⟨a1, a2, a3⟩ := hA
          have a3' : A = ⟨false, 1, (R k).length, rowG (R k)⟩ := a3
          rw [← hR k a1] at a3'
          exact ⟨a1, a2, a3'⟩
      refine ⟨I, ι, hr.slot trivial, FamI.of (F := ⟨Fn, R, .none⟩) (h := hh) (pv := pv) (L := L) (by show famO (St.slot _ st.nt) = _; rw [slot_cons, if_pos rfl]; rfl) (FamOk.slots ⟨fun x A hA => f1.arr x A (same x A hA), fun x A b c hA => f1.un x A b c (same x A hA), fun x y A A' b c c' hA hA' => f1.ap x y A A' b c c' (same x A hA) (same y A' hA'), fun k hk hk' => ?_, f1.fl, fun _ _ _ hq => by cases hq⟩ _) fun i x hx => ?_⟩
      · show hdr (L (.row k)) (R k).length (hh k)
        rw [← hR k hk]; exact f1.row k hk (fun h => h)
      · rw [slot_cons] at hx
        split at hx
        · injection hx with hx; subst hx; trivial
        · have := f2 i x hx
          cases x with
          | fam _ _ _ => trivial
          | hd => exact this
          | at_ k => exact this
          | row => intro k hk; cases hk
          | pend => intro k l hk; cases hk
    | famF i G =>
      unfold evGh at h
      obtain ⟨o1, o2, h1, h2, v1, s1, d1⟩ := bind_inv h
      obtain ⟨p1, p2, g1, g2, w1, t1, c1⟩ := bind_inv h2
      obtain ⟨e1, e2⟩ := rdS_inv h1
      rw [e2] at g1
      obtain ⟨q1, q2⟩ := ofO_inv g1
      rw [q2] at g2
      obtain ⟨o3, o4, h3, h4, v3, s3, d3⟩ := bind_inv g2
      obtain ⟨e3, e4⟩ := rdF_inv h3
      rw [e4] at h4
      obtain ⟨o5, o6, h5, h6, v5, s5, d5⟩ := bind_inv h4
      obtain ⟨e5, e6⟩ := ofO_inv h5
      rw [e6] at h6
      obtain ⟨o7, o8, h7, h8, v7, s7, d7⟩ := bind_inv h6
      obtain ⟨e7, e8⟩ := ofO_inv h7
      rw [e8] at h8
      obtain ⟨o9, oa, h9, ha, v9, s9, d9⟩ := bind_inv h8
      obtain ⟨e9, ea⟩ := need_inv h9
      rw [e9] at ha
      have hG := (d9 (d7 (d5 (d3 (c1 (d1 hs).2).2).2).2).2).1
      rw [ea] at hG
      have hF : famO (st.slot st.nt) = some o5.val := by rw [← e3]; exact e5
      have hhd : st.slot i = .sp .hd := by rw [← e1]; exact hdO_inv q1
      obtain ⟨hh, pv, L, f1, f2⟩ := hf.get hF
      generalize o5.val = F at hF f1 f2 e7 ha hG
      obtain ⟨Fn, FR, Fq⟩ := F
      obtain rfl : Fq = .none := freeQ_inv e7
      unfold liftSt at ha
      simp only at ha
      cases hb : st.slots.all (fun p => Nat.beq p.1 i || Nat.beq p.1 st.nt || !isSp p.2) with
      | false => rw [hb] at ha; cases ha
      | true =>
        rw [hb] at ha
        obtain rfl := Option.some.inj ha
        rw [s1, t1, s3, s5, s7, s9]
        let J : Nat → Prop := fun b => ∃ x A c, FamArr hh ⟨Fn, FR, .none⟩ x A ∧ L x = some (b, c)
        have r1 := hr.growI J (fun b ⟨x, A, c, hA, hL⟩ => by
          have hok := f1.arr x A hA
          rw [hL] at hok
          exact ⟨hok.lt, (hok.own (famArr_plain hA).1).2, f1.un x A b c hA hL⟩)
        have hu := f2 i _ hhd
        have hA : FamArr hh ⟨Fn, FR, .none⟩ .hd ⟨false, 1, Fn, fun j => [.v (hh j)]⟩ := rfl
        have hrow : ∀ k, k < Fn → FamArr hh ⟨Fn, FR, .none⟩ (.row k) ⟨false, 1, (FR k).length, rowG (FR k)⟩ := fun k hk => ⟨hk, fun h => h, rfl⟩
        have him : Rimm w (fun b => I b ∨ J b) (.lst 1 Fn G) (tm.getD i undef) := by
          have hu' : hdr (L .hd) Fn (tm.getD i undef) := hu
          have hok := f1.arr .hd _ hA
          cases hL : L .hd with
          | none =>
            rw [hL] at hu'
            obtain ⟨q1, rfl⟩ := hu'
            rw [q1]; exact .lst0 _ _ _ _
          | some q =>
            obtain ⟨b, c⟩ := q
            rw [hL] at hu' hok
            have hu2 : tm.getD i undef = .slice (some ⟨b, 0, none⟩) Fn c := hu'
            rw [hu2]
            obtain ⟨⟨f, r⟩, _⟩ := hok
            rcases Nat.eq_zero_or_pos Fn with h0 | h0
            · subst h0; exact .lst0 _ _ _ _
            · have hf : ∀ k, k < Fn → f k 0 = hh k := by
                intro k hk
                have := r.rel k 0 _ hk rfl
                generalize f k 0 = v at this ⊢
                cases this; rfl
              refine .lst 1 _ _ b 0 c f h0 r.fit (.inr ⟨.hd, _, c, hA, hL⟩) (fun k hk => by obtain ⟨g, hg, _⟩ := hG k hk; rw [hg]; rfl) (fun k j x hk hx => ?_) (fun k j x hk hx => ?_)
              · obtain ⟨g, hg, _⟩ := hG k hk
                rw [hg] at hx
                cases j with
                | zero => have := r.cell k 0 _ hk rfl; simpa using this
                | succ j => simp at hx
              · obtain ⟨g, hg, hgg⟩ := hG k hk
                rw [hg] at hx
                cases j with
                | zero =>
                  simp at hx; subst hx
                  rw [hf k hk]
                  exact (row_imm (f1.arr _ _ (hrow k hk)) (f1.row k hk (fun h => h)) (fun b' c' hL' => .inr ⟨_, _, c', hrow k hk, hL'⟩)).eqC ⟨rfl, .inr rfl, hgg⟩
                | succ j => simp at hx
        have r2 := (r1.slot (i := st.nt) (x := .c .undef) trivial).slot (i := i) (x := .c (.lst 1 Fn G)) him
        refine ⟨_, ι, r2, ?_⟩
        have nosp : ∀ j x, ({ st with slots := (i, .c (.lst 1 Fn G)) :: (st.nt, .c .undef) :: st.slots } : St).slot j ≠ .sp x := by
          intro j x hx
          rw [slot_cons { st with slots := (st.nt, .c .undef) :: st.slots }] at hx
          split at hx
          · cases hx
          · rw [slot_cons st] at hx
            split at hx
            · cases hx
            · rename_i n1 n2
              have mem : ∀ {i : Nat} {x : S} {l : List (Nat × S)}, lookN i l = some x → (i, x) ∈ l := by
                intro i x l
                induction l with
                | nil => intro hx; cases hx
                | cons p r ih =>
                  intro hx
                  obtain ⟨k, y⟩ := p
                  simp only [lookN] at hx
                  cases hb : Nat.beq i k with
                  | true => rw [hb] at hx; obtain rfl := Nat.eq_of_beq_eq_true hb; obtain rfl := Option.some.inj hx; exact List.mem_cons_self
                  | false => rw [hb] at hx; exact List.mem_cons_of_mem _ (ih hx)
              unfold St.slot at hx
              cases hq : lookN j st.slots with
              | none => rw [hq] at hx; cases hx
              | some y =>
                rw [hq] at hx
                have hy : y = .sp x := hx
                subst hy
                have := List.all_eq_true.mp hb _ (mem hq)
                simp only [isSp, Bool.not_true, Bool.or_false, Bool.or_eq_true] at this
                rcases this with h' | h'
                · exact n1 (Nat.eq_of_beq_eq_true h')
                · exact n2 (Nat.eq_of_beq_eq_true h')
        unfold FamI
        cases hq : ({ st with slots := (i, .c (.lst 1 Fn G)) :: (st.nt, .c .undef) :: st.slots } : St).slot st.nt with
        | sp y => exact absurd hq (nosp _ _)
        | _ => exact nosp
    | arr _ _ _ => cases hp
    | slot _ _ => cases hp
    | var _ _ => cases hp
    | nilS _ _ _ => cases hp
    | nilV _ _ _ _ => cases hp
    | imm _ => cases hp
    | immV _ _ => cases hp
    | frz _ => cases hp
    | ren _ _ => cases hp
    | renV _ _ => cases hp
    | keep _ _ _ => cases hp
    | cutS _ => cases hp

theorem evGhs_ok : ∀ {l : List Gh} {st : St} {out : Out Unit}, evGhs l st = some out → out.side → Rel X st tm w → Rel X out.st tm w := by
  intro l
  induction l with
  | nil =>
    intro st out h hs hr
    have hp := pure_inv h
    rw [hp]
    exact hr
  | cons x r ih =>
    intro st out h hs hr
    unfold evGhs at h
    obtain ⟨o1, o2, h1, h2, v1, s1, d1⟩ := bind_inv h
    rw [s1]
    exact ih h2 (d1 hs).2 (evGh_ok h1 (d1 hs).1 hr)
end
end Go.Ev
