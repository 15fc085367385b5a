/- How arguments are opened: from what the row tells of the memory to what the contracts ask. -/
import Derived.Test.YtmdolfannbbipaaDoorEv4
import Derived.WalkKit
import Derived.ProofKit
import Derived.OpenShut
import Derived.ShutString
import Derived.ChangeOld
import Derived.Below
import Derived.SizedLaws
import Derived.Carry
import Derived.Deep.Slices
namespace Go.Ev
open Go Go.RowKit Go.ChangeShapes Go.WideShapes Go.ChangeAt
set_option linter.unusedVariables false

def Rcells (w : World) (I : Nat → Prop) : List C → List Value → Prop
  | [], [] => True
  | x :: xs, u :: us => Rimm w I x u ∧ Rcells w I xs us
  | _, _ => False

theorem Rcells.append {w : World} {I : Nat → Prop} : ∀ {xs : List C} {us : List Value} {ys : List C} {vs : List Value}, Rcells w I xs us → Rcells w I ys vs → Rcells w I (xs ++ ys) (us ++ vs)
  | [], [], _, _, _, h => h
  | [], _ :: _, _, _, h, _ => h.elim
  | _ :: _, [], _, _, h, _ => h.elim
  | _ :: _, _ :: _, _, _, ⟨h1, h2⟩, h => ⟨h1, Rcells.append h2 h⟩
theorem Rcells.length {w : World} {I : Nat → Prop} : ∀ {xs : List C} {us : List Value}, Rcells w I xs us → xs.length = us.length
  | [], [], _ => rfl
  | [], _ :: _, h => h.elim
  | _ :: _, [], h => h.elim
  | _ :: _, _ :: _, ⟨_, h2⟩ => congrArg (· + 1) h2.length
theorem Rcells.get {w : World} {I : Nat → Prop} : ∀ {xs : List C} {us : List Value} {j : Nat} {x : C} {u : Value}, Rcells w I xs us → xs[j]? = some x → us[j]? = some u → Rimm w I x u
  | [], [], _, _, _, _, h, _ => by simp at h
  | [], _ :: _, _, _, _, h, _, _ => h.elim
  | _ :: _, [], _, _, _, h, _, _ => h.elim
  | _ :: _, _ :: _, 0, _, _, ⟨h1, _⟩, hx, hu => by
    simp only [List.getElem?_cons_zero, Option.some.injEq] at hx hu
    subst hx; subst hu; exact h1
  | _ :: xs, _ :: us, j + 1, _, _, ⟨_, h2⟩, hx, hu => h2.get (j := j) (by simpa using hx) (by simpa using hu)
theorem Rcells.rxcs {w : World} {I : Nat → Prop} : ∀ {xs : List C} {us : List Value}, Rcells w I xs us → RXcs w I (xs.map .c) us []
  | [], [], _ => rfl
  | [], _ :: _, h => h.elim
  | _ :: _, [], h => h.elim
  | _ :: _, _ :: _, ⟨h1, h2⟩ => ⟨[], [], rfl, ⟨rfl, h1⟩, h2.rxcs⟩

section
variable {H : Type} {enc : TypeId × Value → H} {P : Program} {W : World}

/-- What is read at cells of this type is the encoding of some value. -/
def Opens (enc : TypeId × Value → H) (P : Program) (W : World) (t : TypeId) {α : Type} (e : α → List C) (ok : α → Prop) : Prop :=
  ∀ (fuel : Nat) (cs : List Value) x, DataW.trod enc P W 0 (fun _ => true) true fuel t cs = some x → ∃ a, ok a ∧ Rcells W (· < W.heap.size) (e a) cs

theorem opensI {t : TypeId} {k : IntKind} (ht : P.underlying t = some (.int k)) : Opens enc P W t (eI k) (okI k) := by
  intro fuel cs x h
  obtain ⟨n, rfl, _, hw⟩ := DataW.trod_int ht h
  exact ⟨n, hw, .v _ rfl, trivial⟩
theorem opensB {t : TypeId} (ht : P.underlying t = some .bool) : Opens enc P W t eB okB := by
  intro fuel cs x h
  obtain ⟨b, rfl, _⟩ := DataW.trod_bool ht h
  exact ⟨b, trivial, .v _ rfl, trivial⟩
theorem opensS {t : TypeId} (ht : P.underlying t = some .string) : Opens enc P W t eS okS := by
  intro fuel cs x h
  obtain ⟨s, rfl, _, hs⟩ := DataW.trod_string ht h
  exact ⟨s, hs, .v _ rfl, trivial⟩

theorem cell_lt {w : World} {a : Addr} {v : Value} (h : w.cell? a = some v) : a.block < w.heap.size ∧ a.spot = none := by
  unfold World.cell? at h
  cases hb : w.heap[a.block]? with
  | none => rw [hb] at h; cases h
  | some o =>
    refine ⟨(Array.getElem?_eq_some_iff.mp hb).1, ?_⟩
    rw [hb] at h
    cases o with
    | cells c _ _ =>
      simp only at h
      cases hs : a.spot with
      | none => rfl
      | some _ => simp [hs] at h
    | _ => cases h

theorem addN (b o i : Nat) : (⟨b, o, none⟩ : Addr).add i = ⟨b, o + i, none⟩ := by
  unfold Addr.add
  split
  · rename_i h; subst h; rfl
  · rfl
theorem opensL {t el : TypeId} {s : Nat} {α : Type} {e : α → List C} {d : α} {ok : α → Prop} (ht : P.underlying t = some (.slice el)) (hc : P.cellsOf el = s + 1) (O : Opens enc P W el e ok) :
    Opens enc P W t (fun l : List α => [C.lst (s + 1) l.length (encF e d l)]) (okL ok) := by
  intro fuel cs x h
  rcases Go.Deep.open_slice ht h with ⟨rfl, _⟩ | ⟨a, len, cap, m, n, D, Pl, rfl, _, hl, hm, hmm, _, hx⟩
  · exact ⟨[], ⟨by simp, by simp⟩, .lst0 .., trivial⟩
  rw [if_pos rfl] at hmm
  subst hmm
  rcases Nat.eq_zero_or_pos len with rfl | hpos
  · exact ⟨[], ⟨by simp, by simp⟩, .lst0 .., trivial⟩
  have hx' : ∀ i, i < len → ∃ z : List Value × α, W.cells? 0 (a.add (i * (s + 1))) (s + 1) = some z.1 ∧ ok z.2 ∧ Rcells W (· < W.heap.size) (e z.2) z.1 := by
    intro i hi
    obtain ⟨cs', h1, h2⟩ := hx i (by omega)
    rw [hc] at h1
    obtain ⟨b, hb, hr⟩ := O _ _ _ h2
    exact ⟨⟨cs', b⟩, h1, hb, hr⟩
  haveI : Inhabited α := ⟨d⟩
  obtain ⟨F, hF⟩ := Go.Deep.choose_lt hx'
  have hget : ∀ i, i < len → ((List.range len).map fun i => (F i).2).getD i d = (F i).2 := by
    intro i hi
    rw [List.getD_eq_getElem?_getD, List.getElem?_map, List.getElem?_range hi]
    rfl
  have hlen : ((List.range len).map fun i => (F i).2).length = len := by simp
  have h0 : a.block < W.heap.size ∧ a.spot = none := by
    obtain ⟨h1, _⟩ := hF 0 hpos
    obtain ⟨_, hl0, hc0⟩ := World.cells?_some h1
    have := hc0 0 (by omega)
    rw [List.getElem?_eq_getElem (by omega)] at this
    have := cell_lt this
    simpa [Addr.add] using this
  refine ⟨(List.range len).map fun i => (F i).2, ⟨?_, by rw [hlen]; omega⟩, ?_, trivial⟩
  · intro b hb
    obtain ⟨i, hi, rfl⟩ := List.mem_map.mp hb
    exact (hF i (List.mem_range.mp hi)).2.1
  · rw [hlen]
    obtain ⟨b, o, sp⟩ := a
    obtain ⟨hb, rfl⟩ : b < W.heap.size ∧ sp = none := h0
    refine .lst (s + 1) len _ b o m (fun i j => (F i).1.getD j Go.undef) hpos hl hb ?_ ?_ ?_
    · intro i hi
      show (e _).length = _
      rw [hget i hi, (hF i hi).2.2.length]
      exact (World.cells?_some (hF i hi).1).2.1
    · intro i j y hi hy
      have hy' : (e (F i).2)[j]? = some y := by rw [← hget i hi]; exact hy
      have hj : j < (F i).1.length := by
        rw [← (hF i hi).2.2.length]
        exact (List.getElem?_eq_some_iff.mp hy').1
      obtain ⟨_, hl0, hc0⟩ := World.cells?_some (hF i hi).1
      have := hc0 j (by omega)
      rw [List.getElem?_eq_getElem hj] at this
      rw [List.getD_eq_getElem?_getD, List.getElem?_eq_getElem hj, Option.getD_some, ← this, addN, addN]
    · intro i j y hi hy
      have hy' : (e (F i).2)[j]? = some y := by rw [← hget i hi]; exact hy
      have hj : j < (F i).1.length := by
        rw [← (hF i hi).2.2.length]
        exact (List.getElem?_eq_some_iff.mp hy').1
      rw [List.getD_eq_getElem?_getD, List.getElem?_eq_getElem hj]
      exact (hF i hi).2.2.get hy' (List.getElem?_eq_getElem hj)

/-- A field of a struct. -/
theorem opField {u : TypeId} {α : Type} {e : α → List C} {ok : α → Prop} (O : Opens enc P W u e ok) {n i off sz : Nat} {cs : List Value} {xs : List (DataW H × List MemPlace)} (hsz : P.cellsOf u = sz) (hi : i < xs.length)
    (hf : DataW.trod enc P W 0 (fun _ => true) true n u ((cs.drop off).take (P.cellsOf u)) = xs[i]?) : ∃ a, ok a ∧ Rcells W (· < W.heap.size) (e a) ((cs.drop off).take sz) := by
  rw [List.getElem?_eq_getElem hi, hsz] at hf
  exact O _ _ _ hf
theorem opCut {w : World} {I : Nat → Prop} {xs ys : List C} {cs : List Value} {off sz til : Nat} (hto : off + sz = til) (h : Rcells w I xs ((cs.drop off).take sz)) (k : Rcells w I ys (cs.drop til)) : Rcells w I (xs ++ ys) (cs.drop off) := by
  subst hto
  rw [← List.take_append_drop sz (cs.drop off), List.drop_drop]
  exact h.append k
theorem opEnd {w : World} {I : Nat → Prop} {cs : List Value} {til : Nat} (h : cs.length = til) : Rcells w I [] (cs.drop til) := by
  rw [List.drop_eq_nil_iff.mpr (by omega)]
  trivial

theorem argI {t : TypeId} {k : IntKind} {base : Nat} {v : Value} {d : DataW H} {p : List MemPlace} (ht : P.underlying t = some (.int k)) (hv : Value.okWide P W .any base t v) (h : DataW.Trod enc P W 0 (fun _ => true) true t v d p) :
    ∃ n, okI k n ∧ RX W (· < W.heap.size) (.c (.v (.int k n))) v [] := by
  obtain ⟨n, rfl, _, _, hw⟩ := open_int ht hv h
  exact ⟨n, hw, rfl, .v _ rfl⟩
theorem argB {t : TypeId} {base : Nat} {v : Value} {d : DataW H} {p : List MemPlace} (ht : P.underlying t = some .bool) (hv : Value.okWide P W .any base t v) (h : DataW.Trod enc P W 0 (fun _ => true) true t v d p) :
    ∃ n : Bool, okB n ∧ RX W (· < W.heap.size) (.c (.v (.bool n))) v [] := by
  obtain ⟨n, rfl, _, _⟩ := open_bool ht hv h
  exact ⟨n, trivial, rfl, .v _ rfl⟩
theorem argS {t : TypeId} {base : Nat} {v : Value} {d : DataW H} {p : List MemPlace} (ht : P.underlying t = some .string) (hv : Value.okWide P W .any base t v) (h : DataW.Trod enc P W 0 (fun _ => true) true t v d p) :
    ∃ n : ByteArray, okS n ∧ RX W (· < W.heap.size) (.c (.v (.string n))) v [] := by
  obtain ⟨n, rfl⟩ := okWide_string ht hv
  obtain ⟨fuel, hf⟩ := h
  obtain ⟨s, hs, _, hw⟩ := DataW.trod_string ht hf
  simp only [Value.cells, List.cons.injEq, Value.string.injEq, and_true] at hs
  subst hs
  exact ⟨n, hw, rfl, .v _ rfl⟩
theorem argL {t el : TypeId} {base : Nat} {v : Value} {d : DataW H} {p : List MemPlace} {α : Type} {f : α → C} {ok : α → Prop} (ht : P.underlying t = some (.slice el)) (O : Opens enc P W t (fun l => [f l]) ok) (hv : Value.okWide P W .any base t v) (h : DataW.Trod enc P W 0 (fun _ => true) true t v d p) :
    ∃ l, ok l ∧ RX W (· < W.heap.size) (.c (f l)) v [] := by
  obtain ⟨a, len, cap, rfl⟩ := okWide_slice ht hv
  obtain ⟨fuel, hf⟩ := h
  obtain ⟨l, h1, h2, _⟩ := O _ _ _ hf
  exact ⟨l, h1, rfl, h2⟩
theorem argA {t : TypeId} {fs : Array Field} {base : Nat} {v : Value} {d : DataW H} {p : List MemPlace} {α : Type} {e : α → List C} {ok : α → Prop} (ht : P.underlying t = some (.struct fs)) (O : Opens enc P W t e ok) (hv : Value.okWide P W .any base t v) (h : DataW.Trod enc P W 0 (fun _ => true) true t v d p) :
    ∃ l, ok l ∧ RX W (· < W.heap.size) (.agg ((e l).map .c)) v [] := by
  obtain ⟨cs, rfl, _⟩ := okWide_struct ht hv
  obtain ⟨fuel, hf⟩ := h
  obtain ⟨l, h1, h2⟩ := O _ _ _ hf
  exact ⟨l, h1, cs, rfl, h2.rxcs⟩
end

theorem Fr.below {w w' : World} (h : Fr w.heap.size (· ∈ ([] : List Nat)) w w') : Below w.heap.size w w' := ⟨h.os, h.tape, h.output, h.size, fun k hk => h.block k hk (by simp)⟩

/-- A call whose answer is true. -/
theorem told_calls {P : Program} {f : FuncId} {args : List X} {W : World} {vs : Array Value} {pout : List (List X)} (h : FnOk P f args (.c (.v (.bool true))) pout) (hx : RXl W (· < W.heap.size) args vs.toList []) (hg : GL W) (hb : ∀ b, glob b → b < W.heap.size) :
    Calls P f vs W fun e w' => e = .returned (.bool true) ∧ Below W.heap.size W w' := by
  refine (h.2 W (· < W.heap.size) vs [] (fun _ h => h) hx List.nodup_nil (by simp) ⟨hg, fun b h => ⟨hb b h, by simp⟩⟩).mono fun e w' hq => ?_
  obtain ⟨v, rfl, I', fr, fq, _, hv, _, _, _, _, hfr⟩ := hq
  refine ⟨?_, hfr.below⟩
  obtain ⟨_, hv⟩ : _ ∧ Rimm w' I' (.v (.bool true)) v := hv
  cases hv
  rfl
end Go.Ev
