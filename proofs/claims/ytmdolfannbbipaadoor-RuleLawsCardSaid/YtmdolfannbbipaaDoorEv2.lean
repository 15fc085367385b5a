/- The evaluator, part 2: more operations, and what a call does. -/
import Derived.Test.YtmdolfannbbipaaDoorEv1
import Derived.IntWalk
namespace Go.Ev
open Go Go.RowKit
set_option linter.unusedVariables false

section
variable {X : Ctx} {I : Nat → Prop} {ι : Im} {st : St} {tm : Array Value} {w : World} {P : Program} {T : Tab}

theorem Rc_ref {va : VA} {ar : AR} {m : Name} {n : Nat} {A : Arr} {u : Value} (hA : ar m = some (some A)) (hn : n ≤ A.n) (hh : hdr (ι.a m) n u) : Rc w I ι va ar (.ref m n) u := by
  simp only [Rc, hA]
  exact ⟨hn, hh⟩

theorem repeatL_get (z : List C) : ∀ (n : Nat), (repeatL z n).length = n * z.length ∧ ∀ j, j < n * z.length → (repeatL z n)[j]? = z[j % z.length]? := by
  intro n
  induction n with
  | zero => exact ⟨by simp [repeatL], fun j hj => by simp at hj⟩
  | succ n ih =>
    refine ⟨by simp [repeatL, ih.1, Nat.add_mul, Nat.add_comm], fun j hj => ?_⟩
    rw [repeatL]
    rcases Nat.lt_or_ge j z.length with h | h
    · rw [List.getElem?_append_left h, Nat.mod_eq_of_lt h]
    · rw [List.getElem?_append_right h, ih.2 (j - z.length) (by rw [Nat.add_mul, Nat.one_mul] at hj; omega)]
      congr 1
      exact (Nat.mod_eq_sub_mod h).symm

theorem zeros_get {z : Array Value} {n : Nat} (j : Nat) (hj : j < n) (hz : 0 < z.size) : ((Array.range n).map (fun i => z[i % z.size]!))[j]? = z[j % z.size]? := by
  have : j % z.size < z.size := Nat.mod_lt _ hz
  simp [hj, this]

theorem immParts_ok : ∀ {ps : List (Nat × List C)} {vs : List (Nat × Value)} {I : Nat → Prop} {st : St} {out : Out (List (Nat × List C))}, immParts ps st = some out → RelI X I ι st tm w → ps.length = vs.length →
    (∀ (j : Nat) p v, ps[j]? = some p → vs[j]? = some v → p.1 = v.1 ∧ Rcs w I ι st.var st.arr p.2 v.2.cells) →
    ∃ I', RelI X I' ι out.st tm w ∧ out.val.length = vs.length ∧ (∀ (j : Nat) p v, out.val[j]? = some p → vs[j]? = some v → p.1 = v.1 ∧ v.2.cells.size = p.2.length ∧ ∀ (i : Nat) x, p.2[i]? = some x → ∃ y, v.2.cells[i]? = some y ∧ Rimm w I' x y) ∧
      Ext w I ι st.var st.arr w I' ι out.st.var out.st.arr := by
  intro ps
  induction ps with
  | nil =>
    intro vs I st out h hr hl hp
    obtain rfl := pure_inv h
    exact ⟨I, hr, hl, by simp, .refl ..⟩
  | cons p ps ih =>
    intro vs I st out h hr hl hp
    cases vs with
    | nil => simp at hl
    | cons v vs =>
      obtain ⟨i, l⟩ := p
      unfold immParts at h
      obtain ⟨o1, o2, h1, h2, rfl⟩ := bind_some h
      obtain ⟨hi, hc⟩ := hp 0 _ _ rfl rfl
      obtain ⟨I1, hr1, E1, hlen, him⟩ := toImms_ok (us := v.2.cells) (k := 0) h1 hr (by simpa using hc.2)
      obtain ⟨o3, o4, h3, h4, rfl⟩ := bind_some h2
      obtain rfl := pure_inv h4
      obtain ⟨I2, hr2, hl2, hp2, E2⟩ := ih (vs := vs) h3 hr1 (by simpa using hl) (fun j p' v' hp' hv' =>
        let ⟨q1, q2⟩ := hp (j + 1) p' v' (by simpa using hp') (by simpa using hv'); ⟨q1, q2.ext E1⟩)
      refine ⟨I2, hr2, by simp [hl2], fun j p' v' hp' hv' => ?_, E1.trans E2⟩
      cases j with
      | zero =>
        simp at hp' hv'
        subst hp' hv'
        refine ⟨hi, by rw [hc.1, hlen], fun k x hx => ?_⟩
        obtain ⟨y, hy, hh⟩ := him k x hx
        exact ⟨y, by simpa using hy, hh.mono E2.hw E2.hI⟩
      | succ j => exact hp2 j p' v' (by simpa using hp') (by simpa using hv')

/-- The cells of a row of zeros, as 'buildSlice' makes them. -/
def zs0 (z : Array Value) (n : Nat) : Array Value := if n = 0 then #[] else z
def zrow (z : Array Value) (n : Nat) : Array Value := (Array.range n).map (fun i => (zs0 z n)[i % (zs0 z n).size]!)
theorem zrow_get (z : Array Value) (n j : Nat) (hj : j < n) (hz : 0 < z.size) : (zrow z n)[j]? = z[j % z.size]? := by
  have h0 : n ≠ 0 := by omega
  unfold zrow zs0
  rw [if_neg h0]
  exact zeros_get j hj hz
theorem zrow_size (z : Array Value) (n : Nat) : (zrow z n).size = n := by simp [zrow]
theorem buildSlice_run {t e : TypeId} {i z : TI} (ht : TIok P t i) (hk : i.kind = .slice e) (hte : TIok P e z) {zv : Value} (hz : (zeroValue e).run P w = .ok zv w) {len : Nat} (h1 : len * z.size ≤ 2 ^ 24) {vs : Array (Nat × Value)} {cs' : Array Value}
    (hf : Instr.fill (fun i => some (i * z.size, z.size)) (zrow zv.cells (len * z.size)) vs.toList = some cs') :
    (Instr.buildSlice t len vs).run P w = .ok (.slice (some ⟨w.heap.size, 0, none⟩) len len) (w.alloc (.cells cs' e)) := by
  obtain ⟨d, hdd, hk'⟩ := run_und ht w
  rw [hk] at hk'
  obtain rfl := kind_slice hk'
  unfold Instr.buildSlice
  simp only [Sem.run_bind, hdd, Result.andThen_ok, run_sizeOf hte]
  rw [Sem.run_ite, if_neg (Nat.not_lt.mpr h1)]
  have hf' : Instr.fill (fun i => some (i * z.size, z.size)) ((Array.range (len * z.size)).map (fun i => (zs0 zv.cells (len * z.size))[i % (zs0 zv.cells (len * z.size)).size]!)) vs.toList = some cs' := hf
  unfold zs0 at hf'
  by_cases h0 : len * z.size = 0
  · rw [if_pos h0]
    simp only [if_pos h0] at hf'
    simp only [Sem.run_bind, Sem.run_pure, Result.andThen_ok, hf', newRow, run_newObj]
    rfl
  · rw [if_neg h0]
    simp only [if_neg h0] at hf'
    simp only [Sem.run_bind, hz, Sem.run_pure, Result.andThen_ok, hf', newRow, run_newObj]
    rfl

/-- The zeros, told. -/
theorem zrow_rel {z : TI} (hz : z.zero.all zeroB = true) {zv : Value} (hzc : zv.cells.toList = z.zero.map cval) (h3 : z.zero.length = z.size) (h2 : 0 < z.size) (len : Nat) :
    (zrow zv.cells (len * z.size)).size = (repeatL z.zero len).length ∧ (repeatL z.zero len).length = len * z.size ∧ ∀ (j : Nat) x, (repeatL z.zero len)[j]? = some x → ∃ y, (zrow zv.cells (len * z.size))[j]? = some y ∧ Rimm w I x y := by
  have hrep := repeatL_get z.zero len
  rw [h3] at hrep
  obtain ⟨hzr, hzi⟩ := zero_Rcs (w := w) (I := I) (ι := ⟨fun _ => none, fun _ => none⟩) (va := fun _ => none) (ar := fun _ => none) hz hzc
  have hzs : zv.cells.size = z.size := by rw [hzr.1]; exact h3
  refine ⟨by rw [hrep.1, zrow_size], hrep.1, fun j x hx => ?_⟩
  have hj : j < len * z.size := by
    rcases Nat.lt_or_ge j (len * z.size) with h' | h'
    · exact h'
    · rw [List.getElem?_eq_none (by rw [hrep.1]; exact h')] at hx; cases hx
  rw [hrep.2 j hj] at hx
  obtain ⟨y, hy, hyr⟩ := hzi _ x hx
  exact ⟨y, by rw [zrow_get _ _ j hj (by rw [hzs]; exact h2), hzs]; exact hy, hyr⟩

theorem row_le {i n s : Nat} (hi : i < n) : i * s + s ≤ n * s := by
  have : (i + 1) * s ≤ n * s := Nat.mul_le_mul_right _ hi
  rwa [Nat.add_mul, Nat.one_mul] at this

theorem newRow_good {m : Name} {s n : Nat} {g : Nat → List C} {cs' : Array Value} (T : TypeId) {o : Out C} (h : newA m s n g st = some o) (hr : RelI X I ι st tm w) (hs : 0 < s) (hcap : n ≤ maxLen) (hsz : cs'.size = n * s) (hlen : ∀ i, i < n → (g i).length = s)
    (hc : ∀ (i j : Nat) x, i < n → (g i)[j]? = some x → ∃ u, cs'[i * s + j]? = some u ∧ Rimm w I x u) :
    Good X o.st tm (.c o.val) (w.alloc (.cells cs' T)) (.slice (some ⟨w.heap.size, 0, none⟩) n n) := by
  obtain ⟨f1, f2, f3⟩ := newA_inv h
  obtain ⟨ι', hr2, E2, hm⟩ := hr.newA f1 (s := s) (n := n) (cap := n) (g := g) (us := cs') T hs (Nat.le_refl _) hcap hsz hlen hc
  refine ⟨I, ι', by rw [f3]; exact hr2, ?_⟩
  rw [f2, f3]
  exact Rc_ref (w := w.alloc (.cells cs' T)) (I := I) (ι := ι') (va := st.var) (A := ⟨false, s, n, g⟩) (by rw [arr_cons, if_pos rfl]) (Nat.le_refl _) (by rw [hm]; rfl)

theorem buildSlice_inv {t : TypeId} {len base : Nat} {parts : List (Nat × Operand)} {out : Out S} (hT : TabOk P T) (h : evBuildSlice T base t len parts st = some out) :
    ∃ (i z : TI) (e : TypeId) (ps : Out (List (Nat × List C))) (qs : Out (List (Nat × List C))) (cs : List C) (oc : Out C), TIok P t i ∧ i.kind = .slice e ∧ TIok P e z ∧ len * z.size ≤ 2 ^ 24 ∧ 0 < z.size ∧ z.zero.length = z.size ∧ partsL parts st = some ps ∧
      immParts (ps.val.map fun p => (p.1, retagL z.zero p.2)) ps.st = some qs ∧ fillC (fun i => some (i * z.size, z.size)) (repeatL z.zero len) qs.val = some cs ∧ newA (base, 0) z.size len (fun i => window cs (i * z.size) z.size) qs.st = some oc ∧ out.val = .c oc.val ∧ out.st = oc.st := by
  unfold evBuildSlice at h
  obtain ⟨o1, o2, h1, h2, v1, s1, _⟩ := bind_inv h
  obtain ⟨e1, e2⟩ := ti_inv h1
  rw [e2] at h2
  obtain ⟨o3, o4, h3, h4, v2, s2, _⟩ := bind_inv h2
  obtain ⟨e3, e4⟩ := ofO_inv h3
  rw [e4] at h4
  obtain ⟨o5, o6, h5, h6, v3, s3, _⟩ := bind_inv h4
  obtain ⟨e5, e6⟩ := ti_inv h5
  rw [e6] at h6
  obtain ⟨o7, o8, h7, h8, v4, s4, _⟩ := bind_inv h6
  obtain ⟨e7, e8⟩ := guard_inv h7
  rw [e8] at h8
  simp only [Bool.and_eq_true] at e7
  obtain ⟨o9, oa, h9, ha, v5, s5, _⟩ := bind_inv h8
  obtain ⟨ob, oc, hb, hc, v6, s6, _⟩ := bind_inv ha
  obtain ⟨od, oe, hd, he, v7, s7, _⟩ := bind_inv hc
  obtain ⟨ed, ee⟩ := ofO_inv hd
  rw [ee] at he
  obtain ⟨og, oh, hg, hh, v8, s8, _⟩ := bind_inv he
  have hp := pure_inv hh
  exact ⟨_, _, _, o9, ob, _, og, hT t _ e1, sliceO_inv e3, hT _ _ e5, Nat.le_of_ble_eq_true e7.1.1, Nat.le_of_ble_eq_true e7.1.2, Nat.eq_of_beq_eq_true e7.2, h9, hb, ed, hg,
    by rw [v1, v2, v3, v4, v5, v6, v7, v8, hp], by rw [s1, s2, s3, s4, s5, s6, s7, s8, hp]⟩

theorem buildSlice_ok {a : Act} {t : TypeId} {len base : Nat} {parts : Array (Nat × Operand)} {out : Out S} (hT : TabOk P T) (h : evBuildSlice T base t len parts.toList st = some out) (hr : RelI X I ι st a.tmps w) :
    ∃ u w', (Instr.buildSlice t len (parts.map fun (i, x) => (i, a.eval x))).run P w = .ok u w' ∧ Good X out.st a.tmps out.val w' u := by
  obtain ⟨i, z, e, ps, qs, cs, oc, ht, hk, hte, b1, b2, b3, hps, hqs, hfl, hnew, hval, hst⟩ := buildSlice_inv hT h
  clear h
  rw [hval, hst]
  obtain ⟨e9, hpl, hpp⟩ := partsL_ok hr hps
  rw [e9] at hqs
  have hpl' : (ps.val.map fun p => (p.1, retagL z.zero p.2)).length = (parts.toList.map fun (i, x) => (i, a.eval x)).length := by simp [hpl]
  obtain ⟨I1, hr1, hl1, hp1, E1⟩ := immParts_ok hqs hr hpl' (fun j p v hp hv => by
    rw [List.getElem?_map] at hp
    cases hq : ps.val[j]? with
    | none => rw [hq] at hp; simp at hp
    | some q =>
      rw [hq] at hp
      simp only [Option.map_some, Option.some.injEq] at hp
      subst hp
      obtain ⟨q1, q2, _⟩ := hpp j q v hq hv
      exact ⟨q1, retagL_ok q2⟩)
  obtain ⟨zv, hz, hzc⟩ := run_zeroValue hte w
  obtain ⟨q1, q2, q3⟩ := zrow_rel (w := w) (I := I1) hte.zero hzc b3 b2 len
  obtain ⟨cs', hf, hs', hl', hr'⟩ := fill_ok (fun i => some (i * z.size, z.size)) (R := Rimm w I1) qs.val (parts.toList.map fun (i, x) => (i, a.eval x)) (repeatL z.zero len) (zrow zv.cells (len * z.size)) hl1 hp1 q1 q3 hfl
  have hsz' : cs'.size = len * z.size := by rw [hs', hl', q2]
  have hdl : cs.length = len * z.size := by rw [hl', q2]
  refine ⟨_, _, buildSlice_run ht hk hte hz b1 (by rw [Array.toList_map]; exact hf), ?_⟩
  refine newRow_good (s := z.size) (cs' := cs') e hnew hr1 b2 ?_ hsz' ?_ ?_
  · have : len ≤ len * z.size := Nat.le_mul_of_pos_right _ b2
    simp only [maxLen]
    omega
  · intro i hi
    exact (window_get _ _ _ (by rw [hdl]; exact row_le hi)).1
  · intro i j x hi hx
    obtain ⟨_, hx'⟩ := (window_get _ _ _ (by rw [hdl]; exact row_le hi)).2 j x hx
    exact hr' _ x hx'

theorem wrap_nat {n : Nat} (h : n < 2 ^ 63) : IntKind.i64.wrap (n : Int) = n := by
  have : (n : Int) < 9223372036854775808 := by omega
  exact IntWalk.i64_in _ ⟨by omega, by omega⟩

theorem makeSlice_run {t e : TypeId} {i z : TI} (ht : TIok P t i) (hk : i.kind = .slice e) (hte : TIok P e z) {zv : Value} (hz : (zeroValue e).run P w = .ok zv w) {n : Nat} {k k' : IntKind} (h1 : n * z.bytes ≤ LIMIT) (h2 : n < 2 ^ 63) :
    (Instr.makeSlice t (.int k n) (.int k' n)).run P w = .ok (.slice (some ⟨w.heap.size, 0, none⟩) n n) (w.alloc (.cells (zrow zv.cells (n * z.size)) e)) := by
  obtain ⟨d, hdd, hk'⟩ := run_und ht w
  rw [hk] at hk'
  obtain rfl := kind_slice hk'
  obtain ⟨ty, z', g1, g2, g3, g4, g5⟩ := hte.inf
  have hby : ¬ ((z.bytes : Int) * (n : Int) > 2 ^ 48) := by
    have h3 : n * z.bytes ≤ 140737488355328 := h1
    have h4 : (z.bytes : Int) * (n : Int) = ((n * z.bytes : Nat) : Int) := by rw [Nat.mul_comm]; simp
    rw [h4]
    omega
  have hneg : ¬ ((n : Int) < 0) := by omega
  have hbig : (decide ((n : Int) < 0) || decide ((z.bytes : Int) * (n : Int) > 2 ^ 48)) = false := by rw [decide_eq_false hneg, decide_eq_false hby]; rfl
  unfold Instr.makeSlice
  simp only [Sem.run_bind, hdd, Result.andThen_ok, asInt, asIntOf, Sem.run_pure, typeInfo, run_program, g1, wrap_nat h2, g3]
  rw [Sem.run_ite, if_neg (by rw [hbig, decide_eq_false hneg, decide_eq_false (show ¬ ((n : Int) > n) by omega)]; simp)]
  simp only [Sem.run_bind, run_askRoom, Result.andThen_ok, run_sizeOf hte, Int.toNat_natCast]
  have e : zrow zv.cells (n * z.size) = (Array.range (n * z.size)).map (fun i => (zs0 zv.cells (n * z.size))[i % (zs0 zv.cells (n * z.size)).size]!) := rfl
  rw [e]
  unfold zs0
  by_cases h0 : n * z.size = 0
  · simp only [if_pos h0, Sem.run_bind, Sem.run_pure, Result.andThen_ok, newRow, run_newObj]
    rfl
  · simp only [if_neg h0, Sem.run_bind, hz, Sem.run_pure, Result.andThen_ok, newRow, run_newObj]
    rfl

theorem makeSlice_ok {t : TypeId} {n base : Nat} {k k' : IntKind} {out : Out S} (hT : TabOk P T) (h : evMakeSlice T base t n st = some out) (hs : out.side) (hr : RelI X I ι st tm w) :
    ∃ u w', (Instr.makeSlice t (.int k n) (.int k' n)).run P w = .ok u w' ∧ Good X out.st tm out.val w' u := by
  unfold evMakeSlice at h
  obtain ⟨o1, o2, h1, h2, rfl⟩ := bind_some h
  obtain ⟨e1, e2⟩ := ti_inv h1
  have ht := hT t _ e1
  rw [e2] at h2
  obtain ⟨o3, o4, h3, h4, rfl⟩ := bind_some h2
  obtain ⟨e3, e4⟩ := ofO_inv h3
  rw [e4] at h4
  obtain ⟨o5, o6, h5, h6, rfl⟩ := bind_some h4
  obtain ⟨e5, e6⟩ := ti_inv h5
  have hte := hT _ _ e5
  rw [e6] at h6
  obtain ⟨o7, o8, h7, h8, rfl⟩ := bind_some h6
  obtain ⟨e7, e8⟩ := need_inv h7
  rw [e7] at h8
  obtain ⟨o9, oa, h9, ha, rfl⟩ := bind_some h8
  obtain ⟨e9, e10⟩ := guard_inv h9
  rw [e10] at ha
  simp only [Bool.and_eq_true] at e9
  have b2 : 0 < o5.val.size := Nat.le_of_ble_eq_true e9.1
  have b3 := Nat.eq_of_beq_eq_true e9.2
  obtain ⟨ob, oc, hb, hc, rfl⟩ := bind_some ha
  obtain rfl := pure_inv hc
  have hside : n * o5.val.bytes ≤ LIMIT ∧ n < 2 ^ 63 := by
    have := (all_append.mp (all_append.mp (all_append.mp (all_append.mp hs).2).2).2).1
    exact cast e8 this
  obtain ⟨zv, hz, hzc⟩ := run_zeroValue hte w
  obtain ⟨hzr, hzi⟩ := zero_Rcs (w := w) (I := I) (ι := ι) (va := st.var) (ar := st.arr) hte.zero hzc
  have hzs : zv.cells.size = o5.val.size := by rw [hzr.1]; exact b3
  refine ⟨_, _, makeSlice_run ht (sliceO_inv e3) hte hz hside.1 hside.2, ?_⟩
  refine newRow_good o3.val hb hr b2 ?_ (zrow_size _ _) (fun _ _ => b3) ?_
  · have := hside.2
    have hm : (2 ^ 63 - 1 : Nat) = maxLen := rfl
    omega
  · intro i j x hi hx
    have hj : j < o5.val.size := by
      rcases Nat.lt_or_ge j o5.val.zero.length with h' | h'
      · omega
      · rw [List.getElem?_eq_none h'] at hx; cases hx
    obtain ⟨y, hy, hyr⟩ := hzi j x hx
    refine ⟨y, ?_, hyr⟩
    have hlt := row_le (s := o5.val.size) hi
    rw [zrow_get _ _ _ (by omega) (by omega), hzs, Nat.mul_comm, Nat.mul_add_mod, Nat.mod_eq_of_lt hj]
    exact hy
end
end Go.Ev
namespace Go.Ev
open Go Go.RowKit
set_option linter.unusedVariables false

section
variable {X : Ctx} {I : Nat → Prop} {ι : Im} {st : St} {tm : Array Value} {w : World} {P : Program} {T : Tab}

theorem nilO_inv {x : C} {u : Unit} (h : nilO x = some u) {v : Value} {va : VA} {ar : AR} (hx : Rc w I ι va ar x v) : v = .slice none 0 0 := by
  unfold nilO at h
  split at h
  · have h' : Rimm w I _ v := hx
    cases h'; rfl
  · have h' : Rimm w I _ v := hx
    cases h'; rfl
  · cases h

/-- What is appended: m elements of s cells each. -/
def Src (w : World) (I : Nat → Prop) (s m : Nat) (g : Nat → List C) (u : Value) : Prop :=
  ∃ (A : Option Addr) (c : Nat), u = .slice A m c ∧ (m = 0 ∨ ∃ (b o : Nat) (f : Nat → Nat → Value), A = some ⟨b, o, none⟩ ∧ (∀ i, i < m → (g i).length = s) ∧ ∀ (i j : Nat) x, i < m → (g i)[j]? = some x → w.cell? ⟨b, o + i * s + j, none⟩ = some (f i j) ∧ Rimm w I x (f i j))

theorem asRow_ok {s0 : Nat} {y : C} {u : Value} {out : Out (Nat × (Nat → List C))} (h : asRow s0 y st = some out) (hs : out.side) (hr : RelI X I ι st tm w) (hy : Rc w I ι st.var st.arr y u) : out.st = st ∧ Src w I s0 out.val.1 out.val.2 u := by
  unfold asRow at h
  cases y with
  | lst s n g =>
    obtain ⟨o1, o2, h1, h2, v1, s1, d1⟩ := bind_inv h
    obtain ⟨e1, e2⟩ := need_inv h1
    rw [e1] at h2
    have hp := pure_inv h2
    have hn := (d1 hs).1
    rw [e2] at hn
    rw [v1, s1, hp]
    refine ⟨rfl, ?_⟩
    have hy' : Rimm w I (.lst s n g) u := hy
    cases hy' with
    | lst0 s g A c => exact ⟨A, c, rfl, .inl rfl⟩
    | lst s n g b o c f h0 hc hI hl hcell hrr =>
      obtain rfl := hn.resolve_left (by omega)
      exact ⟨_, c, rfl, .inr ⟨b, o, f, rfl, hl, fun i j x hi hx => ⟨hcell i j x hi hx, hrr i j x hi hx⟩⟩⟩
  | ref m n =>
    obtain ⟨o1, o2, h1, h2, v1, s1, d1⟩ := bind_inv h
    obtain ⟨e1, e2⟩ := liveA_inv h1
    rw [e2] at h2
    obtain ⟨o3, o4, h3, h4, v2, s2, d2⟩ := bind_inv h2
    obtain ⟨e3, e4⟩ := need_inv h3
    rw [e3] at h4
    have hp := pure_inv h4
    have hn := (d2 (d1 hs).2).1
    rw [e4] at hn
    rw [v1, s1, v2, s2, hp]
    refine ⟨rfl, ?_⟩
    simp only [Rc, e1] at hy
    obtain ⟨hle, hh⟩ := hy
    unfold hdr at hh
    split at hh
    · obtain ⟨rfl, rfl⟩ := hh
      exact ⟨none, 0, rfl, .inl rfl⟩
    · rename_i b cap hp'
      subst hh
      refine ⟨_, cap, rfl, ?_⟩
      rcases hn with rfl | hs0
      · exact .inl rfl
      · have hok := hr.arrs m _ e1
        rw [hp'] at hok
        obtain ⟨⟨f, hrow⟩, _⟩ := hok
        refine .inr ⟨b, 0, f, rfl, fun i hi => by rw [hrow.len i (Nat.lt_of_lt_of_le hi hle)]; exact hs0, fun i j x hi hx => ?_⟩
        have hi' : i < o1.val.n := Nat.lt_of_lt_of_le hi hle
        have := hrow.cell i j x hi' hx
        rw [hs0] at this
        exact ⟨by rw [Nat.zero_add]; exact this, hrow.rel i j x hi' hx⟩
  | nil s =>
    obtain ⟨o1, o2, h1, h2, v1, s1, d1⟩ := bind_inv h
    obtain ⟨e1, e2⟩ := ofO_inv h1
    rw [e2] at h2
    have hp := pure_inv h2
    rw [v1, s1, hp]
    obtain rfl := nilO_inv e1 hy
    exact ⟨rfl, none, 0, rfl, .inl rfl⟩
  | v z =>
    obtain ⟨o1, o2, h1, h2, v1, s1, d1⟩ := bind_inv h
    obtain ⟨e1, e2⟩ := ofO_inv h1
    rw [e2] at h2
    have hp := pure_inv h2
    rw [v1, s1, hp]
    obtain rfl := nilO_inv e1 hy
    exact ⟨rfl, none, 0, rfl, .inl rfl⟩
  | pvar _ _ => obtain ⟨o1, o2, h1, h2, _⟩ := bind_inv h; exact absurd (ofO_inv h1).1 (by simp [nilO])
  | pelem _ _ _ => obtain ⟨o1, o2, h1, h2, _⟩ := bind_inv h; exact absurd (ofO_inv h1).1 (by simp [nilO])
  | pimm _ _ => obtain ⟨o1, o2, h1, h2, _⟩ := bind_inv h; exact absurd (ofO_inv h1).1 (by simp [nilO])
  | err b => obtain ⟨o1, o2, h1, h2, _⟩ := bind_inv h; exact absurd (ofO_inv h1).1 (by simp [nilO])
  | undef => obtain ⟨o1, o2, h1, h2, _⟩ := bind_inv h; exact absurd (ofO_inv h1).1 (by simp [nilO])

/-- The source's cells, one after the other. -/
theorem Src.cells {s m : Nat} {g : Nat → List C} {u : Value} (h : Src w I s m g u) (hs : 0 < s) (hm : m ≠ 0) :
    ∃ (b o c : Nat) (news : List Value), u = .slice (some ⟨b, o, none⟩) m c ∧ news.length = m * s ∧ (∀ (j : Nat) v, news[j]? = some v → w.cell? ((⟨b, o, none⟩ : Addr).add j) = some v) ∧ (∀ v ∈ news, flat v = true) ∧ (∀ i, i < m → (g i).length = s) ∧
      ∀ (i j : Nat) x, i < m → (g i)[j]? = some x → ∃ y, news[i * s + j]? = some y ∧ Rimm w I x y := by
  obtain ⟨A, c, rfl, h⟩ := h
  rcases h with rfl | ⟨b, o, f, rfl, hl, hc⟩
  · exact absurd rfl hm
  · refine ⟨b, o, c, (List.range (m * s)).map (fun k => f (k / s) (k % s)), rfl, by simp, ?_, ?_, hl, ?_⟩
    · intro j v hv
      rw [List.getElem?_map] at hv
      have hj : j < m * s := by
        rcases Nat.lt_or_ge j (m * s) with h' | h'
        · exact h'
        · rw [List.getElem?_eq_none (by simpa using h')] at hv; cases hv
      rw [List.getElem?_range hj] at hv
      simp only [Option.map_some, Option.some.injEq] at hv
      subst hv
      rw [add_at]
      have hi : j / s < m := Nat.div_lt_of_lt_mul (by rw [Nat.mul_comm]; exact hj)
      have hjs : j % s < (g (j / s)).length := by rw [hl _ hi]; exact Nat.mod_lt _ hs
      have := (hc (j / s) (j % s) _ hi (List.getElem?_eq_getElem hjs)).1
      rw [← this]
      congr 2
      have := Nat.div_add_mod j s
      rw [Nat.mul_comm] at this
      omega
    · intro v hv
      obtain ⟨k, hk, rfl⟩ := List.mem_map.mp hv
      have hk := List.mem_range.mp hk
      have hi : k / s < m := Nat.div_lt_of_lt_mul (by rw [Nat.mul_comm]; exact hk)
      have hjs : k % s < (g (k / s)).length := by rw [hl _ hi]; exact Nat.mod_lt _ hs
      exact (hc (k / s) (k % s) _ hi (List.getElem?_eq_getElem hjs)).2.flat
    · intro i j x hi hx
      have hj : j < s := by
        rcases Nat.lt_or_ge j s with h' | h'
        · exact h'
        · rw [List.getElem?_eq_none (by rw [hl i hi]; exact h')] at hx; cases hx
      refine ⟨f i j, ?_, (hc i j x hi hx).2⟩
      have hlt : i * s + j < m * s := by have := row_le (s := s) hi; omega
      rw [List.getElem?_map, List.getElem?_range hlt]
      simp only [Option.map_some, Option.some.injEq]
      rw [Nat.mul_comm, Nat.mul_add_div hs, Nat.div_eq_of_lt hj, Nat.mul_add_mod, Nat.mod_eq_of_lt hj, Nat.add_zero]

/-- Nothing is appended. -/
theorem append_zero {t e ty : TypeId} {i z : TI} (ht : TIok P t i) (hk : i.kind = .slice e) (hte : TIok P e z) {base : Option Addr} {n cap : Nat} (hn : n ≤ cap) {A : Option Addr} {c : Nat} :
    (Builtin.append_ #[t, t] ty #[.slice base n cap, .slice A 0 c]).run P w = .ok (.slice base n cap) w := by
  obtain ⟨d, hdd, hk'⟩ := run_und ht w
  rw [hk] at hk'
  obtain rfl := kind_slice hk'
  have hd : P.underlying t = some (.slice e) := by
    obtain ⟨d', h1, h2⟩ := ht.und
    rw [hk] at h2
    rw [h1, kind_slice h2]
  unfold Builtin.append_
  simp only [Sem.run_bind, List.getElem?_toArray, List.getElem?_cons_zero, List.getElem?_cons_succ, hdd, Result.andThen_ok, run_sizeOf hte, Sem.run_pure, Builtin.lenOf]
  simp [hn, Builtin.firstCells]
  cases A <;> simp [loadCells, loadCellsFrom] <;> cases base <;> simp [storeCells]

/-- An array at a block that nobody uses (any more); the block may have been written. -/
theorem RelI.addA' {w' : World} (h : RelI X I ι st tm w) {m : Name} (hm : st.arr m = none) {b cap : Nat} {A : Arr} {f : Nat → Nat → Value} (hfz : A.frozen = false) (hI : ¬ I b) (hmine : X.mine b) (hv : ∀ k, st.var k ≠ none → ι.v k ≠ some b) (ha : ∀ k D c, st.arr k = some (some D) → ι.a k ≠ some (b, c))
    (hb : ∀ k, k ≠ b → w'.heap[k]? = w.heap[k]?) (hsz : w'.heap.size = w.heap.size) (hos : w'.os = w.os ∧ w'.tape = w.tape ∧ w'.output = w.output) (hrow : RowOk w' I A b cap f) :
    ∃ ι', RelI X I ι' { st with arrs := (m, some A) :: st.arrs } tm w' ∧ Ext w I ι st.var st.arr w' I ι' st.var ({ st with arrs := (m, some A) :: st.arrs } : St).arr ∧ (ι'.a m = some (b, cap) ∧ ι'.v = ι.v ∧ ∀ k, k ≠ m → ι'.a k = ι.a k) := by
  let ι' : Im := ⟨ι.v, fun k => if k = m then some (b, cap) else ι.a k⟩
  have har : ∀ k, ({ st with arrs := (m, some A) :: st.arrs } : St).arr k = if k = m then some (some A) else st.arr k := arr_cons st m _
  have E : Ext w I ι st.var st.arr w' I ι' st.var ({ st with arrs := (m, some A) :: st.arrs } : St).arr := by
    refine ⟨fun k hk => hb k (fun e => hI (e ▸ hk)), fun _ hk => hk, fun k hk => ⟨hk, rfl⟩, fun k hk => ?_, fun k D hD => .inr ⟨D, ?_, rfl, rfl, ?_⟩⟩
    · rw [har, if_neg (fun e => by rw [e, hm] at hk; cases hk)]; exact hk
    · rw [har, if_neg (fun e => by rw [e, hm] at hD; cases hD)]; exact hD
    · have : k ≠ m := fun e => by rw [e, hm] at hD; cases hD
      simp [ι', this]
  refine ⟨ι', ?_, E, by simp [ι'], rfl, fun k hk => by simp [ι', hk]⟩
  refine h.upd E rfl (fun _ => rfl) (Nat.le_of_eq hsz.symm) (h.fr.step hos.1 hos.2.1 hos.2.2 (Nat.le_of_eq hsz.symm) ?_) ?_ ?_ (fun k hk => by rw [hsz]; exact h.inI k hk) h.vv ?_ ?_
  · intro k hk he
    refine hb k (fun e => ?_)
    subst e
    rcases hmine with hx | hx
    · omega
    · exact he hx
  · intro k cs hk
    refine .inl ⟨hk, fun c hc => ?_⟩
    obtain ⟨c', f', hok⟩ := h.vars k cs hk
    rw [hok.at_] at hc; injection hc with hc; subst hc
    exact ⟨hb c' (fun e => hv k (by rw [show st.var k = some cs from hk]; simp) (e ▸ hok.at_)), hok.notI⟩
  · intro k D hD
    rw [har] at hD
    by_cases e : k = m
    · subst e
      rw [if_pos rfl] at hD
      injection hD with hD; injection hD with hD; subst hD
      refine .inr ?_
      have : ι'.a k = some (b, cap) := by simp [ι']
      rw [this]
      refine ⟨⟨f, hrow⟩, ?_⟩
      rw [hfz]
      exact ⟨hI, hmine⟩
    · rw [if_neg e] at hD
      refine .inl ⟨hD, by simp [ι', e], fun c d hc => ⟨hb c (fun e' => ha k D d hD (e' ▸ hc)), fun hf => ?_⟩⟩
      have := h.arrs k D hD
      rw [hc] at this
      have := this.2
      rw [hf] at this
      exact this.1
  · intro k k' D c d hk hD hc hd
    rw [har] at hD
    simp only [ι'] at hc hd
    by_cases e : k' = m
    · rw [if_pos e] at hd
      injection hd with hd; injection hd with hd _; subst hd
      exact hv k hk hc
    · rw [if_neg e] at hD hd
      exact h.va k k' D c d hk hD hc hd
  · intro k k' D D' c d d' hk hk' hc hc'
    rw [har] at hk hk'
    simp only [ι'] at hc hc'
    by_cases e : k = m <;> by_cases e' : k' = m
    · rw [e, e']
    · rw [if_pos e] at hc; rw [if_neg e'] at hc' hk'
      injection hc with hc; injection hc with hc _; subst hc
      exact absurd hc' (ha k' D' d' hk')
    · rw [if_neg e] at hc hk; rw [if_pos e'] at hc'
      injection hc' with hc'; injection hc' with hc' _; subst hc'
      exact absurd hc (ha k D d hk)
    · rw [if_neg e] at hc hk; rw [if_neg e'] at hc' hk'
      exact h.aa k k' D D' c d d' hk hk' hc hc'

theorem RelI.addA {w' : World} (h : RelI X I ι st tm w) {m : Name} (hm : st.arr m = none) {b cap : Nat} {A : Arr} {f : Nat → Nat → Value} (hfz : A.frozen = false) (hI : ¬ I b) (hmine : X.mine b) (hv : ∀ k, st.var k ≠ none → ι.v k ≠ some b) (ha : ∀ k D c, st.arr k = some (some D) → ι.a k ≠ some (b, c))
    (hb : ∀ k, k ≠ b → w'.heap[k]? = w.heap[k]?) (hsz : w'.heap.size = w.heap.size) (hos : w'.os = w.os ∧ w'.tape = w.tape ∧ w'.output = w.output) (hrow : RowOk w' I A b cap f) :
    ∃ ι', RelI X I ι' { st with arrs := (m, some A) :: st.arrs } tm w' ∧ Ext w I ι st.var st.arr w' I ι' st.var ({ st with arrs := (m, some A) :: st.arrs } : St).arr ∧ ι'.a m = some (b, cap) :=
  let ⟨ι', a, b, c⟩ := h.addA' hm hfz hI hmine hv ha hb hsz hos hrow; ⟨ι', a, b, c.1⟩

/-- Elements put behind the ones that are there, in place. -/
theorem RowOk.room {A : Arr} {b cap n m : Nat} {g : Nat → List C} {f : Nat → Nat → Value} {news : List Value} (hr : RowOk w I A b cap f) (hI : ¬ I b) (hn : n ≤ A.n) (hnm : n + m ≤ cap) (hnl : news.length = m * A.s) (hlen : ∀ i, i < m → (g i).length = A.s)
    (hc : ∀ (i j : Nat) x, i < m → (g i)[j]? = some x → ∃ y, news[i * A.s + j]? = some y ∧ Rimm w I x y) :
    RowOk (w.setCells b (n * A.s) news) I ⟨false, A.s, n + m, appG n A.g g⟩ b cap (fun i j => if i < n then f i j else news.getD ((i - n) * A.s + j) undef) := by
  have hoth : ∀ k, I k → (w.setCells b (n * A.s) news).heap[k]? = w.heap[k]? := fun k hk => heap_setCells b news _ w k (fun e => hI (e ▸ hk))
  have hall : n * A.s + m * A.s ≤ cap * A.s := by rw [← Nat.add_mul]; exact Nat.mul_le_mul_right _ hnm
  have hin : ∀ j, j < news.length → (w.cell? ⟨b, n * A.s + j, none⟩).isSome = true := fun j hj => (hr.there _ (by omega)).1
  have glen : ∀ i, i < n + m → (appG n A.g g i).length = A.s := by
    intro i hi
    unfold appG
    cases hb : Nat.blt i n with
    | true =>
      have : i < n := Nat.le_of_ble_eq_true hb
      simp only [cond_true]; exact hr.len i (by omega)
    | false =>
      have : ¬ i < n := fun h' => by have := Nat.ble_eq_true_of_le h'; unfold Nat.blt at hb; rw [this] at hb; cases hb
      simp only [cond_false]; exact hlen (i - n) (by omega)
  have key : ∀ (i j : Nat) x, i < n + m → (appG n A.g g i)[j]? = some x → (w.setCells b (n * A.s) news).cell? ⟨b, i * A.s + j, none⟩ = some (if i < n then f i j else news.getD ((i - n) * A.s + j) undef) ∧ Rimm w I x (if i < n then f i j else news.getD ((i - n) * A.s + j) undef) := by
    intro i j x hi hx
    have hj : j < A.s := by
      rcases Nat.lt_or_ge j A.s with h' | h'
      · exact h'
      · rw [List.getElem?_eq_none (by rw [glen i hi]; exact h')] at hx; cases hx
    unfold appG at hx
    cases hb : Nat.blt i n with
    | true =>
      have hlt : i < n := Nat.le_of_ble_eq_true hb
      rw [hb] at hx
      simp only [cond_true] at hx
      rw [if_pos hlt]
      refine ⟨?_, hr.rel i j x (by omega) hx⟩
      have := row_le (s := A.s) hlt
      rw [World.cell?_setCells_out b _ _ w _ (fun _ _ => by show i * A.s + j < n * A.s ∨ _; left; omega)]
      exact hr.cell i j x (by omega) hx
    | false =>
      have hlt : ¬ i < n := fun h' => by have := Nat.ble_eq_true_of_le h'; unfold Nat.blt at hb; rw [this] at hb; cases hb
      rw [hb] at hx
      simp only [cond_false] at hx
      rw [if_neg hlt]
      obtain ⟨y, hy, hyr⟩ := hc (i - n) j x (by omega) hx
      have hyd : news.getD ((i - n) * A.s + j) undef = y := by simp [hy]
      rw [hyd]
      refine ⟨?_, hyr⟩
      have hlt' : (i - n) * A.s + j < news.length := by
        have := row_le (s := A.s) (show i - n < m by omega)
        omega
      have h1 := World.cell?_setCells_in b news (n * A.s) w hin _ hlt'
      rw [show n * A.s + ((i - n) * A.s + j) = i * A.s + j by
        have : n * A.s + (i - n) * A.s = i * A.s := by rw [← Nat.add_mul]; congr 1; omega
        omega] at h1
      rw [h1]
      rw [List.getElem?_eq_getElem hlt'] at hy
      exact hy
  refine ⟨by rw [size_setCells]; exact hr.lt, hr.pos, hnm, hr.max, ?_, glen, fun i j x hi hx => (key i j x hi hx).1, fun i j x hi hx => (key i j x hi hx).2.mono hoth (fun _ h => h)⟩
  intro o ho
  obtain ⟨h1, h2⟩ := hr.there o ho
  refine ⟨?_, by rw [World.frozen?_setCells]; exact h2⟩
  by_cases hj : n * A.s ≤ o ∧ o < n * A.s + news.length
  · have := World.cell?_setCells_in b news (n * A.s) w hin (o - n * A.s) (by omega)
    rw [show n * A.s + (o - n * A.s) = o by omega] at this
    rw [this]; rfl
  · rw [World.cell?_setCells_out b _ _ w _ (fun _ _ => by show o < n * A.s ∨ n * A.s + news.length ≤ o; omega)]; exact h1

theorem und_slice {t e : TypeId} {i : TI} (ht : TIok P t i) (hk : i.kind = .slice e) : P.underlying t = some (.slice e) := by
  obtain ⟨d', h1, h2⟩ := ht.und
  rw [hk] at h2
  rw [h1, kind_slice h2]

theorem append_room {t e ty : TypeId} {i z : TI} (ht : TIok P t i) (hk : i.kind = .slice e) (hte : TIok P e z) {b n cap m c : Nat} {a : Addr} {news : List Value} (hl : news.length = m * z.size) (hnews : ∀ (j : Nat) v, news[j]? = some v → w.cell? (a.add j) = some v) (h1 : ∀ v ∈ news, flat v = true)
    (hnm : n + m ≤ cap) (hin : ∀ j, j < news.length → (w.cell? ⟨b, n * z.size + j, none⟩).isSome = true ∧ w.frozen? ⟨b, n * z.size + j, none⟩ = false) :
    (Builtin.append_ #[t, t] ty #[.slice (some ⟨b, 0, none⟩) n cap, .slice (some a) m c]).run P w = .ok (.slice (some ⟨b, 0, none⟩) (n + m) cap) (w.setCells b (n * z.size) news) := by
  obtain ⟨ty', zv, g1, g2, g3, g4, g5⟩ := hte.inf
  have hu := und_slice ht hk
  have hf := run_firstCells_some (P := P) w z.size m a m c news hl hnews
  have hst := run_storeCells_cells (P := P) b (n * z.size) news 0 w (fun j hj => (hin j hj).1) (fun j hj => (hin j hj).2) h1
  simp only [Nat.add_zero] at hst
  simp [Builtin.append_, run_underlying hu, sizeOf, typeInfo, g1, g2, Builtin.lenOf, hnm, hf, add_at, hst]

/-- Cells of old elements, of new ones, and more. -/
theorem grown_row {s n m : Nat} {g h : Nat → List C} {olds news : List Value} {more : Array Value} (hs : 0 < s) (ho : olds.length = n * s) (hnw : news.length = m * s) (hco : ∀ (i j : Nat) x, i < n → (g i)[j]? = some x → ∃ y, olds[i * s + j]? = some y ∧ Rimm w I x y)
    (hcn : ∀ (i j : Nat) x, i < m → (h i)[j]? = some x → ∃ y, news[i * s + j]? = some y ∧ Rimm w I x y) (hlo : ∀ i, i < n → (g i).length = s) (hln : ∀ i, i < m → (h i).length = s) :
    (∀ i, i < n + m → (appG n g h i).length = s) ∧ ∀ (i j : Nat) x, i < n + m → (appG n g h i)[j]? = some x → ∃ u, (olds.toArray ++ news.toArray ++ more)[i * s + j]? = some u ∧ Rimm w I x u := by
  have glen : ∀ i, i < n + m → (appG n g h i).length = s := by
    intro i hi
    unfold appG
    cases hb : Nat.blt i n with
    | true =>
      have : i < n := Nat.le_of_ble_eq_true hb
      simp only [cond_true]; exact hlo i this
    | false =>
      have : ¬ i < n := fun h' => by have := Nat.ble_eq_true_of_le h'; unfold Nat.blt at hb; rw [this] at hb; cases hb
      simp only [cond_false]; exact hln (i - n) (by omega)
  refine ⟨glen, fun i j x hi hx => ?_⟩
  have hj : j < s := by
    rcases Nat.lt_or_ge j s with h' | h'
    · exact h'
    · rw [List.getElem?_eq_none (by rw [glen i hi]; exact h')] at hx; cases hx
  unfold appG at hx
  have get : ∀ (k : Nat) u, (olds ++ news)[k]? = some u → (olds.toArray ++ news.toArray ++ more)[k]? = some u := by
    intro k u hk
    have hlt : k < (olds ++ news).length := by
      rcases Nat.lt_or_ge k (olds ++ news).length with h' | h'
      · exact h'
      · rw [List.getElem?_eq_none h'] at hk; cases hk
    rw [Array.getElem?_append_left (by simpa using hlt)]
    simpa using hk
  cases hb : Nat.blt i n with
  | true =>
    have hlt : i < n := Nat.le_of_ble_eq_true hb
    rw [hb] at hx
    simp only [cond_true] at hx
    obtain ⟨y, hy, hr⟩ := hco i j x hlt hx
    refine ⟨y, get _ _ ?_, hr⟩
    rw [List.getElem?_append_left (by have := row_le (s := s) hlt; omega)]
    exact hy
  | false =>
    have hlt : ¬ i < n := fun h' => by have := Nat.ble_eq_true_of_le h'; unfold Nat.blt at hb; rw [this] at hb; cases hb
    rw [hb] at hx
    simp only [cond_false] at hx
    obtain ⟨y, hy, hr⟩ := hcn (i - n) j x (by omega) hx
    refine ⟨y, get _ _ ?_, hr⟩
    have e : n * s + (i - n) * s = i * s := by rw [← Nat.add_mul]; congr 1; omega
    rw [List.getElem?_append_right (by omega), ho, show i * s + j - n * s = (i - n) * s + j by omega]
    exact hy

theorem appG_zero (g h : Nat → List C) : appG 0 g h = h := by
  funext i
  have : Nat.blt i 0 = false := by unfold Nat.blt; rfl
  simp [appG, this]

/-- Elements are appended to a slice that is nil. -/
theorem append_nil_ok {t e ty : TypeId} {i z : TI} (ht : TIok P t i) (hk : i.kind = .slice e) (hte : TIok P e z) (hz0 : 0 < z.size) (hz1 : z.zero.length = z.size) {m : Nat} {g : Nat → List C} {u : Value} (hsrc : Src w I z.size m g u) (hlim : m * z.bytes ≤ LIMIT) (hby : 0 < z.bytes)
    {nm : Name} {o : Out C} (hnew : newA nm z.size m g st = some o) (hr : RelI X I ι st tm w) :
    ∃ v w', (Builtin.append_ #[t, t] ty #[.slice none 0 0, u]).run P w = .ok v w' ∧ Good X o.st tm (.c o.val) w' v := by
  obtain ⟨f1, f2, f3⟩ := newA_inv hnew
  by_cases hm : m = 0
  · subst hm
    obtain ⟨A, c, rfl, _⟩ := hsrc
    obtain ⟨ι', hr', E, ha⟩ := hr.newA0 f1 z.size g
    refine ⟨_, _, append_zero ht hk hte (Nat.le_refl 0), I, ι', by rw [f3]; exact hr', ?_⟩
    rw [f2, f3]
    exact Rc_ref (w := w) (I := I) (ι := ι') (va := st.var) (A := ⟨false, z.size, 0, g⟩) (by rw [arr_cons, if_pos rfl]) (Nat.le_refl _) (by rw [ha]; exact ⟨rfl, rfl⟩)
  · obtain ⟨b, o', c, news, rfl, hnl, hcell, hfl, hlen, hrel⟩ := hsrc.cells hz0 hm
    obtain ⟨ty', zv, g1, g2, g3, g4, g5⟩ := hte.inf
    have hmle : m ≤ 140737488355328 := by
      have : m ≤ m * z.bytes := Nat.le_mul_of_pos_right _ hby
      have h2 : m * z.bytes ≤ 140737488355328 := hlim
      omega
    have hrun := run_append_nil (P := P) w t ty e ty' zv (und_slice ht hk) g1 g4 ⟨b, o', none⟩ m c news (by rw [g2]; exact hnl) hcell (by omega) (by omega) (by rw [g3]; have h2 : m * z.bytes ≤ 140737488355328 := hlim; omega)
    have hzs : zv.cells.size = z.size := by
      have := congrArg List.length g5
      rw [Array.length_toList, List.length_map] at this
      rw [this]; exact hz1
    have hge := grownCap_ge w m 0 e
    obtain ⟨hl2, hc2⟩ := grown_row (w := w) (I := I) (n := 0) (m := m) (g := fun _ => []) (h := g) (olds := []) (news := news) (more := Builtin.zeroCells zv.cells (grownCap w m 0 e - m)) hz0 (by simp) hnl (fun i j x hi => by omega) hrel (fun i hi => by omega) hlen
    simp only [Nat.zero_add, appG_zero] at hl2 hc2
    replace hc2 : ∀ (i j : Nat) x, i < m → (g i)[j]? = some x → ∃ u, (news.toArray ++ Builtin.zeroCells zv.cells (grownCap w m 0 e - m))[i * z.size + j]? = some u ∧ Rimm w I x u := by simpa using hc2
    obtain ⟨ι', hr', E, ha⟩ := hr.drew.newA f1 (s := z.size) (n := m) (cap := grownCap w m 0 e) (g := g) (us := news.toArray ++ Builtin.zeroCells zv.cells (grownCap w m 0 e - m)) e hz0 hge (grownCap_le_maxLen w m 0 e (by simp only [maxLen]; omega)) (by
        rw [Array.size_append, List.size_toArray, size_zeroCells, hnl, hzs, ← Nat.add_mul]
        congr 1; omega) hl2 (fun i j x hi hx => let ⟨y, hy, hr⟩ := hc2 i j x hi hx; ⟨y, hy, Rimm.mono (w := w) (w' := w.drew) (fun _ _ => rfl) (fun _ h => h) hr⟩)
    refine ⟨_, _, hrun, I, ι', by rw [f3]; exact hr', ?_⟩
    rw [f2, f3]
    exact Rc_ref (w := w.drew.alloc (.cells (news.toArray ++ Builtin.zeroCells zv.cells (grownCap w m 0 e - m)) e)) (I := I) (ι := ι') (va := st.var) (A := ⟨false, z.size, m, g⟩) (by rw [arr_cons, if_pos rfl]) (Nat.le_refl _) (by rw [ha]; rfl)

/-- Elements are appended to a slice over an array of the call's own. -/
theorem append_own_ok {t e ty : TypeId} {i z : TI} (ht : TIok P t i) (hk : i.kind = .slice e) (hte : TIok P e z) (hz0 : 0 < z.size) (hz1 : z.zero.length = z.size) {m : Nat} {g : Nat → List C} {u : Value} (hsrc : Src w I z.size m g u) (hby : 0 < z.bytes)
    {a : Name} {n : Nat} {A : Arr} {v : Value} (hA : st.arr a = some (some A)) (hfz : A.frozen = false) (hs : A.s = z.size) (hlim : (n + m) * z.bytes ≤ LIMIT) (hv : Rc w I ι st.var st.arr (.ref a n) v)
    {nm : Name} {o : Out C} (hnew : newA nm z.size (n + m) (appG n A.g g) { st with arrs := (a, none) :: st.arrs } = some o) (hr : RelI X I ι st tm w) :
    ∃ v' w', (Builtin.append_ #[t, t] ty #[v, u]).run P w = .ok v' w' ∧ Good X o.st tm (.c o.val) w' v' := by
  obtain ⟨f1, f2, f3⟩ := newA_inv hnew
  obtain ⟨hrk, Ek⟩ := hr.kill hA
  have hnm : nm ≠ a := fun e => by rw [e, arr_cons, if_pos rfl] at f1; cases f1
  simp only [Rc, hA] at hv
  obtain ⟨hn, hh⟩ := hv
  have hok := hr.arrs a A hA
  unfold hdr at hh
  split at hh
  · obtain ⟨rfl, rfl⟩ := hh
    simp only [Nat.zero_add] at hlim
    have hnew' : newA nm z.size m g { st with arrs := (a, none) :: st.arrs } = some o := by
      rw [appG_zero, Nat.zero_add] at hnew; exact hnew
    exact append_nil_ok ht hk hte hz0 hz1 hsrc hlim hby hnew' hrk
  · rename_i b cap hp
    subst hh
    rw [hp] at hok
    obtain ⟨⟨f, hrow⟩, hz⟩ := hok
    rw [hfz] at hz
    simp only [Bool.false_eq_true, if_false] at hz
    have hnv : ∀ k, st.var k ≠ none → ι.v k ≠ some b := fun k hk hb => hr.va k a A b cap hk hA hb hp
    have hna : ∀ k D c, ({ st with arrs := (a, none) :: st.arrs } : St).arr k = some (some D) → ι.a k ≠ some (b, c) := by
      intro k D c hD hb
      rw [arr_cons] at hD
      split at hD
      · cases hD
      · rename_i hne
        exact hne (hr.aa k a D A b c cap hD hA hb hp)
    by_cases hroom : n + m ≤ cap
    · -- in place
      by_cases hm : m = 0
      · subst hm
        obtain ⟨A', c, rfl, _⟩ := hsrc
        have hrow' := RowOk.room (m := 0) (g := g) (news := []) hrow hz.1 hn (by omega) (by simp) (fun i hi => by omega) (fun i j x hi => by omega)
        obtain ⟨ι', hr', E, ha⟩ := hrk.addA f1 rfl hz.1 hz.2 hnv hna (fun _ _ => rfl) rfl ⟨rfl, rfl, rfl⟩ hrow'
        refine ⟨_, _, append_zero ht hk hte (Nat.le_trans hn hrow.fit), I, ι', by rw [f3, ← hs]; exact hr', ?_⟩
        rw [f2, f3]
        exact Rc_ref (w := w) (I := I) (ι := ι') (va := st.var) (A := ⟨false, z.size, n + 0, appG n A.g g⟩) (by rw [arr_cons, if_pos rfl]) (Nat.le_refl _) (by rw [ha]; rfl)
      · obtain ⟨b', o', c, news, rfl, hnl, hcell, hfl, hlen, hrel⟩ := hsrc.cells hz0 hm
        rw [← hs] at hnl hlen hrel
        have hrow' := RowOk.room (m := m) (g := g) (news := news) hrow hz.1 hn hroom hnl hlen hrel
        obtain ⟨ι', hr', E, ha⟩ := hrk.addA f1 rfl hz.1 hz.2 hnv hna (fun k hk => heap_setCells b news _ w k hk) (size_setCells b news _ w) (os_setCells b news _ w) hrow'
        have hin : ∀ j, j < news.length → (w.cell? ⟨b, n * z.size + j, none⟩).isSome = true ∧ w.frozen? ⟨b, n * z.size + j, none⟩ = false := by
          intro j hj
          rw [← hs]
          have : n * A.s + m * A.s ≤ cap * A.s := by rw [← Nat.add_mul]; exact Nat.mul_le_mul_right _ hroom
          exact hrow.there _ (by omega)
        refine ⟨_, _, append_room ht hk hte (by rw [← hs]; exact hnl) hcell hfl hroom hin, I, ι', by rw [f3, ← hs]; exact hr', ?_⟩
        rw [f2, f3]
        exact Rc_ref (w := w.setCells b (n * z.size) news) (I := I) (ι := ι') (va := st.var) (A := ⟨false, z.size, n + m, appG n A.g g⟩) (by rw [arr_cons, if_pos rfl]) (Nat.le_refl _) (by rw [ha]; rfl)
    · -- a new array
      have hm : m ≠ 0 := by have := hrow.fit; omega
      obtain ⟨b', o', c, news, rfl, hnl, hcell, hfl, hlen, hrel⟩ := hsrc.cells hz0 hm
      obtain ⟨ty', zv, g1, g2, g3, g4, g5⟩ := hte.inf
      have hnmle : n + m ≤ 140737488355328 := by
        have : n + m ≤ (n + m) * z.bytes := Nat.le_mul_of_pos_right _ hby
        have h2 : (n + m) * z.bytes ≤ 140737488355328 := hlim
        omega
      -- the old cells
      have hold : ∃ olds : List Value, olds.length = n * z.size ∧ (∀ (j : Nat) v, olds[j]? = some v → w.cell? ((⟨b, 0, none⟩ : Addr).add j) = some v) ∧ ∀ (i j : Nat) x, i < n → (A.g i)[j]? = some x → ∃ y, olds[i * z.size + j]? = some y ∧ Rimm w I x y := by
        by_cases hn0 : n = 0
        · subst hn0; exact ⟨[], by simp, by simp, fun i j x hi => by omega⟩
        · have hsr : Src w I z.size n A.g (.slice (some ⟨b, 0, none⟩) n cap) := ⟨_, cap, rfl, .inr ⟨b, 0, f, rfl, fun i hi => by rw [hrow.len i (by omega)]; exact hs, fun i j x hi hx => ⟨by rw [Nat.zero_add, ← hs]; exact hrow.cell i j x (by omega) hx, hrow.rel i j x (by omega) hx⟩⟩⟩
          obtain ⟨b2, o2, c2, olds, he, h1, h2, _, _, h5⟩ := hsr.cells hz0 hn0
          injection he with he _ _
          injection he with he
          injection he with hb2 ho2 _
          subst hb2 ho2
          exact ⟨olds, h1, h2, h5⟩
      obtain ⟨olds, hol, hoc, hor⟩ := hold
      have hrun := run_append_grow (P := P) w t ty e ty' zv (und_slice ht hk) g1 g4 ⟨b, 0, none⟩ n cap olds (by rw [g2]; exact hol) hoc ⟨b', o', none⟩ m c news (by rw [g2]; exact hnl) hcell (by omega) (by omega) (growslice_fits (by omega) (by rw [g3]; exact hlim))
      have hzs : zv.cells.size = z.size := by
        have := congrArg List.length g5
        rw [Array.length_toList, List.length_map] at this
        rw [this]; exact hz1
      have hge := grownCap_ge w (n + m) cap e
      obtain ⟨hl2, hc2⟩ := grown_row (w := w) (I := I) (more := Builtin.zeroCells zv.cells (grownCap w (n + m) cap e - (n + m))) hz0 hol hnl hor hrel (fun i hi => by rw [hrow.len i (by omega)]; exact hs) hlen
      obtain ⟨ι', hr', E, ha⟩ := hrk.drew.newA f1 (s := z.size) (n := n + m) (cap := grownCap w (n + m) cap e) (g := appG n A.g g) (us := olds.toArray ++ news.toArray ++ Builtin.zeroCells zv.cells (grownCap w (n + m) cap e - (n + m))) e hz0 hge (grownCap_le_maxLen w (n + m) cap e (by simp only [maxLen]; omega)) (by
          rw [Array.size_append, Array.size_append, List.size_toArray, List.size_toArray, size_zeroCells, hol, hnl, hzs, ← Nat.add_mul, ← Nat.add_mul]
          congr 1; omega) hl2 (fun i j x hi hx => let ⟨y, hy, hr⟩ := hc2 i j x hi hx; ⟨y, hy, Rimm.mono (w := w) (w' := w.drew) (fun _ _ => rfl) (fun _ h => h) hr⟩)
      refine ⟨_, _, hrun, I, ι', by rw [f3]; exact hr', ?_⟩
      rw [f2, f3]
      exact Rc_ref (w := w.drew.alloc (.cells (olds.toArray ++ news.toArray ++ Builtin.zeroCells zv.cells (grownCap w (n + m) cap e - (n + m))) e)) (I := I) (ι := ι') (va := st.var) (A := ⟨false, z.size, n + m, appG n A.g g⟩) (by rw [arr_cons, if_pos rfl]) (Nat.le_refl _) (by rw [ha]; rfl)

theorem append_ok {t ty : TypeId} {base : Nat} {x y : C} {v u : Value} {out : Out S} (hT : TabOk P T) (h : evAppend T base t x y st = some out) (hs : out.side) (hr : RelI X I ι st tm w) (hx : Rc w I ι st.var st.arr x v) (hy : Rc w I ι st.var st.arr y u) :
    ∃ v' w', (Builtin.append_ #[t, t] ty #[v, u]).run P w = .ok v' w' ∧ Good X out.st tm out.val w' v' := by
  unfold evAppend at h
  obtain ⟨o1, o2, h1, h2, v1, s1, d1⟩ := bind_inv h
  obtain ⟨e1, e2⟩ := ti_inv h1
  have ht := hT t _ e1
  rw [e2] at h2
  obtain ⟨o3, o4, h3, h4, v2, s2, d2⟩ := bind_inv h2
  obtain ⟨e3, e4⟩ := ofO_inv h3
  rw [e4] at h4
  obtain ⟨o5, o6, h5, h6, v3, s3, d3⟩ := bind_inv h4
  obtain ⟨e5, e6⟩ := ti_inv h5
  have hte := hT _ _ e5
  rw [e6] at h6
  obtain ⟨o7, o8, h7, h8, v4, s4, d4⟩ := bind_inv h6
  obtain ⟨e7, e8⟩ := guard_inv h7
  rw [e8] at h8
  simp only [Bool.and_eq_true] at e7
  have b1 : 0 < o5.val.size := Nat.le_of_ble_eq_true e7.1.1
  have b2 := Nat.eq_of_beq_eq_true e7.1.2
  have b3 : 0 < o5.val.bytes := Nat.le_of_ble_eq_true e7.2
  obtain ⟨o9, oa, h9, ha, v5, s5, d5⟩ := bind_inv h8
  have ds := d5 (d4 (d3 (d2 (d1 hs).2).2).2).2
  obtain ⟨e9, hsrc⟩ := asRow_ok h9 ds.1 hr hy
  rw [e9] at ha
  rw [v1, v2, v3, v4, v5, s1, s2, s3, s4, s5]
  have hk := sliceO_inv e3
  cases x with
  | ref a n =>
    obtain ⟨ob, oc, hb, hc, v6, s6, d6⟩ := bind_inv ha
    obtain ⟨eb, ec, ed⟩ := freeA_inv hb
    rw [ec] at hc
    obtain ⟨og, oh, hg, hh, v7, s7, d7⟩ := bind_inv hc
    obtain ⟨eg, eh⟩ := guard_inv hg
    rw [eh] at hh
    obtain ⟨oi, oj, hi, hj, v8, s8, d8⟩ := bind_inv hh
    obtain ⟨ei, ej⟩ := need_inv hi
    rw [ei] at hj
    obtain ⟨ok, ol, hk2, hl, v9, s9, d9⟩ := bind_inv hj
    have hw : ok.st = { st with arrs := (a, none) :: st.arrs } := by obtain rfl := Option.some.inj hk2; rfl
    rw [hw] at hl
    obtain ⟨om, on, hm, hn, v10, s10, d10⟩ := bind_inv hl
    have hp := pure_inv hn
    have dd := (d8 (d7 (d6 ds.2).2).2).1
    rw [ej] at dd
    rw [v6, v7, v8, v9, v10, s6, s7, s8, s9, s10, hp]
    exact append_own_ok ht hk hte b1 b2 hsrc b3 eb ed (Nat.eq_of_beq_eq_true eg) dd hx hm hr
  | nil s =>
    obtain ⟨ob, oc, hb, hc, v6, s6, d6⟩ := bind_inv ha
    obtain ⟨eb, ec⟩ := ofO_inv hb
    rw [ec] at hc
    obtain ⟨og, oh, hg, hh, v7, s7, d7⟩ := bind_inv hc
    obtain ⟨eg, eh⟩ := need_inv hg
    rw [eg] at hh
    obtain ⟨om, on, hm, hn, v8, s8, d8⟩ := bind_inv hh
    have hp := pure_inv hn
    have dd := (d7 (d6 ds.2).2).1
    rw [eh] at dd
    rw [v6, v7, v8, s6, s7, s8, hp]
    obtain rfl := nilO_inv eb hx
    exact append_nil_ok ht hk hte b1 b2 hsrc dd b3 hm hr
  | v q =>
    obtain ⟨ob, oc, hb, hc, v6, s6, d6⟩ := bind_inv ha
    obtain ⟨eb, ec⟩ := ofO_inv hb
    rw [ec] at hc
    obtain ⟨og, oh, hg, hh, v7, s7, d7⟩ := bind_inv hc
    obtain ⟨eg, eh⟩ := need_inv hg
    rw [eg] at hh
    obtain ⟨om, on, hm, hn, v8, s8, d8⟩ := bind_inv hh
    have hp := pure_inv hn
    have dd := (d7 (d6 ds.2).2).1
    rw [eh] at dd
    rw [v6, v7, v8, s6, s7, s8, hp]
    obtain rfl := nilO_inv eb hx
    exact append_nil_ok ht hk hte b1 b2 hsrc dd b3 hm hr
  | lst _ _ _ => obtain ⟨o1, o2, h1, h2, _⟩ := bind_inv ha; exact absurd (ofO_inv h1).1 (by simp [nilO])
  | pvar _ _ => obtain ⟨o1, o2, h1, h2, _⟩ := bind_inv ha; exact absurd (ofO_inv h1).1 (by simp [nilO])
  | pelem _ _ _ => obtain ⟨o1, o2, h1, h2, _⟩ := bind_inv ha; exact absurd (ofO_inv h1).1 (by simp [nilO])
  | pimm _ _ => obtain ⟨o1, o2, h1, h2, _⟩ := bind_inv ha; exact absurd (ofO_inv h1).1 (by simp [nilO])
  | err b => obtain ⟨o1, o2, h1, h2, _⟩ := bind_inv ha; exact absurd (ofO_inv h1).1 (by simp [nilO])
  | undef => obtain ⟨o1, o2, h1, h2, _⟩ := bind_inv ha; exact absurd (ofO_inv h1).1 (by simp [nilO])
end
end Go.Ev
namespace Go.Ev
open Go Go.RowKit
set_option linter.unusedVariables false

section
variable {X : Ctx} {I : Nat → Prop} {ι : Im} {st : St} {tm : Array Value} {w : World} {P : Program} {T : Tab}

theorem ext_size (s : ByteArray) (l h : Nat) : True := trivial

/-- Bounds that are met. -/
theorem bounds_ok (isS : Bool) (len cap : Nat) {k1 k2 : IntKind} {lo hi : Option Nat} (lov hiv : Option Value) (hlo : match lo with | none => lov = none | some l => ∃ k, lov = some (.int k l)) (hhi : match hi with | none => hiv = none | some l => ∃ k, hiv = some (.int k l))
    (h1 : lo.getD 0 ≤ hi.getD len) (h2 : hi.getD len ≤ cap) : (Instr.sliceBounds isS len cap lov hiv none).run P w = .ok (lo.getD 0, hi.getD len, cap) w := by
  unfold Instr.sliceBounds
  have run : ∀ (k : IntKind) (n y : Nat) (code : BoundsCode), n ≤ y → (Instr.sliceBound (.int k n) y code).run P w = .ok n w := by
    intro k n y code hn
    unfold Instr.sliceBound
    simp only [asIntOf, Sem.run_bind, Sem.run_pure, Result.andThen_ok]
    rw [Sem.run_ite, if_pos (by omega)]
    simp
  cases hi with
  | none =>
    simp only at hhi
    subst hhi
    cases lo with
    | none =>
      simp only at hlo
      subst hlo
      simp
    | some l =>
      obtain ⟨k, rfl⟩ := hlo
      simp only [Option.getD_some, Option.getD_none] at h1 ⊢
      simp [run k l len _ h1]
  | some h =>
    obtain ⟨k, rfl⟩ := hhi
    simp only [Option.getD_some] at h1 h2 ⊢
    cases lo with
    | none =>
      simp only at hlo
      subst hlo
      simp [run k h cap _ h2]
    | some l =>
      obtain ⟨k', rfl⟩ := hlo
      simp only [Option.getD_some] at h1 ⊢
      simp [run k h cap _ h2, run k' l h _ h1]

def OptOk (o : Option Nat) (v : Option Value) : Prop := match o with | none => v = none | some l => ∃ k, v = some (.int k l)

theorem und_run {t : TypeId} {i : TI} (ht : TIok P t i) {d : TypeDesc} (h : ∀ d', kindOf d' = i.kind → d' = d) : P.underlying t = some d := by
  obtain ⟨d', h1, h2⟩ := ht.und
  rw [h1, h d' h2]

theorem slice_ok {hf : Bool} {t : TypeId} {x : C} {u : Value} {lo hi : Option Nat} {lov hiv : Option Value} {out : Out S} (hT : TabOk P T) (h : evSlice T hf t x lo hi st = some out) (hs : out.side) (hr : RelI X I ι st tm w) (hx : Rc w I ι st.var st.arr x u)
    (hlo : OptOk lo lov) (hhi : OptOk hi hiv) : ∃ v, (Instr.sliceAt t u lov hiv none).run P w = .ok v w ∧ Good X out.st tm out.val w v := by
  unfold evSlice at h
  obtain ⟨o1, o2, h1, h2, v1, s1, d1⟩ := bind_inv h
  obtain ⟨e1, e2⟩ := ti_inv h1
  have ht := hT t _ e1
  rw [e2] at h2
  have ds := (d1 hs).2
  rw [v1, s1]
  clear h
  cases hk : o1.val.kind with
  | string =>
    rw [hk] at h2
    have hu : P.underlying t = some .string := und_run ht (fun d' h' => kind_string (h'.trans hk))
    cases x with
    | v z =>
      cases z with
      | string s =>
        obtain ⟨o3, o4, h3, h4, v2, s2, d2⟩ := bind_inv h2
        obtain ⟨e3, e4⟩ := need_inv h3
        rw [e3] at h4
        have hp := pure_inv h4
        have dd := (d2 ds).1
        rw [e4] at dd
        rw [v2, s2, hp]
        have hx' : Rimm w I (.v (.string s)) u := hx
        cases hx'
        refine ⟨.string (s.extract (lo.getD 0) (hi.getD s.size)), ?_, I, ι, hr, Rimm.v _ rfl⟩
        unfold Instr.sliceAt Instr.slice
        have hb := bounds_ok (P := P) (w := w) false s.size s.size (k1 := .i64) (k2 := .i64) lov hiv hlo hhi dd.1 dd.2
        simp [run_underlying hu, hb]
      | _ => exact absurd h2 (by simp [fail])
    | _ => exact absurd h2 (by simp [fail])
  | slice e =>
    rw [hk] at h2
    have hu := und_slice ht hk
    have unf : (Instr.sliceAt t u lov hiv none).run P w = (Instr.slice t u lov hiv none).run P w := by
      unfold Instr.sliceAt; simp [run_underlying hu]
    rw [unf]
    have runS : ∀ (z : TI), TIok P e z → ∀ (a : Option Addr) (len cap : Nat), lo.getD 0 ≤ hi.getD len → hi.getD len ≤ cap →
        (Instr.slice t (.slice a len cap) lov hiv none).run P w = .ok (.slice (if cap = lo.getD 0 then a else a.map (·.add (lo.getD 0 * z.size))) (hi.getD len - lo.getD 0) (cap - lo.getD 0)) w := by
      intro z hte a len cap q1 q2
      unfold Instr.slice
      have hb := bounds_ok (P := P) (w := w) true len cap (k1 := .i64) (k2 := .i64) lov hiv hlo hhi q1 q2
      simp [run_underlying hu, hb, run_sizeOf hte]
    cases x with
    | nil s =>
      obtain ⟨o3, o4, h3, h4, v2, s2, d2⟩ := bind_inv h2
      obtain ⟨e3, e4⟩ := ti_inv h3
      have hte := hT _ _ e3
      rw [e4] at h4
      obtain ⟨o5, o6, h5, h6, v3, s3, d3⟩ := bind_inv h4
      obtain ⟨e5, e6⟩ := need_inv h5
      rw [e5] at h6
      have hp := pure_inv h6
      have dd := (d3 (d2 ds).2).1
      rw [e6] at dd
      rw [v2, v3, s2, s3, hp]
      have hx' : Rimm w I (.nil s) u := hx
      cases hx'
      refine ⟨.slice none 0 0, ?_, I, ι, hr, Rimm.nil s⟩
      rw [runS _ hte none 0 0 (by omega) (by omega), dd.1, dd.2]
      rfl
    | lst s n g =>
      obtain ⟨o3, o4, h3, h4, v2, s2, d2⟩ := bind_inv h2
      obtain ⟨e3, e4⟩ := ti_inv h3
      have hte := hT _ _ e3
      rw [e4] at h4
      obtain ⟨o5, o6, h5, h6, v3, s3, d3⟩ := bind_inv h4
      obtain ⟨e5, e6⟩ := guard_inv h5
      rw [e6] at h6
      have hse := Nat.eq_of_beq_eq_true e5
      obtain ⟨o7, o8, h7, h8, v4, s4, d4⟩ := bind_inv h6
      obtain ⟨e7, e8⟩ := need_inv h7
      rw [e7] at h8
      have hp := pure_inv h8
      have dd := (d4 (d3 (d2 ds).2).2).1
      rw [e8] at dd
      rw [v2, v3, v4, s2, s3, s4, hp]
      have hx' : Rimm w I (.lst s n g) u := hx
      generalize hlv : lo.getD 0 = l at *
      generalize hhv : hi.getD n = hh at *
      cases hx' with
      | lst0 s g A c =>
        have hh0 : hh = 0 := by omega
        have hl0 : l = 0 := by omega
        refine ⟨_, runS _ hte A 0 c (by omega) (by omega), I, ι, hr, ?_⟩
        show Rimm w I (.lst s (hh - l) _) (.slice _ (hi.getD 0 - l) (c - l))
        rw [hhv, hh0, hl0]
        exact .lst0 _ _ _ _
      | lst s n g b o c f hn hc hI hl hcell hrr =>
        refine ⟨_, runS _ hte _ n c (by omega) (by omega), I, ι, hr, ?_⟩
        show Rimm w I (.lst s (hh - l) _) (.slice _ (hi.getD n - l) (c - l))
        rw [hhv]
        rcases Nat.eq_zero_or_pos (hh - l) with h0 | h0
        · rw [h0]; exact .lst0 _ _ _ _
        · rw [if_neg (by omega)]
          have : (some (⟨b, o, none⟩ : Addr)).map (·.add (l * o3.val.size)) = some ⟨b, o + l * s, none⟩ := by rw [hse]; simp [add_at]
          rw [this]
          refine .lst _ _ _ b (o + l * s) (c - l) (fun i j => f (l + i) j) h0 (by omega) hI (fun i hi => hl (l + i) (by omega)) (fun i j x hi hx => ?_) (fun i j x hi hx => hrr (l + i) j x (by omega) hx)
          rw [← hcell (l + i) j x (by omega) hx, Nat.add_mul]
          congr 2
          omega
    | ref m n =>
      obtain ⟨o3, o4, h3, h4, v2, s2, d2⟩ := bind_inv h2
      obtain ⟨e3, e4⟩ := ti_inv h3
      have hte := hT _ _ e3
      rw [e4] at h4
      obtain ⟨oA, oB, hA1, hB1, vA, sA, dA⟩ := bind_inv h4
      obtain ⟨eA, eA'⟩ := liveA_inv hA1
      rw [eA'] at hB1
      obtain ⟨o5, o6, h5, h6, v3, s3, d3⟩ := bind_inv hB1
      obtain ⟨e5, e6⟩ := guard_inv h5
      rw [e6] at h6
      have hse := Nat.eq_of_beq_eq_true e5
      obtain ⟨o7, o8, h7, h8, v4, s4, d4⟩ := bind_inv h6
      obtain ⟨e7, e8⟩ := need_inv h7
      rw [e7] at h8
      have dall := d4 (d3 (dA (d2 ds).2).2).2
      have dd := dall.1
      rw [e8] at dd
      rw [v2, vA, v3, v4, s2, sA, s3, s4]
      have hxr : Rc w I ι st.var st.arr (.ref m n) u := hx
      simp only [Rc, eA] at hx
      obtain ⟨hn, hh⟩ := hx
      generalize hlv : lo.getD 0 = l at *
      generalize hhv : hi.getD n = hi' at *
      rcases cond_inv h8 with ⟨_, h8⟩ | ⟨_, h8⟩
      · -- it is frozen and read from now on
        obtain ⟨o9, oa, h9, ha, v5, s5, d5⟩ := bind_inv h8
        have hw9 : o9.st = { st with arrs := (m, some { oA.val with frozen := true }) :: st.arrs } := by obtain rfl := Option.some.inj h9; rfl
        rw [hw9] at ha
        have hp := pure_inv ha
        rw [v5, s5, hp]
        obtain ⟨I', hr', E, hI'⟩ := hr.freeze eA
        have him := ref_imm hr eA hn hh E.hI hI'
        refine (fun (hcase : ∃ v, (Instr.slice t u lov hiv none).run P w = .ok v w ∧ Rimm w I' (.lst oA.val.s (hi' - l) (fun i => oA.val.g (l + i))) v) => ?_) ?_
        · obtain ⟨v, hv, hvr⟩ := hcase
          exact ⟨v, hv, I', ι, hr', hvr⟩
        · generalize oA.val.s = s at *
          generalize oA.val.g = g at *
          cases him with
          | lst0 s g A c =>
            have hh0 : hi' = 0 := by omega
            have hl0 : l = 0 := by omega
            refine ⟨_, runS _ hte A 0 c (by omega) (by omega), ?_⟩
            rw [hhv, hh0, hl0]
            exact .lst0 _ _ _ _
          | lst s n g b o c f hn hc hI hl hcell hrr =>
            refine ⟨_, runS _ hte _ n c (by omega) (by omega), ?_⟩
            rw [hhv]
            rcases Nat.eq_zero_or_pos (hi' - l) with h0 | h0
            · rw [h0]; exact .lst0 _ _ _ _
            · rw [if_neg (by omega)]
              have : (some (⟨b, o, none⟩ : Addr)).map (·.add (l * o3.val.size)) = some ⟨b, o + l * s, none⟩ := by rw [hse]; simp [add_at]
              rw [this]
              refine .lst _ _ _ b (o + l * s) (c - l) (fun i j => f (l + i) j) h0 (by omega) hI (fun i hi => hl (l + i) (by omega)) (fun i j x hi hx => ?_) (fun i j x hi hx => hrr (l + i) j x (by omega) hx)
              rw [← hcell (l + i) j x (by omega) hx, Nat.add_mul]
              congr 2
              omega
      · -- the head of it
        obtain ⟨o9, oa, h9, ha, v5, s5, d5⟩ := bind_inv h8
        obtain ⟨e9, e10⟩ := need_inv h9
        rw [e9] at ha
        have hp := pure_inv ha
        have hl0 := (d5 dall.2).1
        rw [e10] at hl0
        rw [v5, s5, hp]
        subst hl0
        have hok := hr.arrs m _ eA
        unfold hdr at hh
        split at hh
        · rename_i hpp
          obtain ⟨rfl, rfl⟩ := hh
          refine ⟨_, runS _ hte none 0 0 (by omega) (by omega), I, ι, hr, ?_⟩
          have : hi' = 0 := by omega
          rw [hhv, this]
          exact Rc_ref (w := w) (I := I) (ι := ι) (va := st.var) eA (Nat.zero_le _) (by rw [hpp]; exact ⟨by simp, rfl⟩)
        · rename_i b cap hpp
          subst hh
          rw [hpp] at hok
          obtain ⟨⟨f, hrow⟩, _⟩ := hok
          refine ⟨_, runS _ hte _ n cap (by omega) (by have := hrow.fit; omega), I, ι, hr, ?_⟩
          rw [hhv]
          refine Rc_ref (w := w) (I := I) (ι := ι) (va := st.var) eA (by omega) (by rw [hpp]; simp [hdr, Addr.add])
    | _ => exact absurd h2 (by simp [fail])
  | _ => rw [hk] at h2; exact absurd h2 (by simp [fail])
end
end Go.Ev
namespace Go.Ev
open Go Go.RowKit
set_option linter.unusedVariables false

section
variable {X : Ctx} {I : Nat → Prop} {ι : Im} {st : St} {tm : Array Value} {w : World} {P : Program} {T : Tab}

theorem convert_ok {s d : TypeId} {x : C} {u : Value} {out : Out S} (hT : TabOk P T) (h : evConvert T s d x st = some out) (hr : RelI X I ι st tm w) (hx : Rc w I ι st.var st.arr x u) :
    ∃ v, (Go.convert s d u).run P w = .ok v w ∧ Good X out.st tm out.val w v := by
  unfold evConvert at h
  obtain ⟨o1, o2, h1, h2, v1, s1, d1⟩ := bind_inv h
  obtain ⟨e1, e2⟩ := ti_inv h1
  have ht := hT s _ e1
  rw [e2] at h2
  obtain ⟨o3, o4, h3, h4, v2, s2, d2⟩ := bind_inv h2
  obtain ⟨e3, e4⟩ := ti_inv h3
  have ht' := hT d _ e3
  rw [e4] at h4
  rw [v1, v2, s1, s2]
  cases hk : o1.val.kind with
  | int k1 =>
    rw [hk] at h4
    cases hk' : o3.val.kind with
    | int k =>
      rw [hk'] at h4
      cases x with
      | v z =>
        cases z with
        | int kz n =>
          have hp := pure_inv h4
          rw [hp]
          have hx' : Rimm w I (.v (.int kz n)) u := hx
          cases hx'
          have hu := und_run ht (d := .int k1) (fun d' h' => kind_int (h'.trans hk))
          have hu' := und_run ht' (d := .int k) (fun d' h' => kind_int (h'.trans hk'))
          exact ⟨.int k (k.wrap n), by simp [Go.convert, run_underlying hu, run_underlying hu', Conv.intToInt], I, ι, hr, Rimm.v _ rfl⟩
        | _ => exact absurd h4 (by simp [fail])
      | _ => exact absurd h4 (by simp [fail])
    | _ => rw [hk'] at h4; exact absurd h4 (by simp [fail])
  | string =>
    rw [hk] at h4
    cases hk' : o3.val.kind with
    | string =>
      rw [hk'] at h4
      cases x with
      | v z =>
        cases z with
        | string n =>
          have hp := pure_inv h4
          rw [hp]
          have hx' : Rimm w I (.v (.string n)) u := hx
          cases hx'
          have hu := und_run ht (d := .string) (fun d' h' => kind_string (h'.trans hk))
          have hu' := und_run ht' (d := .string) (fun d' h' => kind_string (h'.trans hk'))
          exact ⟨.string n, by simp [Go.convert, run_underlying hu, run_underlying hu'], I, ι, hr, Rimm.v _ rfl⟩
        | _ => exact absurd h4 (by simp [fail])
      | _ => exact absurd h4 (by simp [fail])
    | _ => rw [hk'] at h4; exact absurd h4 (by simp [fail])
  | _ => rw [hk] at h4; exact absurd h4 (by simp [fail])

theorem len_ok {t ty : TypeId} {ts : List TypeId} {x : S} {u : Value} {out : Out S} (hT : TabOk P T) (h : evLen T t x st = some out) (hr : RelI X I ι st tm w) (hx : Rs w I ι st.var st.arr x u) :
    ∃ v, (Builtin.len_ (t :: ts).toArray ty #[u]).run P w = .ok v w ∧ Good X out.st tm out.val w v := by
  unfold evLen at h
  obtain ⟨o1, o2, h1, h2, v1, s1, d1⟩ := bind_inv h
  obtain ⟨e1, e2⟩ := ti_inv h1
  have ht := hT t _ e1
  rw [e2] at h2
  rw [v1, s1]
  cases hk : o1.val.kind with
  | string =>
    rw [hk] at h2
    have hu := und_run ht (d := .string) (fun d' h' => kind_string (h'.trans hk))
    cases x with
    | c y =>
      cases y with
      | v z =>
        cases z with
        | string s =>
          have hp := pure_inv h2
          rw [hp]
          have hx' : Rimm w I (.v (.string s)) u := hx
          cases hx'
          exact ⟨goInt s.size, by simp [Builtin.len_, run_underlying hu], I, ι, hr, Rimm.v _ rfl⟩
        | _ => exact absurd h2 (by simp [fail])
      | _ => exact absurd h2 (by simp [fail])
    | _ => exact absurd h2 (by simp [fail])
  | array n e =>
    rw [hk] at h2
    have hu := und_run ht (d := .array n e) (fun d' h' => kind_array (h'.trans hk))
    have hp := pure_inv h2
    rw [hp]
    exact ⟨goInt n, by simp [Builtin.len_, run_underlying hu], I, ι, hr, Rimm.v _ rfl⟩
  | slice e =>
    rw [hk] at h2
    have hu := und_slice ht hk
    have run : ∀ (A : Option Addr) (n c : Nat), (Builtin.len_ (t :: ts).toArray ty #[.slice A n c]).run P w = .ok (goInt n) w := by
      intro A n c
      simp [Builtin.len_, run_underlying hu]
    cases x with
    | c y =>
      cases y with
      | nil s =>
        have hp := pure_inv h2
        rw [hp]
        have hx' : Rimm w I (.nil s) u := hx
        cases hx'
        exact ⟨goInt (0 : Nat), run _ _ _, I, ι, hr, Rimm.v _ rfl⟩
      | lst s n g =>
        have hp := pure_inv h2
        rw [hp]
        have hx' : Rimm w I (.lst s n g) u := hx
        cases hx' with
        | lst0 s g A c => exact ⟨goInt (0 : Nat), run _ _ _, I, ι, hr, Rimm.v _ rfl⟩
        | lst s n g b o c f hn hc hI hl hcell hrr => exact ⟨goInt n, run _ _ _, I, ι, hr, Rimm.v _ rfl⟩
      | ref m n =>
        obtain ⟨o3, o4, h3, h4, v2, s2, d2⟩ := bind_inv h2
        have e4 : o3.st = st := by obtain rfl := Option.some.inj h3; rfl
        rw [e4] at h4
        have hp := pure_inv h4
        rw [v2, s2, hp]
        have hx : Rc w I ι st.var st.arr (.ref m n) u := hx
        have hsl : ∃ A c, u = .slice A n c := by
          simp only [Rc] at hx
          split at hx
          · exact hx.2.slice
          · exact hx
          · exact hx.elim
        obtain ⟨A, c, rfl⟩ := hsl
        exact ⟨goInt n, run _ _ _, I, ι, hr, Rimm.v _ rfl⟩
      | _ => exact absurd h2 (by simp [fail])
    | _ => exact absurd h2 (by simp [fail])
  | _ => rw [hk] at h2; exact absurd h2 (by simp [fail])

theorem intBin_ok {op : BinOp} {k : IntKind} {a b : Int} {r : Value × Prop} (h : intBin op k a b = some r) (hs : r.2) (hns : op ≠ .shl ∧ op ≠ .shr) {t : TypeId} : (Go.binOp op t (.int k a) (.int k b)).run P w = .ok r.1 w ∧ flat r.1 = true := by
  cases op <;> simp only [intBin, Option.some.injEq] at h <;> first | (exact absurd rfl hns.1) | (exact absurd rfl hns.2) | skip
  all_goals subst h
  all_goals simp [Go.binOp, Op.intArith, Op.intDiv, Op.intBits, Op.intCmp, flat, Value.oneCell']
  all_goals (simp only at hs; simp [hs])

theorem strBin_ok {op : BinOp} {a b : ByteArray} {r : Value × Prop} (h : strBin op a b = some r) (hs : r.2) {t : TypeId} : (Go.binOp op t (.string a) (.string b)).run P w = .ok r.1 w ∧ flat r.1 = true := by
  cases op <;> simp only [strBin, Option.some.injEq] at h <;> first | cases h | skip
  all_goals try subst h
  all_goals simp [Go.binOp, Op.stringOp, flat, Value.oneCell']
  all_goals (simp only at hs; omega)

theorem evBin_ok {op : BinOp} {x y : Value} {r : Value × Prop} (h : evBin op x y = some r) (hs : r.2) {t : TypeId} : (Go.binOp op t x y).run P w = .ok r.1 w ∧ flat r.1 = true := by
  unfold evBin at h
  split at h
  · rename_i k a k' b
    split at h
    · simp only [Option.some.injEq] at h
      subst h
      have : ¬ b < 0 := by simp only at hs; omega
      simp [Go.binOp, Op.shift, this, flat, Value.oneCell', Min.min]
    · simp only [Option.some.injEq] at h
      subst h
      have : ¬ b < 0 := by simp only at hs; omega
      simp [Go.binOp, Op.shift, this, flat, Value.oneCell', Min.min]
    · rename_i hn1 hn2
      cases hk : kindEq k k' with
      | false => rw [hk] at h; simp at h
      | true =>
        rw [hk] at h
        have : k = k' := by simpa [kindEq] using hk
        subst this
        exact intBin_ok h hs ⟨hn1, hn2⟩
  · exact strBin_ok h hs
  · cases h

theorem evBinT_ok (hT : TabOk P T) {op : BinOp} {x y : Value} {r : Value × Prop} {t : TypeId} (h : evBinT (lookN t T) op x y = some r) (hs : r.2) : (Go.binOp op t x y).run P w = .ok r.1 w ∧ flat r.1 = true := by
  unfold evBinT at h
  split at h
  · rename_i a b
    cases hl : lookN t T with
    | none => rw [hl] at h; cases h
    | some j =>
      rw [hl] at h
      simp only at h
      cases hb : isBoolK j.kind with
      | true =>
        rw [hb] at h
        simp only [cond_true] at h
        obtain ⟨d, hd, hk⟩ := run_und (hT t j hl) w
        have hj : j.kind = .bool := by
          cases hq : j.kind <;> rw [hq] at hb <;> first | rfl | cases hb
        rw [hj] at hk
        have hdb : d = .bool := by cases d <;> simp [kindOf] at hk; rfl
        subst hdb
        have key : ∀ d, (Op.equalIn (d + 1) t (.bool a) (.bool b)).run P w = .ok (a == b) w := by
          intro d
          simp only [Op.equalIn, Sem.run_bind, hd, Result.andThen_ok, Sem.run_pure]
        have he : (Op.equal t (.bool a) (.bool b)).run P w = .ok (a == b) w := key 9999
        cases op <;> simp only [Option.some.injEq] at h <;> first | cases h | skip
        all_goals try subst h
        all_goals simp [Go.binOp, he, flat, Value.oneCell']
      | false => rw [hb] at h; cases h
  · exact evBin_ok h hs
theorem guard_scalar {op : BinOp} {t : TypeId} {x y : Operand} {a b : Value} {r : Value × Prop} (h : evBin op a b = some r) : (eqGuard op t x y a b).run P w = .ok () w := by
  unfold evBin at h
  unfold eqGuard
  split at h
  · cases op <;> simp
  · cases op <;> simp
  · cases h

theorem guard_scalarT {i : Option TI} {op : BinOp} {t : TypeId} {x y : Operand} {a b : Value} {r : Value × Prop} (h : evBinT i op a b = some r) : (eqGuard op t x y a b).run P w = .ok () w := by
  unfold evBinT at h
  split at h
  · unfold eqGuard; cases op <;> simp
  · exact guard_scalar h
theorem eqCells_vals : ∀ {xs ys : List C} {e : Bool}, eqCells xs ys = some e → (∀ c ∈ xs, ∃ v, c = .v v) ∧ (∀ c ∈ ys, ∃ v, c = .v v) := by
  intro xs
  induction xs with
  | nil =>
    intro ys e h
    cases ys with
    | nil => exact ⟨by simp, by simp⟩
    | cons y ys => simp [eqCells] at h
  | cons x xs ih =>
    intro ys e h
    cases ys with
    | nil => cases x <;> simp [eqCells] at h
    | cons y ys =>
      unfold eqCells at h
      split at h
      · rename_i heq _; cases heq
      · rename_i heq1 heq2
        cases heq1; cases heq2
        exact ⟨by simp, by simp⟩
      · rename_i heq1 heq2
        cases heq1; cases heq2
        split at h
        · rename_i he
          obtain ⟨h1, h2⟩ := ih he
          exact ⟨fun c hc => by rcases List.mem_cons.mp hc with rfl | hc; exact ⟨_, rfl⟩; exact h1 c hc, fun c hc => by rcases List.mem_cons.mp hc with rfl | hc; exact ⟨_, rfl⟩; exact h2 c hc⟩
        · cases h
      · cases h

theorem vals_of {xs : List C} (h : ∀ c ∈ xs, ∃ v, c = .v v) {us : Array Value} {va : VA} {ar : AR} (hr : Rcs w I ι va ar xs us) : us = (xs.map cval).toArray := by
  apply Array.ext'
  apply List.ext_getElem?
  intro j
  rw [List.getElem?_map]
  cases hx : xs[j]? with
  | none =>
    have : us.toList.length ≤ j := by
      rw [Array.length_toList, hr.1]
      exact List.getElem?_eq_none_iff.mp hx
    rw [List.getElem?_eq_none this]; rfl
  | some c =>
    obtain ⟨y, hy, hc⟩ := hr.2 j c hx
    obtain ⟨v, rfl⟩ := h c (List.mem_of_getElem? hx)
    have hc' : Rimm w I (.v v) y := hc
    cases hc'
    simpa [cval] using hy

theorem eqGuard_neq {t : TypeId} {x y : Operand} {a b : Value} : eqGuard .neq t x y a b = eqGuard .eql t x y a b := by unfold eqGuard; simp
theorem binOp_neq {t : TypeId} {us vs : Array Value} : Go.binOp .neq t (.agg us) (.agg vs) = (do pure (.bool (!(← Op.equal t (.agg us) (.agg vs))))) := rfl
theorem binOp_eql {t : TypeId} {us vs : Array Value} : Go.binOp .eql t (.agg us) (.agg vs) = (do pure (.bool (← Op.equal t (.agg us) (.agg vs)))) := rfl

/-- '==' and '!=' of structs. -/
theorem eqFact_ok {t : TypeId} {x y : Operand} {us vs : List Value} {e : Bool} (h : EqFact P t x y us vs e) {op : BinOp} {f : Bool → Bool} (hf : eqOp op = some f) :
    (do eqGuard op t x y (.agg us.toArray) (.agg vs.toArray); Go.binOp op t (.agg us.toArray) (.agg vs.toArray) : Sem Value).run P w = .ok (.bool (f e)) w := by
  have hw := h w
  cases op <;> simp only [eqOp, Option.some.injEq] at hf <;> first | cases hf | skip
  · exact hw
  · rw [eqGuard_neq]
    rw [binOp_eql] at hw
    rw [binOp_neq]
    simp only [Sem.run_bind, Sem.run_pure] at hw ⊢
    cases hg : (eqGuard BinOp.eql t x y (.agg us.toArray) (.agg vs.toArray)).run P w with
    | halt a b => rw [hg] at hw; simp at hw
    | ok a w1 =>
      rw [hg] at hw
      simp only [Result.andThen_ok] at hw ⊢
      cases he : (Op.equal t (.agg us.toArray) (.agg vs.toArray)).run P w1 with
      | halt a b => rw [he] at hw; simp at hw
      | ok b w2 =>
        rw [he] at hw
        simp only [Result.andThen_ok, Result.ok.injEq, Value.bool.injEq] at hw ⊢
        exact ⟨by rw [hw.1], hw.2⟩

theorem evUn_ok {op : UnOp} {x r : Value} (h : evUn op x = some r) : (Op.unary op x).run P w = .ok r w ∧ flat r = true := by
  unfold evUn at h
  split at h
  rotate_right
  · cases h
  all_goals (simp only [Option.some.injEq] at h; subst h; simp [Op.unary, Op.intArith, flat, Value.oneCell'])

theorem evMin_ok {a b r : Value} (h : evMin a b = some r) {ts : Array TypeId} {t : TypeId} : (Builtin.min_ ts t #[a, b]).run P w = .ok r w ∧ flat r = true := by
  unfold evMin at h
  split at h
  · simp only [Option.some.injEq] at h; subst h
    simp [Builtin.min_, Builtin.min2, flat, Value.oneCell']
  · cases h
theorem evMax_ok {a b r : Value} (h : evMax a b = some r) {ts : Array TypeId} {t : TypeId} : (Builtin.max_ ts t #[a, b]).run P w = .ok r w ∧ flat r = true := by
  unfold evMax at h
  split at h
  · simp only [Option.some.injEq] at h; subst h
    simp [Builtin.max_, Builtin.max2, flat, Value.oneCell']
  · cases h

theorem valO_inv {x : C} {v : Value} (h : valO x = some v) {u : Value} {va : VA} {ar : AR} (hx : Rc w I ι va ar x u) : u = v := by
  cases x with
  | v z =>
    injection h with h; subst h
    have hx' : Rimm w I (.v z) u := hx
    cases hx'; rfl
  | _ => cases h
theorem boolO_inv {x : S} {b : Bool} (h : boolO x = some b) {u : Value} {va : VA} {ar : AR} (hx : Rs w I ι va ar x u) : u = .bool b := by
  unfold boolO at h
  split at h
  · injection h with h; subst h
    have hx' : Rimm w I (.v _) u := hx
    cases hx'; rfl
  · cases h
theorem intO_inv {x : S} {p : IntKind × Int} (h : intO x = some p) {u : Value} {va : VA} {ar : AR} (hx : Rs w I ι va ar x u) : u = .int p.1 p.2 := by
  unfold intO at h
  split at h
  · injection h with h; subst h
    have hx' : Rimm w I (.v _) u := hx
    cases hx'; rfl
  · cases h

theorem asNat_ok {a : Act} {x : Operand} {out : Out Nat} (h : asNat x st = some out) (hs : out.side) (hr : RelI X I ι st a.tmps w) : out.st = st ∧ ∃ k, a.eval x = .int k out.val := by
  unfold asNat at h
  obtain ⟨o1, o2, h1, h2, v1, s1, d1⟩ := bind_inv h
  obtain ⟨e1, _, hx⟩ := opnd_ok h1 hr
  rw [e1] at h2
  obtain ⟨o3, o4, h3, h4, v2, s2, d2⟩ := bind_inv h2
  obtain ⟨e3, e4⟩ := ofO_inv h3
  rw [e4] at h4
  obtain ⟨o5, o6, h5, h6, v3, s3, d3⟩ := bind_inv h4
  obtain ⟨e5, e6⟩ := need_inv h5
  rw [e5] at h6
  have hp := pure_inv h6
  have dd := (d3 (d2 (d1 hs).2).2).1
  rw [e6] at dd
  rw [v1, v2, v3, s1, s2, s3, hp]
  refine ⟨rfl, o3.val.1, ?_⟩
  rw [intO_inv e3 hx]
  show Value.int _ _ = Value.int _ ((o3.val.2.toNat : Nat) : Int)
  rw [Int.toNat_of_nonneg dd]
theorem asNatO_ok {a : Act} {x : Option Operand} {out : Out (Option Nat)} (h : asNatO x st = some out) (hs : out.side) (hr : RelI X I ι st a.tmps w) : out.st = st ∧ OptOk out.val (x.map a.eval) := by
  unfold asNatO at h
  cases x with
  | none =>
    have hp := pure_inv h
    rw [hp]
    exact ⟨rfl, rfl⟩
  | some y =>
    obtain ⟨o1, o2, h1, h2, v1, s1, d1⟩ := bind_inv h
    obtain ⟨e1, k, hk⟩ := asNat_ok h1 (d1 hs).1 hr
    have hp := pure_inv h2
    rw [v1, s1, hp]
    exact ⟨e1, k, by simp [hk]⟩
end

/-- What an operation has done: its value stands in no slot yet. -/
def Done (X : Ctx) (P : Program) (a : Act) (o : Oper) (w : World) (out : Out (Option S)) : Prop :=
  match out.val with
  | some x => ∃ u w', (execOp a.eval o).run P w = .ok (.value u) w' ∧ Good X out.st a.tmps x w' u
  | none => ∃ w' I' ι', (execOp a.eval o).run P w = .ok .skip w' ∧ RelI X I' ι' out.st a.tmps w'

section
variable {X : Ctx} {I : Nat → Prop} {ι : Im} {st : St} {w : World} {P : Program} {T : Tab}

theorem done_of {a : Act} {o : Oper} {out : Out (Option S)} {o1 : Out S} {s : Sem Value} (hv : out.val = some o1.val) (hst : out.st = o1.st) (he : execOp a.eval o = (do pure (.value (← s)))) (h : ∃ u w', s.run P w = .ok u w' ∧ Good X o1.st a.tmps o1.val w' u) : Done X P a o w out := by
  unfold Done
  rw [hv]
  obtain ⟨u, w', h1, h2⟩ := h
  exact ⟨u, w', by rw [he]; simp [h1], by rw [hst]; exact h2⟩

def isFuncCall : Op → Bool
  | .call c => match c.callee with
    | .builtin _ => false
    | _ => true
  | _ => false

theorem evVal_ok {K : Facts} {hh : Hints} {base idx : Nat} {a : Act} {o : Oper} {out : Out (Option S)} (hT : TabOk P T) (hnc : isFuncCall o.op = false) (h : evVal P T K hh base idx o st = some out) (hs : out.side) (hr : RelI X I ι st a.tmps w) : Done X P a o w out := by
  unfold evVal at h
  cases hop : o.op with
  | move x =>
    rw [hop] at h
    obtain ⟨o1, o2, h1, h2, v1, s1, d1⟩ := bind_inv h
    have hp := pure_inv h2
    obtain ⟨e1, _, hx⟩ := opnd_ok h1 hr
    unfold Done
    rw [v1, hp]
    exact ⟨a.eval x, w, by simp [execOp, hop], I, ι, by rw [s1, hp, e1]; exact hr, by rw [s1, hp, e1]; exact retag_ok hx⟩
  | assign x =>
    rw [hop] at h
    obtain ⟨o1, o2, h1, h2, v1, s1, d1⟩ := bind_inv h
    have hp := pure_inv h2
    obtain ⟨e1, _, hx⟩ := opnd_ok h1 hr
    unfold Done
    rw [v1, hp]
    exact ⟨a.eval x, w, by simp [execOp, hop], I, ι, by rw [s1, hp, e1]; exact hr, by rw [s1, hp, e1]; exact retag_ok hx⟩
  | pick c x y =>
    rw [hop] at h
    obtain ⟨o1, o2, h1, h2, v1, s1, d1⟩ := bind_inv h
    obtain ⟨e1, _, hc⟩ := opnd_ok h1 hr
    rw [e1] at h2
    obtain ⟨o3, o4, h3, h4, v2, s2, d2⟩ := bind_inv h2
    obtain ⟨e3, e4⟩ := ofO_inv h3
    rw [e4] at h4
    obtain ⟨o5, o6, h5, h6, v3, s3, d3⟩ := bind_inv h4
    obtain ⟨e5, e6⟩ := ofO_inv h5
    rw [e6] at h6
    obtain ⟨o7, o8, h7, h8, v4, s4, d4⟩ := bind_inv h6
    obtain ⟨e7, e8⟩ := need_inv h7
    rw [e7] at h8
    have hb := (d4 (d3 (d2 (d1 hs).2).2).2).1
    rw [e8] at hb
    have hcv := boolO_inv e3 hc
    unfold Done
    rw [v1, v2, v3, v4, s1, s2, s3, s4]
    rcases cond_inv h8 with ⟨hbt, h8⟩ | ⟨hbf, h8⟩
    · obtain ⟨o9, oa, h9, ha, v5, s5, d5⟩ := bind_inv h8
      have hp := pure_inv ha
      obtain ⟨e9, _, hx⟩ := opnd_ok h9 hr
      rw [v5, s5, hp]
      refine ⟨a.eval x, w, ?_, I, ι, by rw [e9]; exact hr, by rw [e9]; exact hx⟩
      simp [execOp, hop, hcv, asBool, hb, hbt]
    · obtain ⟨o9, oa, h9, ha, v5, s5, d5⟩ := bind_inv h8
      have hp := pure_inv ha
      obtain ⟨e9, _, hx⟩ := opnd_ok h9 hr
      rw [v5, s5, hp]
      refine ⟨a.eval y, w, ?_, I, ι, by rw [e9]; exact hr, by rw [e9]; exact hx⟩
      simp [execOp, hop, hcv, asBool, hb, hbf]
  | alloc t =>
    rw [hop] at h
    obtain ⟨o3, o4, h3, h4, v2, s2, d2⟩ := bind_inv h
    have hp := pure_inv h4
    refine done_of (o1 := ⟨.c o3.val, o3.st, [], [], []⟩) (s := Instr.alloc t true (.tuple #[])) (by rw [v2, hp]) (by rw [s2, hp]) (by simp only [execOp, hop]) ?_
    exact allocX_ok hT h3 (d2 hs).1 hr
  | box t x =>
    rw [hop] at h
    obtain ⟨o1, o2, h1, h2, v1, s1, d1⟩ := bind_inv h
    obtain ⟨e1, hc, hd, hf⟩ := opndL_ok h1 hr
    rw [e1] at h2
    obtain ⟨o3, o4, h3, h4, v2, s2, d2⟩ := bind_inv h2
    obtain ⟨e3, e4⟩ := ti_inv h3
    rw [e4] at h4
    obtain ⟨o5, o6, h5, h6, v3, s3, d3⟩ := bind_inv h4
    have hp := pure_inv h6
    refine done_of (o1 := ⟨.c o5.val, o5.st, [], [], []⟩) (s := Instr.box t (a.eval x)) (by rw [v1, v2, v3, hp]) (by rw [s1, s2, s3, hp]) (by simp only [execOp, hop]) ?_
    exact box_ok h5 hr (retagL_ok hc)
  | build t parts =>
    rw [hop] at h
    obtain ⟨o1, o2, h1, h2, v1, s1, d1⟩ := bind_inv h
    have hp := pure_inv h2
    obtain ⟨e1, u, hu, hx⟩ := build_ok hT h1 hr
    refine done_of (o1 := o1) (by rw [v1, hp]) (by rw [s1, hp]) (by simp only [execOp, hop]) ⟨u, w, hu, I, ι, by rw [e1]; exact hr, by rw [e1]; exact hx⟩
  | buildSlice t len parts =>
    rw [hop] at h
    obtain ⟨o1, o2, h1, h2, v1, s1, d1⟩ := bind_inv h
    have hp := pure_inv h2
    exact done_of (o1 := o1) (by rw [v1, hp]) (by rw [s1, hp]) (by simp only [execOp, hop]) (buildSlice_ok hT h1 hr)
  | load t x =>
    rw [hop] at h
    obtain ⟨o1, o2, h1, h2, v1, s1, d1⟩ := bind_inv h
    obtain ⟨e1, _, hc⟩ := opndC_ok h1 hr
    rw [e1] at h2
    obtain ⟨o3, o4, h3, h4, v2, s2, d2⟩ := bind_inv h2
    have hp := pure_inv h4
    obtain ⟨e3, u, hu, hx⟩ := loadX_ok hT h3 (d2 (d1 hs).2).1 hr hc
    refine done_of (o1 := o3) (by rw [v1, v2, hp]) (by rw [s1, s2, hp]) (by simp only [execOp, hop]) ⟨u, w, hu, I, ι, by rw [e3]; exact hr, by rw [e3]; exact hx⟩
  | store t x y =>
    rw [hop] at h
    obtain ⟨o1, o2, h1, h2, v1, s1, d1⟩ := bind_inv h
    obtain ⟨e1, _, hc⟩ := opndC_ok h1 hr
    rw [e1] at h2
    obtain ⟨o3, o4, h3, h4, v2, s2, d2⟩ := bind_inv h2
    obtain ⟨e3, _, hy⟩ := opnd_ok h3 hr
    rw [e3] at h4
    obtain ⟨o5, o6, h5, h6, v3, s3, d3⟩ := bind_inv h4
    have hp := pure_inv h6
    obtain ⟨w', I', ι', hrun, hr'⟩ := store_ok hT h5 (d3 (d2 (d1 hs).2).2).1 hr hc hy
    unfold Done
    rw [v1, v2, v3, hp]
    exact ⟨w', I', ι', by simp [execOp, hop, hrun], by rw [s1, s2, s3, hp]; exact hr'⟩
  | nilCheck x =>
    rw [hop] at h
    obtain ⟨o1, o2, h1, h2, v1, s1, d1⟩ := bind_inv h
    obtain ⟨e1, _, hc⟩ := opndC_ok h1 hr
    rw [e1] at h2
    obtain ⟨o3, o4, h3, h4, v2, s2, d2⟩ := bind_inv h2
    have hp := pure_inv h4
    unfold evNilCheck at h3
    obtain ⟨o5, o6, h5, h6, v3, s3, d3⟩ := bind_inv h3
    obtain ⟨e5, hl⟩ := chk_inv h5
    rw [e5] at h6
    obtain ⟨o7, o8, h7, h8, v4, s4, d4⟩ := bind_inv h6
    obtain ⟨e7, e8⟩ := ofO_inv h7
    rw [e8] at h8
    have hp' := pure_inv h8
    obtain ⟨ad, hu, _, _⟩ := moved_ok e7 hc hl
    unfold Done
    rw [v1, v2, hp, s1, s2, v3, s3, v4, s4, hp', hp]
    have hq : o4.st = st := by rw [hp]; show o3.st = st; rw [s3, s4, hp']
    refine ⟨a.eval x, w, by simp only [execOp, hop, hu]; rfl, I, ι, ?_, ?_⟩
    · show RelI X I ι o3.st a.tmps w
      rw [s3, s4, hp']; exact hr
    · show Rs w I ι o3.st.var o3.st.arr (.c o1.val) (a.eval x)
      rw [s3, s4, hp']; exact hc
  | binOp op t x y yt =>
    rw [hop] at h
    obtain ⟨o1, o2, h1, h2, v1, s1, d1⟩ := bind_inv h
    obtain ⟨e1, _, hx⟩ := opnd_ok h1 hr
    rw [e1] at h2
    obtain ⟨o3, o4, h3, h4, v2, s2, d2⟩ := bind_inv h2
    obtain ⟨e3, _, hy⟩ := opnd_ok h3 hr
    rw [e3] at h4
    have ds := (d2 (d1 hs).2).2
    unfold Done
    rw [v1, v2, s1, s2]
    cases hnc : nilCmp o1.val o3.val with
    | some e =>
      rw [hnc] at h4
      obtain ⟨o5, o6, h5, h6, v3, s3, d3⟩ := bind_inv h4
      obtain ⟨e5, e6⟩ := ofO_inv h5
      rw [e6] at h6
      obtain ⟨o7, o8, h7, h8, v4, s4, d4⟩ := bind_inv h6
      obtain ⟨e7, e8⟩ := need_inv h7
      rw [e7] at h8
      have hp := pure_inv h8
      have dd := (d4 (d3 ds).2).1
      rw [e8] at dd
      rw [v3, v4, s3, s4, hp]
      have key : a.eval y = .nilIface ∧ (if e = true then a.eval x = .nilIface else ∃ T v, a.eval x = .iface T v) := by
        unfold nilCmp at hnc
        split at hnc
        · rename_i q1 q2
          rw [q1] at hx
          rw [q2] at hy
          obtain rfl := Option.some.inj hnc
          have hx' := Rimm.errInv (show Rimm w I (.err _) (a.eval x) from hx)
          have hy' : Rimm w I (.v .nilIface) (a.eval y) := hy
          refine ⟨hy'.vInv, ?_⟩
          rcases hx' with ⟨hb, hx'⟩ | ⟨hb, hx'⟩
          · rw [if_neg (by simp [hb])]; exact hx'
          · rw [if_pos (by simp [hb])]; exact hx'
        · rename_i q1 q2
          rw [q1] at hx
          rw [q2] at hy
          obtain rfl := Option.some.inj hnc
          have hx' : Rimm w I (.v .nilIface) (a.eval x) := hx
          have hy' : Rimm w I (.v .nilIface) (a.eval y) := hy
          exact ⟨hy'.vInv, by rw [if_pos rfl]; exact hx'.vInv⟩
        · cases hnc
      obtain ⟨k1, k2⟩ := dd (a.eval x) w key.2
      refine ⟨.bool (o5.val e), w, ?_, I, ι, hr, Rimm.v _ rfl⟩
      have hrun : (do eqGuard op t x y (a.eval x) .nilIface; Go.binOp op t (a.eval x) .nilIface : Sem Value).run P w = .ok (.bool (o5.val e)) w := by
        cases op <;> simp only [eqOp] at e5 <;> first | cases e5 | (injection e5 with e5; rw [← e5]; first | exact k1 | exact k2)
      simp only [execOp, hop, key.1, Sem.run_bind] at hrun ⊢
      rw [hrun]
      rfl
    | none =>
    rw [hnc] at h4
    simp only at h4
    cases hv1 : o1.val with
    | c c1 =>
      rw [hv1] at h4 hx
      cases c1 with
      | v z1 =>
        cases hv2 : o3.val with
        | c c2 =>
          rw [hv2] at h4 hy
          cases c2 with
          | v z2 =>
            obtain ⟨o5, o6, h5, h6, v3, s3, d3⟩ := bind_inv h4
            obtain ⟨e5, e6⟩ := ofO_inv h5
            rw [e6] at h6
            obtain ⟨o7, o8, h7, h8, v4, s4, d4⟩ := bind_inv h6
            obtain ⟨e7, e8⟩ := need_inv h7
            rw [e7] at h8
            have hp := pure_inv h8
            have dd := (d4 (d3 ds).2).1
            rw [e8] at dd
            rw [v3, v4, s3, s4, hp]
            have hx' : Rimm w I (.v z1) (a.eval x) := hx
            have hy' : Rimm w I (.v z2) (a.eval y) := hy
            have ex : a.eval x = z1 := by cases hx'; rfl
            have ey : a.eval y = z2 := by cases hy'; rfl
            obtain ⟨hrun, hfl⟩ := evBinT_ok (P := P) (w := w) (t := t) hT e5 dd
            have hg := guard_scalarT (P := P) (w := w) (t := t) (x := x) (y := y) e5
            exact ⟨o5.val.1, w, by simp [execOp, hop, ex, ey, hg, hrun], I, ι, hr, Rimm.v _ hfl⟩
          | _ => exact absurd h4 (by simp [fail])
        | _ => rw [hv2] at h4; exact absurd h4 (by simp [fail])
      | _ => exact absurd h4 (by simp [fail])
    | agg xs =>
      rw [hv1] at h4 hx
      cases hv2 : o3.val with
      | agg ys =>
        rw [hv2] at h4 hy
        obtain ⟨o5, o6, h5, h6, v3, s3, d3⟩ := bind_inv h4
        obtain ⟨e5, e6⟩ := ofO_inv h5
        rw [e6] at h6
        obtain ⟨o7, o8, h7, h8, v4, s4, d4⟩ := bind_inv h6
        obtain ⟨e7, e8⟩ := ofO_inv h7
        rw [e8] at h8
        obtain ⟨o9, oa, h9, ha, v5, s5, d5⟩ := bind_inv h8
        obtain ⟨e9, e10⟩ := need_inv h9
        rw [e9] at ha
        have hp := pure_inv ha
        have dd := (d5 (d4 (d3 ds).2).2).1
        rw [e10] at dd
        rw [v3, v4, v5, s3, s4, s5, hp]
        obtain ⟨us, hxu, hxr⟩ := hx
        obtain ⟨vs, hyv, hyr⟩ := hy
        obtain ⟨q1, q2⟩ := eqCells_vals e5
        have hus := vals_of q1 hxr
        have hvs := vals_of q2 hyr
        have hrun := eqFact_ok (P := P) (w := w) dd e7
        rw [← hus, ← hvs] at hrun
        refine ⟨.bool (o7.val o5.val), w, ?_, I, ι, hr, Rimm.v _ rfl⟩
        simp only [execOp, hop, hxu, hyv, Sem.run_bind] at hrun ⊢
        rw [hrun]
        rfl
      | _ => rw [hv2] at h4; exact absurd h4 (by simp [fail])
    | tup ss => rw [hv1] at h4; exact absurd h4 (by simp [fail])
    | sp _ => rw [hv1] at h4; exact absurd h4 (by simp [fail])
  | unOp op t x =>
    rw [hop] at h
    obtain ⟨o1, o2, h1, h2, v1, s1, d1⟩ := bind_inv h
    obtain ⟨e1, _, hc⟩ := opndC_ok h1 hr
    rw [e1] at h2
    obtain ⟨o3, o4, h3, h4, v2, s2, d2⟩ := bind_inv h2
    obtain ⟨e3, e4⟩ := ofO_inv h3
    rw [e4] at h4
    obtain ⟨o5, o6, h5, h6, v3, s3, d3⟩ := bind_inv h4
    obtain ⟨e5, e6⟩ := ofO_inv h5
    rw [e6] at h6
    have hp := pure_inv h6
    obtain ⟨hrun, hfl⟩ := evUn_ok (P := P) (w := w) e5
    unfold Done
    rw [v1, v2, v3, s1, s2, s3, hp]
    exact ⟨o5.val, w, by simp [execOp, hop, valO_inv e3 hc, hrun], I, ι, hr, Rimm.v _ hfl⟩
  | convert s d x =>
    rw [hop] at h
    obtain ⟨o1, o2, h1, h2, v1, s1, d1⟩ := bind_inv h
    obtain ⟨e1, _, hc⟩ := opndC_ok h1 hr
    rw [e1] at h2
    obtain ⟨o3, o4, h3, h4, v2, s2, d2⟩ := bind_inv h2
    have hp := pure_inv h4
    obtain ⟨v, hrun, hg⟩ := convert_ok hT h3 hr hc
    exact done_of (o1 := o3) (by rw [v1, v2, hp]) (by rw [s1, s2, hp]) (by simp only [execOp, hop]) ⟨v, w, hrun, hg⟩
  | makeSlice t l c =>
    rw [hop] at h
    obtain ⟨o1, o2, h1, h2, v1, s1, d1⟩ := bind_inv h
    obtain ⟨e1, k1, hl⟩ := asNat_ok h1 (d1 hs).1 hr
    rw [e1] at h2
    obtain ⟨o3, o4, h3, h4, v2, s2, d2⟩ := bind_inv h2
    obtain ⟨e3, k2, hc⟩ := asNat_ok h3 (d2 (d1 hs).2).1 hr
    rw [e3] at h4
    obtain ⟨o5, o6, h5, h6, v3, s3, d3⟩ := bind_inv h4
    obtain ⟨e5, e6⟩ := need_inv h5
    rw [e5] at h6
    obtain ⟨o7, o8, h7, h8, v4, s4, d4⟩ := bind_inv h6
    have hp := pure_inv h8
    have dd := d3 (d2 (d1 hs).2).2
    have heq := dd.1
    rw [e6] at heq
    rw [← heq] at hc
    refine done_of (o1 := o7) (s := Instr.makeSlice t (.int k1 o1.val) (.int k2 o1.val)) (by rw [v1, v2, v3, v4, hp]) (by rw [s1, s2, s3, s4, hp]) (by simp only [execOp, hop, hl, hc]) ?_
    exact makeSlice_ok hT h7 (d4 dd.2).1 hr
  | slice t x lo hi mx =>
    rw [hop] at h
    cases mx with
    | some q => exact absurd h (by simp [fail])
    | none =>
      obtain ⟨o1, o2, h1, h2, v1, s1, d1⟩ := bind_inv h
      obtain ⟨e1, _, hc⟩ := opndC_ok h1 hr
      rw [e1] at h2
      obtain ⟨o3, o4, h3, h4, v2, s2, d2⟩ := bind_inv h2
      obtain ⟨e3, hlo⟩ := asNatO_ok h3 (d2 (d1 hs).2).1 hr
      rw [e3] at h4
      obtain ⟨o5, o6, h5, h6, v3, s3, d3⟩ := bind_inv h4
      have dd := d3 (d2 (d1 hs).2).2
      obtain ⟨e5, hhi⟩ := asNatO_ok h5 dd.1 hr
      rw [e5] at h6
      obtain ⟨o7, o8, h7, h8, v4, s4, d4⟩ := bind_inv h6
      have hp := pure_inv h8
      obtain ⟨v, hrun, hg⟩ := slice_ok hT h7 (d4 dd.2).1 hr hc hlo hhi
      exact done_of (o1 := o7) (by rw [v1, v2, v3, v4, hp]) (by rw [s1, s2, s3, s4, hp]) (by simp only [execOp, hop, Option.map_none]) ⟨v, w, hrun, hg⟩
  | fieldAddr t x f =>
    rw [hop] at h
    obtain ⟨o1, o2, h1, h2, v1, s1, d1⟩ := bind_inv h
    obtain ⟨e1, _, hc⟩ := opndC_ok h1 hr
    rw [e1] at h2
    obtain ⟨o3, o4, h3, h4, v2, s2, d2⟩ := bind_inv h2
    obtain ⟨e3, fields, fd, hu, hf, ho, ht⟩ := evField_inv hT h3
    rw [e3] at h4
    obtain ⟨o5, o6, h5, h6, v3, s3, d3⟩ := bind_inv h4
    have hz : o3.val.2.size ≠ 0 ∧ o5.st = st := by
      rcases cond_inv h5 with ⟨_, h5⟩ | ⟨hb, h5⟩
      · exact (fail_inv h5).elim
      · have hq := pure_inv h5
        refine ⟨fun e => ?_, by rw [hq]⟩
        rw [e] at hb; cases hb
    rw [hz.2] at h6
    obtain ⟨o7, o8, h7, h8, v4, s4, d4⟩ := bind_inv h6
    obtain ⟨e7, hl⟩ := chk_inv h7
    rw [e7] at h8
    obtain ⟨o9, oa, h9, ha, v5, s5, d5⟩ := bind_inv h8
    obtain ⟨e9, e10⟩ := ofO_inv h9
    rw [e10] at ha
    have hp := pure_inv ha
    obtain ⟨v, hrun, hcv⟩ := fieldAddr_ok hu hf ho ht hz.1 hc hl e9
    refine done_of (o1 := ⟨.c o9.val, st, [], [], []⟩) (by rw [v1, v2, v3, v4, v5, hp]) (by rw [s1, s2, s3, s4, s5, hp]) (by simp only [execOp, hop]) ⟨v, w, hrun, I, ι, hr, hcv⟩
  | field t x f =>
    rw [hop] at h
    obtain ⟨o1, o2, h1, h2, v1, s1, d1⟩ := bind_inv h
    obtain ⟨e1, fields, fd, hu, hf, ho, ht⟩ := evField_inv hT h1
    rw [e1] at h2
    obtain ⟨o3, o4, h3, h4, v2, s2, d2⟩ := bind_inv h2
    obtain ⟨e3, _, hx⟩ := opnd_ok h3 hr
    rw [e3] at h4
    obtain ⟨o5, o6, h5, h6, v3, s3, d3⟩ := bind_inv h4
    obtain ⟨e5, e6⟩ := ofO_inv h5
    rw [e6] at h6
    obtain ⟨o7, o8, h7, h8, v4, s4, d4⟩ := bind_inv h6
    have hp := pure_inv h8
    cases hv : o3.val with
    | agg cs =>
      rw [hv] at e5 hx
      injection e5 with e5
      rw [← e5] at h7
      obtain ⟨us, hxu, hxr⟩ := hx
      obtain ⟨e7, v, hrun, hvr⟩ := part_ok (P := P) ht hxr h7
      refine done_of (o1 := o7) (s := Instr.field t (a.eval x) f) (by rw [v1, v2, v3, v4, hp]) (by rw [s1, s2, s3, s4, hp]) (by simp only [execOp, hop]) ⟨v, w, ?_, I, ι, by rw [e7]; exact hr, by rw [e7]; exact hvr⟩
      unfold Instr.field
      simp only [Sem.run_bind, hu, Result.andThen_ok, hf, hxu, asAgg, Sem.run_pure, ho, hrun]
    | c _ => rw [hv] at e5; cases e5
    | tup _ => rw [hv] at e5; cases e5
    | sp _ => rw [hv] at e5; cases e5
  | indexAddr t x k =>
    rw [hop] at h
    obtain ⟨o1, o2, h1, h2, v1, s1, d1⟩ := bind_inv h
    obtain ⟨e1, _, hc⟩ := opndC_ok h1 hr
    rw [e1] at h2
    obtain ⟨o3, o4, h3, h4, v2, s2, d2⟩ := bind_inv h2
    obtain ⟨e3, _, hk⟩ := opnd_ok h3 hr
    rw [e3] at h4
    obtain ⟨o5, o6, h5, h6, v3, s3, d3⟩ := bind_inv h4
    obtain ⟨e5, e6⟩ := ofO_inv h5
    rw [e6] at h6
    obtain ⟨o7, o8, h7, h8, v4, s4, d4⟩ := bind_inv h6
    have hp := pure_inv h8
    have dd := (d4 (d3 (d2 (d1 hs).2).2).2).1
    obtain ⟨e7, v, hrun, hvr⟩ := indexAddrX_ok (k := o5.val.1) hT h7 dd hr hc
    refine done_of (o1 := o7) (by rw [v1, v2, v3, v4, hp]) (by rw [s1, s2, s3, s4, hp]) (by simp only [execOp, hop, intO_inv e5 hk]) ⟨v, w, hrun, I, ι, by rw [e7]; exact hr, by rw [e7]; exact hvr⟩
  | index t x k =>
    rw [hop] at h
    obtain ⟨o1, o2, h1, h2, v1, s1, d1⟩ := bind_inv h
    obtain ⟨e1, _, hc⟩ := opnd_ok h1 hr
    rw [e1] at h2
    obtain ⟨o3, o4, h3, h4, v2, s2, d2⟩ := bind_inv h2
    obtain ⟨e3, _, hk⟩ := opnd_ok h3 hr
    rw [e3] at h4
    obtain ⟨o5, o6, h5, h6, v3, s3, d3⟩ := bind_inv h4
    obtain ⟨e5, e6⟩ := ofO_inv h5
    rw [e6] at h6
    obtain ⟨o7, o8, h7, h8, v4, s4, d4⟩ := bind_inv h6
    have hp := pure_inv h8
    have dd := (d4 (d3 (d2 (d1 hs).2).2).2).1
    obtain ⟨e7, v, hrun, hvr⟩ := indexX_ok (w := w) (I := I) (ι := ι) (k := o5.val.1) hT h7 dd hc
    refine done_of (o1 := o7) (by rw [v1, v2, v3, v4, hp]) (by rw [s1, s2, s3, s4, hp]) (by simp only [execOp, hop, intO_inv e5 hk]) ⟨v, w, hrun, I, ι, by rw [e7]; exact hr, by rw [e7]; exact hvr⟩
  | extract x i =>
    rw [hop] at h
    obtain ⟨o1, o2, h1, h2, v1, s1, d1⟩ := bind_inv h
    obtain ⟨e1, _, hc⟩ := opnd_ok h1 hr
    rw [e1] at h2
    obtain ⟨o3, o4, h3, h4, v2, s2, d2⟩ := bind_inv h2
    obtain ⟨e3, e4⟩ := ofO_inv h3
    rw [e4] at h4
    obtain ⟨o5, o6, h5, h6, v3, s3, d3⟩ := bind_inv h4
    obtain ⟨e5, e6⟩ := ofO_inv h5
    rw [e6] at h6
    have hp := pure_inv h6
    unfold Done
    rw [v1, v2, v3, s1, s2, s3, hp]
    cases hv : o1.val with
    | tup ss =>
      rw [hv] at e3 hc
      injection e3 with e3
      rw [← e3] at e5
      obtain ⟨us, hu, hus⟩ := hc
      obtain ⟨z, hz, hzr⟩ := hus i _ e5
      refine ⟨z, w, by simp [execOp, hop, hu, Instr.extract, hz], I, ι, hr, ?_⟩
      cases hq : o5.val with
      | c y => rw [hq] at hzr; exact hzr
      | agg y => rw [hq] at hzr; exact hzr
      | tup y => rw [hq] at hzr; exact hzr.elim
      | sp y => trivial
    | c _ => rw [hv] at e3; cases e3
    | agg _ => rw [hv] at e3; cases e3
    | sp _ => rw [hv] at e3; cases e3
  | call c =>
    rw [hop] at h hnc
    cases hcal : c.callee with
    | builtin b =>
      simp only [hcal] at h
      obtain ⟨o1, o2, h1, h2, v1, s1, d1⟩ := bind_inv h
      have hp := pure_inv h2
      have hex : ∀ (s : Sem Value), Go.builtin b c.argTypes o.type (c.args.map fun | .const _ => true | _ => false) (c.args.map a.eval) = (do pure (.value (← s))) → execOp a.eval o = (do pure (.value (← s))) := by
        intro s he
        simp only [execOp, hop, resolve, hcal, invoke, pure_bind]
        exact he
      generalize hts : c.argTypes.toList = tl at h1
      generalize hargs : c.args.toList = al at h1
      unfold evBuiltin at h1
      have h6' : c.args = al.toArray := by rw [← hargs]
      have h5' : c.argTypes = tl.toArray := by rw [← hts]
      cases b <;> try exact absurd h1 (by simp [fail])
      · match tl, al, h1, h5', h6' with
        | [], _, h1, _, _ => exact absurd h1 (by simp [fail])
        | [_], _, h1, _, _ => exact absurd h1 (by simp [fail])
        | _ :: _ :: _, [], h1, _, _ => exact absurd h1 (by simp [fail])
        | _ :: _ :: _, [_], h1, _, _ => exact absurd h1 (by simp [fail])
        | _ :: _ :: _, _ :: _ :: _ :: _, h1, _, _ => exact absurd h1 (by simp [fail])
        | t :: u :: ts, [x, y], h1, h5', h6' =>
          obtain ⟨o3, o4, h3, h4, v2, s2, d2⟩ := bind_inv h1
          obtain ⟨e3, e4⟩ := guard_inv h3
          rw [e4] at h4
          obtain rfl := Nat.eq_of_beq_eq_true e3
          obtain ⟨o5, o6, h5, h6, v3, s3, d3⟩ := bind_inv h4
          obtain ⟨e5, _, hx⟩ := opndC_ok h5 hr
          rw [e5] at h6
          obtain ⟨o7, o8, h7, h8, v4, s4, d4⟩ := bind_inv h6
          obtain ⟨e7, _, hy⟩ := opndC_ok h7 hr
          rw [e7] at h8
          have dd := (d4 (d3 (d2 (d1 hs).1).2).2).2
          obtain ⟨v, w', hrun, hg⟩ := append_ok (ty := o.type) hT h8 dd hr hx hy
          refine done_of (o1 := o8) (by rw [v1, hp, v2, v3, v4]) (by rw [s1, hp]; show o1.st = _; rw [s2, s3, s4]) (hex (Builtin.append_ #[t, t] o.type #[a.eval x, a.eval y]) ?_) ⟨v, w', hrun, hg⟩
          rw [h5', h6']
          simp [Go.builtin, Builtin.append_]
      · match tl, al, h1, h5', h6' with
        | [], _, h1, _, _ => exact absurd h1 (by simp [fail])
        | _ :: _, [], h1, _, _ => exact absurd h1 (by simp [fail])
        | _ :: _, _ :: _ :: _, h1, _, _ => exact absurd h1 (by simp [fail])
        | t :: ts, [x], h1, h5', h6' =>
          obtain ⟨o3, o4, h3, h4, v2, s2, d2⟩ := bind_inv h1
          obtain ⟨e3, _, hx⟩ := opnd_ok h3 hr
          rw [e3] at h4
          obtain ⟨v, hrun, hg⟩ := len_ok (ty := o.type) (ts := ts) hT h4 hr hx
          refine done_of (o1 := o4) (by rw [v1, hp, v2]) (by rw [s1, hp]; exact s2) (hex (Builtin.len_ (t :: ts).toArray o.type #[a.eval x]) (by rw [h5', h6']; simp [Go.builtin])) ⟨v, w, hrun, hg⟩
      · match al, h1, h6' with
        | [], h1, _ => exact absurd h1 (by simp [fail])
        | [_], h1, _ => exact absurd h1 (by simp [fail])
        | _ :: _ :: _ :: _, h1, _ => exact absurd h1 (by simp [fail])
        | [x, y], h1, h6' =>
          obtain ⟨o3, o4, h3, h4, v2, s2, d2⟩ := bind_inv h1
          obtain ⟨e3, _, hx⟩ := opndC_ok h3 hr
          rw [e3] at h4
          obtain ⟨o5, o6, h5, h6, v3, s3, d3⟩ := bind_inv h4
          obtain ⟨e5, e6⟩ := ofO_inv h5
          rw [e6] at h6
          obtain ⟨o7, o8, h7, h8, v4, s4, d4⟩ := bind_inv h6
          obtain ⟨e7, _, hy⟩ := opndC_ok h7 hr
          rw [e7] at h8
          obtain ⟨o9, oa, h9, ha, v5, s5, d5⟩ := bind_inv h8
          obtain ⟨e9, e10⟩ := ofO_inv h9
          rw [e10] at ha
          obtain ⟨ob, oc, hb, hc, v6, s6, d6⟩ := bind_inv ha
          obtain ⟨eb, ec⟩ := ofO_inv hb
          rw [ec] at hc
          have hp' := pure_inv hc
          obtain ⟨hrun, hfl⟩ := evMax_ok (P := P) (w := w) (ts := c.argTypes) (t := o.type) eb
          refine done_of (o1 := ⟨.c (.v ob.val), st, [], [], []⟩) (by rw [v1, hp, v2, v3, v4, v5, v6, hp']) (by rw [s1, hp]; show o1.st = _; rw [s2, s3, s4, s5, s6, hp']) (hex (Builtin.max_ c.argTypes o.type #[o5.val, o9.val]) ?_) ⟨ob.val, w, hrun, I, ι, hr, Rimm.v _ hfl⟩
          rw [h6']
          simp [Go.builtin, valO_inv e5 hx, valO_inv e9 hy]
      · match al, h1, h6' with
        | [], h1, _ => exact absurd h1 (by simp [fail])
        | [_], h1, _ => exact absurd h1 (by simp [fail])
        | _ :: _ :: _ :: _, h1, _ => exact absurd h1 (by simp [fail])
        | [x, y], h1, h6' =>
          obtain ⟨o3, o4, h3, h4, v2, s2, d2⟩ := bind_inv h1
          obtain ⟨e3, _, hx⟩ := opndC_ok h3 hr
          rw [e3] at h4
          obtain ⟨o5, o6, h5, h6, v3, s3, d3⟩ := bind_inv h4
          obtain ⟨e5, e6⟩ := ofO_inv h5
          rw [e6] at h6
          obtain ⟨o7, o8, h7, h8, v4, s4, d4⟩ := bind_inv h6
          obtain ⟨e7, _, hy⟩ := opndC_ok h7 hr
          rw [e7] at h8
          obtain ⟨o9, oa, h9, ha, v5, s5, d5⟩ := bind_inv h8
          obtain ⟨e9, e10⟩ := ofO_inv h9
          rw [e10] at ha
          obtain ⟨ob, oc, hb, hc, v6, s6, d6⟩ := bind_inv ha
          obtain ⟨eb, ec⟩ := ofO_inv hb
          rw [ec] at hc
          have hp' := pure_inv hc
          obtain ⟨hrun, hfl⟩ := evMin_ok (P := P) (w := w) (ts := c.argTypes) (t := o.type) eb
          refine done_of (o1 := ⟨.c (.v ob.val), st, [], [], []⟩) (by rw [v1, hp, v2, v3, v4, v5, v6, hp']) (by rw [s1, hp]; show o1.st = _; rw [s2, s3, s4, s5, s6, hp']) (hex (Builtin.min_ c.argTypes o.type #[o5.val, o9.val]) ?_) ⟨ob.val, w, hrun, I, ι, hr, Rimm.v _ hfl⟩
          rw [h6']
          simp [Go.builtin, valO_inv e5 hx, valO_inv e9 hy]
    | value f => simp [isFuncCall, hcal] at hnc
    | invoke r m => simp [isFuncCall, hcal] at hnc
  | _ => rw [hop] at h; exact absurd h (by simp [fail])
end
end Go.Ev
namespace Go.Ev
open Go Go.RowKit
set_option linter.unusedVariables false

/-- How what goes into a call (or comes out of it) lies in memory; the list: the blocks that go along with it. -/
def RXc (w : World) (I : Nat → Prop) (x : X) (u : Value) (fp : List Nat) : Prop :=
  match x with
  | .c y => fp = [] ∧ Rimm w I y u
  | .own s n g => (u = .slice none 0 0 ∧ n = 0 ∧ fp = []) ∨ ∃ (b cap : Nat) (f : Nat → Nat → Value), u = .slice (some ⟨b, 0, none⟩) n cap ∧ fp = [b] ∧ RowOk w I ⟨false, s, n, g⟩ b cap f
  | _ => False
def RXcs (w : World) (I : Nat → Prop) : List X → List Value → List Nat → Prop
  | [], [], fp => fp = []
  | x :: xs, u :: us, fp => ∃ f1 f2, fp = f1 ++ f2 ∧ RXc w I x u f1 ∧ RXcs w I xs us f2
  | _, _, _ => False
def Cells (w : World) (b : Nat) (us : List Value) : Prop := b < w.heap.size ∧ ∀ (j : Nat) u, us[j]? = some u → w.cell? ⟨b, j, none⟩ = some u ∧ w.frozen? ⟨b, j, none⟩ = false
def RX (w : World) (I : Nat → Prop) (x : X) (u : Value) (fp : List Nat) : Prop :=
  match x with
  | .agg xs => ∃ us, u = .agg us ∧ RXcs w I xs us.toList fp
  | .cell xs => ∃ (b : Nat) (us : List Value) (f' : List Nat), u = .pointer (some ⟨b, 0, none⟩) ∧ Cells w b us ∧ RXcs w I xs us f' ∧ fp = b :: f'
  | .tup _ => False
  | y => RXc w I y u fp
def RXl (w : World) (I : Nat → Prop) : List X → List Value → List Nat → Prop
  | [], [], fp => fp = []
  | x :: xs, u :: us, fp => ∃ f1 f2, fp = f1 ++ f2 ∧ RX w I x u f1 ∧ RXl w I xs us f2
  | _, _, _ => False
def RXr (w : World) (I : Nat → Prop) (x : X) (u : Value) (fp : List Nat) : Prop :=
  match x with
  | .tup xs => ∃ us, u = .tuple us ∧ RXl w I xs us.toList fp
  | y => RX w I y u fp

def isCell : X → Bool
  | .cell _ => true
  | _ => false
/-- The variables that a call may write, behind it. -/
def Pouts (w : World) (I : Nat → Prop) : List X → List Value → List (List X) → List Nat → Prop
  | [], [], [], fp => fp = []
  | x :: xs, u :: us, ps, fp =>
    if isCell x = true then ∃ (b : Nat) (vs : List Value) (p : List X) (ps' : List (List X)) (f1 f2 : List Nat), u = .pointer (some ⟨b, 0, none⟩) ∧ ps = p :: ps' ∧ Cells w b vs ∧ RXcs w I p vs f1 ∧ Pouts w I xs us ps' f2 ∧ fp = f1 ++ f2
    else Pouts w I xs us ps fp
  | _, _, _, _ => False
/-- The blocks of the variables that a call may write. -/
def ptrBlocks : List X → List Value → List Nat
  | x :: xs, u :: us => (if isCell x = true then (match u with | .pointer (some a) => [a.block] | _ => []) else []) ++ ptrBlocks xs us
  | _, _ => []

def Ret (w0 : World) (I0 : Nat → Prop) (fp : List Nat) (args : List X) (vs : List Value) (res : X) (pout : List (List X)) (v : Value) (w' : World) : Prop :=
  ∃ (I' : Nat → Prop) (fr fq : List Nat), (∀ b, I' b → b < w'.heap.size ∧ (I0 b ∨ w0.heap.size ≤ b ∨ b ∈ fp)) ∧ RXr w' I' res v fr ∧ Pouts w' I' args vs pout fq ∧ (fr ++ fq).Nodup ∧
    (∀ b ∈ fr ++ fq, b < w'.heap.size ∧ ¬ I' b ∧ (w0.heap.size ≤ b ∨ b ∈ fp) ∧ b ∉ ptrBlocks args vs) ∧ (∀ b ∈ ptrBlocks args vs, ¬ I' b) ∧ Fr w0.heap.size (· ∈ fp) w0 w'

/-- What a function promises: called with these arguments it returns this. -/
def Ok (P : Program) (f : FuncId) (args : List X) (res : X) (pout : List (List X)) : Prop :=
  ∀ (w0 : World) (I0 : Nat → Prop) (vs : Array Value) (fp : List Nat), (∀ b, I0 b → b < w0.heap.size) → RXl w0 I0 args vs.toList fp → fp.Nodup → (∀ b ∈ fp, b < w0.heap.size ∧ ¬ I0 b) → Glob w0.heap.size (· ∈ fp) w0 →
    Calls P f vs w0 fun e w' => ∃ v, e = .returned v ∧ Ret w0 I0 fp args vs.toList res pout v w'

section
variable {X' : Ctx} {I : Nat → Prop} {ι : Im} {st : St} {tm : Array Value} {w : World} {P : Program} {T : Tab}


/-! ### arguments go out -/
/-- What an argument takes along: a given-away array's block. -/
def Gone (st st' : St) (ι : Im) (b : Nat) : Prop := ∃ m A c, st.arr m = some (some A) ∧ A.frozen = false ∧ ι.a m = some (b, c) ∧ st'.arr m = some none

/-- States in which arrays have been given away, and nothing else has turned. -/
structure Fewer (st st' : St) : Prop where
  nt : st'.nt = st.nt
  slot : ∀ i, st'.slot i = st.slot i
  var : st'.var = st.var
  arr : ∀ m, st'.arr m = st.arr m ∨ (st'.arr m = some none ∧ ∃ A, st.arr m = some (some A) ∧ A.frozen = false)
theorem Fewer.refl (st : St) : Fewer st st := ⟨rfl, fun _ => rfl, rfl, fun _ => .inl rfl⟩
theorem Fewer.trans {a b c : St} (h : Fewer a b) (k : Fewer b c) : Fewer a c := by
  refine ⟨k.nt.trans h.nt, fun i => (k.slot i).trans (h.slot i), k.var.trans h.var, fun m => ?_⟩
  rcases k.arr m with e | ⟨e, A, hA, hf⟩
  · rw [e]; exact h.arr m
  · rcases h.arr m with e' | ⟨e', _⟩
    · exact .inr ⟨e, A, by rw [← e']; exact hA, hf⟩
    · rw [e'] at hA; cases hA
theorem Gone.later {a b c : St} {ι : Im} {n : Nat} (h : Gone a b ι n) (k : Fewer b c) : Gone a c ι n := by
  obtain ⟨m, A, q, h1, h2, h3, h4⟩ := h
  refine ⟨m, A, q, h1, h2, h3, ?_⟩
  rcases k.arr m with e | ⟨e, _⟩
  · rw [e]; exact h4
  · exact e
theorem Gone.earlier {a b c : St} {ι : Im} {n : Nat} (h : Gone b c ι n) (k : Fewer a b) : Gone a c ι n := by
  obtain ⟨m, A, q, h1, h2, h3, h4⟩ := h
  rcases k.arr m with e | ⟨e, _⟩
  · exact ⟨m, A, q, by rw [← e]; exact h1, h2, h3, h4⟩
  · rw [e] at h1; cases h1
/-- What went first and what went later lies apart. -/
theorem Gone.apart {a b c : St} {ι : Im} {x y : Nat} (hr : RelI X' I ι a tm w) (h : Gone a b ι x) (k : Gone b c ι y) (kk : Fewer a b) : x ≠ y := by
  rintro rfl
  obtain ⟨m, A, q, h1, h2, h3, h4⟩ := h
  obtain ⟨m', A', q', k1, k2, k3, k4⟩ := k
  have h5 : a.arr m' = some (some A') := by
    rcases kk.arr m' with e | ⟨e, _⟩
    · rw [← e]; exact k1
    · rw [e] at k1; cases k1
  have := hr.aa m m' A A' x q q' h1 h5 h3 k3
  subst this
  rw [h4] at k1; cases k1

theorem kill_fewer {m : Name} {A : Arr} (hA : st.arr m = some (some A)) (hf : A.frozen = false) : Fewer st { st with arrs := (m, none) :: st.arrs } := by
  refine ⟨rfl, fun _ => rfl, rfl, fun k => ?_⟩
  rw [arr_cons]
  by_cases e : k = m
  · subst e; exact .inr ⟨by rw [if_pos rfl], A, hA, hf⟩
  · exact .inl (by rw [if_neg e])

theorem immO_inv {x : C} {y : C} (h : immO (.c x) = some y) : y = x ∧ ∀ w I ι va ar u, Rc w I ι va ar x u → Rimm w I x u := by
  cases x <;> simp only [immO, Option.some.injEq] at h <;> first | cases h | skip
  all_goals exact ⟨rfl, fun w I ι va ar u hu => hu⟩

theorem expC_ok {own : Bool} {x : C} {u : Value} {out : Out X} {I0 : Nat → Prop} (h : expC own x st = some out) (hs : out.side) (hr : RelI X' I ι st tm w) (hx : Rc w I ι st.var st.arr x u) (hI : ∀ b, I b → I0 b) (hI0 : own = false → ∀ m ∈ refsC x, ∀ b c, ι.a m = some (b, c) → I0 b) :
    ∃ fp, RelI X' I ι out.st tm w ∧ Ext w I ι st.var st.arr w I ι out.st.var out.st.arr ∧ Fewer st out.st ∧ RXc w I0 out.val u fp ∧ fp.Nodup ∧ ∀ b ∈ fp, Gone st out.st ι b := by
  unfold expC at h
  cases x with
  | ref m n =>
    obtain ⟨o1, o2, h1, h2, v1, s1, d1⟩ := bind_inv h
    obtain ⟨e1, e2⟩ := liveA_inv h1
    rw [e2] at h2
    have hxr := hx
    simp only [Rc, e1] at hx
    obtain ⟨hn, hh⟩ := hx
    rcases cond_inv h2 with ⟨hb, h2⟩ | ⟨hb, h2⟩
    · simp only [Bool.and_eq_true, Bool.not_eq_true'] at hb
      obtain ⟨o3, o4, h3, h4, v2, s2, d2⟩ := bind_inv h2
      obtain ⟨e3, e4⟩ := need_inv h3
      rw [e3] at h4
      obtain ⟨o5, o6, h5, h6, v3, s3, d3⟩ := bind_inv h4
      have hw5 : o5.st = { st with arrs := (m, none) :: st.arrs } := by obtain rfl := Option.some.inj h5; rfl
      rw [hw5] at h6
      have hp := pure_inv h6
      have hnn := (d2 (d1 hs).2).1
      rw [e4] at hnn
      subst hnn
      obtain ⟨hrk, Ek⟩ := hr.kill e1
      have hst : out.st = { st with arrs := (m, none) :: st.arrs } := by rw [s1, s2, s3, hp]
      have hv : out.val = .own o1.val.s o1.val.n o1.val.g := by rw [v1, v2, v3, hp]
      rw [hst, hv]
      have hok := hr.arrs m _ e1
      unfold hdr at hh
      split at hh
      · obtain ⟨rfl, h0⟩ := hh
        exact ⟨[], hrk, Ek, kill_fewer e1 hb.2, .inl ⟨rfl, h0, rfl⟩, List.nodup_nil, by simp⟩
      · rename_i b cap hp'
        subst hh
        rw [hp'] at hok
        obtain ⟨⟨f, hrow⟩, hz⟩ := hok
        have hrow' := hrow.keep (w' := w) (I' := I0) (fun _ _ => rfl) hI (Nat.le_refl _) rfl
        refine ⟨[b], hrk, Ek, kill_fewer e1 hb.2, .inr ⟨b, cap, f, rfl, rfl, hrow'.lt, hrow'.pos, hrow'.fit, hrow'.max, hrow'.there, hrow'.len, hrow'.cell, hrow'.rel⟩, by simp, fun c hc => ?_⟩
        simp at hc; subst hc
        exact ⟨m, _, cap, e1, hb.2, hp', by rw [arr_cons, if_pos rfl]⟩
    · have hp := pure_inv h2
      have hst : out.st = st := by rw [s1, hp]
      have hv : out.val = .c (.lst o1.val.s n o1.val.g) := by rw [v1, hp]
      rw [hst, hv]
      refine ⟨[], hr, .refl .., .refl _, ⟨rfl, ?_⟩, List.nodup_nil, by simp⟩
      refine ref_imm hr e1 hn hh hI (fun b c hbc => ?_)
      cases own with
      | false => exact hI0 rfl m (by simp [refsC]) b c hbc
      | true =>
        simp only [Bool.true_and, Bool.not_eq_false'] at hb
        have hok := hr.arrs m _ e1
        rw [hbc] at hok
        have := hok.2
        rw [hb] at this
        exact hI b this
  | v y =>
    obtain ⟨o1, o2, h1, h2, v1, s1, d1⟩ := bind_inv h
    obtain ⟨e1, e2⟩ := ofO_inv h1
    rw [e2] at h2
    have hp := pure_inv h2
    obtain ⟨q1, q2⟩ := immO_inv e1
    have hst : out.st = st := by rw [s1, hp]
    have hv : out.val = .c (.v y) := by rw [v1, hp, q1]
    rw [hst, hv]
    exact ⟨[], hr, .refl .., .refl _, ⟨rfl, (q2 _ _ _ _ _ _ hx).mono (fun _ _ => rfl) hI⟩, List.nodup_nil, by simp⟩
  | nil y =>
    obtain ⟨o1, o2, h1, h2, v1, s1, d1⟩ := bind_inv h
    obtain ⟨e1, e2⟩ := ofO_inv h1
    rw [e2] at h2
    have hp := pure_inv h2
    obtain ⟨q1, q2⟩ := immO_inv e1
    have hst : out.st = st := by rw [s1, hp]
    have hv : out.val = .c (.nil y) := by rw [v1, hp, q1]
    rw [hst, hv]
    exact ⟨[], hr, .refl .., .refl _, ⟨rfl, (q2 _ _ _ _ _ _ hx).mono (fun _ _ => rfl) hI⟩, List.nodup_nil, by simp⟩
  | lst s n g =>
    obtain ⟨o1, o2, h1, h2, v1, s1, d1⟩ := bind_inv h
    obtain ⟨e1, e2⟩ := ofO_inv h1
    rw [e2] at h2
    have hp := pure_inv h2
    obtain ⟨q1, q2⟩ := immO_inv e1
    have hst : out.st = st := by rw [s1, hp]
    have hv : out.val = .c (.lst s n g) := by rw [v1, hp, q1]
    rw [hst, hv]
    exact ⟨[], hr, .refl .., .refl _, ⟨rfl, (q2 _ _ _ _ _ _ hx).mono (fun _ _ => rfl) hI⟩, List.nodup_nil, by simp⟩
  | pvar _ _ => obtain ⟨o1, o2, h1, h2, _⟩ := bind_inv h; exact absurd (ofO_inv h1).1 (by simp [immO])
  | pelem _ _ _ => obtain ⟨o1, o2, h1, h2, _⟩ := bind_inv h; exact absurd (ofO_inv h1).1 (by simp [immO])
  | pimm _ _ => obtain ⟨o1, o2, h1, h2, _⟩ := bind_inv h; exact absurd (ofO_inv h1).1 (by simp [immO])
  | err b =>
    obtain ⟨o1, o2, h1, h2, v1, s1, d1⟩ := bind_inv h
    obtain ⟨e1, e2⟩ := ofO_inv h1
    rw [e2] at h2
    have hp := pure_inv h2
    obtain ⟨q1, q2⟩ := immO_inv e1
    have hst : out.st = st := by rw [s1, hp]
    have hv : out.val = .c (.err b) := by rw [v1, hp, q1]
    rw [hst, hv]
    exact ⟨[], hr, .refl .., .refl _, ⟨rfl, (q2 _ _ _ _ _ _ hx).mono (fun _ _ => rfl) hI⟩, List.nodup_nil, by simp⟩
  | undef => obtain ⟨o1, o2, h1, h2, _⟩ := bind_inv h; exact absurd (ofO_inv h1).1 (by simp [immO])

theorem expCs_ok {own : Bool} : ∀ {l : List C} {us : List Value} {st : St} {out : Out (List X)} {I0 : Nat → Prop}, expCs own l st = some out → out.side → RelI X' I ι st tm w → us.length = l.length → (∀ (j : Nat) x, l[j]? = some x → ∃ y, us[j]? = some y ∧ Rc w I ι st.var st.arr x y) →
    (∀ b, I b → I0 b) → (own = false → ∀ x ∈ l, ∀ m ∈ refsC x, ∀ b c, ι.a m = some (b, c) → I0 b) →
    ∃ fp, RelI X' I ι out.st tm w ∧ Ext w I ι st.var st.arr w I ι out.st.var out.st.arr ∧ Fewer st out.st ∧ RXcs w I0 out.val us fp ∧ fp.Nodup ∧ ∀ b ∈ fp, Gone st out.st ι b := by
  intro l
  induction l with
  | nil =>
    intro us st out I0 h hs hr hl hc hI hI0
    have hp := pure_inv h
    rw [hp]
    cases us with
    | nil => exact ⟨[], hr, .refl .., .refl _, rfl, List.nodup_nil, by simp⟩
    | cons _ _ => simp at hl
  | cons x r ih =>
    intro us st out I0 h hs hr hl hc hI hI0
    cases us with
    | nil => simp at hl
    | cons u us =>
      unfold expCs at h
      obtain ⟨o1, o2, h1, h2, v1, s1, d1⟩ := bind_inv h
      obtain ⟨y, hy, hxy⟩ := hc 0 x rfl
      simp at hy; subst hy
      obtain ⟨f1, hr1, E1, F1, R1, N1, G1⟩ := expC_ok h1 (d1 hs).1 hr hxy hI (fun ho => hI0 ho x (List.mem_cons_self ..))
      obtain ⟨o3, o4, h3, h4, v2, s2, d2⟩ := bind_inv h2
      have hp := pure_inv h4
      obtain ⟨f2, hr2, E2, F2, R2, N2, G2⟩ := ih (us := us) h3 (d2 (d1 hs).2).1 hr1 (by simpa using hl) (fun j z hz => by
        obtain ⟨y', hy', hc'⟩ := hc (j + 1) z (by simpa using hz)
        exact ⟨y', by simpa using hy', hc'.ext E1⟩) hI (fun ho z hz => hI0 ho z (List.mem_cons_of_mem _ hz))
      have hst : out.st = o3.st := by rw [s1, s2, hp]
      have hv : out.val = o1.val :: o3.val := by rw [v1, v2, hp]
      rw [hst, hv]
      refine ⟨f1 ++ f2, hr2, E1.trans E2, F1.trans F2, ⟨f1, f2, rfl, R1, R2⟩, ?_, fun b hb => ?_⟩
      · rw [List.nodup_append]
        exact ⟨N1, N2, fun a ha b hb => Gone.apart hr (G1 a ha) (G2 b hb) F1⟩
      · rcases List.mem_append.mp hb with hb | hb
        · exact (G1 b hb).later F2
        · exact (G2 b hb).earlier F1

theorem nodupN_iff : ∀ {l : List Name}, nodupN l = true → l.Nodup := by
  intro l
  induction l with
  | nil => intro _; exact List.nodup_nil
  | cons m r ih =>
    intro h
    simp only [nodupN, Bool.and_eq_true, Bool.not_eq_true'] at h
    refine List.nodup_cons.mpr ⟨fun hm => ?_, ih h.2⟩
    have : r.any (nameEq m) = true := List.any_eq_true.mpr ⟨m, hm, nameEq_iff.mpr rfl⟩
    rw [this] at h
    exact absurd h.1 (by simp)

/-- What arguments take along: blocks of arrays given away, and of variables that are pointed to. -/
def Took (st st' : St) (ι : Im) (ps : List Name) (b : Nat) : Prop := Gone st st' ι b ∨ ∃ m ∈ ps, st.var m ≠ none ∧ ι.v m = some b

theorem expS_ok {own : Bool} {x : S} {u : Value} {out : Out X} {I0 : Nat → Prop} (h : expS own x st = some out) (hs : out.side) (hr : RelI X' I ι st tm w) (hx : Rs w I ι st.var st.arr x u) (hI : ∀ b, I b → I0 b) (hI0 : own = false → ∀ m ∈ refsS x, ∀ b c, ι.a m = some (b, c) → I0 b) :
    ∃ fp, RelI X' I ι out.st tm w ∧ Ext w I ι st.var st.arr w I ι out.st.var out.st.arr ∧ Fewer st out.st ∧ RX w I0 out.val u fp ∧ fp.Nodup ∧ (∀ b ∈ fp, Took st out.st ι (ptrS x) b) ∧
      (isCell out.val = true → ∃ m, ptrS x = [m] ∧ ∃ b, ι.v m = some b ∧ u = .pointer (some ⟨b, 0, none⟩)) ∧ (isCell out.val = false → ptrS x = []) := by
  have other : ∀ {y : C}, x = .c y → (∀ m o, y ≠ .pvar m o) → expC own y st = some out → _ := fun {y} (hxy : x = .c y) (hne : ∀ m o, y ≠ .pvar m o) (he : expC own y st = some out) => (by
    subst hxy
    obtain ⟨fp, h1, h2, h3, h4, h5, h6⟩ := expC_ok he hs hr hx hI hI0
    have hp : ptrS (.c y) = [] := by cases y <;> first | rfl | exact absurd rfl (hne _ _)
    have hc : isCell out.val = false ∧ RX w I0 out.val u fp := by
      cases hv : out.val with
      | c z => rw [hv] at h4; exact ⟨rfl, h4⟩
      | own s n g => rw [hv] at h4; exact ⟨rfl, h4⟩
      | agg _ => rw [hv] at h4; exact h4.elim
      | tup _ => rw [hv] at h4; exact h4.elim
      | cell _ => rw [hv] at h4; exact h4.elim
    exact ⟨fp, h1, h2, h3, hc.2, h5, fun b hb => .inl (h6 b hb), fun hcc => (by rw [hc.1] at hcc; cases hcc), fun _ => hp⟩ :
    ∃ fp, RelI X' I ι out.st tm w ∧ Ext w I ι st.var st.arr w I ι out.st.var out.st.arr ∧ Fewer st out.st ∧ RX w I0 out.val u fp ∧ fp.Nodup ∧ (∀ b ∈ fp, Took st out.st ι (ptrS x) b) ∧
      (isCell out.val = true → ∃ m, ptrS x = [m] ∧ ∃ b, ι.v m = some b ∧ u = .pointer (some ⟨b, 0, none⟩)) ∧ (isCell out.val = false → ptrS x = []))
  cases x with
  | c y =>
    cases y with
    | pvar m o =>
      unfold expS at h
      obtain ⟨o1, o2, h1, h2, v1, s1, d1⟩ := bind_inv h
      obtain ⟨e1, e2⟩ := guard_inv h1
      rw [e2] at h2
      obtain rfl := Nat.eq_of_beq_eq_true e1
      obtain ⟨o3, o4, h3, h4, v2, s2, d2⟩ := bind_inv h2
      obtain ⟨e3, e4⟩ := varOf_inv h3
      rw [e4] at h4
      obtain ⟨o5, o6, h5, h6, v3, s3, d3⟩ := bind_inv h4
      have hp := pure_inv h6
      obtain ⟨hm, b, hb, rfl⟩ := hx
      obtain ⟨b', f, hok⟩ := hr.vars m _ e3
      rw [hok.at_] at hb; injection hb with hb; subst hb
      obtain ⟨fp, q1, q2, q3, q4, q5, q6⟩ := expCs_ok (us := (List.range o3.val.length).map f) h5 (d3 (d2 (d1 hs).2).2).1 hr (by simp) (fun j x hx => by
        have hj : j < o3.val.length := by
          rcases Nat.lt_or_ge j o3.val.length with h' | h'
          · exact h'
          · rw [List.getElem?_eq_none h'] at hx; cases hx
        exact ⟨f j, by simp [hj], (hok.cell j x hx).2.2⟩) hI (fun hh => by cases hh)
      have hst : out.st = o5.st := by rw [s1, s2, s3, hp]
      have hv : out.val = .cell o5.val := by rw [v1, v2, v3, hp]
      rw [hst, hv]
      refine ⟨b' :: fp, q1, q2, q3, ⟨b', (List.range o3.val.length).map f, fp, rfl, ⟨hok.lt, fun j u hu => ?_⟩, q4, rfl⟩, ?_, ?_, fun _ => ⟨m, rfl, b', hok.at_, rfl⟩, fun hc => by cases hc⟩
      · rw [List.getElem?_map] at hu
        have hj : j < o3.val.length := by
          rcases Nat.lt_or_ge j o3.val.length with h' | h'
          · exact h'
          · rw [List.getElem?_eq_none (by simpa using h')] at hu; cases hu
        rw [List.getElem?_range hj] at hu
        simp only [Option.map_some, Option.some.injEq] at hu
        subst hu
        obtain ⟨z1, z2, _⟩ := hok.cell j _ (List.getElem?_eq_getElem hj)
        exact ⟨z1, z2⟩
      · refine List.nodup_cons.mpr ⟨fun hb => ?_, q5⟩
        obtain ⟨m', A, c, r1, r2, r3, r4⟩ := q6 b' hb
        exact hr.va m m' A b' c hm r1 hok.at_ r3
      · intro c hc
        rcases List.mem_cons.mp hc with rfl | hc
        · exact .inr ⟨m, by simp [ptrS], hm, hok.at_⟩
        · exact .inl (q6 c hc)
    | v z => exact other rfl (by simp) h
    | nil z => exact other rfl (by simp) h
    | lst a b c => exact other rfl (by simp) h
    | ref a b => exact other rfl (by simp) h
    | pelem a b c => exact other rfl (by simp) h
    | pimm a b => exact other rfl (by simp) h
    | err b => exact other rfl (by simp) h
    | undef => exact other rfl (by simp) h
  | agg cs =>
    unfold expS at h
    obtain ⟨o1, o2, h1, h2, v1, s1, d1⟩ := bind_inv h
    have hp := pure_inv h2
    obtain ⟨us, rfl, hc⟩ := hx
    obtain ⟨fp, q1, q2, q3, q4, q5, q6⟩ := expCs_ok (us := us.toList) h1 (d1 hs).1 hr (by rw [Array.length_toList]; exact hc.1) (by simpa using hc.2) hI (fun ho y hy m hm => hI0 ho m (List.mem_flatMap.mpr ⟨y, hy, hm⟩))
    have hst : out.st = o1.st := by rw [s1, hp]
    have hv : out.val = .agg o1.val := by rw [v1, hp]
    rw [hst, hv]
    exact ⟨fp, q1, q2, q3, ⟨us, rfl, q4⟩, q5, fun b hb => .inl (q6 b hb), (fun hc => by cases hc), fun _ => rfl⟩
  | tup ss => exact absurd h (by simp [expS, fail])
  | sp _ => exact absurd h (by simp [expS, fail])

theorem Took.later {a b c : St} {ι : Im} {ps : List Name} {n : Nat} (h : Took a b ι ps n) (k : Fewer b c) : Took a c ι ps n := by
  rcases h with h | h
  · exact .inl (h.later k)
  · exact .inr h
theorem Took.earlier {a b c : St} {ι : Im} {ps : List Name} {n : Nat} (h : Took b c ι ps n) (k : Fewer a b) : Took a c ι ps n := by
  rcases h with h | h
  · exact .inl (h.earlier k)
  · rw [k.var] at h; exact .inr h
theorem Took.more {a b : St} {ι : Im} {ps qs : List Name} {n : Nat} (h : Took a b ι ps n) (k : ∀ m ∈ ps, m ∈ qs) : Took a b ι qs n := by
  rcases h with h | ⟨m, hm, h⟩
  · exact .inl h
  · exact .inr ⟨m, k m hm, h⟩

/-- Which values of the arguments are pointers to variables. -/
def Al (ι : Im) : List S → List X → List Value → Prop
  | [], [], [] => True
  | x :: l, y :: xs, u :: us => (if isCell y = true then ∃ m b, ptrS x = [m] ∧ ι.v m = some b ∧ u = .pointer (some ⟨b, 0, none⟩) else ptrS x = []) ∧ Al ι l xs us
  | _, _, _ => False

theorem expSs_ok : ∀ {l : List S} {bs : List Bool} {us : List Value} {st : St} {out : Out (List X)} {I0 : Nat → Prop}, expSs bs l st = some out → out.side → RelI X' I ι st tm w → us.length = l.length → (∀ (j : Nat) x, l[j]? = some x → ∃ y, us[j]? = some y ∧ Rs w I ι st.var st.arr x y) →
    (∀ b, I b → I0 b) → (∀ m ∈ immRefs bs l, ∀ b c, ι.a m = some (b, c) → I0 b) → (l.flatMap ptrS).Nodup →
    ∃ fp, RelI X' I ι out.st tm w ∧ Ext w I ι st.var st.arr w I ι out.st.var out.st.arr ∧ Fewer st out.st ∧ RXl w I0 out.val us fp ∧ fp.Nodup ∧ (∀ b ∈ fp, Took st out.st ι (l.flatMap ptrS) b) ∧ Al ι l out.val us := by
  intro l
  induction l with
  | nil =>
    intro bs us st out I0 h hs hr hl hc hI hI0 hnd
    have hp : out = ⟨[], st, [], [], []⟩ := by unfold expSs at h; exact pure_inv h
    rw [hp]
    cases us with
    | nil => exact ⟨[], hr, .refl .., .refl _, rfl, List.nodup_nil, by simp, trivial⟩
    | cons _ _ => simp at hl
  | cons x r ih =>
    intro bs us st out I0 h hs hr hl hc hI hI0 hnd
    cases us with
    | nil => simp at hl
    | cons u us =>
      have main : ∀ (own : Bool) (bs' : List Bool), (do let y ← expS own x; let l ← expSs bs' r; pure (y :: l) : M (List X)) st = some out → (own = false → ∀ m ∈ refsS x, ∀ b c, ι.a m = some (b, c) → I0 b) → (∀ m ∈ immRefs bs' r, ∀ b c, ι.a m = some (b, c) → I0 b) → _ := fun own bs' (h : (do let y ← expS own x; let l ← expSs bs' r; pure (y :: l) : M (List X)) st = some out) (hA : own = false → ∀ m ∈ refsS x, ∀ b c, ι.a m = some (b, c) → I0 b) (hB : ∀ m ∈ immRefs bs' r, ∀ b c, ι.a m = some (b, c) → I0 b) => (by
        obtain ⟨o1, o2, h1, h2, v1, s1, d1⟩ := bind_inv h
        obtain ⟨y, hy, hxy⟩ := hc 0 x rfl
        simp at hy; subst hy
        rw [List.flatMap_cons, List.nodup_append] at hnd
        obtain ⟨f1, hr1, E1, F1, R1, N1, G1, P1, P2⟩ := expS_ok h1 (d1 hs).1 hr hxy hI hA
        obtain ⟨o3, o4, h3, h4, v2, s2, d2⟩ := bind_inv h2
        have hp := pure_inv h4
        obtain ⟨f2, hr2, E2, F2, R2, N2, G2, Q2⟩ := ih (us := us) h3 (d2 (d1 hs).2).1 hr1 (by simpa using hl) (fun j z hz => by
          obtain ⟨y', hy', hc'⟩ := hc (j + 1) z (by simpa using hz)
          exact ⟨y', by simpa using hy', hc'.ext E1⟩) hI hB hnd.2.1
        have hst : out.st = o3.st := by rw [s1, s2, hp]
        have hv : out.val = o1.val :: o3.val := by rw [v1, v2, hp]
        rw [hst, hv]
        refine ⟨f1 ++ f2, hr2, E1.trans E2, F1.trans F2, ⟨f1, f2, rfl, R1, R2⟩, ?_, fun b hb => ?_, ?_⟩
        · rw [List.nodup_append]
          refine ⟨N1, N2, fun a ha b hb => ?_⟩
          rcases G1 a ha with g1 | ⟨m1, hm1, hv1, hi1⟩
          · rcases G2 b hb with g2 | ⟨m2, hm2, hv2, hi2⟩
            · exact Gone.apart hr g1 g2 F1
            · rintro rfl
              obtain ⟨m', A, c, r1, r2, r3, r4⟩ := g1
              rw [F1.var] at hv2
              exact hr.va m2 m' A a c hv2 r1 hi2 r3
          · rcases G2 b hb with g2 | ⟨m2, hm2, hv2, hi2⟩
            · rintro rfl
              obtain ⟨m', A, c, r1, r2, r3, r4⟩ := g2
              rw [← F1.var] at hv1
              exact hr1.va m1 m' A a c hv1 r1 hi1 r3
            · rintro rfl
              rw [F1.var] at hv2
              have := hr.vv m1 m2 a hv1 hv2 hi1 hi2
              exact hnd.2.2 m1 hm1 m2 hm2 this
        · rw [List.flatMap_cons]
          rcases List.mem_append.mp hb with hb | hb
          · exact ((G1 b hb).later F2).more (fun m hm => List.mem_append.mpr (.inl hm))
          · exact ((G2 b hb).earlier F1).more (fun m hm => List.mem_append.mpr (.inr hm))
        · refine ⟨?_, Q2⟩
          cases hcell : isCell o1.val with
          | true =>
            rw [if_pos rfl]
            obtain ⟨m, hm, b, hb, hu⟩ := P1 hcell
            exact ⟨m, b, hm, hb, hu⟩
          | false =>
            rw [if_neg (by simp)]
            exact P2 hcell :
        ∃ fp, RelI X' I ι out.st tm w ∧ Ext w I ι st.var st.arr w I ι out.st.var out.st.arr ∧ Fewer st out.st ∧ RXl w I0 out.val (u :: us) fp ∧ fp.Nodup ∧ (∀ b ∈ fp, Took st out.st ι ((x :: r).flatMap ptrS) b) ∧ Al ι (x :: r) out.val (u :: us))
      cases bs with
      | nil =>
        unfold expSs at h
        exact main false [] h (fun _ m hm => hI0 m (by unfold immRefs; exact List.mem_append.mpr (.inl hm))) (fun m hm => hI0 m (by unfold immRefs; exact List.mem_append.mpr (.inr hm)))
      | cons b bs =>
        unfold expSs at h
        cases b with
        | true => exact main true bs h (fun e => by cases e) (fun m hm => hI0 m (by unfold immRefs; exact hm))
        | false => exact main false bs h (fun _ m hm => hI0 m (by unfold immRefs; exact List.mem_append.mpr (.inl hm))) (fun m hm => hI0 m (by unfold immRefs; exact List.mem_append.mpr (.inr hm)))

/-! ### told otherwise -/
theorem RowOk.eqG {A B : Arr} {b cap : Nat} {f : Nat → Nat → Value} (h : RowOk w I A b cap f) (hs : A.s = B.s) (hn : A.n = B.n) (hg : ∀ i, i < A.n → A.g i = B.g i) : RowOk w I B b cap f := by
  obtain ⟨fr, s, n, g⟩ := A
  obtain ⟨fr', s', n', g'⟩ := B
  simp only at hs hn hg
  subst hs hn
  exact ⟨h.lt, h.pos, h.fit, h.max, h.there, fun i hi => by show (g' i).length = s; rw [← hg i hi]; exact h.len i hi, fun i j x hi hx => h.cell i j x hi (by show (g i)[j]? = some x; rw [hg i hi]; exact hx), fun i j x hi hx => h.rel i j x hi (by show (g i)[j]? = some x; rw [hg i hi]; exact hx)⟩

theorem RXc.eqX {I0 : Nat → Prop} {x y : X} {u : Value} {fp : List Nat} (h : RXc w I0 x u fp) (e : EqX x y) : RXc w I0 y u fp := by
  cases x with
  | c a =>
    obtain ⟨hf, ha⟩ := h
    cases y with
    | c b => exact ⟨hf, ha.eqC (by simpa [EqX] using e)⟩
    | own s n g =>
      unfold EqX at e
      split at e
      · rename_i h1 h2; cases h2
      · rename_i h1 h2; cases h1; cases h2; subst e; cases ha; exact .inl ⟨rfl, rfl, hf⟩
      · rename_i h1 h2; cases h1; cases h2; subst e; cases ha; exact .inl ⟨rfl, rfl, hf⟩
      all_goals (rename_i h1 h2; first | cases h1 | cases h2 | exact e.elim)
    | agg l => cases a <;> simp [EqX] at e
    | tup l => cases a <;> simp [EqX] at e
    | cell l => cases a <;> simp [EqX] at e
  | own s n g =>
    cases y with
    | own s' n' g' =>
      simp only [EqX] at e
      obtain ⟨hn, hs, hg⟩ := e
      rcases h with ⟨h1, h2, h3⟩ | ⟨b, cap, f, h1, h2, h3⟩
      · exact .inl ⟨h1, by rw [← hn]; exact h2, h3⟩
      · exact .inr ⟨b, cap, f, by rw [← hn]; exact h1, h2, h3.eqG hs hn hg⟩
    | _ => simp [EqX] at e
  | agg l => exact h.elim
  | tup l => exact h.elim
  | cell l => exact h.elim
theorem RXcs.eqX {I0 : Nat → Prop} : ∀ {xs ys : List X} {us : List Value} {fp : List Nat}, RXcs w I0 xs us fp → EqX (.agg xs) (.agg ys) → RXcs w I0 ys us fp := by
  intro xs
  induction xs with
  | nil =>
    intro ys us fp h e
    cases ys with
    | nil => exact h
    | cons y ys => simp [EqX] at e
  | cons x xs ih =>
    intro ys us fp h e
    cases ys with
    | nil => simp [EqX] at e
    | cons y ys =>
      cases us with
      | nil => exact h.elim
      | cons u us =>
        obtain ⟨f1, f2, h1, h2, h3⟩ := h
        unfold EqX at e
        exact ⟨f1, f2, h1, h2.eqX e.1, ih h3 e.2⟩
theorem eqX_cells : ∀ {xs ys : List X}, EqX (.cell xs) (.cell ys) → EqX (.agg xs) (.agg ys) := by
  intro xs
  induction xs with
  | nil =>
    intro ys e
    cases ys with
    | nil => simp [EqX]
    | cons y ys => simp [EqX] at e
  | cons x xs ih =>
    intro ys e
    cases ys with
    | nil => simp [EqX] at e
    | cons y ys =>
      unfold EqX at e ⊢
      exact ⟨e.1, ih e.2⟩
theorem RX.eqX {I0 : Nat → Prop} {x y : X} {u : Value} {fp : List Nat} (h : RX w I0 x u fp) (e : EqX x y) : RX w I0 y u fp ∧ isCell x = isCell y := by
  cases x with
  | c a =>
    have h' := RXc.eqX (x := .c a) h e
    cases y with
    | c b => exact ⟨h', rfl⟩
    | own s n g => exact ⟨h', rfl⟩
    | agg l => cases a <;> simp [EqX] at e
    | tup l => cases a <;> simp [EqX] at e
    | cell l => cases a <;> simp [EqX] at e
  | own s n g =>
    have h' := RXc.eqX (x := .own s n g) h e
    cases y with
    | c b => simp [EqX] at e
    | own s n g => exact ⟨h', rfl⟩
    | _ => simp [EqX] at e
  | agg l =>
    cases y with
    | agg l' => obtain ⟨us, h1, h2⟩ := h; exact ⟨⟨us, h1, h2.eqX e⟩, rfl⟩
    | c b => cases b <;> cases l <;> simp [EqX] at e
    | _ => cases l <;> simp [EqX] at e
  | tup l => exact h.elim
  | cell l =>
    cases y with
    | cell l' => obtain ⟨b, us, f', h1, h2, h3, h4⟩ := h; exact ⟨⟨b, us, f', h1, h2, h3.eqX (eqX_cells e), h4⟩, rfl⟩
    | c b => cases b <;> cases l <;> simp [EqX] at e
    | _ => cases l <;> simp [EqX] at e
theorem RXl.eqX {I0 : Nat → Prop} : ∀ {xs ys : List X} {us : List Value} {fp : List Nat} {l : List S}, RXl w I0 xs us fp → EqXs xs ys → Al ι l xs us → RXl w I0 ys us fp ∧ Al ι l ys us := by
  intro xs
  induction xs with
  | nil =>
    intro ys us fp l h e p
    cases ys with
    | nil => exact ⟨h, p⟩
    | cons y ys => simp [EqXs] at e
  | cons x xs ih =>
    intro ys us fp l h e p
    cases ys with
    | nil => simp [EqXs] at e
    | cons y ys =>
      cases us with
      | nil => exact h.elim
      | cons u us =>
        cases l with
        | nil => exact p.elim
        | cons z l =>
          obtain ⟨f1, f2, h1, h2, h3⟩ := h
          obtain ⟨e1, e2⟩ := e
          obtain ⟨q1, q2⟩ := h2.eqX e1
          obtain ⟨p1, p2⟩ := p
          obtain ⟨r1, r2⟩ := ih h3 e2 p2
          exact ⟨⟨f1, f2, h1, q1, r1⟩, by rw [← q2]; exact p1, r2⟩
end
end Go.Ev
namespace Go.Ev
open Go Go.RowKit
set_option linter.unusedVariables false

section
variable {X' : Ctx} {I : Nat → Prop} {ι : Im} {st : St} {tm : Array Value} {w : World} {P : Program} {T : Tab}

theorem liveAll_inv : ∀ {l : List Name} {out : Out Unit}, liveAll l st = some out → out.st = st ∧ ∀ m ∈ l, ∃ A, st.arr m = some (some A) := by
  intro l
  induction l with
  | nil => intro out h; have hp := pure_inv h; rw [hp]; exact ⟨rfl, by simp⟩
  | cons m r ih =>
    intro out h
    unfold liveAll at h
    obtain ⟨o1, o2, h1, h2, v1, s1, d1⟩ := bind_inv h
    obtain ⟨e1, e2⟩ := liveA_inv h1
    rw [e2] at h2
    obtain ⟨q1, q2⟩ := ih h2
    refine ⟨s1.trans q1, fun k hk => ?_⟩
    rcases List.mem_cons.mp hk with rfl | hk
    · exact ⟨_, e1⟩
    · exact q2 k hk

theorem freezeAll_ok : ∀ {l : List Name} {st : St} {I : Nat → Prop} {out : Out Unit}, freezeAll l st = some out → RelI X' I ι st tm w →
    ∃ I', RelI X' I' ι out.st tm w ∧ Ext w I ι st.var st.arr w I' ι out.st.var out.st.arr ∧ out.st.var = st.var ∧ (∀ m ∈ l, (∃ A, st.arr m = some (some A)) ∧ ∀ b c, ι.a m = some (b, c) → I' b) ∧ (∀ b, I' b → I b ∨ ∃ m ∈ l, ∃ c, ι.a m = some (b, c)) ∧ (∀ m, (∃ D, out.st.arr m = some (some D)) ↔ ∃ D, st.arr m = some (some D)) ∧ (∀ m, out.st.arr m = some none ↔ st.arr m = some none) := by
  intro l
  induction l with
  | nil =>
    intro st I out h hr
    have hp := pure_inv h
    rw [hp]
    exact ⟨I, hr, .refl .., rfl, by simp, fun b hb => .inl hb, fun _ => Iff.rfl, fun _ => Iff.rfl⟩
  | cons m r ih =>
    intro st I out h hr
    unfold freezeAll at h
    obtain ⟨o1, o2, h1, h2, v1, s1, d1⟩ := bind_inv h
    obtain ⟨e1, e2⟩ := liveA_inv h1
    rw [e2] at h2
    obtain ⟨o3, o4, h3, h4, v2, s2, d2⟩ := bind_inv h2
    have hw3 : o3.st = { st with arrs := (m, some { o1.val with frozen := true }) :: st.arrs } := by obtain rfl := Option.some.inj h3; rfl
    rw [hw3] at h4
    have har : ∀ k, ({ st with arrs := (m, some { o1.val with frozen := true }) :: st.arrs } : St).arr k = if k = m then some (some { o1.val with frozen := true }) else st.arr k := arr_cons st m _
    -- the same freeze, with what I' is
    obtain ⟨I1, hr1, E1, hI1⟩ := hr.freeze e1
    have hsub : ∃ I1, RelI X' I1 ι { st with arrs := (m, some { o1.val with frozen := true }) :: st.arrs } tm w ∧ Ext w I ι st.var st.arr w I1 ι st.var ({ st with arrs := (m, some { o1.val with frozen := true }) :: st.arrs } : St).arr ∧ (∀ b c, ι.a m = some (b, c) → I1 b) ∧ (∀ b, I1 b → I b ∨ ∃ c, ι.a m = some (b, c)) := hr.freeze' e1
    obtain ⟨I1, hr1, E1, hI1, hI1'⟩ := hsub
    obtain ⟨I2, hr2, E2, hv2, hl2, hs2, hll, hdd⟩ := ih h4 hr1
    refine ⟨I2, by rw [s1, s2]; exact hr2, by rw [s1, s2]; exact E1.trans E2, by rw [s1, s2, hv2]; rfl, fun k hk => ?_, fun b hb => ?_, fun k => ?_, fun k => ?_⟩
    · rcases List.mem_cons.mp hk with rfl | hk
      · exact ⟨⟨_, e1⟩, fun b c hb => E2.hI b (hI1 b c hb)⟩
      · obtain ⟨⟨A, hA⟩, h5⟩ := hl2 k hk
        refine ⟨?_, h5⟩
        rw [har] at hA
        by_cases e : k = m
        · subst e; exact ⟨_, e1⟩
        · rw [if_neg e] at hA; exact ⟨A, hA⟩
    · rcases hs2 b hb with hb | ⟨k, hk, c, hc⟩
      · rcases hI1' b hb with hb | ⟨c, hc⟩
        · exact .inl hb
        · exact .inr ⟨m, List.mem_cons_self .., c, hc⟩
      · exact .inr ⟨k, List.mem_cons_of_mem _ hk, c, hc⟩
    · rw [s1, s2, hll k, har]
      by_cases e : k = m
      · subst e; rw [if_pos rfl]; exact ⟨fun _ => ⟨_, e1⟩, fun _ => ⟨_, rfl⟩⟩
      · rw [if_neg e]
    · rw [s1, s2, hdd k, har]
      by_cases e : k = m
      · subst e; rw [if_pos rfl, e1]; simp
      · rw [if_neg e]

/-- Nothing is told of what a variable holds. -/
theorem RelI.blank (h : RelI X' I ι st tm w) {m : Name} {cs : List C} (hm : st.var m = some cs) :
    RelI X' I ι { st with vars := (m, []) :: st.vars } tm w ∧ Ext w I ι st.var st.arr w I ι ({ st with vars := (m, []) :: st.vars } : St).var st.arr := by
  have hva : ∀ k, ({ st with vars := (m, []) :: st.vars } : St).var k = if k = m then some [] else st.var k := var_cons st m _
  have E : Ext w I ι st.var st.arr w I ι ({ st with vars := (m, []) :: st.vars } : St).var st.arr := by
    refine ⟨fun _ _ => rfl, fun _ h => h, fun k hk => ⟨?_, rfl⟩, fun _ h => h, fun k A hA => .inr ⟨A, hA, rfl, rfl, rfl⟩⟩
    rw [hva]; split
    · simp
    · exact hk
  have ne : ∀ k, ({ st with vars := (m, []) :: st.vars } : St).var k ≠ none → st.var k ≠ none := by
    intro k hk
    rw [hva] at hk
    by_cases e : k = m
    · rw [e, hm]; simp
    · rw [if_neg e] at hk; exact hk
  refine ⟨?_, E⟩
  refine h.upd E rfl (fun _ => rfl) (Nat.le_refl _) h.fr ?_ ?_ h.inI (fun k k' c hk hk' => h.vv k k' c (ne k hk) (ne k' hk')) (fun k k' A c d hk => h.va k k' A c d (ne k hk)) h.aa
  · intro k cs' hk
    rw [hva] at hk
    by_cases e : k = m
    · subst e
      rw [if_pos rfl] at hk
      injection hk with hk; subst hk
      obtain ⟨b, f, hok⟩ := h.vars k cs hm
      exact .inr ⟨b, f, hok.at_, hok.lt, hok.notI, hok.mine, by simp⟩
    · rw [if_neg e] at hk
      refine .inl ⟨hk, fun c hc => ?_⟩
      obtain ⟨c', f', hok⟩ := h.vars k cs' hk
      rw [hok.at_] at hc; injection hc with hc; subst hc
      exact ⟨rfl, hok.notI⟩
  · intro k A hA
    refine .inl ⟨hA, rfl, fun c d hc => ⟨rfl, fun hf => ?_⟩⟩
    have := h.arrs k A hA
    rw [hc] at this
    have := this.2
    rw [hf] at this
    exact this.1

theorem blankAll_ok : ∀ {l : List Name} {st : St} {out : Out Unit}, blankAll l st = some out → RelI X' I ι st tm w →
    RelI X' I ι out.st tm w ∧ Ext w I ι st.var st.arr w I ι out.st.var out.st.arr ∧ (∀ m ∈ l, out.st.var m = some []) ∧ (∀ m, (out.st.var m ≠ none ↔ st.var m ≠ none)) ∧ out.st.arr = st.arr := by
  intro l
  induction l with
  | nil => intro st out h hr; have hp := pure_inv h; rw [hp]; exact ⟨hr, .refl .., by simp, fun _ => Iff.rfl, rfl⟩
  | cons m r ih =>
    intro st out h hr
    unfold blankAll at h
    obtain ⟨o1, o2, h1, h2, v1, s1, d1⟩ := bind_inv h
    obtain ⟨e1, e2⟩ := varOf_inv h1
    rw [e2] at h2
    obtain ⟨o3, o4, h3, h4, v2, s2, d2⟩ := bind_inv h2
    have hw3 : o3.st = { st with vars := (m, []) :: st.vars } := by obtain rfl := Option.some.inj h3; rfl
    rw [hw3] at h4
    have hva : ∀ k, ({ st with vars := (m, []) :: st.vars } : St).var k = if k = m then some [] else st.var k := var_cons st m _
    obtain ⟨hr1, E1⟩ := hr.blank e1
    obtain ⟨hr2, E2, hb2, hn2, ha2⟩ := ih h4 hr1
    have keep : ∀ (l : List Name) (st : St) (out : Out Unit), blankAll l st = some out → st.var m = some [] → out.st.var m = some [] := by
      intro l
      induction l with
      | nil => intro st out h hm; have hp := pure_inv h; rw [hp]; exact hm
      | cons k r ih =>
        intro st out h hm
        unfold blankAll at h
        obtain ⟨p1, p2, g1, g2, w1, t1, _⟩ := bind_inv h
        obtain ⟨f1, f2⟩ := varOf_inv g1
        rw [f2] at g2
        obtain ⟨p3, p4, g3, g4, w2, t2, _⟩ := bind_inv g2
        have hw : p3.st = { st with vars := (k, []) :: st.vars } := by obtain rfl := Option.some.inj g3; rfl
        rw [hw] at g4
        rw [t1, t2]
        refine ih _ _ g4 ?_
        rw [var_cons]; split
        · rfl
        · exact hm
    refine ⟨by rw [s1, s2]; exact hr2, by rw [s1, s2]; exact E1.trans E2, fun k hk => ?_, fun k => ?_, by rw [s1, s2, ha2]; rfl⟩
    · rw [s1, s2]
      rcases List.mem_cons.mp hk with rfl | hk
      · exact keep r _ _ h4 (by rw [hva, if_pos rfl])
      · exact hb2 k hk
    · rw [s1, s2, hn2 k, hva]
      by_cases e : k = m
      · subst e; rw [if_pos rfl, e1]; simp
      · rw [if_neg e]

/-- The world behind a call: what went along may have turned, nothing else has. -/
theorem RelI.called {w' : World} {I2 : Nat → Prop} {fp : List Nat} (h : RelI X' I ι st tm w) (hF : Fr w.heap.size (· ∈ fp) w w') (hfp : ∀ b ∈ fp, ¬ I b ∧ X'.mine b) (hv : ∀ b ∈ fp, ∀ k cs, st.var k = some cs → ι.v k = some b → cs = [])
    (ha : ∀ b ∈ fp, ∀ k D c, st.arr k = some (some D) → ι.a k ≠ some (b, c)) (hI : ∀ b, I b → I2 b) (h2 : ∀ b, I2 b → b < w'.heap.size ∧ (X'.I0 b ∨ X'.mine b)) (h2v : ∀ k b, st.var k ≠ none → ι.v k = some b → ¬ I2 b)
    (h2a : ∀ k D b c, st.arr k = some (some D) → D.frozen = false → ι.a k = some (b, c) → ¬ I2 b) : RelI X' I2 ι st tm w' ∧ Ext w I ι st.var st.arr w' I2 ι st.var st.arr := by
  have same : ∀ b, b < w.heap.size → b ∉ fp → w'.heap[b]? = w.heap[b]? := fun b hb hn => hF.block b hb hn
  have E : Ext w I ι st.var st.arr w' I2 ι st.var st.arr :=
    ⟨fun b hb => same b (h.inI b hb).1 (fun hm => (hfp b hm).1 hb), hI, fun m hm => ⟨hm, rfl⟩, fun _ h => h, fun m A hA => .inr ⟨A, hA, rfl, rfl, rfl⟩⟩
  refine ⟨?_, E⟩
  refine h.upd E rfl (fun _ => rfl) hF.size (h.fr.step hF.os hF.tape hF.output hF.size ?_) ?_ ?_ h2 h.vv h.va h.aa
  · intro k hk he
    refine same k (Nat.lt_of_lt_of_le hk h.fr.size) (fun hm => ?_)
    rcases (hfp k hm).2 with hx | hx
    · omega
    · exact he hx
  · intro k cs hk
    obtain ⟨b, f, hok⟩ := h.vars k cs hk
    by_cases hb : b ∈ fp
    · have := hv b hb k cs hk hok.at_
      subst this
      exact .inr ⟨b, f, hok.at_, Nat.lt_of_lt_of_le hok.lt hF.size, h2v k b (by rw [show st.var k = some [] from hk]; simp) hok.at_, hok.mine, by simp⟩
    · refine .inl ⟨hk, fun c hc => ?_⟩
      rw [hok.at_] at hc; injection hc with hc; subst hc
      exact ⟨same b hok.lt hb, h2v k b (by rw [show st.var k = some cs from hk]; simp) hok.at_⟩
  · intro k D hD
    refine .inl ⟨hD, rfl, fun b c hb => ⟨same b ?_ (fun hm => ha b hm k D c hD hb), fun hf => h2a k D b c hD hf hb⟩⟩
    have := h.arrs k D hD
    rw [hb] at this
    exact this.1.choose_spec.lt

/-! ### results come in -/
theorem RelI.addV (h : RelI X' I ι st tm w) {m : Name} (hm : st.var m = none) {b : Nat} {l : List C} {us : List Value} (hI : ¬ I b) (hmine : X'.mine b) (hu : Unused st ι b) (hc : Cells w b us) (hlen : us.length = l.length) (hl : ∀ (j : Nat) x, l[j]? = some x → ∃ y, us[j]? = some y ∧ Rc w I ι st.var st.arr x y) :
    ∃ ι', RelI X' I ι' { st with vars := (m, l) :: st.vars } tm w ∧ Ext w I ι st.var st.arr w I ι' ({ st with vars := (m, l) :: st.vars } : St).var st.arr ∧ ι'.v m = some b ∧ ι'.a = ι.a ∧ ∀ k, k ≠ m → ι'.v k = ι.v k := by
  let ι' : Im := ⟨fun k => if k = m then some b else ι.v k, ι.a⟩
  have hva : ∀ k, ({ st with vars := (m, l) :: st.vars } : St).var k = if k = m then some l else st.var k := var_cons st m l
  have E : Ext w I ι st.var st.arr w I ι' ({ st with vars := (m, l) :: st.vars } : St).var st.arr := by
    refine ⟨fun _ _ => rfl, fun _ hb => hb, fun k hk => ?_, fun _ hk => hk, fun k A hA => .inr ⟨A, hA, rfl, rfl, rfl⟩⟩
    have hne : k ≠ m := fun e => hk (e ▸ hm)
    exact ⟨by rw [hva, if_neg hne]; exact hk, by simp [ι', hne]⟩
  refine ⟨ι', ?_, E, by simp [ι'], rfl, fun k hk => by simp [ι', hk]⟩
  refine h.upd E rfl (fun _ => rfl) (Nat.le_refl _) h.fr ?_ ?_ h.inI ?_ ?_ h.aa
  · intro k cs hk
    rw [hva] at hk
    by_cases e : k = m
    · subst e
      rw [if_pos rfl] at hk
      injection hk with hk
      subst hk
      refine .inr ⟨b, fun j => us.getD j undef, by simp [ι'], hc.1, hI, hmine, fun j x hx => ?_⟩
      obtain ⟨y, hy, hr⟩ := hl j x hx
      have hyd : us.getD j undef = y := by simp [hy]
      obtain ⟨c1, c2⟩ := hc.2 j y hy
      exact ⟨by rw [hyd]; exact c1, c2, by rw [hyd]; exact hr.ext E⟩
    · rw [if_neg e] at hk
      refine .inl ⟨hk, fun c hc' => ?_⟩
      obtain ⟨c', f', hok⟩ := h.vars k cs hk
      rw [hok.at_] at hc'; injection hc' with hc'; subst hc'
      exact ⟨rfl, hok.notI⟩
  · intro k A hA
    refine .inl ⟨hA, rfl, fun c d hc' => ⟨rfl, fun hf => ?_⟩⟩
    have := h.arrs k A hA
    rw [hc'] at this
    have := this.2
    rw [hf] at this
    exact this.1
  · intro k k' c hk hk' hb hb'
    rw [hva] at hk hk'
    simp only [ι'] at hb hb'
    by_cases e : k = m <;> by_cases e' : k' = m
    · rw [e, e']
    · rw [if_pos e] at hb; rw [if_neg e'] at hb' hk'
      injection hb with hb; subst hb
      exact absurd hb' (hu.1 k' hk')
    · rw [if_neg e] at hb hk; rw [if_pos e'] at hb'
      injection hb' with hb'; subst hb'
      exact absurd hb (hu.1 k hk)
    · rw [if_neg e] at hb hk; rw [if_neg e'] at hb' hk'
      exact h.vv k k' c hk hk' hb hb'
  · intro k k' A c d hk hA hb hb'
    rw [hva] at hk
    simp only [ι'] at hb hb'
    by_cases e : k = m
    · rw [if_pos e] at hb
      injection hb with hb; subst hb
      exact hu.2 k' A d hA hb'
    · rw [if_neg e] at hb hk
      exact h.va k k' A c d hk hA hb hb'

/-- A variable's content is told anew. -/
theorem RelI.tell (h : RelI X' I ι st tm w) {m : Name} {cs : List C} (hm : st.var m = some cs) {b : Nat} (hb : ι.v m = some b) {l : List C} {us : List Value} (hc : Cells w b us) (hl : ∀ (j : Nat) x, l[j]? = some x → ∃ y, us[j]? = some y ∧ Rc w I ι st.var st.arr x y) :
    RelI X' I ι { st with vars := (m, l) :: st.vars } tm w ∧ Ext w I ι st.var st.arr w I ι ({ st with vars := (m, l) :: st.vars } : St).var st.arr := by
  have hva : ∀ k, ({ st with vars := (m, l) :: st.vars } : St).var k = if k = m then some l else st.var k := var_cons st m _
  have E : Ext w I ι st.var st.arr w I ι ({ st with vars := (m, l) :: st.vars } : St).var st.arr := by
    refine ⟨fun _ _ => rfl, fun _ h => h, fun k hk => ⟨?_, rfl⟩, fun _ h => h, fun k A hA => .inr ⟨A, hA, rfl, rfl, rfl⟩⟩
    rw [hva]; split
    · simp
    · exact hk
  have ne : ∀ k, ({ st with vars := (m, l) :: st.vars } : St).var k ≠ none → st.var k ≠ none := by
    intro k hk
    rw [hva] at hk
    by_cases e : k = m
    · rw [e, hm]; simp
    · rw [if_neg e] at hk; exact hk
  refine ⟨?_, E⟩
  refine h.upd E rfl (fun _ => rfl) (Nat.le_refl _) h.fr ?_ ?_ h.inI (fun k k' c hk hk' => h.vv k k' c (ne k hk) (ne k' hk')) (fun k k' A c d hk => h.va k k' A c d (ne k hk)) h.aa
  · intro k cs' hk
    rw [hva] at hk
    by_cases e : k = m
    · subst e
      rw [if_pos rfl] at hk
      injection hk with hk; subst hk
      obtain ⟨b', f, hok⟩ := h.vars k cs hm
      rw [hok.at_] at hb; injection hb with hb; subst hb
      refine .inr ⟨b', fun j => us.getD j undef, hok.at_, hok.lt, hok.notI, hok.mine, fun j x hx => ?_⟩
      obtain ⟨y, hy, hr⟩ := hl j x hx
      have hyd : us.getD j undef = y := by simp [hy]
      obtain ⟨c1, c2⟩ := hc.2 j y hy
      exact ⟨by rw [hyd]; exact c1, c2, by rw [hyd]; exact hr.ext E⟩
    · rw [if_neg e] at hk
      refine .inl ⟨hk, fun c hc => ?_⟩
      obtain ⟨c', f', hok⟩ := h.vars k cs' hk
      rw [hok.at_] at hc; injection hc with hc; subst hc
      exact ⟨rfl, hok.notI⟩
  · intro k A hA
    refine .inl ⟨hA, rfl, fun c d hc => ⟨rfl, fun hf => ?_⟩⟩
    have := h.arrs k A hA
    rw [hc] at this
    have := this.2
    rw [hf] at this
    exact this.1

/-- What an import leaves free. -/
structure Imp (w : World) (I : Nat → Prop) (st : St) (ι : Im) (st' : St) (ι' : Im) (fp : List Nat) : Prop where
  ext : Ext w I ι st.var st.arr w I ι' st'.var st'.arr
  free : ∀ b, Unused st ι b → b ∉ fp → Unused st' ι' b
theorem Imp.refl (w : World) (I : Nat → Prop) (st : St) (ι : Im) : Imp w I st ι st ι [] := ⟨.refl .., fun b h _ => h⟩
theorem Imp.trans {a b c : St} {ι1 ι2 ι3 : Im} {f g : List Nat} (h : Imp w I a ι1 b ι2 f) (k : Imp w I b ι2 c ι3 g) : Imp w I a ι1 c ι3 (f ++ g) :=
  ⟨h.ext.trans k.ext, fun b hb hn => k.free b (h.free b hb (fun hm => hn (List.mem_append.mpr (.inl hm)))) (fun hm => hn (List.mem_append.mpr (.inr hm)))⟩

theorem impC_ok {base j : Nat} {x : X} {u : Value} {fp : List Nat} {out : Out (C × Nat)} (h : impC base j x st = some out) (hr : RelI X' I ι st tm w) (hx : RXc w I x u fp) (hfp : ∀ b ∈ fp, Unused st ι b ∧ ¬ I b ∧ X'.mine b) :
    ∃ ι', RelI X' I ι' out.st tm w ∧ Imp w I st ι out.st ι' fp ∧ Rc w I ι' out.st.var out.st.arr out.val.1 u := by
  unfold impC at h
  cases x with
  | own s n g =>
    obtain ⟨o1, o2, h1, h2, v1, s1, d1⟩ := bind_inv h
    have hp := pure_inv h2
    obtain ⟨f1, f2, f3⟩ := newA_inv h1
    have hst : out.st = { st with arrs := ((base, 4 * j), some ⟨false, s, n, g⟩) :: st.arrs } := by rw [s1, hp, f3]
    have hv : out.val.1 = .ref (base, 4 * j) n := by rw [v1, hp]; exact f2
    rw [hst, hv]
    have har := arr_cons st (base, 4 * j) (some ⟨false, s, n, g⟩)
    rcases hx with ⟨rfl, rfl, rfl⟩ | ⟨b, cap, f, rfl, rfl, hrow⟩
    · obtain ⟨ι', hr', E, ha⟩ := hr.newA0' f1 s g
      refine ⟨ι', hr', ⟨E, fun b hb _ => ⟨fun k hk hh => hb.1 k hk (by rw [← ha.2.1]; exact hh), fun k D c hk hh => ?_⟩⟩, ?_⟩
      · rw [har] at hk
        by_cases e : k = (base, 4 * j)
        · rw [e, ha.1] at hh; cases hh
        · rw [if_neg e] at hk
          rw [ha.2.2 k e] at hh
          exact hb.2 k D c hk hh
      · exact Rc_ref (w := w) (I := I) (ι := ι') (va := st.var) (A := ⟨false, s, 0, g⟩) (by rw [har, if_pos rfl]) (Nat.le_refl _) (by rw [ha.1]; exact ⟨rfl, rfl⟩)
    · obtain ⟨q1, q2, q3⟩ := hfp b (by simp)
      obtain ⟨ι', hr', E, ha⟩ := hr.addA' f1 (A := ⟨false, s, n, g⟩) rfl q2 q3 q1.1 q1.2 (fun _ _ => rfl) rfl ⟨rfl, rfl, rfl⟩ hrow
      refine ⟨ι', hr', ⟨E, fun c hc hn => ⟨fun k hk hh => hc.1 k hk (by rw [← ha.2.1]; exact hh), fun k D d hk hh => ?_⟩⟩, ?_⟩
      · rw [har] at hk
        by_cases e : k = (base, 4 * j)
        · rw [e, ha.1] at hh; injection hh with hh; injection hh with hh _
          exact hn (by simp [hh])
        · rw [if_neg e] at hk
          rw [ha.2.2 k e] at hh
          exact hc.2 k D d hk hh
      · exact Rc_ref (w := w) (I := I) (ι := ι') (va := st.var) (A := ⟨false, s, n, g⟩) (by rw [har, if_pos rfl]) (Nat.le_refl _) (by rw [ha.1]; rfl)
  | c y =>
    obtain ⟨o1, o2, h1, h2, v1, s1, d1⟩ := bind_inv h
    obtain ⟨e1, e2⟩ := ofO_inv h1
    rw [e2] at h2
    have hp := pure_inv h2
    obtain ⟨q1, _⟩ := immO_inv e1
    have hst : out.st = st := by rw [s1, hp]
    have hv : out.val.1 = y := by rw [v1, hp]; exact q1
    rw [hst, hv]
    obtain ⟨rfl, hy⟩ := hx
    exact ⟨ι, hr, .refl .., immB_Rc hy⟩
  | agg l => exact hx.elim
  | tup l => exact hx.elim
  | cell l => exact hx.elim

theorem impCs_ok {base : Nat} : ∀ {xs : List X} {j : Nat} {us : List Value} {fp : List Nat} {st : St} {ι : Im} {out : Out (List C × Nat)}, impCs base j xs st = some out → RelI X' I ι st tm w → RXcs w I xs us fp → fp.Nodup → (∀ b ∈ fp, Unused st ι b ∧ ¬ I b ∧ X'.mine b) →
    ∃ ι', RelI X' I ι' out.st tm w ∧ Imp w I st ι out.st ι' fp ∧ us.length = out.val.1.length ∧ ∀ (k : Nat) x, out.val.1[k]? = some x → ∃ y, us[k]? = some y ∧ Rc w I ι' out.st.var out.st.arr x y := by
  intro xs
  induction xs with
  | nil =>
    intro j us fp st ι out h hr hx hn hfp
    have hp : out = ⟨([], j), st, [], [], []⟩ := by unfold impCs at h; exact pure_inv h
    rw [hp]
    cases us with
    | nil => rw [show fp = [] from hx]; exact ⟨ι, hr, .refl .., rfl, by simp⟩
    | cons _ _ => exact hx.elim
  | cons x xs ih =>
    intro j us fp st ι out h hr hx hn hfp
    cases us with
    | nil => exact hx.elim
    | cons u us =>
      obtain ⟨f1, f2, rfl, hx1, hx2⟩ := hx
      unfold impCs at h
      obtain ⟨o1, o2, h1, h2, v1, s1, d1⟩ := bind_inv h
      obtain ⟨o3, o4, h3, h4, v2, s2, d2⟩ := bind_inv h2
      have hp := pure_inv h4
      rw [List.nodup_append] at hn
      obtain ⟨ι1, hr1, M1, R1⟩ := impC_ok h1 hr hx1 (fun b hb => hfp b (List.mem_append.mpr (.inl hb)))
      obtain ⟨ι2, hr2, M2, L2, R2⟩ := ih h3 hr1 hx2 hn.2.1 (fun b hb => by
        obtain ⟨q1, q2, q3⟩ := hfp b (List.mem_append.mpr (.inr hb))
        exact ⟨M1.free b q1 (fun hm => hn.2.2 b hm b hb rfl), q2, q3⟩)
      have hst : out.st = o3.st := by rw [s1, s2, hp]
      have hv : out.val.1 = o1.val.1 :: o3.val.1 := by rw [v1, v2, hp]
      rw [hst, hv]
      refine ⟨ι2, hr2, M1.trans M2, by simp [L2], fun k z hz => ?_⟩
      cases k with
      | zero => simp at hz; subst hz; exact ⟨u, rfl, R1.ext M2.ext⟩
      | succ k => exact R2 k z (by simpa using hz)

theorem impS_ok {base j : Nat} {x : X} {u : Value} {fp : List Nat} {out : Out (S × Nat)} (h : impS base j x st = some out) (hr : RelI X' I ι st tm w) (hx : RX w I x u fp) (hn : fp.Nodup) (hfp : ∀ b ∈ fp, Unused st ι b ∧ ¬ I b ∧ X'.mine b) :
    ∃ ι', RelI X' I ι' out.st tm w ∧ Imp w I st ι out.st ι' fp ∧ Rs1 w I ι' out.st.var out.st.arr out.val.1 u := by
  have other : ∀ {y : X}, (do let q ← impC base j y; pure ((.c q.1, q.2) : S × Nat) : M (S × Nat)) st = some out → RXc w I y u fp → ∃ ι', RelI X' I ι' out.st tm w ∧ Imp w I st ι out.st ι' fp ∧ Rs1 w I ι' out.st.var out.st.arr out.val.1 u := by
    intro y h hx
    obtain ⟨o1, o2, h1, h2, v1, s1, d1⟩ := bind_inv h
    have hp := pure_inv h2
    obtain ⟨ι', q1, q2, q3⟩ := impC_ok h1 hr hx hfp
    have hst : out.st = o1.st := by rw [s1, hp]
    have hv : out.val.1 = .c o1.val.1 := by rw [v1, hp]
    rw [hst, hv]
    exact ⟨ι', q1, q2, q3⟩
  cases x with
  | agg xs =>
    unfold impS at h
    obtain ⟨o1, o2, h1, h2, v1, s1, d1⟩ := bind_inv h
    have hp := pure_inv h2
    obtain ⟨us, rfl, hx⟩ := hx
    obtain ⟨ι', q1, q2, q3, q4⟩ := impCs_ok h1 hr hx hn hfp
    have hst : out.st = o1.st := by rw [s1, hp]
    have hv : out.val.1 = .agg o1.val.1 := by rw [v1, hp]
    rw [hst, hv]
    exact ⟨ι', q1, q2, us, rfl, by rw [← q3, Array.length_toList], by simpa using q4⟩
  | cell xs =>
    unfold impS at h
    obtain ⟨o1, o2, h1, h2, v1, s1, d1⟩ := bind_inv h
    obtain ⟨o3, o4, h3, h4, v2, s2, d2⟩ := bind_inv h2
    have hp := pure_inv h4
    obtain ⟨b, us, f', rfl, hc, hx, rfl⟩ := hx
    have hn' := List.nodup_cons.mp hn
    obtain ⟨ι1, q1, M1, q3, q4⟩ := impCs_ok h1 hr hx hn'.2 (fun c hc => hfp c (List.mem_cons_of_mem _ hc))
    obtain ⟨f1, f2, f3⟩ := newV_inv h3
    obtain ⟨r1, r2, r3⟩ := hfp b (List.mem_cons_self ..)
    obtain ⟨ι2, hr2, E2, t1, t2, t3⟩ := q1.addV f1 r2 r3 (M1.free b r1 hn'.1) hc q3 q4
    have hst : out.st = { o1.st with vars := ((base, 4 * o1.val.2), o1.val.1) :: o1.st.vars } := by rw [s1, s2, hp, f3]
    have hv : out.val.1 = .c (.pvar (base, 4 * o1.val.2) 0) := by rw [v1, v2, hp]; show S.c o3.val = _; rw [f2]
    rw [hst, hv]
    refine ⟨ι2, hr2, ⟨M1.ext.trans E2, fun c hc hnm => ?_⟩, ?_⟩
    · have hc1 := M1.free c hc (fun hm => hnm (List.mem_cons_of_mem _ hm))
      refine ⟨fun k hk hh => ?_, fun k D d hk hh => hc1.2 k D d hk (by rw [← t2]; exact hh)⟩
      rw [var_cons] at hk
      by_cases e : k = (base, 4 * o1.val.2)
      · rw [e, t1] at hh; injection hh with hh; exact hnm (by simp [hh])
      · rw [if_neg e] at hk
        rw [t3 k e] at hh
        exact hc1.1 k hk hh
    · exact ⟨by rw [var_cons, if_pos rfl]; simp, b, t1, rfl⟩
  | c y => exact other (y := .c y) h hx
  | own s n g => exact other (y := .own s n g) h hx
  | tup l => exact hx.elim

theorem impSs_ok {base : Nat} : ∀ {xs : List X} {j : Nat} {us : List Value} {fp : List Nat} {st : St} {ι : Im} {out : Out (List S × Nat)}, impSs base j xs st = some out → RelI X' I ι st tm w → RXl w I xs us fp → fp.Nodup → (∀ b ∈ fp, Unused st ι b ∧ ¬ I b ∧ X'.mine b) →
    ∃ ι', RelI X' I ι' out.st tm w ∧ Imp w I st ι out.st ι' fp ∧ ∀ (k : Nat) x, out.val.1[k]? = some x → ∃ y, us[k]? = some y ∧ Rs1 w I ι' out.st.var out.st.arr x y := by
  intro xs
  induction xs with
  | nil =>
    intro j us fp st ι out h hr hx hn hfp
    have hp : out = ⟨([], j), st, [], [], []⟩ := by unfold impSs at h; exact pure_inv h
    rw [hp]
    cases us with
    | nil => rw [show fp = [] from hx]; exact ⟨ι, hr, .refl .., by simp⟩
    | cons _ _ => exact hx.elim
  | cons x xs ih =>
    intro j us fp st ι out h hr hx hn hfp
    cases us with
    | nil => exact hx.elim
    | cons u us =>
      obtain ⟨f1, f2, rfl, hx1, hx2⟩ := hx
      unfold impSs at h
      obtain ⟨o1, o2, h1, h2, v1, s1, d1⟩ := bind_inv h
      obtain ⟨o3, o4, h3, h4, v2, s2, d2⟩ := bind_inv h2
      have hp := pure_inv h4
      rw [List.nodup_append] at hn
      obtain ⟨ι1, hr1, M1, R1⟩ := impS_ok h1 hr hx1 hn.1 (fun b hb => hfp b (List.mem_append.mpr (.inl hb)))
      obtain ⟨ι2, hr2, M2, R2⟩ := ih h3 hr1 hx2 hn.2.1 (fun b hb => by
        obtain ⟨q1, q2, q3⟩ := hfp b (List.mem_append.mpr (.inr hb))
        exact ⟨M1.free b q1 (fun hm => hn.2.2 b hm b hb rfl), q2, q3⟩)
      have hst : out.st = o3.st := by rw [s1, s2, hp]
      have hv : out.val.1 = o1.val.1 :: o3.val.1 := by rw [v1, v2, hp]
      rw [hst, hv]
      refine ⟨ι2, hr2, M1.trans M2, fun k z hz => ?_⟩
      cases k with
      | zero => simp at hz; subst hz; exact ⟨u, rfl, R1.ext M2.ext⟩
      | succ k => exact R2 k z (by simpa using hz)

theorem impR_ok {base j : Nat} {x : X} {u : Value} {fp : List Nat} {out : Out (S × Nat)} (h : impR base j x st = some out) (hr : RelI X' I ι st tm w) (hx : RXr w I x u fp) (hn : fp.Nodup) (hfp : ∀ b ∈ fp, Unused st ι b ∧ ¬ I b ∧ X'.mine b) :
    ∃ ι', RelI X' I ι' out.st tm w ∧ Imp w I st ι out.st ι' fp ∧ Rs w I ι' out.st.var out.st.arr out.val.1 u := by
  have up : ∀ {y : S} {ι' : Im} {va : VA} {ar : AR}, Rs1 w I ι' va ar y u → Rs w I ι' va ar y u := by
    intro y ι' va ar hy
    cases y with
    | c _ => exact hy
    | agg _ => exact hy
    | tup _ => exact hy.elim
    | sp _ => trivial
  cases x with
  | tup xs =>
    unfold impR at h
    obtain ⟨o1, o2, h1, h2, v1, s1, d1⟩ := bind_inv h
    have hp := pure_inv h2
    obtain ⟨us, rfl, hx⟩ := hx
    obtain ⟨ι', q1, q2, q3⟩ := impSs_ok h1 hr hx hn hfp
    have hst : out.st = o1.st := by rw [s1, hp]
    have hv : out.val.1 = .tup o1.val.1 := by rw [v1, hp]
    rw [hst, hv]
    exact ⟨ι', q1, q2, us, rfl, by simpa using q3⟩
  | c y => obtain ⟨ι', q1, q2, q3⟩ := impS_ok (x := .c y) h hr hx hn hfp; exact ⟨ι', q1, q2, up q3⟩
  | own s n g => obtain ⟨ι', q1, q2, q3⟩ := impS_ok (x := .own s n g) h hr hx hn hfp; exact ⟨ι', q1, q2, up q3⟩
  | agg l => obtain ⟨ι', q1, q2, q3⟩ := impS_ok (x := .agg l) h hr hx hn hfp; exact ⟨ι', q1, q2, up q3⟩
  | cell l => obtain ⟨ι', q1, q2, q3⟩ := impS_ok (x := .cell l) h hr hx hn hfp; exact ⟨ι', q1, q2, up q3⟩
end
end Go.Ev
namespace Go.Ev
open Go Go.RowKit
set_option linter.unusedVariables false

section
variable {X' : Ctx} {I : Nat → Prop} {ι : Im} {st : St} {tm : Array Value} {w : World} {P : Program} {T : Tab}

theorem putBack_ok {base : Nat} : ∀ {l : List S} {j : Nat} {xs : List X} {us : List Value} {ps : List (List X)} {fp : List Nat} {st : St} {ι ι0 : Im} {out : Out Nat}, putBack base j l ps st = some out → RelI X' I ι st tm w → Pouts w I xs us ps fp → Al ι0 l xs us → (∀ m ∈ l.flatMap ptrS, st.var m ≠ none ∧ ι.v m = ι0.v m) →
    fp.Nodup → (∀ b ∈ fp, Unused st ι b ∧ ¬ I b ∧ X'.mine b) → ∃ ι', RelI X' I ι' out.st tm w ∧ Ext w I ι st.var st.arr w I ι' out.st.var out.st.arr := by
  intro l
  induction l with
  | nil =>
    intro j xs us ps fp st ι ι0 out h hr hp ha hv hn hf
    cases ps with
    | nil => unfold putBack at h; have hq := pure_inv h; rw [hq]; exact ⟨ι, hr, .refl ..⟩
    | cons _ _ => unfold putBack at h; exact (fail_inv h).elim
  | cons x l ih =>
    intro j xs us ps fp st ι ι0 out h hr hp ha hv hn hf
    cases xs with
    | nil => exact ha.elim
    | cons y xs =>
      cases us with
      | nil => exact ha.elim
      | cons u us =>
        obtain ⟨ha1, ha2⟩ := ha
        unfold Pouts at hp
        cases hc : isCell y with
        | false =>
          rw [hc, if_neg (by simp)] at hp ha1
          have hrest : putBack base j l ps st = some out := by
            cases x with
            | c z => cases z <;> first | exact h | (simp [ptrS] at ha1)
            | agg _ => exact h
            | tup _ => exact h
            | sp _ => exact h
          exact ih hrest hr hp ha2 (fun m hm => hv m (by rw [List.flatMap_cons]; exact List.mem_append.mpr (.inr hm))) hn hf
        | true =>
          rw [hc, if_pos rfl] at hp ha1
          obtain ⟨m, b, hm, hb, rfl⟩ := ha1
          obtain ⟨b', vs, p, ps', f1, f2, hu, rfl, hcells, hx, hrest, rfl⟩ := hp
          injection hu with hu; injection hu with hu; injection hu with hu _ _
          subst hu
          have hxm : ∃ o, x = .c (.pvar m o) := by
            cases x with
            | c z => cases z <;> simp [ptrS] at hm; subst hm; exact ⟨_, rfl⟩
            | agg _ => simp [ptrS] at hm
            | tup _ => simp [ptrS] at hm
            | sp _ => simp [ptrS] at hm
          obtain ⟨o, rfl⟩ := hxm
          unfold putBack at h
          obtain ⟨o1, o2, h1, h2, v1, s1, d1⟩ := bind_inv h
          obtain ⟨o3, o4, h3, h4, v2, s2, d2⟩ := bind_inv h2
          have hw3 : o3.st = { o1.st with vars := (m, o1.val.1) :: o1.st.vars } := by obtain rfl := Option.some.inj h3; rfl
          rw [hw3] at h4
          rw [List.nodup_append] at hn
          obtain ⟨ι1, hr1, M1, L1, R1⟩ := impCs_ok h1 hr hx hn.1 (fun b hb => hf b (List.mem_append.mpr (.inl hb)))
          obtain ⟨hm1, hm2⟩ := hv m (by rw [List.flatMap_cons]; exact List.mem_append.mpr (.inl (by simp [ptrS])))
          obtain ⟨hv1, hv2⟩ := M1.ext.hv m hm1
          cases hcs : o1.st.var m with
          | none => exact absurd hcs hv1
          | some cs =>
            obtain ⟨hr2, E2⟩ := hr1.tell hcs (hv2.trans (hm2.trans hb)) hcells R1
            have hvar : ∀ k, ({ o1.st with vars := (m, o1.val.1) :: o1.st.vars } : St).var k = if k = m then some o1.val.1 else o1.st.var k := var_cons o1.st m _
            have hfree : ∀ c, Unused st ι c → c ∉ f1 → Unused { o1.st with vars := (m, o1.val.1) :: o1.st.vars } ι1 c := by
              intro c hc hcn
              have := M1.free c hc hcn
              refine ⟨fun k hk hh => ?_, this.2⟩
              rw [hvar] at hk
              by_cases e : k = m
              · subst e; exact this.1 k hv1 hh
              · rw [if_neg e] at hk; exact this.1 k hk hh
            obtain ⟨ι2, hr3, E3⟩ := ih (ι0 := ι0) h4 hr2 hrest ha2 (fun k hk => by
              obtain ⟨q1, q2⟩ := hv k (by rw [List.flatMap_cons]; exact List.mem_append.mpr (.inr hk))
              obtain ⟨t1, t2⟩ := M1.ext.hv k q1
              refine ⟨?_, t2.trans q2⟩
              rw [hvar]; split
              · simp
              · exact t1) hn.2.1 (fun c hc => by
                obtain ⟨q1, q2, q3⟩ := hf c (List.mem_append.mpr (.inr hc))
                exact ⟨hfree c q1 (fun hm => hn.2.2 c hm c hc rfl), q2, q3⟩)
            exact ⟨ι2, by rw [s1, s2]; exact hr3, by rw [s1, s2]; exact M1.ext.trans (E2.trans E3)⟩

theorem opnds_ok {a : Act} (hr : RelI X' I ι st a.tmps w) : ∀ {l : List Operand} {out : Out (List S)}, opnds l st = some out → out.st = st ∧ (l.map a.eval).length = out.val.length ∧ ∀ (j : Nat) x, out.val[j]? = some x → ∃ y, (l.map a.eval)[j]? = some y ∧ Rs w I ι st.var st.arr x y := by
  intro l
  induction l with
  | nil => intro out h; have hp := pure_inv h; rw [hp]; exact ⟨rfl, rfl, by simp⟩
  | cons x r ih =>
    intro out h
    unfold opnds at h
    obtain ⟨o1, o2, h1, h2, v1, s1, d1⟩ := bind_inv h
    obtain ⟨e1, _, hx⟩ := opnd_ok h1 hr
    rw [e1] at h2
    obtain ⟨o3, o4, h3, h4, v2, s2, d2⟩ := bind_inv h2
    have hp := pure_inv h4
    obtain ⟨q1, q2, q3⟩ := ih h3
    have hv : out.val = o1.val :: o3.val := by rw [v1, v2, hp]
    rw [hv]
    refine ⟨by rw [s1, s2, hp]; exact q1, by simp at q2 ⊢; exact q2, fun j y hy => ?_⟩
    cases j with
    | zero => simp at hy; subst hy; exact ⟨_, rfl, hx⟩
    | succ j => exact q3 j y (by simpa using hy)

theorem scalar_Rimm {I' : Nat → Prop} {x : C} {u : Value} {w' : World} (hs : scalarC x) (h : Rimm w I x u) : Rimm w' I' x u := by
  cases h with
  | err T x => exact .err T x
  | errN => exact .errN
  | v y h => exact .v _ h
  | nil s => exact .nil s
  | lst0 => exact hs.elim
  | lst => exact hs.elim
theorem flat_RXc {I' : Nat → Prop} {x : X} {u : Value} {fp : List Nat} (hs : flatX x) (h : RXc w I x u fp) : RXc w I' x u fp := by
  cases x with
  | c y => exact ⟨h.1, scalar_Rimm (by simpa [flatX] using hs) h.2⟩
  | own s n g =>
    rcases h with h | ⟨b, cap, f, h1, h2, h3⟩
    · exact .inl h
    · simp only [flatX] at hs
      exact .inr ⟨b, cap, f, h1, h2, h3.lt, h3.pos, h3.fit, h3.max, h3.there, h3.len, h3.cell, fun i j x hi hx => scalar_Rimm (hs i hi x (List.mem_of_getElem? hx)) (h3.rel i j x hi hx)⟩
  | agg _ => exact h.elim
  | tup _ => exact h.elim
  | cell _ => exact h.elim
theorem flat_RXcs {I' : Nat → Prop} : ∀ {xs : List X} {us : List Value} {fp : List Nat}, flatXs xs → RXcs w I xs us fp → RXcs w I' xs us fp := by
  intro xs
  induction xs with
  | nil => intro us fp hs h; cases us <;> exact h
  | cons x xs ih =>
    intro us fp hs h
    cases us with
    | nil => exact h.elim
    | cons u us =>
      obtain ⟨f1, f2, h1, h2, h3⟩ := h
      exact ⟨f1, f2, h1, flat_RXc hs.1 h2, ih hs.2 h3⟩
theorem flatX_agg : ∀ {xs : List X}, flatX (.agg xs) → flatXs xs := by
  intro xs
  induction xs with
  | nil => intro _; exact trivial
  | cons x xs ih => intro h; simp only [flatX] at h; exact ⟨h.1, ih h.2⟩
theorem flatX_tup : ∀ {xs : List X}, flatX (.tup xs) → flatXs xs := by
  intro xs
  induction xs with
  | nil => intro _; exact trivial
  | cons x xs ih => intro h; simp only [flatX] at h; exact ⟨h.1, ih h.2⟩
theorem flatX_cell : ∀ {xs : List X}, flatX (.cell xs) → flatXs xs := by
  intro xs
  induction xs with
  | nil => intro _; exact trivial
  | cons x xs ih => intro h; simp only [flatX] at h; exact ⟨h.1, ih h.2⟩
theorem flat_RX {I' : Nat → Prop} {x : X} {u : Value} {fp : List Nat} (hs : flatX x) (h : RX w I x u fp) : RX w I' x u fp := by
  cases x with
  | c y => exact flat_RXc (x := .c y) hs h
  | own s n g => exact flat_RXc (x := .own s n g) hs h
  | agg l => obtain ⟨us, h1, h2⟩ := h; exact ⟨us, h1, flat_RXcs (flatX_agg hs) h2⟩
  | tup l => exact h.elim
  | cell l => obtain ⟨b, us, f', h1, h2, h3, h4⟩ := h; exact ⟨b, us, f', h1, h2, flat_RXcs (flatX_cell hs) h3, h4⟩
theorem flat_RXl {I' : Nat → Prop} : ∀ {xs : List X} {us : List Value} {fp : List Nat}, flatXs xs → RXl w I xs us fp → RXl w I' xs us fp := by
  intro xs
  induction xs with
  | nil => intro us fp hs h; cases us <;> exact h
  | cons x xs ih =>
    intro us fp hs h
    cases us with
    | nil => exact h.elim
    | cons u us =>
      obtain ⟨f1, f2, h1, h2, h3⟩ := h
      exact ⟨f1, f2, h1, flat_RX hs.1 h2, ih hs.2 h3⟩
theorem flat_RXr {I' : Nat → Prop} {x : X} {u : Value} {fp : List Nat} (hs : flatX x) (h : RXr w I x u fp) : RXr w I' x u fp := by
  cases x with
  | c y => exact flat_RX (x := .c y) hs h
  | own s n g => exact flat_RX (x := .own s n g) hs h
  | agg l => exact flat_RX (x := .agg l) hs h
  | cell l => exact flat_RX (x := .cell l) hs h
  | tup l => obtain ⟨us, h1, h2⟩ := h; exact ⟨us, h1, flat_RXl (flatX_tup hs) h2⟩
theorem flat_Pouts {I' : Nat → Prop} : ∀ {xs : List X} {us : List Value} {ps : List (List X)} {fp : List Nat}, flatXss ps → Pouts w I xs us ps fp → Pouts w I' xs us ps fp := by
  intro xs
  induction xs with
  | nil => intro us ps fp hs h; cases us <;> cases ps <;> exact h
  | cons x xs ih =>
    intro us ps fp hs h
    cases us with
    | nil => exact h.elim
    | cons u us =>
      unfold Pouts at h ⊢
      split
      · rename_i hc
        rw [if_pos hc] at h
        obtain ⟨b, vs, p, ps', f1, f2, h1, rfl, h3, h4, h5, h6⟩ := h
        exact ⟨b, vs, p, ps', f1, f2, h1, rfl, h3, flat_RXcs hs.1 h4, ih hs.2 h5, h6⟩
      · rename_i hc
        rw [if_neg hc] at h
        exact ih hs h

theorem Rimm_I {I' : Nat → Prop} (h : ∀ b, I b → I' b) {x : C} {u : Value} (hx : Rimm w I x u) : Rimm w I' x u := hx.mono (fun _ _ => rfl) h
theorem RXc_I {I' : Nat → Prop} (h : ∀ b, I b → I' b) {x : X} {u : Value} {fp : List Nat} (hx : RXc w I x u fp) : RXc w I' x u fp := by
  cases x with
  | c y => exact ⟨hx.1, Rimm_I h hx.2⟩
  | own s n g =>
    rcases hx with hx | ⟨b, cap, f, h1, h2, h3⟩
    · exact .inl hx
    · exact .inr ⟨b, cap, f, h1, h2, h3.keep (fun _ _ => rfl) h (Nat.le_refl _) rfl⟩
  | agg _ => exact hx.elim
  | tup _ => exact hx.elim
  | cell _ => exact hx.elim
theorem RXcs_I {I' : Nat → Prop} (h : ∀ b, I b → I' b) : ∀ {xs : List X} {us : List Value} {fp : List Nat}, RXcs w I xs us fp → RXcs w I' xs us fp := by
  intro xs
  induction xs with
  | nil => intro us fp hx; cases us <;> exact hx
  | cons x xs ih =>
    intro us fp hx
    cases us with
    | nil => exact hx.elim
    | cons u us => obtain ⟨f1, f2, h1, h2, h3⟩ := hx; exact ⟨f1, f2, h1, RXc_I h h2, ih h3⟩
theorem RX_I {I' : Nat → Prop} (h : ∀ b, I b → I' b) {x : X} {u : Value} {fp : List Nat} (hx : RX w I x u fp) : RX w I' x u fp := by
  cases x with
  | c y => exact RXc_I (x := .c y) h hx
  | own s n g => exact RXc_I (x := .own s n g) h hx
  | agg l => obtain ⟨us, h1, h2⟩ := hx; exact ⟨us, h1, RXcs_I h h2⟩
  | tup l => exact hx.elim
  | cell l => obtain ⟨b, us, f', h1, h2, h3, h4⟩ := hx; exact ⟨b, us, f', h1, h2, RXcs_I h h3, h4⟩
theorem RXl_I {I' : Nat → Prop} (h : ∀ b, I b → I' b) : ∀ {xs : List X} {us : List Value} {fp : List Nat}, RXl w I xs us fp → RXl w I' xs us fp := by
  intro xs
  induction xs with
  | nil => intro us fp hx; cases us <;> exact hx
  | cons x xs ih =>
    intro us fp hx
    cases us with
    | nil => exact hx.elim
    | cons u us => obtain ⟨f1, f2, h1, h2, h3⟩ := hx; exact ⟨f1, f2, h1, RX_I h h2, ih h3⟩
theorem RXr_I {I' : Nat → Prop} (h : ∀ b, I b → I' b) {x : X} {u : Value} {fp : List Nat} (hx : RXr w I x u fp) : RXr w I' x u fp := by
  cases x with
  | c y => exact RX_I (x := .c y) h hx
  | own s n g => exact RX_I (x := .own s n g) h hx
  | agg l => exact RX_I (x := .agg l) h hx
  | cell l => exact RX_I (x := .cell l) h hx
  | tup l => obtain ⟨us, h1, h2⟩ := hx; exact ⟨us, h1, RXl_I h h2⟩
theorem Pouts_I {I' : Nat → Prop} (h : ∀ b, I b → I' b) : ∀ {xs : List X} {us : List Value} {ps : List (List X)} {fp : List Nat}, Pouts w I xs us ps fp → Pouts w I' xs us ps fp := by
  intro xs
  induction xs with
  | nil => intro us ps fp hx; cases us <;> cases ps <;> exact hx
  | cons x xs ih =>
    intro us ps fp hx
    cases us with
    | nil => exact hx.elim
    | cons u us =>
      unfold Pouts at hx ⊢
      split
      · rename_i hc
        rw [if_pos hc] at hx
        obtain ⟨b, vs, p, ps', f1, f2, h1, rfl, h3, h4, h5, h6⟩ := hx
        exact ⟨b, vs, p, ps', f1, f2, h1, rfl, h3, RXcs_I h h4, ih h5, h6⟩
      · rename_i hc
        rw [if_neg hc] at hx
        exact ih hx

theorem ptr_mem : ∀ {l : List S} {xs : List X} {us : List Value} {b : Nat}, Al ι l xs us → b ∈ ptrBlocks xs us → ∃ m ∈ l.flatMap ptrS, ι.v m = some b := by
  intro l
  induction l with
  | nil => intro xs us b ha hb; cases xs <;> cases us <;> first | exact ha.elim | simp [ptrBlocks] at hb
  | cons x l ih =>
    intro xs us b ha hb
    cases xs with
    | nil => exact ha.elim
    | cons y xs =>
      cases us with
      | nil => exact ha.elim
      | cons u us =>
        obtain ⟨ha1, ha2⟩ := ha
        unfold ptrBlocks at hb
        rcases List.mem_append.mp hb with hb | hb
        · cases hc : isCell y with
          | false => rw [hc, if_neg (by simp)] at hb; simp at hb
          | true =>
            rw [hc, if_pos rfl] at ha1 hb
            obtain ⟨m, b', hm, hb', rfl⟩ := ha1
            simp at hb; subst hb
            exact ⟨m, by rw [List.flatMap_cons, hm]; simp, hb'⟩
        · obtain ⟨m, hm, hb'⟩ := ih ha2 hb
          exact ⟨m, by rw [List.flatMap_cons]; exact List.mem_append.mpr (.inr hm), hb'⟩
theorem mem_ptr : ∀ {l : List S} {xs : List X} {us : List Value} {m : Name} {b : Nat}, Al ι l xs us → m ∈ l.flatMap ptrS → ι.v m = some b → b ∈ ptrBlocks xs us := by
  intro l
  induction l with
  | nil => intro xs us m b ha hm hb; simp at hm
  | cons x l ih =>
    intro xs us m b ha hm hb
    cases xs with
    | nil => exact ha.elim
    | cons y xs =>
      cases us with
      | nil => exact ha.elim
      | cons u us =>
        obtain ⟨ha1, ha2⟩ := ha
        rw [List.flatMap_cons] at hm
        unfold ptrBlocks
        rcases List.mem_append.mp hm with hm | hm
        · refine List.mem_append.mpr (.inl ?_)
          cases hc : isCell y with
          | false => rw [hc, if_neg (by simp)] at ha1; rw [ha1] at hm; simp at hm
          | true =>
            rw [hc, if_pos rfl] at ha1
            obtain ⟨m', b', hm', hb', rfl⟩ := ha1
            rw [hm'] at hm
            simp at hm; subst hm
            rw [hb'] at hb; injection hb with hb; subst hb
            simp
        · exact List.mem_append.mpr (.inr (ih ha2 hm hb))

/-- A call of a function that promises what is said. -/
theorem call_ok {base : Nat} {f : FuncId} {h : CallH} {args : List S} {us : List Value} {out : Out S} {Ks : Facts} (hK : ∀ f a r p, Ks f a r p → Ok P f a r p) (he : evCall Ks base f h args st = some out) (hs : out.side) (hr : RelI X' I ι st tm w) (hlen : us.length = args.length)
    (hc : ∀ (j : Nat) x, args[j]? = some x → ∃ y, us[j]? = some y ∧ Rs w I ι st.var st.arr x y) : Calls P f us.toArray w fun e w' => ∃ v, e = .returned v ∧ Good X' out.st tm out.val w' v := by
  unfold evCall at he
  obtain ⟨o1, o2, h1, h2, v1, s1, d1⟩ := bind_inv he
  obtain ⟨o3, o4, h3, h4, v2, s2, d2⟩ := bind_inv h2
  obtain ⟨e3, e4⟩ := need_inv h3
  rw [e3] at h4
  obtain ⟨o5, o6, h5, h6, v3, s3, d3⟩ := bind_inv h4
  obtain ⟨e5, e6⟩ := need_inv h5
  rw [e5] at h6
  obtain ⟨o7, o8, h7, h8, v4, s4, d4⟩ := bind_inv h6
  obtain ⟨e7, e8⟩ := guard_inv h7
  rw [e8] at h8
  obtain ⟨o9, oa, h9, ha, v5, s5, d5⟩ := bind_inv h8
  obtain ⟨ob, oc, hb, hc', v6, s6, d6⟩ := bind_inv ha
  obtain ⟨od, oe, hd, hee, v7, s7, d7⟩ := bind_inv hc'
  obtain ⟨og, oh, hg, hh, v8, s8, d8⟩ := bind_inv hee
  have hp := pure_inv hh
  have D1 := d1 hs
  have D2 := d2 D1.2
  have D3 := d3 D2.2
  have D4 := d4 D3.2
  have D5 := d5 D4.2
  have hEq := D2.1
  rw [e4] at hEq
  have hKf := D3.1
  rw [e6] at hKf
  have hOk := hK _ _ _ _ hKf
  have hval : out.val = od.val.1 := by rw [v1, v2, v3, v4, v5, v6, v7, v8, hp]
  have hst : out.st = og.st := by rw [s1, s2, s3, s4, s5, s6, s7, s8, hp]
  have hnd := nodupN_iff e7
  -- what the callee may read
  let names := immRefs h.own args
  let I0 : Nat → Prop := fun b => I b ∨ ∃ m ∈ names, (∃ A, o1.st.arr m = some (some A)) ∧ ∃ c, ι.a m = some (b, c)
  have hlive : ∀ m ∈ names, ∃ A, o1.st.arr m = some (some A) := by
    rcases cond_inv h9 with ⟨_, h9⟩ | ⟨_, h9⟩
    · -- frozen: each was there; frozen arrays don't become less
      have : ∀ (l : List Name) (s : St) (o : Out Unit), freezeAll l s = some o → ∀ m ∈ l, ∃ A, s.arr m = some (some A) := by
        intro l
        induction l with
        | nil => intro s o _ m hm; simp at hm
        | cons k r ih =>
          intro s o hq m hm
          unfold freezeAll at hq
          obtain ⟨p1, p2, g1, g2, w1, t1, _⟩ := bind_inv hq
          obtain ⟨f1, f2⟩ := liveA_inv g1
          rw [f2] at g2
          obtain ⟨p3, p4, g3, g4, w2, t2, _⟩ := bind_inv g2
          have hw : p3.st = { s with arrs := (k, some { p1.val with frozen := true }) :: s.arrs } := by obtain rfl := Option.some.inj g3; rfl
          rw [hw] at g4
          rcases List.mem_cons.mp hm with rfl | hm
          · exact ⟨_, f1⟩
          · obtain ⟨A, hA⟩ := ih _ _ g4 m hm
            rw [arr_cons] at hA
            by_cases e : m = k
            · subst e; exact ⟨_, f1⟩
            · rw [if_neg e] at hA; exact ⟨A, hA⟩
      exact this _ _ _ h9
    · obtain ⟨p1, p2, g1, g2, w1, t1, _⟩ := bind_inv h9
      exact (liveAll_inv g1).2
  obtain ⟨fp, hr1, E1, F1, R1, N1, T1, A1⟩ := expSs_ok (I0 := I0) h1 D1.1 hr hlen hc (fun b hb => .inl hb) (fun m hm b c hbc => .inr ⟨m, hm, hlive m hm, c, hbc⟩) hnd
  obtain ⟨R2, A2⟩ := R1.eqX hEq A1
  -- what goes along
  have hfpI : ∀ b ∈ fp, b < w.heap.size ∧ ¬ I0 b ∧ ¬ I b ∧ X'.mine b := by
    intro b hb
    rcases T1 b hb with ⟨m, A, c, q1, q2, q3, q4⟩ | ⟨m, hm, q1, q2⟩
    · have hok := hr.arrs m A q1
      rw [q3] at hok
      obtain ⟨⟨f, hrow⟩, hz⟩ := hok
      rw [q2] at hz
      simp only [Bool.false_eq_true, if_false] at hz
      refine ⟨hrow.lt, fun hh => ?_, hz.1, hz.2⟩
      rcases hh with hh | ⟨m', hm', ⟨A', hA'⟩, c', hc'⟩
      · exact hz.1 hh
      · have hA0 : st.arr m' = some (some A') := by
          rcases F1.arr m' with e | ⟨e, _⟩
          · rw [← e]; exact hA'
          · rw [e] at hA'; cases hA'
        have := hr.aa m m' A A' b c c' q1 hA0 q3 hc'
        subst this
        rw [q4] at hA'; cases hA'
    · cases hcs : st.var m with
      | none => exact absurd hcs q1
      | some cs =>
        obtain ⟨b', f, hok⟩ := hr.vars m cs hcs
        rw [hok.at_] at q2; injection q2 with q2; subst q2
        refine ⟨hok.lt, fun hh => ?_, hok.notI, hok.mine⟩
        rcases hh with hh | ⟨m', hm', ⟨A', hA'⟩, c', hc'⟩
        · exact hok.notI hh
        · have hA0 : st.arr m' = some (some A') := by
            rcases F1.arr m' with e | ⟨e, _⟩
            · rw [← e]; exact hA'
            · rw [e] at hA'; cases hA'
          exact hr.va m m' A' b' c' q1 hA0 hok.at_ hc'
  have hI0lt : ∀ b, I0 b → b < w.heap.size := by
    intro b hb
    rcases hb with hb | ⟨m, hm, ⟨A, hA⟩, c, hc⟩
    · exact (hr.inI b hb).1
    · have hok := hr1.arrs m A hA
      rw [hc] at hok
      exact hok.1.choose_spec.lt
  -- the state at the call
  have hstate : ∃ I1, RelI X' I1 ι o9.st tm w ∧ Ext w I ι st.var st.arr w I1 ι o9.st.var o9.st.arr ∧ o9.st.var = st.var ∧ (∀ b, I1 b → I0 b) ∧ (∀ m, o9.st.arr m = some none ↔ o1.st.arr m = some none) ∧ (h.frz = false → flatX h.res ∧ flatXss h.pout) ∧ (h.frz = true → ∀ b, I0 b → I1 b) := by
    rcases cond_inv h9 with ⟨hf, h9⟩ | ⟨hf, h9⟩
    · obtain ⟨I1, hr2, E2, hv2, hl2, hs2, hll, hdd⟩ := freezeAll_ok h9 hr1
      refine ⟨I1, hr2, E1.trans E2, hv2.trans F1.var, fun b hb => ?_, hdd, fun e => (by rw [hf] at e; cases e), fun _ b hb => ?_⟩
      · rcases hs2 b hb with hb | ⟨m, hm, c, hc⟩
        · exact .inl hb
        · exact .inr ⟨m, hm, hlive m hm, c, hc⟩
      · rcases hb with hb | ⟨m, hm, hA, c, hc⟩
        · exact E2.hI b hb
        · exact (hl2 m hm).2 b c hc
    · obtain ⟨p1, p2, g1, g2, w1, t1, dd⟩ := bind_inv h9
      obtain ⟨q1, q2⟩ := liveAll_inv g1
      rw [q1] at g2
      obtain ⟨q3, q4⟩ := need_inv g2
      have hside := (dd D5.1).2
      rw [q4] at hside
      have : o9.st = o1.st := t1.trans q3
      rw [this]
      exact ⟨I, hr1, E1, F1.var, fun b hb => .inl hb, fun _ => Iff.rfl, fun _ => hside, fun e => by rw [hf] at e; cases e⟩
  obtain ⟨I1, hr2, E2, hv9, hI10, hdead, hflat, hfrz⟩ := hstate
  obtain ⟨hr3, E3, hbl, hbn, hba⟩ := blankAll_ok hb hr2
  -- the call
  refine (hOk w I0 us.toArray fp hI0lt R2 N1 (fun b hb => ⟨(hfpI b hb).1, (hfpI b hb).2.1⟩) (hr.fr.glob fun b hb => (hfpI b hb).2.2.2)).mono ?_
  rintro e w' ⟨v, rfl, I', fr, fq, hI', hres, hpo, hN, hfree, hptr, hF⟩
  refine ⟨v, rfl, ?_⟩
  rw [hval, hst]
  -- what may be read from now on
  have hptrs : ∀ m ∈ args.flatMap ptrS, st.var m ≠ none := by
    intro m hm
    have := hbl m hm
    have h2 := (hbn m).mp (by rw [this]; simp)
    rw [hv9] at h2; exact h2
  have hfpv : ∀ b ∈ fp, ∀ k cs, ob.st.var k = some cs → ι.v k = some b → cs = [] := by
    intro b hb k cs hk hkb
    have hkv : st.var k ≠ none := by
      have h2 := (hbn k).mp (by rw [hk]; simp)
      rw [hv9] at h2; exact h2
    rcases T1 b hb with ⟨m, A, c, q1, q2, q3, q4⟩ | ⟨m, hm, q1, q2⟩
    · exact (hr.va k m A b c hkv q1 hkb q3).elim
    · have := hr.vv k m b hkv q1 hkb q2
      subst this
      rw [hbl k hm] at hk
      injection hk with hk; exact hk.symm
  have hfpa : ∀ b ∈ fp, ∀ k D c, ob.st.arr k = some (some D) → ι.a k ≠ some (b, c) := by
    intro b hb k D c hk hkb
    rw [hba] at hk
    rcases T1 b hb with ⟨m, A, c', q1, q2, q3, q4⟩ | ⟨m, hm, q1, q2⟩
    · have hD : ∃ D', st.arr k = some (some D') := by
        cases hs' : st.arr k with
        | none =>
          exfalso
          have h5 : o1.st.arr k = none := by
            rcases F1.arr k with e | ⟨_, A', hA', _⟩
            · rw [e]; exact hs'
            · rw [hs'] at hA'; cases hA'
          have := hr2.arrs k D hk
          -- a live array was there before
          rcases cond_inv h9 with ⟨_, h9⟩ | ⟨_, h9⟩
          · obtain ⟨_, _, _, _, _, _, hll, _⟩ := freezeAll_ok h9 hr1
            obtain ⟨D', hD'⟩ := (hll k).mp ⟨D, hk⟩
            rw [h5] at hD'; cases hD'
          · obtain ⟨p1, p2, g1, g2, w1, t1, dd⟩ := bind_inv h9
            obtain ⟨z1, _⟩ := liveAll_inv g1
            rw [z1] at g2
            obtain ⟨z3, _⟩ := need_inv g2
            rw [t1, z3, h5] at hk; cases hk
        | some y =>
          cases y with
          | some D' => exact ⟨D', rfl⟩
          | none =>
            have := E2.dead k hs'
            rw [this] at hk; cases hk
      obtain ⟨D', hD'⟩ := hD
      have := hr.aa m k A D' b c' c q1 hD' q3 hkb
      subst this
      have := (hdead m).mpr q4
      rw [this] at hk; cases hk
    · have hmv : o9.st.var m ≠ none := by rw [hv9]; exact q1
      exact hr2.va m k D b c hmv hk q2 hkb
  let I2 : Nat → Prop := fun b => I1 b ∨ (h.frz = true ∧ I' b)
  have hI2fp : ∀ b, I2 b → b ∉ fr ++ fq := by
    intro b hb hm
    obtain ⟨q1, q2, q3, q4⟩ := hfree b hm
    rcases hb with hb | ⟨_, hb⟩
    · rcases q3 with q3 | q3
      · have := (hr2.inI b hb).1; omega
      · exact (hfpI b q3).2.1 (hI10 b hb)
    · exact q2 hb
  obtain ⟨hr4, E4⟩ := hr3.called (w' := w') (I2 := I2) (fp := fp) hF (fun b hb => ⟨fun hh => (hfpI b hb).2.1 (hI10 b hh), (hfpI b hb).2.2.2⟩) hfpv hfpa (fun b hb => .inl hb) (by
      intro b hb
      rcases hb with hb | ⟨_, hb⟩
      · exact ⟨Nat.lt_of_lt_of_le (hr2.inI b hb).1 hF.size, (hr2.inI b hb).2⟩
      · obtain ⟨q1, q2⟩ := hI' b hb
        refine ⟨q1, ?_⟩
        rcases q2 with q2 | q2 | q2
        · rcases q2 with q2 | ⟨m, hm, ⟨A, hA⟩, c, hc⟩
          · exact (hr.inI b q2).2
          · have hok := hr1.arrs m A hA
            rw [hc] at hok
            obtain ⟨_, hz⟩ := hok
            cases hf : A.frozen with
            | true => rw [hf] at hz; exact (hr1.inI b hz).2
            | false => rw [hf] at hz; exact .inr hz.2
        · exact .inr (.inl (Nat.le_trans hr.fr.size q2))
        · exact .inr (hfpI b q2).2.2.2)
    (by
      intro k b hk hkb hh
      have hk9 : o9.st.var k ≠ none := (hbn k).mp hk
      have hkv : st.var k ≠ none := by rw [← hv9]; exact hk9
      cases hcs : o9.st.var k with
      | none => exact absurd hcs hk9
      | some cs =>
        obtain ⟨b', f, hok⟩ := hr2.vars k cs hcs
        rw [hok.at_] at hkb; injection hkb with hkb; subst hkb
        rcases hh with hh | ⟨hf, hh⟩
        · exact hok.notI hh
        · by_cases hm : k ∈ args.flatMap ptrS
          · exact hptr b' (mem_ptr A2 hm hok.at_) hh
          · obtain ⟨_, q2⟩ := hI' b' hh
            rcases q2 with q2 | q2 | q2
            · exact hok.notI (hfrz hf b' q2)
            · have := hok.lt; omega
            · rcases T1 b' q2 with ⟨m, A, c, r1, r2, r3, r4⟩ | ⟨m, hm', r1, r2⟩
              · exact hr.va k m A b' c hkv r1 hok.at_ r3
              · exact hm ((hr.vv k m b' hkv r1 hok.at_ r2) ▸ hm'))
    (by
      intro k D b c hk hf hkb hh
      rw [hba] at hk
      have hok := hr2.arrs k D hk
      rw [hkb] at hok
      obtain ⟨⟨f, hrow⟩, hz⟩ := hok
      rw [hf] at hz
      simp only [Bool.false_eq_true, if_false] at hz
      rcases hh with hh | ⟨hfz, hh⟩
      · exact hz.1 hh
      · obtain ⟨_, q2⟩ := hI' b hh
        rcases q2 with q2 | q2 | q2
        · exact hz.1 (hfrz hfz b q2)
        · have := hrow.lt; omega
        · exact hfpa b q2 k D c (by rw [hba]; exact hk) hkb)
  -- what comes back, told over I2
  have hres2 : RXr w' I2 h.res v fr := by
    cases hf : h.frz with
    | true => exact RXr_I (fun b hb => .inr ⟨hf, hb⟩) hres
    | false => exact flat_RXr (hflat hf).1 hres
  have hpo2 : Pouts w' I2 h.args us h.pout fq := by
    cases hf : h.frz with
    | true => exact Pouts_I (fun b hb => .inr ⟨hf, hb⟩) hpo
    | false => exact flat_Pouts (hflat hf).2 hpo
  have hfree2 : ∀ b ∈ fr ++ fq, Unused ob.st ι b ∧ ¬ I2 b ∧ X'.mine b := by
    intro b hb
    obtain ⟨q1, q2, q3, q4⟩ := hfree b hb
    refine ⟨⟨fun k hk hkb => ?_, fun k D c hk hkb => ?_⟩, fun hh => hI2fp b hh hb, ?_⟩
    · have hk9 : o9.st.var k ≠ none := (hbn k).mp hk
      have hkv : st.var k ≠ none := by rw [← hv9]; exact hk9
      rcases q3 with q3 | q3
      · cases hcs : st.var k with
        | none => exact hkv hcs
        | some cs =>
          obtain ⟨b', f, hok⟩ := hr.vars k cs hcs
          rw [hok.at_] at hkb; injection hkb with hkb; subst hkb
          have := hok.lt; omega
      · rcases T1 b q3 with ⟨m, A, c, r1, r2, r3, r4⟩ | ⟨m, hm', r1, r2⟩
        · exact hr.va k m A b c hkv r1 hkb r3
        · exact q4 (mem_ptr A2 hm' r2)
    · rcases q3 with q3 | q3
      · rw [hba] at hk
        have hok := hr2.arrs k D hk
        rw [hkb] at hok
        have := hok.1.choose_spec.lt; omega
      · exact hfpa b q3 k D c hk hkb
    · rcases q3 with q3 | q3
      · exact .inl (Nat.le_trans hr.fr.size q3)
      · exact (hfpI b q3).2.2.2
  rw [List.nodup_append] at hN
  obtain ⟨ι1, hr5, M5, R5⟩ := impR_ok hd hr4 hres2 hN.1 (fun b hb => hfree2 b (List.mem_append.mpr (.inl hb)))
  obtain ⟨ι2, hr6, E6⟩ := putBack_ok hg hr5 hpo2 A2 (fun m hm => by
      have h2 : ob.st.var m ≠ none := by rw [hbl m hm]; simp
      obtain ⟨t1, t2⟩ := M5.ext.hv m h2
      exact ⟨t1, t2⟩) hN.2.1 (fun b hb => by
        obtain ⟨q1, q2, q3⟩ := hfree2 b (List.mem_append.mpr (.inr hb))
        exact ⟨M5.free b q1 (fun hm => hN.2.2 b hm b hb rfl), q2, q3⟩)
  exact ⟨I2, ι2, hr6, R5.ext E6⟩
end
end Go.Ev
