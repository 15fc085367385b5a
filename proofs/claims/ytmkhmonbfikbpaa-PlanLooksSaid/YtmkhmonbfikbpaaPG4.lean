/- PlanBack. -/
import Derived.Test.YtmkhmonbfikbpaaPG3
namespace Go.Proofs.Ytmkhmonbfikbpaa
open Go Go.Ev
set_option linter.unusedVariables false

theorem pigeon : ∀ (b a : Nat) (f : Nat → Nat), (∀ i, i < a → f i < b) → (∀ i j, i < a → j < a → f i = f j → i = j) → a ≤ b := by
  intro b
  induction b with
  | zero =>
    intro a f h _
    rcases Nat.eq_zero_or_pos a with e | e
    · omega
    · have := h 0 e; omega
  | succ b ih =>
    intro a f h hi
    rcases Nat.eq_zero_or_pos a with e | e
    · omega
    · obtain ⟨a', rfl⟩ : ∃ a', a = a' + 1 := ⟨a - 1, by omega⟩
      have := ih a' (fun i => if f i = b then f a' else f i) (fun i hi' => by
        have h1 := h i (by omega)
        have h2 := h a' (by omega)
        split
        · rename_i e
          have : f a' ≠ b := fun e' => by have := hi i a' (by omega) (by omega) (e.trans e'.symm); omega
          omega
        · omega) (fun i j hi' hj' e' => by
        split at e'
        · rename_i e1
          split at e'
          · rename_i e2; exact hi i j (by omega) (by omega) (e1.trans e2.symm)
          · have := hi a' j (by omega) (by omega) e'; omega
        · split at e'
          · have := hi i a' (by omega) (by omega) e'; omega
          · exact hi i j (by omega) (by omega) e')
      omega

theorem parts_more {rs rs' : List T_Road} {n : Nat} {c c' : Int} {of of' : List Int} (h : PSpec rs n c of) (h' : PSpec rs' n c' of') (hc : ∀ p q, Conn rs p q → Conn rs' p q) : c' ≤ c := by
  have h0 := h.c0
  have h0' := h'.c0
  have hex : ∀ k : Nat, ∃ r : Nat, (k : Int) < c' → r < n ∧ of'.getD r 0 = k := by
    intro k
    by_cases e : (k : Int) < c'
    · obtain ⟨r, r1, r2⟩ := h'.root k (by omega) e
      exact ⟨r, fun _ => ⟨r1, r2⟩⟩
    · exact ⟨0, fun z => absurd z e⟩
  have := pigeon c.toNat c'.toNat (fun k => (of.getD (Classical.choose (hex k)) 0).toNat) (fun k hk => by
    obtain ⟨a, b⟩ := Classical.choose_spec (hex k) (by omega)
    have := h.rng _ a
    omega) (fun i j hi hj e => by
    obtain ⟨a, b⟩ := Classical.choose_spec (hex i) (by omega)
    obtain ⟨a', b'⟩ := Classical.choose_spec (hex j) (by omega)
    have r1 := h.rng _ a
    have r2 := h.rng _ a'
    have hcn := (h'.conn _ _ a a').mpr (hc _ _ ((h.conn _ _ a a').mp (by omega)))
    omega)
  omega

theorem conn_mono {rs rs' : List T_Road} (h : ∀ p q, AdjAt rs p q → AdjAt rs' p q) {p q : Nat} (k : Conn rs p q) : Conn rs' p q := by
  induction k with
  | refl => exact .refl
  | step _ a ih => exact ih.step (h _ _ a)

theorem VRoad.closed {n : Nat} {r : T_Road} {b : Bool} (h : VRoad n r) : VRoad n { r with Closed := b } := ⟨h.from_, h.to_, h.ne, h.len, h.area, h.rest, h.lift⟩

theorem goes_back {K : Nat} (hK : 300 ≤ K) {less more : T_Mine} (h1 : Valid less) (h2 : Valid more) (hp : less.Places = more.Places) (ha : ∀ p q, AdjAt less.Roads p q → AdjAt more.Roads p q) :
    Goes (bnd (plan_CutOff K less) fun y21 => (bnd (plan_CutOff K more) fun y23 => (letj (fun (v4 : Unit) => (bnd (plan_Parts K less) fun y25 => (bnd (plan_Parts K more) fun y27 => (bif (decide (((y25.length : Nat) : Int) ≥ ((y27.length : Nat) : Int))) then (bnd (law01_awake K) fun y30 => (some y30)) else (some false))))) fun j4 => (loopK (law01_PlanBack_b3 K y21 y23 j4) K 0)))) (fun r => r = true) := by
  have np := h1.np
  have np2 := h2.np
  rw [bnd_ok (goes_CutOff hK h1), bnd_ok (goes_CutOff hK h2)]
  refine goes_letj (fun _ => True) (fun _ _ => ?_) (fun j hj => ?_)
  · refine goes_bnd _ (goes_Parts hK h1) (fun l ⟨c, of, s1, l1, _⟩ => goes_bnd _ (goes_Parts hK h2) (fun l' ⟨c', of', s2, l2, _⟩ => ?_))
    rw [← hp] at s2
    have := parts_more s1 s2 (fun p q => conn_mono ha)
    rw [bl_true (by simp only [decide_eq_true_eq]; omega)]
    exact ⟨_, goes_awake (by omega), rfl⟩
  · have hl := sel_len more.Places.length (fun p => ¬ Airy more p)
    have hl1 := sel_len less.Places.length (fun p => ¬ Airy less p)
    have hsub : ∀ x ∈ sel more.Places.length (fun p => ¬ Airy more p), x ∈ sel less.Places.length (fun p => ¬ Airy less p) := by
      intro x hx
      obtain ⟨p, p1, p2, p3⟩ := mem_sel.mp hx
      refine mem_sel.mpr ⟨p, by rw [hp]; exact p1, fun ⟨q, q1, q2, q3⟩ => p2 ⟨q, by rw [← hp]; exact q1, by rw [← hp]; exact q2, conn_mono ha q3⟩, p3⟩
    generalize sel more.Places.length (fun p => ¬ Airy more p) = lm at hl hsub ⊢
    generalize sel less.Places.length (fun p => ¬ Airy less p) = ll at hl1 hsub ⊢
    refine goes_loop (fun (v : Int) => 0 ≤ v ∧ v ≤ lm.length) (fun v => lm.length - v.toNat) ?_ K _ ⟨by omega, by omega⟩ (by omega)
    intro self v ⟨v1, v2⟩ hs
    unfold law01_PlanBack_b3
    refine goes_bif (fun h => ?_) (fun h => hj _ trivial)
    simp only [decide_eq_true_eq] at h
    have hm := hsub _ (getD_mem (d := (0 : Int)) (show v.toNat < lm.length by omega))
    rw [w64 (e := v + 1) (by omega)]
    refine goes_ck (by omega) ?_
    rw [bnd_ok (goes_Has (by omega) (by omega)), bl_false (by simpa using hm)]
    exact hs _ ⟨by omega, by omega⟩ (by omega)

def withClosed (m : T_Mine) (k : Nat) (b : Bool) : T_Mine := ⟨m.Places, m.Roads.set k { (m.Roads.getD k d_Road) with Closed := b }⟩
theorem withClosed_valid {m : T_Mine} {k : Nat} {b : Bool} (hm : Valid m) (hk : k < m.Roads.length) : Valid (withClosed m k b) := by
  refine ⟨hm.np, by have := hm.nr; simpa [withClosed] using this, hm.h, fun r hr => ?_⟩
  rcases List.mem_or_eq_of_mem_set hr with h | h
  · exact hm.r r h
  · subst h; exact (hm.r _ (getD_mem hk)).closed
theorem apply_closed {K : Nat} (hK : 130 < K) {m : T_Mine} (hm : Valid m) {k : Int} (h0 : 0 ≤ k) (hk : k < m.Roads.length) {kind : Int} (hkind : kind = 3 ∨ kind = 4) (hc : (m.Roads.getD k.toNat d_Road).Closed = !(kind == 3)) :
    plan_Apply K m ⟨kind, 0, false, 0, 0, 0, 0, false, false, 0, 0, 0, 0, k, 0, 0⟩ = some (withClosed m k.toNat (kind == 3), 0) := by
  have hs := step3' (m := m) (e := ⟨kind, 0, false, 0, 0, 0, 0, false, false, 0, 0, 0, 0, k, 0, 0⟩) (by simp only; omega) (by simp only; omega) h0 hk (by
    rintro ⟨_, h⟩
    simp only at h
    rw [hc] at h
    cases hb : (kind == 3) <;> rw [hb] at h <;> simp at h)
  have hch : chg ⟨kind, 0, false, 0, 0, 0, 0, false, false, 0, 0, 0, 0, k, 0, 0⟩ (m.Roads.getD k.toNat d_Road) = { (m.Roads.getD k.toNat d_Road) with Closed := (kind == 3) } := by
    unfold chg
    rw [if_neg (by simp only; omega), if_neg (by simp only; omega)]
  rw [hch] at hs
  have := apply_ok (K := K) hK hm (by rw [hs]) (by rw [hs]; exact withClosed_valid (b := (kind == 3)) hm (show k.toNat < m.Roads.length by omega))
  rw [this, hs]
  rfl
theorem withClosed_back {m : T_Mine} {k : Nat} {b : Bool} (hk : k < m.Roads.length) (h : (m.Roads.getD k d_Road).Closed = b) (b' : Bool) : withClosed (withClosed m k b') k b = m := by
  obtain ⟨ps, rs⟩ := m
  simp only at hk h
  simp only [withClosed, getD_set, List.set_set, hk, and_self, if_true]
  have : ({ (rs.getD k d_Road) with Closed := b } : T_Road) = rs[k] := by
    rw [← h, List.getD_eq_getElem?_getD, List.getElem?_eq_getElem hk]
    rfl
  rw [this, List.set_getElem_self]
theorem adj_open {m : T_Mine} {k : Nat} (hk : k < m.Roads.length) {p q : Nat} (b : Bool) (hb : (m.Roads.getD k d_Road).Closed = b) :
    (b = true → AdjAt m.Roads p q → AdjAt (withClosed m k false).Roads p q) ∧ (b = false → AdjAt (withClosed m k true).Roads p q → AdjAt m.Roads p q) := by
  constructor
  · rintro rfl ⟨r, h1, h2, h3⟩
    obtain ⟨i, hi, rfl⟩ := List.mem_iff_getElem.mp h1
    by_cases e : k = i
    · subst e
      rw [List.getD_eq_getElem?_getD, List.getElem?_eq_getElem hk, Option.getD_some, h2] at hb
      cases hb
    · refine ⟨_, List.mem_iff_getElem.mpr ⟨i, by simpa [withClosed] using hi, ?_⟩, h2, h3⟩
      simp [withClosed, e]
  · rintro rfl ⟨r, h1, h2, h3⟩
    rcases List.mem_or_eq_of_mem_set h1 with h | h
    · exact ⟨r, h, h2, h3⟩
    · rw [h] at h2; cases h2

theorem pure_PlanBack : Said_law01_PlanBack := by
  intro a0 a1 h0 h1
  refine ⟨300, ?_⟩
  suffices H : Goes (law01_PlanBack 300 a0 a1) (fun r => r = true) by
    obtain ⟨r, hr, rfl⟩ := H; exact hr
  unfold law01_PlanBack
  refine goes_bnd _ (goes_New h0) (fun c hc => goes_bnd _ (goes_Mine hc (by omega)) (fun y ⟨_, hm⟩ => ?_))
  obtain ⟨m, c2⟩ := y
  simp only at hm ⊢
  have m1 := hm.hi
  have m2 := hm.roads
  have hv := hm.valid
  refine goes_bif (fun _ => ⟨_, goes_awake (by omega), rfl⟩) (fun g => ?_)
  simp only [beq_eq_false_iff_ne] at g
  refine goes_bnd _ (goes_Mod (by omega)) (fun k ⟨hk, _⟩ => ?_)
  have hk := hk (by omega)
  have hkn : k.toNat < m.Roads.length := by omega
  refine goes_letj (fun v => ((v.1 = 4 ∧ v.2 = 3) ∨ (v.1 = 3 ∧ v.2 = 4)) ∧ (m.Roads.getD k.toNat d_Road).Closed = (v.1 == 4)) (fun v ⟨v1, v2⟩ => ?_) (fun j hj => ?_)
  · obtain ⟨a, b⟩ := v
    simp only at v1 v2 ⊢
    have hx := apply_closed (K := 300) (by omega) hv hk.1 hk.2 (kind := a) (by omega) (by rw [v2]; rcases v1 with ⟨rfl, _⟩ | ⟨rfl, _⟩ <;> rfl)
    have hvx := withClosed_valid (b := (a == 3)) hv hkn
    have hlx : (withClosed m k.toNat (a == 3)).Roads.length = m.Roads.length := by simp [withClosed]
    have hgx : ((withClosed m k.toNat (a == 3)).Roads.getD k.toNat d_Road).Closed = (a == 3) := by
      simp [withClosed, hkn]
    have hy := apply_closed (K := 300) (by omega) hvx hk.1 (by rw [hlx]; exact hk.2) (kind := b) (by omega) (by rw [hgx]; rcases v1 with ⟨rfl, rfl⟩ | ⟨rfl, rfl⟩ <;> rfl)
    rw [withClosed_back hkn (by rw [v2]; rcases v1 with ⟨rfl, rfl⟩ | ⟨rfl, rfl⟩ <;> rfl)] at hy
    rw [bnd_ok hx, bnd_ok hy, bl_false (b := (withClosed m k.toNat (a == 3), (0 : Int)).2 != 0) rfl, bl_false (b := (m, (0 : Int)).2 != 0) rfl, bnd_ok (same_self (by simp only; omega) (by simp only; omega) (by simp only; omega) (by simp only; omega)), bl_false (b := !true) rfl]
    refine goes_letj (fun w => Valid ⟨w.1, w.2.1⟩ ∧ Valid ⟨w.2.2.1, w.2.2.2⟩ ∧ w.1 = w.2.2.1 ∧ ∀ p q, AdjAt w.2.1 p q → AdjAt w.2.2.2 p q) (fun w ⟨w1, w2, w3, w4⟩ => goes_back (by omega) w1 w2 w3 w4) (fun j hj => ?_)
    rcases v1 with ⟨rfl, rfl⟩ | ⟨rfl, rfl⟩
    · exact hj _ ⟨hv, hvx, rfl, fun p q => (adj_open hkn true v2).1 rfl⟩
    · exact hj _ ⟨hvx, hv, rfl, fun p q => (adj_open hkn false v2).2 rfl⟩
  · refine goes_ck (by omega) (goes_bif (fun e => hj _ ⟨.inl ⟨rfl, rfl⟩, by rw [e]; rfl⟩) (fun e => hj _ ⟨.inr ⟨rfl, rfl⟩, by rw [e]; rfl⟩))
end Go.Proofs.Ytmkhmonbfikbpaa
