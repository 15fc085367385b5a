/- PlanOrders. -/
import Derived.Test.YtmkhmonbfikbpaaPL5
namespace Go.Proofs.Ytmkhmonbfikbpaa
open Go Go.Ev
set_option linter.unusedVariables false

theorem MineIn.valid {m : T_Mine} (h : MineIn m) : Valid m := by
  refine ⟨by have := h.hi; omega, by have := h.roads; omega, fun p hp => by have := h.h p hp; omega, fun r hr => ?_⟩
  obtain ⟨a, b1, b2, b3, b4, b5⟩ := h.r r hr
  have c1 := a.len
  have c2 := a.area
  have c3 := a.rest
  have c4 := a.lift
  exact ⟨⟨b1, b2⟩, ⟨b3, b4⟩, b5, by omega, by omega, by omega, by omega⟩

theorem goes_Check4 {K : Nat} (hK : 130 < K) (m : T_Mine) (h1 : m.Places.length ≤ 64) (h2 : m.Roads.length ≤ 128) (h3 : ∀ p ∈ m.Places, -10000 ≤ p.Height ∧ p.Height ≤ 10000) (h4 : ∀ r ∈ m.Roads, VRoad m.Places.length r ∨ r.From = r.To) :
    Goes (plan_Check K m) (fun r => r = 0 ∨ r = 4) := by
  unfold plan_Check
  rw [bl_false (by simp; omega), bl_false (by simp; omega)]
  refine goes_letj (fun _ => True) (fun v _ => ?_) (fun j hj => ?_)
  · refine goes_letj (fun _ => True) (fun v _ => goes_some (.inl rfl)) (fun j hj => ?_)
    refine goes_loop (fun (v : Int) => 0 ≤ v ∧ v ≤ m.Roads.length) (fun v => m.Roads.length - v.toNat) ?_ K _ ⟨by omega, by omega⟩ (by omega)
    intro self v ⟨v1, v2⟩ hs
    unfold plan_Check_b3
    refine goes_bif (fun h => ?_) (fun h => hj _ trivial)
    simp only [decide_eq_true_eq] at h
    have hmem := h4 _ (getD_mem (d := d_Road) (show v.toNat < m.Roads.length by omega))
    refine goes_ck (by omega) ?_
    rw [w64 (e := v + 1) (by omega)]
    generalize m.Roads.getD v.toNat d_Road = r at hmem ⊢
    refine goes_bif (fun g => goes_some (.inr rfl)) (fun g1 => ?_)
    refine goes_bif (fun g => goes_some (.inr rfl)) (fun g1 => ?_)
    refine goes_bif (fun g => goes_some (.inr rfl)) (fun g1 => ?_)
    refine goes_bif (fun g => goes_some (.inr rfl)) (fun g1 => ?_)
    refine goes_bif (fun g => goes_some (.inr rfl)) (fun g1 => ?_)
    simp only [beq_eq_false_iff_ne] at g1
    have hv := hmem.resolve_right g1
    have c1 := hv.len
    have c2 := hv.area
    rw [bl_false (by simp; omega), bl_false (by simp; omega), bl_false (by simp; omega), bl_false (by simp; omega)]
    refine goes_bnd _ goes_spanIn (fun y1 e1 => ?_)
    rw [bl_false (by simp; exact e1.mpr hv.rest)]
    refine goes_bnd _ goes_spanIn (fun y2 e2 => ?_)
    rw [bl_false (by simp; exact e2.mpr hv.lift)]
    exact hs _ ⟨by omega, by omega⟩ (by omega)
  · refine goes_loop (fun (v : Int) => 0 ≤ v ∧ v ≤ m.Places.length) (fun v => m.Places.length - v.toNat) ?_ K _ ⟨by omega, by omega⟩ (by omega)
    intro self v ⟨v1, v2⟩ hs
    unfold plan_Check_b1
    refine goes_bif (fun h => ?_) (fun h => hj _ trivial)
    simp only [decide_eq_true_eq] at h
    have hmem := h3 _ (getD_mem (d := d_Place) (show v.toNat < m.Places.length by omega))
    refine goes_ck (by omega) ?_
    rw [w64 (e := v + 1) (by omega), bl_false (by simp only [decide_eq_false_iff_not]; omega), bl_false (by simp only [decide_eq_false_iff_not]; omega)]
    exact hs _ ⟨by omega, by omega⟩ (by omega)

theorem check_valid {K : Nat} (hK : 130 < K) {m : T_Mine} (h : Valid m) : plan_Check K m = some 0 := by
  obtain ⟨r, hr, h0, _⟩ := goes_Check hK m
  rw [hr, h0.mpr h]

def tail (K : Nat) (m : T_Mine) (c : T_Codes) (a1 a2 : Int) : Option Bool :=
  bnd (draw_Mod K a1 ((m.Places.length : Nat) : Int)) fun y11 => (bnd (draw_Mod K a2 ((m.Places.length : Nat) : Int)) fun y13 => (bnd (draw_Codes_Road K c y11 y13) fun y15 => (bnd (plan_Apply K m (⟨2, 0, false, y15.1.From, y15.1.To, y15.1.Length, y15.1.Area, y15.1.Walk, y15.1.Closed, y15.1.Rest_Low, y15.1.Rest_High, y15.1.Lift_Low, y15.1.Lift_High, 0, 0, 0⟩ : T_Edit)) fun y17 => (bif (y17.2 != 0) then (bif (y17.2 == 4) then (bif (y15.1.From == y15.1.To) then (bnd (law01_awake K) fun y22 => (some y22)) else (some false)) else (some false)) else (bif (((y17.1.Roads.length : Nat) : Int) == (IntKind.wrap .i64 (((m.Roads.length : Nat) : Int) + 1))) then (ck (0 ≤ m.Roads.length ∧ m.Roads.length ≤ y17.1.Roads.length) (bnd (ref01_Same K { y17.1 with Roads := (y17.1.Roads.take m.Roads.length) } m) fun y26 => (bif y26 then (ck (0 ≤ ((m.Roads.length : Nat) : Int) ∧ ((m.Roads.length : Nat) : Int) < ((y17.1.Roads.length : Nat) : Int)) (bif (((y17.1.Roads.getD m.Roads.length d_Road).From == y15.1.From) && (((y17.1.Roads.getD m.Roads.length d_Road).To == y15.1.To) && (((y17.1.Roads.getD m.Roads.length d_Road).Length == y15.1.Length) && (((y17.1.Roads.getD m.Roads.length d_Road).Area == y15.1.Area) && (((y17.1.Roads.getD m.Roads.length d_Road).Walk == y15.1.Walk) && (((y17.1.Roads.getD m.Roads.length d_Road).Closed == y15.1.Closed) && (((y17.1.Roads.getD m.Roads.length d_Road).Rest_Low == y15.1.Rest_Low) && (((y17.1.Roads.getD m.Roads.length d_Road).Rest_High == y15.1.Rest_High) && (((y17.1.Roads.getD m.Roads.length d_Road).Lift_Low == y15.1.Lift_Low) && ((y17.1.Roads.getD m.Roads.length d_Road).Lift_High == y15.1.Lift_High)))))))))) then (bnd (law01_awake K) fun y31 => (some y31)) else (some false))) else (some false)))) else (some false))))))

theorem getD_append_len {α : Type} (l : List α) (x d : α) : (l ++ [x]).getD l.length d = x := by
  rw [List.getD_eq_getElem?_getD]
  simp

theorem goes_tail {K : Nat} (hK : 300 ≤ K) {m : T_Mine} (hm : MineIn m) {c : T_Codes} (hc : okC c) (a1 a2 : Int) : Goes (tail K m c a1 a2) (fun r => r = true) := by
  have h1 := hm.lo
  have h2 := hm.hi
  have h3 := hm.roads
  unfold tail
  refine goes_bnd _ (goes_Mod (by omega)) (fun p ⟨hp, _⟩ => goes_bnd _ (goes_Mod (by omega)) (fun q ⟨hq, _⟩ => goes_bnd _ (goes_Road hc) (fun y ⟨_, hr, hf, ht, _⟩ => ?_)))
  have hp := hp (by omega)
  have hq := hq (by omega)
  rw [apply_eq (by omega) hm.valid]
  obtain ⟨r, c'⟩ := y
  simp only at hr hf ht ⊢
  have hs : stepOf m ⟨2, 0, false, r.From, r.To, r.Length, r.Area, r.Walk, r.Closed, r.Rest_Low, r.Rest_High, r.Lift_Low, r.Lift_High, 0, 0, 0⟩ = (⟨m.Places, m.Roads ++ [r]⟩, 0) := rfl
  rw [hs]
  unfold fin
  rw [if_pos rfl]
  simp only
  have hv := hm.valid
  by_cases e : r.From = r.To
  · obtain ⟨x, hx, h0, _⟩ := goes_Check (K := K) (by omega) (⟨m.Places, m.Roads ++ [r]⟩ : T_Mine)
    have hx4 := (goes_Check4 (K := K) (by omega) (⟨m.Places, m.Roads ++ [r]⟩ : T_Mine) hv.np (by simp; omega) hv.h (fun z hz => by
      rcases List.mem_append.mp hz with hz | hz
      · exact .inl (hv.r z hz)
      · simp only [List.mem_singleton] at hz
        subst hz; exact .inr e)).val hx
    have hx0 : x ≠ 0 := fun hx0 => by
      have := (h0.mp hx0).r r (by simp)
      exact this.ne e
    obtain rfl := hx4.resolve_left hx0
    rw [bnd_ok hx, bl_true (by simp), bnd_ok rfl, bl_true (by simp), bl_true (by simp), bl_true (by simpa using e)]
    exact ⟨_, goes_awake (by omega), rfl⟩
  · have hv' : Valid (⟨m.Places, m.Roads ++ [r]⟩ : T_Mine) := by
      refine ⟨hv.np, by simp; omega, hv.h, fun z hz => ?_⟩
      rcases List.mem_append.mp hz with hz | hz
      · exact hv.r z hz
      · simp only [List.mem_singleton] at hz
        subst hz
        have c1 := hr.len
        have c2 := hr.area
        have c3 := hr.rest
        have c4 := hr.lift
        exact ⟨by simp only; omega, by simp only; omega, e, by omega, by omega, by omega, by omega⟩
    rw [bnd_ok (check_valid (by omega) hv'), bl_false (by simp), bnd_ok rfl, bl_false (by simp), w64 (by omega), bl_true (by simp), ck_ok (by simp)]
    have ht : ({ (⟨m.Places, m.Roads ++ [r]⟩ : T_Mine) with Roads := ((m.Roads ++ [r]).take m.Roads.length) } : T_Mine) = m := by simp
    rw [ht, bnd_ok (same_self (by omega) (by omega) (by omega) (by omega)), bl_true rfl, ck_ok (by simp; omega), getD_append_len, bl_true (by simp)]
    exact ⟨_, goes_awake (by omega), rfl⟩

theorem step3 {m : T_Mine} {e : T_Edit} (hk : 3 ≤ e.Kind) (h : (stepOf m e).2 = 0) : e.Kind ≤ 6 ∧ 0 ≤ e.Road ∧ e.Road < m.Roads.length ∧ ¬ (e.Kind ≤ 4 ∧ ((m.Roads.getD e.Road.toNat d_Road).Closed == (e.Kind == 3)) = true) ∧
    (stepOf m e).1 = ⟨m.Places, m.Roads.set e.Road.toNat (chg e (m.Roads.getD e.Road.toNat d_Road))⟩ := by
  unfold stepOf at h ⊢
  rw [if_neg (by omega), if_neg (by omega)] at h ⊢
  split at h
  · rename_i h6
    rw [if_pos h6]
    split at h
    · simp at h
    · rename_i hr
      rw [if_neg hr]
      split at h
      · simp at h
      · rename_i hc
        rw [if_neg hc]
        exact ⟨h6.2, by omega, by omega, hc, rfl⟩
  · simp at h
theorem step3' {m : T_Mine} {e : T_Edit} (hk : 3 ≤ e.Kind) (h6 : e.Kind ≤ 6) (h0 : 0 ≤ e.Road) (h1 : e.Road < m.Roads.length) (hc : ¬ (e.Kind ≤ 4 ∧ ((m.Roads.getD e.Road.toNat d_Road).Closed == (e.Kind == 3)) = true)) :
    stepOf m e = (⟨m.Places, m.Roads.set e.Road.toNat (chg e (m.Roads.getD e.Road.toNat d_Road))⟩, 0) := by
  unfold stepOf
  rw [if_neg (by omega), if_neg (by omega), if_pos ⟨hk, h6⟩, if_neg (by omega), if_neg hc]

theorem apply_ok {K : Nat} (hK : 130 < K) {m : T_Mine} {e : T_Edit} (hm : Valid m) (h : (stepOf m e).2 = 0) (hv : Valid (stepOf m e).1) : plan_Apply K m e = some ((stepOf m e).1, 0) := by
  rw [apply_eq hK hm]
  unfold fin
  rw [if_pos h, bnd_ok (check_valid hK hv)]
  rfl

theorem getD_set_ne {α : Type} {l : List α} {i j : Nat} {x d : α} (h : i ≠ j) : (l.set i x).getD j d = l.getD j d := by
  rw [List.getD_eq_getElem?_getD, List.getElem?_set_ne h, ← List.getD_eq_getElem?_getD]

theorem step_two {m : T_Mine} {e f : T_Edit} (he : 3 ≤ e.Kind) (hf : 3 ≤ f.Kind) (hr : e.Road ≠ f.Road) (h1 : (stepOf m e).2 = 0) (h2 : (stepOf m f).2 = 0) (v1 : Valid (stepOf m e).1) (v2 : Valid (stepOf m f).1) :
    (stepOf (stepOf m e).1 f).2 = 0 ∧ Valid (stepOf (stepOf m e).1 f).1 ∧ (stepOf (stepOf m e).1 f).1 = ⟨m.Places, (m.Roads.set e.Road.toNat (chg e (m.Roads.getD e.Road.toNat d_Road))).set f.Road.toNat (chg f (m.Roads.getD f.Road.toNat d_Road))⟩ := by
  obtain ⟨e1, e2, e3, e4, e5⟩ := step3 he h1
  obtain ⟨f1, f2, f3, f4, f5⟩ := step3 hf h2
  have hne : e.Road.toNat ≠ f.Road.toNat := by omega
  have hg : (m.Roads.set e.Road.toNat (chg e (m.Roads.getD e.Road.toNat d_Road))).getD f.Road.toNat d_Road = m.Roads.getD f.Road.toNat d_Road := getD_set_ne hne
  rw [e5] at v1 ⊢
  rw [f5] at v2
  have hs := step3' (m := ⟨m.Places, m.Roads.set e.Road.toNat (chg e (m.Roads.getD e.Road.toNat d_Road))⟩) hf f1 f2 (by simpa using f3) (by simp only; rw [hg]; exact f4)
  simp only at hs
  rw [hg] at hs
  rw [hs]
  refine ⟨rfl, ⟨v1.np, by have := v1.nr; simpa using this, v1.h, fun r hr' => ?_⟩, rfl⟩
  rcases List.mem_or_eq_of_mem_set hr' with h | h
  · exact v1.r r h
  · subst h
    exact v2.r _ (List.mem_set (by omega) _)

theorem pure_PlanOrders : Said_law01_PlanOrders := by
  intro a0 a1 a2 h0 h1 h2
  refine ⟨300, ?_⟩
  suffices H : Goes (law01_PlanOrders 300 a0 a1 a2) (fun r => r = true) by
    obtain ⟨r, hr, rfl⟩ := H; exact hr
  unfold law01_PlanOrders
  refine goes_bnd _ (goes_New h0) (fun c hc => goes_bnd _ (goes_Mine hc (by omega)) (fun y ⟨hc2, hm⟩ => ?_))
  have m1 := hm.hi
  have m2 := hm.roads
  refine goes_bnd _ (goes_Edit hc2 (by omega) (by omega)) (fun e hc3 => goes_bnd _ (goes_Edit hc3 (by omega) (by omega)) (fun f hc4 => ?_))
  refine goes_bif (fun _ => goes_tail (by omega) hm hc4 a1 a2) (fun k1 => goes_bif (fun _ => goes_tail (by omega) hm hc4 a1 a2) (fun k2 => goes_bif (fun _ => goes_tail (by omega) hm hc4 a1 a2) (fun k3 => ?_)))
  simp only [decide_eq_false_iff_not, beq_eq_false_iff_ne] at k1 k2 k3
  refine goes_bnd _ (goes_Apply (by omega) y.1 e.1) (fun p ⟨p1, _⟩ => goes_bnd _ (goes_Apply (by omega) y.1 f.1) (fun q ⟨q1, _⟩ => ?_))
  refine goes_bif (fun _ => ⟨_, goes_awake (by omega), rfl⟩) (fun g1 => goes_bif (fun _ => ⟨_, goes_awake (by omega), rfl⟩) (fun g2 => ?_))
  have z1 : p.2 = 0 := by simpa using g1
  have z2 : q.2 = 0 := by simpa using g2
  obtain ⟨vm, vp, sp, ep⟩ := p1 z1
  obtain ⟨_, vq, sq, eq⟩ := q1 z2
  rw [ep] at vp ⊢
  rw [eq] at vq ⊢
  obtain ⟨a1, a2, a3⟩ := step_two (by omega) (by omega) k3 sp sq vp vq
  obtain ⟨b1, b2, b3⟩ := step_two (by omega) (by omega) (Ne.symm k3) sq sp vq vp
  have hne : e.1.Road.toNat ≠ f.1.Road.toNat := by
    obtain ⟨_, e2, _⟩ := step3 (by omega) sp
    obtain ⟨_, f2, _⟩ := step3 (by omega) sq
    omega
  have hpq : (stepOf (stepOf y.1 f.1).1 e.1).1 = (stepOf (stepOf y.1 e.1).1 f.1).1 := by
    rw [a3, b3, List.set_comm _ _ hne]
  rw [bnd_ok (apply_ok (by omega) vp a1 a2), bnd_ok (apply_ok (by omega) vq b1 b2), hpq, bl_true (by simp), bl_true (by simp)]
  have s := a2.small
  simp only
  rw [bnd_ok (same_self (by have := s.1; omega) (by have := s.2; omega) (by have := s.1; omega) (by have := s.2; omega)), bl_true rfl]
  exact ⟨_, goes_awake (by omega), rfl⟩
end Go.Proofs.Ytmkhmonbfikbpaa
