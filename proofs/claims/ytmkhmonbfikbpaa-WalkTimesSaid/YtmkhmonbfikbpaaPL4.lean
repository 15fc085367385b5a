/- What an edit does; PlanApplies. -/
import Derived.Test.YtmkhmonbfikbpaaPL3
namespace Go.Proofs.Ytmkhmonbfikbpaa
open Go Go.Ev
set_option linter.unusedVariables false

def none_ : T_Mine := ⟨[], []⟩
def newP (e : T_Edit) : T_Place := ⟨e.Place_Height, e.Place_Surface⟩
def newR (e : T_Edit) : T_Road := ⟨e.New_From, e.New_To, e.New_Length, e.New_Area, e.New_Walk, e.New_Closed, e.New_Rest_Low, e.New_Rest_High, e.New_Lift_Low, e.New_Lift_High⟩
def chg (e : T_Edit) (r : T_Road) : T_Road := if e.Kind = 5 then { r with Rest_Low := e.Span_Low, Rest_High := e.Span_High } else if e.Kind = 6 then { r with Lift_Low := e.Span_Low, Lift_High := e.Span_High } else { r with Closed := (e.Kind == 3) }
def stepOf (m : T_Mine) (e : T_Edit) : T_Mine × Int :=
  if e.Kind = 1 then (⟨m.Places ++ [newP e], m.Roads⟩, 0) else if e.Kind = 2 then (⟨m.Places, m.Roads ++ [newR e]⟩, 0) else
  if 3 ≤ e.Kind ∧ e.Kind ≤ 6 then
    if e.Road < 0 ∨ e.Road ≥ m.Roads.length then (none_, 4) else
    if e.Kind ≤ 4 ∧ ((m.Roads.getD e.Road.toNat d_Road).Closed == (e.Kind == 3)) = true then (none_, 10) else (⟨m.Places, m.Roads.set e.Road.toNat (chg e (m.Roads.getD e.Road.toNat d_Road))⟩, 0)
  else (none_, 5)
def fin (K : Nat) (s : T_Mine × Int) : Option (T_Mine × Int) := if s.2 = 0 then bnd (plan_Check K s.1) (fun y => bif y != 0 then some (none_, y) else some (s.1, 0)) else some (none_, s.2)

theorem apply_eq {K : Nat} (hK : 130 < K) {m : T_Mine} (hv : Valid m) (e : T_Edit) : plan_Apply K m e = fin K (stepOf m e) := by
  obtain ⟨r, hr, h0⟩ := goes_Check hK m
  obtain rfl := h0.1.mpr hv
  have np := hv.np
  have nr := hv.nr
  unfold plan_Apply
  simp only [letj]
  rw [bnd_ok hr, bnd_ok (goes_clone (by omega) (by omega))]
  rw [ck_ok (p := (m.Places.length + 1) * 16 ≤ LIMIT) (limit_le (by omega)), ck_ok (p := (m.Roads.length + 1) * 72 ≤ LIMIT) (limit_le (by omega))]
  unfold stepOf fin
  by_cases k1 : e.Kind = 1
  · simp [k1, newP, none_]
  by_cases k2 : e.Kind = 2
  · simp [k2, newR, none_]
  by_cases k3 : e.Kind = 3
  · by_cases a : e.Road < 0
    · simp [k3, a, none_]
    by_cases b : e.Road ≥ m.Roads.length
    · simp [k3, a, b, none_]
    rw [ck_ok (p := 0 ≤ e.Road ∧ _) (by omega)]
    cases hc : (m.Roads.getD e.Road.toNat d_Road).Closed <;> simp [k3, a, b, none_, chg] <;> simp_all
  by_cases k4 : e.Kind = 4
  · by_cases a : e.Road < 0
    · simp [k4, a, none_]
    by_cases b : e.Road ≥ m.Roads.length
    · simp [k4, a, b, none_]
    rw [ck_ok (p := 0 ≤ e.Road ∧ _) (by omega)]
    cases hc : (m.Roads.getD e.Road.toNat d_Road).Closed <;> simp [k4, a, b, none_, chg] <;> simp_all
  by_cases k5 : e.Kind = 5
  · by_cases a : e.Road < 0
    · simp [k5, a, none_]
    by_cases b : e.Road ≥ m.Roads.length
    · simp [k5, a, b, none_]
    rw [ck_ok (p := 0 ≤ e.Road ∧ _) (by omega)]
    simp [k5, a, b, none_, chg]
  by_cases k6 : e.Kind = 6
  · by_cases a : e.Road < 0
    · simp [k6, a, none_]
    by_cases b : e.Road ≥ m.Roads.length
    · simp [k6, a, b, none_]
    rw [ck_ok (p := 0 ≤ e.Road ∧ _) (by omega)]
    simp [k6, a, b, none_, chg]
  have : ¬ (3 ≤ e.Kind ∧ e.Kind ≤ 6) := by omega
  simp [beq_eq_false_iff_ne.mpr k1, beq_eq_false_iff_ne.mpr k2, beq_eq_false_iff_ne.mpr k3, beq_eq_false_iff_ne.mpr k4, beq_eq_false_iff_ne.mpr k5, beq_eq_false_iff_ne.mpr k6, k1, k2, this, none_]

theorem refapply_eq {K : Nat} (hK : 130 < K) {m : T_Mine} (hv : Valid m) (e : T_Edit) : ref01_Apply K m e = fin K (stepOf m e) := by
  obtain ⟨r, hr, h0⟩ := goes_Check hK m
  obtain rfl := h0.1.mpr hv
  have np := hv.np
  have nr := hv.nr
  unfold ref01_Apply
  simp only [letj]
  rw [check_eq, bnd_ok hr, bnd_ok (goes_Copy (by omega) (by omega))]
  rw [ck_ok (p := (m.Places.length + 1) * 16 ≤ LIMIT) (limit_le (by omega)), ck_ok (p := (m.Roads.length + 1) * 72 ≤ LIMIT) (limit_le (by omega))]
  unfold stepOf fin
  by_cases k1 : e.Kind = 1
  · simp [k1, newP, none_]
  by_cases k2 : e.Kind = 2
  · simp [k2, newR, none_]
  by_cases k3 : e.Kind = 3
  · by_cases a : e.Road < 0
    · simp [k3, a, none_]
    by_cases b : e.Road ≥ m.Roads.length
    · simp [k3, a, b, none_]
    have hck : 0 ≤ e.Road ∧ e.Road < m.Roads.length := by omega
    cases hc : (m.Roads.getD e.Road.toNat d_Road).Closed <;> simp [k3, a, b, none_, chg, ck, hck.1, hck.2] <;> simp_all
  by_cases k4 : e.Kind = 4
  · by_cases a : e.Road < 0
    · simp [k4, a, none_]
    by_cases b : e.Road ≥ m.Roads.length
    · simp [k4, a, b, none_]
    have hck : 0 ≤ e.Road ∧ e.Road < m.Roads.length := by omega
    cases hc : (m.Roads.getD e.Road.toNat d_Road).Closed <;> simp [k4, a, b, none_, chg, ck, hck.1, hck.2] <;> simp_all
  by_cases k5 : e.Kind = 5
  · by_cases a : e.Road < 0
    · simp [k5, a, none_]
    by_cases b : e.Road ≥ m.Roads.length
    · simp [k5, a, b, none_]
    have hck : 0 ≤ e.Road ∧ e.Road < m.Roads.length := by omega
    simp [k5, a, b, none_, chg, ck, hck.1, hck.2]
  by_cases k6 : e.Kind = 6
  · by_cases a : e.Road < 0
    · simp [k6, a, none_]
    by_cases b : e.Road ≥ m.Roads.length
    · simp [k6, a, b, none_]
    have hck : 0 ≤ e.Road ∧ e.Road < m.Roads.length := by omega
    simp [k6, a, b, none_, chg, ck, hck.1, hck.2]
  have : ¬ (3 ≤ e.Kind ∧ e.Kind ≤ 6) := by omega
  by_cases l : e.Kind < 1
  · simp [l, k1, k2, this, none_]
  · have g : e.Kind > 6 := by omega
    simp [l, g, k1, k2, this, none_]

theorem apply_bad {K : Nat} {m : T_Mine} {r : Int} (h : plan_Check K m = some r) (hr : r ≠ 0) (e : T_Edit) : plan_Apply K m e = some (none_, r) := by
  unfold plan_Apply
  rw [bnd_ok h, bl_true (by simpa using hr)]
  rfl
theorem refapply_bad {K : Nat} {m : T_Mine} {r : Int} (h : plan_Check K m = some r) (hr : r ≠ 0) (e : T_Edit) : ref01_Apply K m e = some (none_, r) := by
  unfold ref01_Apply
  rw [check_eq, bnd_ok h, bl_true (by simpa using hr)]
  rfl

theorem apply_same {K : Nat} (hK : 130 < K) (m : T_Mine) (e : T_Edit) : ref01_Apply K m e = plan_Apply K m e := by
  obtain ⟨r, hr, h0, _⟩ := goes_Check hK m
  by_cases h : r = 0
  · rw [refapply_eq hK (h0.mp h), apply_eq hK (h0.mp h)]
  · rw [refapply_bad hr h, apply_bad hr h]

/-- An edit comes to an end: an error and nothing, or a valid mine. -/
theorem goes_Apply {K : Nat} (hK : 130 < K) (m : T_Mine) (e : T_Edit) : Goes (plan_Apply K m e) (fun y => (y.2 = 0 → Valid m ∧ Valid y.1 ∧ (stepOf m e).2 = 0 ∧ y.1 = (stepOf m e).1) ∧ (y.2 ≠ 0 → y.1 = none_)) := by
  obtain ⟨r, hr, h0, _⟩ := goes_Check hK m
  by_cases h : r = 0
  · rw [apply_eq hK (h0.mp h)]
    unfold fin
    split
    · rename_i hs
      obtain ⟨q, hq, q0, _⟩ := goes_Check hK (stepOf m e).1
      rw [bnd_ok hq]
      refine goes_bif (fun g => goes_some ⟨fun z => ?_, fun _ => rfl⟩) (fun g => goes_some ⟨fun _ => ⟨h0.mp h, q0.mp ?_, hs, rfl⟩, fun z => (z rfl).elim⟩)
      · simp only at z; simp [z] at g
      · simpa using g
    · rename_i hs
      exact goes_some ⟨fun z => (hs z).elim, fun _ => rfl⟩
  · rw [apply_bad hr h]
    exact goes_some ⟨fun z => (h z).elim, fun _ => rfl⟩


theorem same_self {K : Nat} {m : T_Mine} (h1 : m.Places.length < K) (h2 : m.Roads.length < K) (h3 : m.Places.length ≤ 1000) (h4 : m.Roads.length ≤ 1000) : ref01_Same K m m = some true := by
  suffices H : Goes (ref01_Same K m m) (fun r => r = true) by
    obtain ⟨r, hr, rfl⟩ := H; exact hr
  unfold ref01_Same
  rw [bl_false (by simp), bl_false (by simp)]
  refine goes_letj (fun _ => True) (fun _ _ => goes_letj (fun _ => True) (fun _ _ => goes_some rfl) (fun j hj => ?_)) (fun j hj => ?_)
  · refine goes_loop (fun (v : Int) => 0 ≤ v ∧ v ≤ m.Roads.length) (fun v => m.Roads.length - v.toNat) ?_ K _ ⟨by omega, by omega⟩ (by omega)
    intro self v ⟨v1, v2⟩ hs
    unfold ref01_Same_b3
    refine goes_bif (fun h => ?_) (fun h => hj _ trivial)
    simp only [decide_eq_true_eq] at h
    refine goes_ck (by omega) (goes_ck (by omega) ?_)
    rw [bl_false (by simp), w64 (e := v + 1) (by omega)]
    exact hs _ ⟨by omega, by omega⟩ (by omega)
  · refine goes_loop (fun (v : Int) => 0 ≤ v ∧ v ≤ m.Places.length) (fun v => m.Places.length - v.toNat) ?_ K _ ⟨by omega, by omega⟩ (by omega)
    intro self v ⟨v1, v2⟩ hs
    unfold ref01_Same_b1
    refine goes_bif (fun h => ?_) (fun h => hj _ trivial)
    simp only [decide_eq_true_eq] at h
    refine goes_ck (by omega) (goes_ck (by omega) ?_)
    rw [bl_false (by simp), w64 (e := v + 1) (by omega)]
    exact hs _ ⟨by omega, by omega⟩ (by omega)

theorem goes_Edit {K : Nat} {c : T_Codes} {m : T_Mine} (hc : okC c) (h1 : m.Places.length ≤ 1000) (h2 : m.Roads.length ≤ 1000) : Goes (draw_Codes_Edit K c m) (fun y => okC y.2) := by
  unfold draw_Codes_Edit
  refine goes_bnd _ (goes_Range hc (by omega) (by omega) (by omega)) (fun y1 ⟨c1, _⟩ => ?_)
  refine goes_letj (fun v => okC ⟨v.1, v.2.1⟩) (fun v hv => goes_some hv) (fun j hj => ?_)
  refine goes_bif (fun _ => ?_) (fun _ => goes_bif (fun _ => ?_) (fun _ => ?_))
  · exact goes_bnd _ (goes_Range c1 (by omega) (by omega) (by omega)) (fun y2 ⟨c2, _⟩ => goes_bnd _ (goes_One c2) (fun y3 c3 => hj _ c3))
  · exact goes_bnd _ (goes_Next c1) (fun y2 ⟨c2, _⟩ => goes_bnd _ (goes_Next c2) (fun y3 ⟨c3, _⟩ => goes_bnd _ (goes_Road c3) (fun y4 ⟨c4, _⟩ => hj _ c4)))
  · refine goes_letj (fun _ => True) (fun v _ => ?_) (fun j' hj' => goes_bif (fun _ => hj' _ trivial) (fun _ => hj' _ trivial))
    refine goes_bif (fun _ => ?_) (fun _ => ?_)
    · exact goes_bnd _ (goes_Next c1) (fun y2 ⟨c2, _⟩ => hj _ c2)
    · exact goes_bnd _ (goes_Next c1) (fun y2 ⟨c2, _⟩ => goes_bnd _ (goes_Range c2 (by omega) (by omega) (by omega)) (fun y3 ⟨c3, _⟩ => goes_bnd _ (goes_Range c3 (by omega) (by omega) (by omega)) (fun y4 ⟨c4, _⟩ => hj _ c4)))

theorem goes_Edits {K : Nat} {c : T_Codes} {n : Int} (hc : okC c) (hK : 200 < K) (hn : 0 ≤ n ∧ n ≤ 100) : Goes (draw_Codes_Edits K c n) (fun y => okC y.2 ∧ (y.1.length : Int) ≤ n) := by
  unfold draw_Codes_Edits
  refine goes_bnd _ (goes_Mine hc (by omega)) (fun y ⟨c1, hm⟩ => ?_)
  have l1 := hm.hi
  have l2 := hm.roads
  refine goes_letj (fun v => okC ⟨v.1, v.2.1⟩ ∧ (v.2.2.length : Int) ≤ n) (fun v hv => goes_some hv) (fun j hj => ?_)
  rw [w64 (by omega)]
  refine goes_bnd _ (goes_Next c1) (fun z ⟨c2, z1, z2, _⟩ => ?_)
  have := z2 (by omega)
  refine goes_loop (fun (u : Int × List Int × Int × List T_Edit) => okC ⟨u.2.1, u.2.2.1⟩ ∧ 0 ≤ u.1 ∧ u.1 + u.2.2.2.length ≤ n) (fun u => u.1.toNat) ?_ K _ ⟨c2, z1, by simp; omega⟩ (by simp only; omega)
  intro self u ⟨u1, u2, u3⟩ hs
  unfold draw_Codes_Edits_b1
  refine goes_bif (fun h => ?_) (fun h => hj _ ⟨u1, by simp only; omega⟩)
  simp only [decide_eq_true_eq] at h
  rw [w64 (e := u.1 - 1) (by omega)]
  exact goes_bnd _ (goes_Edit u1 (by omega) (by omega)) (fun q c3 => goes_ck (limit_le (by omega)) (hs _ ⟨c3, by simp only; omega, by simp; omega⟩ (by simp only; omega)))
end Go.Proofs.Ytmkhmonbfikbpaa
