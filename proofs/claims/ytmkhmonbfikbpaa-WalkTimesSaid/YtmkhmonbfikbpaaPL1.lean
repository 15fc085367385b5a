/- What the drawn choices come to. -/
import Derived.Test.YtmkhmonbfikbpaaPL0
import Derived.Test.YtmkhmonbfikbpaaGA
namespace Go.Proofs.Ytmkhmonbfikbpaa
open Go Go.Ev
set_option linter.unusedVariables false

def okC (c : T_Codes) : Prop := (∀ x ∈ c.l_, 0 ≤ x ∧ x ≤ 255) ∧ c.l_.length ≤ 300 ∧ 0 ≤ c.at_ ∧ c.at_ ≤ c.l_.length

theorem goes_New {K : Nat} {l : List Int} (hl : okL (okI .u8) l) : Goes (draw_New K l) okC := by
  have hb : ∀ x ∈ l, 0 ≤ x ∧ x ≤ 255 := fun x hx => okI_u8 (hl.1 x hx)
  unfold draw_New
  refine goes_ck (by split <;> omega) (goes_ck (by split <;> omega) (goes_some ?_))
  refine ⟨fun x hx => hb x (List.mem_of_mem_take hx), ?_, by simp, by simp⟩
  simp only [List.length_take]
  split <;> omega

theorem goes_Next {K : Nat} {c : T_Codes} {n : Int} (hc : okC c) : Goes (draw_Codes_Next K c n) (fun y => okC y.2 ∧ 0 ≤ y.1 ∧ (1 ≤ n → y.1 < n) ∧ (n < 1 → y.1 = 0)) := by
  obtain ⟨h1, h2, h3, h4⟩ := hc
  unfold draw_Codes_Next
  refine goes_bif (fun h => ?_) (fun h => ?_)
  · simp only [decide_eq_true_eq] at h
    exact goes_some ⟨⟨h1, h2, h3, h4⟩, by simp, fun _ => by simp; omega, fun _ => rfl⟩
  simp only [decide_eq_false_iff_not] at h
  refine goes_bif (fun k => ?_) (fun k => ?_)
  · exact goes_some ⟨⟨h1, h2, h3, h4⟩, by simp, fun _ => by simp; omega, fun _ => rfl⟩
  simp only [decide_eq_false_iff_not] at k
  have e1 : IntKind.wrap .i64 (c.at_ + 1) = c.at_ + 1 := w64 (by omega)
  rw [e1]
  have e2 : IntKind.wrap .i64 (c.at_ + 1 - 1) = c.at_ := by rw [w64 (by omega)]; omega
  rw [e2]
  have b1 : 0 ≤ c.l_.getD c.at_.toNat 0 ∧ c.l_.getD c.at_.toNat 0 ≤ 255 := h1 _ (getD_mem (by omega))
  rw [w64 (e := c.l_.getD c.at_.toNat 0) (by omega)]
  refine goes_ck (by omega) (goes_letj (fun v => 0 ≤ v.1 ∧ 0 ≤ v.2 ∧ v.2 ≤ c.l_.length) (fun v hv => ?_) (fun j hj => ?_))
  · refine goes_ck (by omega) (goes_some ⟨⟨h1, h2, hv.2.1, hv.2.2⟩, Int.tmod_nonneg _ hv.1, fun _ => ?_, fun h' => by omega⟩)
    have := Int.tmod_lt_of_pos v.1 (show 0 < n by omega)
    exact this
  refine goes_bif (fun p => goes_bif (fun q => ?_) (fun q => ?_)) (fun p => ?_)
  · simp only [decide_eq_true_eq] at p q
    refine goes_ck (by omega) (hj _ ?_)
    have b2 : 0 ≤ c.l_.getD (c.at_ + 1).toNat 0 ∧ c.l_.getD (c.at_ + 1).toNat 0 ≤ 255 := h1 _ (getD_mem (by omega))
    rw [w64 (e := c.l_.getD (c.at_ + 1).toNat 0) (by omega), w64 (e := c.l_.getD c.at_.toNat 0 * 256) (by omega), w64 (by omega), w64 (by omega)]
    simp only
    omega
  · exact hj _ ⟨b1.1, by simp only; omega, by simp only; omega⟩
  · exact hj _ ⟨b1.1, by simp only; omega, by simp only; omega⟩

theorem goes_Range {K : Nat} {c : T_Codes} {lo hi : Int} (hc : okC c) (hlo : -1000000 ≤ lo) (hle : lo ≤ hi) (hhi : hi ≤ 1000000) :
    Goes (draw_Codes_Range K c lo hi) (fun y => okC y.2 ∧ lo ≤ y.1 ∧ y.1 ≤ hi) := by
  unfold draw_Codes_Range
  rw [w64 (e := hi - lo) (by omega), w64 (by omega)]
  refine goes_bnd _ (goes_Next hc) (fun y ⟨y1, y2, y3, _⟩ => goes_some ⟨y1, ?_, ?_⟩)
  · simp only; rw [w64 (by omega)]; omega
  · simp only; rw [w64 (by omega)]; omega
theorem goes_One {K : Nat} {c : T_Codes} {n : Int} (hc : okC c) : Goes (draw_Codes_One K c n) (fun y => okC y.2) := by
  unfold draw_Codes_One
  exact goes_bnd _ (goes_Next hc) (fun y ⟨y1, _⟩ => goes_some y1)

/-- A drawn road. -/
structure RoadIn (r : T_Road) : Prop where
  len : 1 ≤ r.Length ∧ r.Length ≤ 400
  area : 4 ≤ r.Area ∧ r.Area ≤ 30
  rest : 1 ≤ r.Rest_Low ∧ r.Rest_Low ≤ r.Rest_High ∧ r.Rest_High ≤ 30
  lift : -300 ≤ r.Lift_Low ∧ r.Lift_Low ≤ r.Lift_High ∧ r.Lift_High ≤ 400
theorem goes_Road {K : Nat} {c : T_Codes} {a b : Int} (hc : okC c) : Goes (draw_Codes_Road K c a b) (fun y => okC y.2 ∧ RoadIn y.1 ∧ y.1.From = a ∧ y.1.To = b ∧ y.1.Closed = false) := by
  unfold draw_Codes_Road
  refine goes_bnd _ (goes_Range hc (by omega) (by omega) (by omega)) (fun y1 ⟨c1, l1, u1⟩ => ?_)
  refine goes_bnd _ (goes_Range c1 (by omega) (by omega) (by omega)) (fun y2 ⟨c2, l2, u2⟩ => ?_)
  refine goes_bnd _ (goes_Next c2) (fun y3 ⟨c3, l3, u3, _⟩ => ?_)
  refine goes_bnd _ (goes_Range c3 (by omega) (by omega) (by omega)) (fun y4 ⟨c4, l4, u4⟩ => ?_)
  refine goes_bnd _ (goes_Next c4) (fun y5 ⟨c5, l5, u5, _⟩ => ?_)
  refine goes_bnd _ (goes_Range c5 (by omega) (by omega) (by omega)) (fun y6 ⟨c6, l6, u6⟩ => ?_)
  refine goes_bnd _ (goes_Next c6) (fun y7 ⟨c7, l7, u7, _⟩ => goes_some ⟨c7, ⟨⟨l1, u1⟩, ⟨l2, u2⟩, ?_, ?_⟩, rfl, rfl, rfl⟩)
  · simp only; rw [w64 (by omega)]; omega
  · simp only; rw [w64 (by omega)]; omega

/-- A drawn mine. -/
structure MineIn (m : T_Mine) : Prop where
  lo : 2 ≤ m.Places.length
  hi : m.Places.length ≤ 7
  roads : m.Roads.length ≤ 8
  h : ∀ p ∈ m.Places, -60 ≤ p.Height ∧ p.Height ≤ 60
  r : ∀ r ∈ m.Roads, RoadIn r ∧ 0 ≤ r.From ∧ r.From < m.Places.length ∧ 0 ≤ r.To ∧ r.To < m.Places.length ∧ r.From ≠ r.To
theorem limit_le {n : Nat} (h : n ≤ 1000000000) : n ≤ LIMIT := by unfold LIMIT; omega
theorem goes_Mine {K : Nat} {c : T_Codes} (hc : okC c) (hK : 20 < K) : Goes (draw_Codes_Mine K c) (fun y => okC y.2 ∧ MineIn y.1) := by
  unfold draw_Codes_Mine
  refine goes_letj (fun v => okC ⟨v.1, v.2.1⟩ ∧ 2 ≤ v.2.2.length ∧ v.2.2.length ≤ 7 ∧ ∀ p ∈ v.2.2, -60 ≤ p.Height ∧ p.Height ≤ 60) (fun v ⟨hv, v2, v3, v4⟩ => ?_) (fun j hj => ?_)
  · refine goes_letj (fun u => okC ⟨u.1, u.2.1⟩ ∧ u.2.2.length ≤ 8 ∧ ∀ r ∈ u.2.2, RoadIn r ∧ 0 ≤ r.From ∧ r.From < v.2.2.length ∧ 0 ≤ r.To ∧ r.To < v.2.2.length ∧ r.From ≠ r.To) (fun u ⟨u1, u2, u3⟩ => goes_some ⟨u1, v2, v3, u2, v4, u3⟩) (fun j hj => ?_)
    refine goes_bnd _ (goes_Next hv) (fun y ⟨c1, l1, u1, _⟩ => ?_)
    refine goes_loop (fun (u : Int × List Int × Int × List T_Road) => okC ⟨u.2.1, u.2.2.1⟩ ∧ 0 ≤ u.1 ∧ u.1 + u.2.2.2.length ≤ 8 ∧ ∀ r ∈ u.2.2.2, RoadIn r ∧ 0 ≤ r.From ∧ r.From < v.2.2.length ∧ 0 ≤ r.To ∧ r.To < v.2.2.length ∧ r.From ≠ r.To) (fun u => u.1.toNat) ?_ K _ ⟨c1, l1, by simp; omega, by simp⟩ (by simp only; omega)
    intro self u ⟨i1, i2, i3, i4⟩ hs
    unfold draw_Codes_Mine_b3
    refine goes_bif (fun h => ?_) (fun h => hj _ ⟨i1, by simp only; omega, i4⟩)
    simp only [decide_eq_true_eq] at h
    refine goes_bnd _ (goes_Next i1) (fun y1 ⟨c1, l1, u1, _⟩ => ?_)
    rw [w64 (e := (v.2.2.length : Int) - 1) (by omega)]
    refine goes_bnd _ (goes_Next c1) (fun y2 ⟨c2, l2, u2, _⟩ => ?_)
    have u1' := u1 (by omega)
    have u2' := u2 (by omega)
    rw [w64 (e := y1.1 + 1) (by omega), w64 (e := y1.1 + 1 + y2.1) (by omega), w64 (e := u.1 - 1) (by omega)]
    refine goes_ck (by omega) (goes_bnd _ (goes_Road c2) (fun y3 ⟨c3, r3, f3, t3, _⟩ => ?_))
    refine goes_bnd _ (goes_One c3) (fun y4 c4 => goes_ck (limit_le (by omega)) (hs _ ⟨c4, by simp only; omega, by simp; omega, ?_⟩ (by simp only; omega)))
    intro r hr
    rcases List.mem_append.mp hr with hr | hr
    · exact i4 r hr
    · simp only [List.mem_singleton] at hr
      subst hr
      have t1 := Int.tmod_nonneg (v.2.2.length : Int) (show 0 ≤ y1.1 + 1 + y2.1 by omega)
      have t2 := Int.tmod_lt_of_pos (y1.1 + 1 + y2.1) (show (0 : Int) < v.2.2.length by omega)
      refine ⟨⟨r3.len, r3.area, r3.rest, r3.lift⟩, by simp only; omega, by simp only; omega, by simp only; omega, by simp only; omega, ?_⟩
      simp only [f3, t3]
      intro e
      have hd : y1.1 + 1 + y2.1 - (y1.1 + 1 + y2.1).tmod v.2.2.length = v.2.2.length * ((y1.1 + 1 + y2.1).tdiv v.2.2.length) := by
        have := Int.mul_tdiv_add_tmod (y1.1 + 1 + y2.1) v.2.2.length
        omega
      rw [← e] at hd
      generalize (y1.1 + 1 + y2.1).tdiv v.2.2.length = q at hd
      rcases Int.lt_trichotomy q 0 with hq | hq | hq
      · have : (v.2.2.length : Int) * q ≤ v.2.2.length * (-1) := Int.mul_le_mul_of_nonneg_left (by omega) (by omega)
        omega
      · subst hq; omega
      · have : (v.2.2.length : Int) * 1 ≤ v.2.2.length * q := Int.mul_le_mul_of_nonneg_left (by omega) (by omega)
        omega
  · refine goes_bnd _ (goes_Next hc) (fun y ⟨c1, l1, u1, _⟩ => ?_)
    rw [w64 (by omega)]
    refine goes_loop (fun (u : Int × List Int × Int × List T_Place) => okC ⟨u.2.1, u.2.2.1⟩ ∧ 0 ≤ u.1 ∧ u.1 + u.2.2.2.length ≤ 7 ∧ 2 ≤ u.1 + u.2.2.2.length ∧ ∀ p ∈ u.2.2.2, -60 ≤ p.Height ∧ p.Height ≤ 60) (fun u => u.1.toNat) ?_ K _ ⟨c1, by simp only; omega, by simp; omega, by simp; omega, by simp⟩ (by simp only; omega)
    intro self u ⟨i1, i2, i3, i4, i5⟩ hs
    unfold draw_Codes_Mine_b1
    refine goes_bif (fun h => ?_) (fun h => ?_)
    · simp only [decide_eq_true_eq] at h
      refine goes_bnd _ (goes_Range i1 (by omega) (by omega) (by omega)) (fun y1 ⟨c1, l1, u1⟩ => ?_)
      rw [w64 (e := u.1 - 1) (by omega)]
      refine goes_bnd _ (goes_One c1) (fun y2 c2 => goes_ck (limit_le (by omega)) (hs _ ⟨c2, by simp only; omega, by simp; omega, by simp; omega, ?_⟩ (by simp only; omega)))
      intro p hp
      rcases List.mem_append.mp hp with hp | hp
      · exact i5 p hp
      · simp only [List.mem_singleton] at hp
        subst hp
        exact ⟨l1, u1⟩
    · simp only [decide_eq_false_iff_not] at h
      exact hj _ ⟨i1, by simp only; omega, by simp only; omega, i5⟩
end Go.Proofs.Ytmkhmonbfikbpaa
