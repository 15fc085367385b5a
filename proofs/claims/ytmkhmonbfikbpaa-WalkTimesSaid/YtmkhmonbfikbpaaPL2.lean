/- Which mines are valid; the sanity check; edits. -/
import Derived.Test.YtmkhmonbfikbpaaPL1
import Derived.KernelRfl
namespace Go.Proofs.Ytmkhmonbfikbpaa
open Go Go.Ev
set_option linter.unusedVariables false

structure VRoad (n : Nat) (r : T_Road) : Prop where
  from_ : 0 ≤ r.From ∧ r.From < n
  to_ : 0 ≤ r.To ∧ r.To < n
  ne : r.From ≠ r.To
  len : 1 ≤ r.Length ∧ r.Length ≤ 100000
  area : 1 ≤ r.Area ∧ r.Area ≤ 1000
  rest : 1 ≤ r.Rest_Low ∧ r.Rest_Low ≤ r.Rest_High ∧ r.Rest_High ≤ 262144
  lift : -2199023255552 ≤ r.Lift_Low ∧ r.Lift_Low ≤ r.Lift_High ∧ r.Lift_High ≤ 2199023255552
structure Valid (m : T_Mine) : Prop where
  np : m.Places.length ≤ 64
  nr : m.Roads.length ≤ 128
  h : ∀ p ∈ m.Places, -10000 ≤ p.Height ∧ p.Height ≤ 10000
  r : ∀ r ∈ m.Roads, VRoad m.Places.length r

theorem check_eq : ref01_Check = plan_Check := rfl

theorem goes_spanIn {K : Nat} {s : T_Span} {lo hi : Int} : Goes (plan_spanIn K s lo hi) (fun b => b = true ↔ lo ≤ s.Low ∧ s.Low ≤ s.High ∧ s.High ≤ hi) := by
  unfold plan_spanIn
  refine goes_bif (fun h => goes_bif (fun k => goes_some ?_) (fun k => goes_some ?_)) (fun h => goes_some ?_) <;>
    simp only [decide_eq_true_eq, decide_eq_false_iff_not, Bool.false_eq_true, false_iff] at * <;> omega

theorem all_getD {α : Type} {l : List α} {d : α} {p : α → Prop} (h : ∀ k : Nat, k < l.length → p (l.getD k d)) : ∀ x ∈ l, p x := by
  intro x hx
  obtain ⟨k, hk, rfl⟩ := List.mem_iff_getElem.mp hx
  have := h k hk
  rwa [List.getD_eq_getElem?_getD, List.getElem?_eq_getElem hk] at this

theorem goes_Check {K : Nat} (hK : 130 < K) (m : T_Mine) : Goes (plan_Check K m) (fun r => (r = 0 ↔ Valid m) ∧ 0 ≤ r ∧ r ≤ 4) := by
  unfold plan_Check
  refine goes_bif (fun h => goes_some ?_) (fun hp => ?_)
  · simp only [decide_eq_true_eq] at h
    exact ⟨⟨fun e => by simp at e, fun hv => by have := hv.np; omega⟩, by omega, by omega⟩
  refine goes_bif (fun h => goes_some ?_) (fun hr => ?_)
  · simp only [decide_eq_true_eq] at h
    exact ⟨⟨fun e => by simp at e, fun hv => by have := hv.nr; omega⟩, by omega, by omega⟩
  simp only [decide_eq_false_iff_not] at hp hr
  refine goes_letj (fun _ => ∀ k : Nat, k < m.Places.length → -10000 ≤ (m.Places.getD k d_Place).Height ∧ (m.Places.getD k d_Place).Height ≤ 10000) (fun v hh => ?_) (fun j hj => ?_)
  · refine goes_letj (fun _ => ∀ k : Nat, k < m.Roads.length → VRoad m.Places.length (m.Roads.getD k d_Road)) (fun v hr' => goes_some ?_) (fun j hj => ?_)
    · exact ⟨⟨fun _ => ⟨by omega, by omega, all_getD hh, all_getD hr'⟩, fun _ => rfl⟩, by omega, by omega⟩
    refine goes_loop (fun (v : Int) => 0 ≤ v ∧ v ≤ m.Roads.length ∧ ∀ k : Nat, (k : Int) < v → VRoad m.Places.length (m.Roads.getD k d_Road)) (fun v => m.Roads.length - v.toNat) ?_ K _ ⟨by omega, by omega, fun k hk => by omega⟩ (by omega)
    intro self v ⟨v1, v2, v3⟩ hs
    unfold plan_Check_b3
    refine goes_bif (fun h => ?_) (fun h => hj _ (fun k hk => v3 k (by simp only [decide_eq_false_iff_not] at h; omega)))
    simp only [decide_eq_true_eq] at h
    have hmem : m.Roads.getD v.toNat d_Road ∈ m.Roads := getD_mem (by omega)
    refine goes_ck (by omega) ?_
    rw [w64 (e := v + 1) (by omega)]
    generalize hr' : m.Roads.getD v.toNat d_Road = r at hmem ⊢
    have bad : ∀ (x : Int), 1 ≤ x → x ≤ 4 → (VRoad m.Places.length r → False) → ((x = 0 ↔ Valid m) ∧ 0 ≤ x ∧ x ≤ 4) := fun x h1 h2 hf => ⟨⟨fun e => by omega, fun hv => (hf (hv.r _ hmem)).elim⟩, by omega, h2⟩
    refine goes_bif (fun g => goes_some (bad _ (by omega) (by omega) fun hv => ?_)) (fun g1 => ?_)
    · simp only [decide_eq_true_eq] at g; have := hv.from_; omega
    refine goes_bif (fun g => goes_some (bad _ (by omega) (by omega) fun hv => ?_)) (fun g2 => ?_)
    · simp only [decide_eq_true_eq] at g; have := hv.from_; omega
    refine goes_bif (fun g => goes_some (bad _ (by omega) (by omega) fun hv => ?_)) (fun g3 => ?_)
    · simp only [decide_eq_true_eq] at g; have := hv.to_; omega
    refine goes_bif (fun g => goes_some (bad _ (by omega) (by omega) fun hv => ?_)) (fun g4 => ?_)
    · simp only [decide_eq_true_eq] at g; have := hv.to_; omega
    refine goes_bif (fun g => goes_some (bad _ (by omega) (by omega) fun hv => ?_)) (fun g5 => ?_)
    · simp only [beq_iff_eq] at g; exact hv.ne g
    refine goes_bif (fun g => goes_some (bad _ (by omega) (by omega) fun hv => ?_)) (fun g6 => ?_)
    · simp only [decide_eq_true_eq] at g; have := hv.len; omega
    refine goes_bif (fun g => goes_some (bad _ (by omega) (by omega) fun hv => ?_)) (fun g7 => ?_)
    · simp only [decide_eq_true_eq] at g; have := hv.len; omega
    refine goes_bif (fun g => goes_some (bad _ (by omega) (by omega) fun hv => ?_)) (fun g8 => ?_)
    · simp only [decide_eq_true_eq] at g; have := hv.area; omega
    refine goes_bif (fun g => goes_some (bad _ (by omega) (by omega) fun hv => ?_)) (fun g9 => ?_)
    · simp only [decide_eq_true_eq] at g; have := hv.area; omega
    refine goes_bnd _ goes_spanIn (fun y1 e1 => ?_)
    refine goes_bif (fun g => goes_some (bad _ (by omega) (by omega) fun hv => ?_)) (fun g10 => ?_)
    · have := e1.mpr hv.rest; simp [this] at g
    refine goes_bnd _ goes_spanIn (fun y2 e2 => ?_)
    refine goes_bif (fun g => goes_some (bad _ (by omega) (by omega) fun hv => ?_)) (fun g11 => ?_)
    · have := e2.mpr hv.lift; simp [this] at g
    simp only [decide_eq_false_iff_not, beq_eq_false_iff_ne, Bool.not_eq_false'] at g1 g2 g3 g4 g5 g6 g7 g8 g9 g10 g11
    refine hs _ ⟨by omega, by omega, fun k hk => ?_⟩ (by omega)
    rcases Int.lt_or_le (k : Int) v with h' | h'
    · exact v3 k h'
    · obtain rfl : k = v.toNat := by omega
      rw [hr']
      exact ⟨by omega, by omega, g5, by omega, by omega, e1.mp g10, e2.mp g11⟩
  · refine goes_loop (fun (v : Int) => 0 ≤ v ∧ v ≤ m.Places.length ∧ ∀ k : Nat, (k : Int) < v → -10000 ≤ (m.Places.getD k d_Place).Height ∧ (m.Places.getD k d_Place).Height ≤ 10000) (fun v => m.Places.length - v.toNat) ?_ K _ ⟨by omega, by omega, fun k hk => by omega⟩ (by omega)
    intro self v ⟨v1, v2, v3⟩ hs
    unfold plan_Check_b1
    refine goes_bif (fun h => ?_) (fun h => hj _ (fun k hk => v3 k (by simp only [decide_eq_false_iff_not] at h; omega)))
    simp only [decide_eq_true_eq] at h
    have hmem : m.Places.getD v.toNat d_Place ∈ m.Places := getD_mem (by omega)
    refine goes_ck (by omega) ?_
    rw [w64 (e := v + 1) (by omega)]
    refine goes_bif (fun g => goes_some ?_) (fun g1 => ?_)
    · simp only [decide_eq_true_eq] at g
      exact ⟨⟨fun e => by simp at e, fun hv => by have := hv.h _ hmem; omega⟩, by omega, by omega⟩
    refine goes_bif (fun g => goes_some ?_) (fun g2 => ?_)
    · simp only [decide_eq_true_eq] at g
      exact ⟨⟨fun e => by simp at e, fun hv => by have := hv.h _ hmem; omega⟩, by omega, by omega⟩
    simp only [decide_eq_false_iff_not] at g1 g2
    refine hs _ ⟨by omega, by omega, fun k hk => ?_⟩ (by omega)
    rcases Int.lt_or_le (k : Int) v with h' | h'
    · exact v3 k h'
    · obtain rfl : k = v.toNat := by omega
      omega

theorem awake_true {K : Nat} (hK : 60 < K) : law01_awake K = some true := by
  obtain ⟨k, rfl⟩ : ∃ k, K = k + 60 := ⟨K - 60, by omega⟩
  clear hK
  kernel_rfl
end Go.Proofs.Ytmkhmonbfikbpaa
