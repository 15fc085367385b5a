/- PlanApplies. -/
import Derived.Test.YtmkhmonbfikbpaaPL4
namespace Go.Proofs.Ytmkhmonbfikbpaa
open Go Go.Ev
set_option linter.unusedVariables false

theorem all_b1_same {K : Nat} (hK : 130 < K) : ref01_All_b1 K = plan_All_b1 K := by
  funext a j self v
  unfold ref01_All_b1 plan_All_b1
  simp only [apply_same hK]
theorem all_same {K : Nat} (hK : 130 < K) {m : T_Mine} (h1 : m.Places.length ≤ 1000) (h2 : m.Roads.length ≤ 1000) (l : List T_Edit) : ref01_All K m l = plan_All K m l := by
  unfold ref01_All plan_All
  rw [bnd_ok (goes_clone h1 h2), all_b1_same hK]
def Small (m : T_Mine) : Prop := m.Places.length ≤ 64 ∧ m.Roads.length ≤ 128
theorem Valid.small {m : T_Mine} (h : Valid m) : Small m := ⟨h.np, h.nr⟩
theorem goes_All {K : Nat} (hK : 130 < K) {m : T_Mine} (hm : Small m) (l : List T_Edit) (hl : l.length < K) (hl' : l.length ≤ 1000) : Goes (plan_All K m l) (fun y => Small y.1) := by
  unfold plan_All
  rw [bnd_ok (goes_clone (by have := hm.1; omega) (by have := hm.2; omega))]
  refine goes_letj (fun v => Small ⟨v.1, v.2⟩) (fun v hv => goes_some hv) (fun j hj => ?_)
  refine goes_loop (fun (u : Int × List T_Place × List T_Road) => 0 ≤ u.1 ∧ u.1 ≤ l.length ∧ Small ⟨u.2.1, u.2.2⟩) (fun u => l.length - u.1.toNat) ?_ K _ ⟨by simp, by simp, hm⟩ (by simp only; omega)
  intro self u ⟨u1, u2, u3⟩ hs
  unfold plan_All_b1
  refine goes_bif (fun h => ?_) (fun h => hj _ u3)
  simp only [decide_eq_true_eq] at h
  refine goes_ck (by omega) (goes_bnd _ (goes_Apply hK _ _) (fun y ⟨y1, y2⟩ => goes_bif (fun g => goes_some u3) (fun g => ?_)))
  rw [w64 (e := u.1 + 1) (by omega)]
  have hz : y.2 = 0 := by simpa using g
  exact hs _ ⟨by simp only; omega, by simp only; omega, (y1 hz).2.1.small⟩ (by simp only; omega)

theorem pure_PlanApplies : Said_law01_PlanApplies := by
  intro a0 a1 h0 h1
  refine ⟨300, ?_⟩
  suffices H : Goes (law01_PlanApplies 300 a0 a1) (fun r => r = true) by
    obtain ⟨r, hr, rfl⟩ := H; exact hr
  unfold law01_PlanApplies
  refine goes_bnd _ (goes_New h0) (fun c hc => goes_bnd _ (goes_Mine hc (by omega)) (fun y ⟨hc2, hm⟩ => goes_bnd _ (goes_Edits hc2 (by omega) (by omega)) (fun z ⟨hc3, hz⟩ => ?_)))
  have m1 := hm.hi
  have m2 := hm.roads
  refine goes_bnd _ (goes_Edit hc3 (by omega) (by omega)) (fun q hc4 => goes_ck (limit_le (by omega)) ?_)
  have hll : (z.1 ++ [a1, q.1]).length = z.1.length + 2 := by simp
  refine goes_letj (fun _ => True) (fun _ _ => ?_) (fun j hj => ?_)
  · rw [all_same (by omega) (by omega) (by omega)]
    obtain ⟨r, hr, hs⟩ := goes_All (K := 300) (by omega) (m := y.1) ⟨by omega, by omega⟩ (z.1 ++ [a1, q.1]) (by omega) (by omega)
    rw [bnd_ok hr, bnd_ok hr, bl_true (by simp), bl_true (by simp), bnd_ok (same_self (by have := hs.1; omega) (by have := hs.2; omega) (by have := hs.1; omega) (by have := hs.2; omega))]
    exact ⟨_, goes_awake (by omega), rfl⟩
  · refine goes_loop (fun (v : Int) => 0 ≤ v ∧ v ≤ (z.1 ++ [a1, q.1]).length) (fun v => (z.1 ++ [a1, q.1]).length - v.toNat) ?_ 300 _ ⟨by omega, by omega⟩ (by omega)
    intro self v ⟨v1, v2⟩ hs
    unfold law01_PlanApplies_b1
    generalize z.1 ++ [a1, q.1] = l at hll v2 hs ⊢
    refine goes_bif (fun h => ?_) (fun h => hj _ trivial)
    simp only [decide_eq_true_eq] at h
    refine goes_ck (by omega) ?_
    rw [apply_same (by omega)]
    obtain ⟨r, hr, r1, r2⟩ := goes_Apply (K := 300) (by omega) y.1 (l.getD v.toNat d_Edit)
    have hsm : Small r.1 := by
      by_cases e : r.2 = 0
      · exact (r1 e).2.1.small
      · rw [r2 e]; exact ⟨by simp [none_], by simp [none_]⟩
    rw [bnd_ok hr, bnd_ok hr, bl_false (by simp), bnd_ok (same_self (by have := hsm.1; omega) (by have := hsm.2; omega) (by have := hsm.1; omega) (by have := hsm.2; omega)), bl_false (by simp), w64 (e := v + 1) (by omega)]
    exact hs _ ⟨by omega, by omega⟩ (by omega)
end Go.Proofs.Ytmkhmonbfikbpaa
