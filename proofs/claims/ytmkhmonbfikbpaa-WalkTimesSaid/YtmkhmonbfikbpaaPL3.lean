/- PlanChecks. -/
import Derived.Test.YtmkhmonbfikbpaaPL2
namespace Go.Proofs.Ytmkhmonbfikbpaa
open Go Go.Ev
set_option linter.unusedVariables false

theorem goes_Mod {K : Nat} {a n : Int} (hn : n ≤ 1000000000000) : Goes (draw_Mod K a n) (fun y => (1 ≤ n → 0 ≤ y ∧ y < n) ∧ (n < 1 → y = 0)) := by
  unfold draw_Mod
  refine goes_bif (fun h => goes_some ?_) (fun h => ?_)
  · simp only [decide_eq_true_eq] at h
    exact ⟨fun _ => by omega, fun _ => rfl⟩
  simp only [decide_eq_false_iff_not] at h
  have t1 := Int.tmod_lt_of_pos a (show 0 < n by omega)
  have t2 : -n < a.tmod n := by
    have := Int.lt_tmod_of_pos a (show 0 < n by omega)
    omega
  refine goes_ck (by omega) (goes_letj (fun v => 0 ≤ v ∧ v < n) (fun v hv => goes_some ⟨fun _ => hv, fun _ => by omega⟩) (fun j hj => ?_))
  refine goes_bif (fun g => hj _ ?_) (fun g => hj _ ?_)
  · simp only [decide_eq_true_eq] at g
    rw [w64 (by omega)]; omega
  · simp only [decide_eq_false_iff_not] at g
    omega

theorem goes_Copy {K : Nat} {m : T_Mine} (h1 : m.Places.length ≤ 1000) (h2 : m.Roads.length ≤ 1000) : ref01_Copy K m = some m := by
  unfold ref01_Copy
  rw [ck_ok (limit_le (by omega)), ck_ok (limit_le (by omega))]
theorem goes_clone {K : Nat} {m : T_Mine} (h1 : m.Places.length ≤ 1000) (h2 : m.Roads.length ≤ 1000) : plan_clone K m = some m := by
  unfold plan_clone
  rw [ck_ok (limit_le (by omega)), ck_ok (limit_le (by omega))]

theorem goes_spoilt {K : Nat} {m : T_Mine} {a b : Int} (hm : MineIn m) : Goes (law01_spoilt K m a b) (fun _ => True) := by
  have h1 := hm.lo
  have h2 := hm.hi
  have h3 := hm.roads
  unfold law01_spoilt
  rw [bnd_ok (goes_Copy (by omega) (by omega))]
  refine goes_bif (fun g => ?_) (fun g => ?_)
  · refine goes_bnd _ (goes_Mod (by omega)) (fun y ⟨hy, _⟩ => ?_)
    have := hy (by omega)
    exact goes_ck (by omega) (goes_some trivial)
  simp only [beq_eq_false_iff_ne] at g
  refine goes_bnd _ (goes_Mod (by omega)) (fun y _ => goes_bif (fun g => ?_) (fun g => ?_))
  · refine goes_bnd _ (goes_Mod (by omega)) (fun y ⟨hy, _⟩ => ?_)
    have := hy (by omega)
    exact goes_ck (by omega) (goes_some trivial)
  · refine goes_bnd _ (goes_Mod (by omega)) (fun y ⟨hy, _⟩ => ?_)
    have := hy (by omega)
    refine goes_ck (by omega) (goes_letj (fun _ => True) (fun v _ => goes_some trivial) (fun j hj => ?_))
    refine goes_bnd _ (goes_Mod (by omega)) (fun z _ => ?_)
    repeat (refine goes_bif (fun _ => hj _ trivial) (fun _ => ?_))
    exact hj _ trivial

theorem valid_eq {K : Nat} {m : T_Mine} {r : Int} (h : plan_Check K m = some r) : plan_Valid K m = some (r == 0) := by
  unfold plan_Valid
  rw [bnd_ok h]

theorem goes_awake {K : Nat} (hK : 60 < K) : bnd (law01_awake K) (fun y => some y) = some true := by rw [bnd_ok (awake_true hK)]

theorem pure_PlanChecks : Said_law01_PlanChecks := by
  intro a0 a1 a2 a3 h0 h1 h2 h3
  refine ⟨200, ?_⟩
  suffices H : Goes (law01_PlanChecks 200 a0 a1 a2 a3) (fun r => r = true) by
    obtain ⟨r, hr, rfl⟩ := H; exact hr
  unfold law01_PlanChecks
  refine goes_bnd _ (goes_New h0) (fun c hc => goes_bnd _ (goes_Mine hc (by omega)) (fun y ⟨_, hm⟩ => goes_bnd _ (goes_spoilt hm) (fun m _ => ?_)))
  obtain ⟨r, e1, _⟩ := goes_Check (K := 200) (by omega) m
  obtain ⟨s, e2, _⟩ := goes_Check (K := 200) (by omega) a1
  have v1 := valid_eq e1
  have v2 := valid_eq e2
  rw [check_eq, bnd_ok e1, bnd_ok e1]
  simp only [BEq.rfl, cond_true]
  rw [bnd_ok e2, bnd_ok e2]
  simp only [BEq.rfl, cond_true]
  rw [bnd_ok v1, bnd_ok e1]
  simp only [BEq.rfl, cond_true]
  rw [bnd_ok v2, bnd_ok e2]
  simp only [BEq.rfl, cond_true]
  exact ⟨_, goes_awake (by omega), rfl⟩
end Go.Proofs.Ytmkhmonbfikbpaa
