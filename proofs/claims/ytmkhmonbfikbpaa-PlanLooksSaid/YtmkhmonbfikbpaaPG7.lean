/- PlanLooks. -/
import Derived.Test.YtmkhmonbfikbpaaPG6
namespace Go.Proofs.Ytmkhmonbfikbpaa
open Go Go.Ev
set_option linter.unusedVariables false

theorem goes_RefParts {K : Nat} (hK : 300 ≤ K) {m : T_Mine} (hv : Valid m) {c : Int} {of : List Int} (hy : PSpec m.Roads m.Places.length c of) : Goes (ref01_Parts K m) (fun l => PartsOf m.Places.length c of l) := by
  have np := hv.np
  have h0 := hy.c0
  have hN := hy.cN
  unfold ref01_Parts
  rw [check_eq, bnd_ok (check_valid (by omega) hv), bl_false (b := (0 : Int) != 0) rfl]
  refine goes_ck ⟨limit_le (by omega), by omega⟩ (goes_letj (fun l => PartsOf m.Places.length c of l) (fun l hl => goes_some hl) (fun j hj => ?_))
  refine goes_loop (fun (u : Int × List (List Int) × List Bool) => 0 ≤ u.1 ∧ u.1 ≤ m.Places.length ∧ (u.2.1.length : Int) ≤ c ∧ (∀ k : Nat, k < u.2.1.length → u.2.1.getD k [] = sel m.Places.length (fun p => of.getD p 0 = k)) ∧ u.2.2.length = m.Places.length ∧
    (∀ p, p < m.Places.length → (u.2.2.getD p false = true ↔ of.getD p 0 < u.2.1.length)) ∧ (∀ p : Nat, p < m.Places.length → (p : Int) < u.1 → of.getD p 0 < u.2.1.length) ∧ ∀ k : Nat, k < u.2.1.length → ∃ r : Nat, (r : Int) < u.1 ∧ of.getD r 0 = k) (fun u => m.Places.length - u.1.toNat) ?_ K _ ⟨by simp, by simp, by simpa using h0, by simp, by simp, fun p hp => ?_, fun p _ hp => by simp only at hp; omega, by simp⟩ (by simp only; omega)
  rotate_left
  · have := hy.rng p hp
    constructor
    · intro h
      rw [List.getD_eq_getElem?_getD, List.getElem?_replicate] at h
      split at h <;> simp at h
    · intro h; simp only [List.length_nil] at h; omega
  intro self u ⟨u1, u2, u3, u4, u5, u6, u7, u8⟩ hs
  obtain ⟨i, out, done⟩ := u
  simp only at u1 u2 u3 u4 u5 u6 u7 u8 hs
  unfold ref01_Parts_b1
  simp only
  refine goes_bif (fun h => ?_) (fun h => hj _ ?_)
  rotate_left
  · simp only [decide_eq_false_iff_not] at h
    have hc : (out.length : Int) = c := by
      rcases Int.lt_or_le (out.length : Int) c with z | z
      · obtain ⟨r, r1, r2⟩ := hy.root out.length (by omega) z
        have := u7 r r1 (by omega)
        omega
      · omega
    exact ⟨by omega, fun k hk => u4 k (by omega)⟩
  simp only [decide_eq_true_eq] at h
  have hin : i.toNat < m.Places.length := by omega
  have hcast : ((i.toNat : Nat) : Int) = i := Int.toNat_of_nonneg u1
  have hri := hy.rng i.toNat hin
  rw [w64 (e := i + 1) (by omega)]
  refine goes_letj (fun v => (v.1.length : Int) ≤ c ∧ (∀ k : Nat, k < v.1.length → v.1.getD k [] = sel m.Places.length (fun p => of.getD p 0 = k)) ∧ v.2.length = m.Places.length ∧
    (∀ p, p < m.Places.length → (v.2.getD p false = true ↔ of.getD p 0 < v.1.length)) ∧ (∀ p : Nat, p < m.Places.length → (p : Int) < i + 1 → of.getD p 0 < v.1.length) ∧ ∀ k : Nat, k < v.1.length → ∃ r : Nat, (r : Int) < i + 1 ∧ of.getD r 0 = k) (fun v ⟨v1, v2, v3, v4, v5, v6⟩ => hs _ ⟨by simp only; omega, by simp only; omega, v1, v2, v3, v4, v5, v6⟩ (by simp only; omega)) (fun j2 hj2 => ?_)
  refine goes_ck (by omega) (goes_bif (fun g => hj2 _ ?_) (fun g => ?_))
  · have hd := (u6 i.toNat hin).mp g
    refine ⟨u3, u4, u5, u6, fun p hp hp' => ?_, fun k hk => ?_⟩
    · by_cases e : (p : Int) < i
      · exact u7 p hp e
      · obtain rfl : p = i.toNat := by omega
        exact hd
    · obtain ⟨r, r1, r2⟩ := u8 k hk
      exact ⟨r, by omega, r2⟩
  · have hnd : ¬ of.getD i.toNat 0 < out.length := fun z => by rw [(u6 i.toNat hin).mpr z] at g; cases g
    have hci : of.getD i.toNat 0 = out.length := by
      rcases Int.lt_or_le (out.length : Int) (of.getD i.toNat 0) with z | z
      · obtain ⟨r, r1, r2⟩ := hy.canon i.toNat out.length hin (by omega) z
        have := u7 r (by omega) (by omega)
        omega
      · omega
    rw [List.length_replicate]
    refine goes_ck (by omega) (goes_bnd _ (goes_From hK hv (seen := (List.replicate m.Places.length false).set i.toNat true) (by simp)) (fun sn ⟨s1, s2⟩ => ?_))
    have hsn : ∀ p, p < m.Places.length → (sn.getD p false = true ↔ of.getD p 0 = out.length) := by
      intro p hp
      rw [s2 p hp, ← hci]
      constructor
      · rintro ⟨q, q1, q2, q3⟩
        rw [getD_set] at q2
        split at q2
        · rename_i e
          obtain rfl := e.1
          exact ((hy.conn _ _ hin hp).mpr q3).symm
        · rw [List.getD_eq_getElem?_getD, List.getElem?_replicate] at q2
          split at q2 <;> simp at q2
      · intro e
        refine ⟨i.toNat, hin, ?_, (hy.conn _ _ hin hp).mp e.symm⟩
        rw [getD_set, if_pos ⟨rfl, by simpa using hin⟩]
    refine goes_letj (fun v => v.1.length = m.Places.length ∧ (∀ p, p < m.Places.length → (v.1.getD p false = true ↔ of.getD p 0 < out.length + 1)) ∧ v.2 = sel m.Places.length (fun p => of.getD p 0 = out.length)) (fun v ⟨v1, v2, v3⟩ => goes_ck (limit_le (by omega)) (hj2 _ ⟨?_, fun k hk => ?_, v1, fun p hp => ?_, fun p hp hp' => ?_, fun k hk => ?_⟩)) (fun j3 hj3 => ?_)
    · simp only [List.length_append, List.length_singleton]; omega
    · simp only [List.length_append, List.length_singleton] at hk ⊢
      by_cases e : k < out.length
      · rw [List.getD_eq_getElem?_getD, List.getElem?_append_left e, ← List.getD_eq_getElem?_getD]
        exact u4 k e
      · obtain rfl : k = out.length := by omega
        rw [getD_append_len]
        exact v3
    · rw [v2 p hp]
      simp only [List.length_append, List.length_singleton]
      omega
    · simp only [List.length_append, List.length_singleton]
      by_cases e : (p : Int) < i
      · have := u7 p hp e; omega
      · obtain rfl : p = i.toNat := by omega
        omega
    · simp only [List.length_append, List.length_singleton] at hk
      by_cases e : k < out.length
      · obtain ⟨r, r1, r2⟩ := u8 k e
        exact ⟨r, by omega, r2⟩
      · exact ⟨i.toNat, by omega, by omega⟩
    · refine goes_loop (fun (w : Int × List Bool × List Int) => 0 ≤ w.1 ∧ w.1 ≤ m.Places.length ∧ w.2.1.length = m.Places.length ∧ (∀ p : Nat, p < m.Places.length → (w.2.1.getD p false = true ↔ of.getD p 0 < out.length ∨ (of.getD p 0 = out.length ∧ (p : Int) < w.1))) ∧ w.2.2 = sel w.1.toNat (fun p => of.getD p 0 = out.length)) (fun w => m.Places.length - w.1.toNat) ?_ K _ ⟨by simp, by simp, u5, fun p hp => ?_, rfl⟩ (by simp only; omega)
      rotate_left
      · rw [u6 p hp]
        simp only
        omega
      intro self2 w ⟨w1, w2, w3, w4, w5⟩ hs2
      obtain ⟨k, dn, lst⟩ := w
      simp only at w1 w2 w3 w4 w5 hs2
      unfold ref01_Parts_b2
      simp only
      refine goes_bif (fun h2 => ?_) (fun h2 => hj3 _ ⟨w3, fun p hp => ?_, ?_⟩)
      rotate_left
      · simp only [decide_eq_false_iff_not] at h2
        rw [w4 p hp]
        omega
      · simp only [decide_eq_false_iff_not] at h2
        simp only
        rw [w5, show k.toNat = m.Places.length by omega]
      simp only [decide_eq_true_eq] at h2
      rw [w64 (e := k + 1) (by omega)]
      have hk1 : (k + 1).toNat = k.toNat + 1 := by omega
      have hkc : ((k.toNat : Nat) : Int) = k := Int.toNat_of_nonneg w1
      have hsk := hsn k.toNat (by omega)
      have hll := sel_len k.toNat (fun p => of.getD p 0 = out.length)
      refine goes_letj (fun v => v.1.length = m.Places.length ∧ (∀ p : Nat, p < m.Places.length → (v.1.getD p false = true ↔ of.getD p 0 < out.length ∨ (of.getD p 0 = out.length ∧ (p : Int) < k + 1))) ∧ v.2 = sel (k.toNat + 1) (fun p => of.getD p 0 = out.length)) (fun v ⟨v1, v2, v3⟩ => hs2 _ ⟨by simp only; omega, by simp only; omega, v1, v2, by simp only [hk1]; exact v3⟩ (by simp only; omega)) (fun j4 hj4 => ?_)
      refine goes_ck (by omega) (goes_bif (fun g2 => goes_ck (limit_le (by rw [w5]; omega)) (goes_ck (by omega) (hj4 _ ⟨by simp [w3], fun p hp => ?_, ?_⟩))) (fun g2 => hj4 _ ⟨w3, fun p hp => ?_, ?_⟩))
      · rw [getD_set]
        by_cases e : k.toNat = p
        · subst e
          rw [if_pos ⟨rfl, by omega⟩]
          have := hsk.mp g2
          simp only [true_iff]
          right; exact ⟨this, by omega⟩
        · rw [if_neg (fun z => e z.1), w4 p hp]
          omega
      · simp only
        rw [(sel_succ _ _).1 (hsk.mp g2), w5, hkc]
      · rw [w4 p hp]
        by_cases e : k.toNat = p
        · subst e
          have : ¬ of.getD k.toNat 0 = out.length := fun z => by rw [hsk.mpr z] at g2; cases g2
          omega
        · omega
      · simp only
        have : ¬ of.getD k.toNat 0 = out.length := fun z => by rw [hsk.mpr z] at g2; cases g2
        rw [(sel_succ _ _).2 this, w5]

theorem ints_self {K : Nat} {l : List Int} (h : l.length < K) (h' : l.length ≤ 1000) : ref01_Ints K l l = some true := by
  suffices H : Goes (ref01_Ints K l l) (fun r => r = true) by
    obtain ⟨r, hr, rfl⟩ := H; exact hr
  unfold ref01_Ints
  rw [bl_false (by simp)]
  refine goes_letj (fun _ => True) (fun _ _ => goes_some rfl) (fun j hj => ?_)
  refine goes_loop (fun (v : Int) => 0 ≤ v ∧ v ≤ l.length) (fun v => l.length - v.toNat) ?_ K _ ⟨by omega, by omega⟩ (by omega)
  intro self v ⟨v1, v2⟩ hs
  unfold ref01_Ints_b1
  refine goes_bif (fun h => ?_) (fun h => hj _ trivial)
  simp only [decide_eq_true_eq] at h
  refine goes_ck (by omega) (goes_ck (by omega) ?_)
  rw [bl_false (by simp), w64 (e := v + 1) (by omega)]
  exact hs _ ⟨by omega, by omega⟩ (by omega)
theorem lists_self {K : Nat} {l : List (List Int)} (h : l.length < K) (h' : l.length ≤ 1000) (hl : ∀ k, k < l.length → (l.getD k []).length < K ∧ (l.getD k []).length ≤ 1000) : ref01_Lists K l l = some true := by
  suffices H : Goes (ref01_Lists K l l) (fun r => r = true) by
    obtain ⟨r, hr, rfl⟩ := H; exact hr
  unfold ref01_Lists
  rw [bl_false (by simp)]
  refine goes_letj (fun _ => True) (fun _ _ => goes_some rfl) (fun j hj => ?_)
  refine goes_loop (fun (v : Int) => 0 ≤ v ∧ v ≤ l.length) (fun v => l.length - v.toNat) ?_ K _ ⟨by omega, by omega⟩ (by omega)
  intro self v ⟨v1, v2⟩ hs
  unfold ref01_Lists_b1
  refine goes_bif (fun h => ?_) (fun h => hj _ trivial)
  simp only [decide_eq_true_eq] at h
  have hk := hl v.toNat (by omega)
  refine goes_ck (by omega) (goes_ck (by omega) ?_)
  rw [bnd_ok (ints_self hk.1 hk.2), bl_false (b := !true) rfl, w64 (e := v + 1) (by omega)]
  exact hs _ ⟨by omega, by omega⟩ (by omega)

theorem roads_eq : ref01_Roads = plan_Roads := rfl
theorem goes_Roads {K : Nat} {m : T_Mine} (hm : m.Roads.length ≤ 128) (hK : 300 ≤ K) (p : Int) : Goes (plan_Roads K m p) (fun l => l.length ≤ 128) := by
  unfold plan_Roads
  refine goes_letj (fun l => l.length ≤ 128) (fun l hl => goes_some hl) (fun j hj => ?_)
  refine goes_loop (fun (u : Int × List Int) => 0 ≤ u.1 ∧ u.1 ≤ m.Roads.length ∧ (u.2.length : Int) ≤ u.1) (fun u => m.Roads.length - u.1.toNat) ?_ K _ ⟨by simp, by simp, by simp⟩ (by simp only; omega)
  intro self u ⟨u1, u2, u3⟩ hs
  unfold plan_Roads_b1
  refine goes_bif (fun h => ?_) (fun h => hj _ (by omega))
  simp only [decide_eq_true_eq] at h
  rw [w64 (e := u.1 + 1) (by omega)]
  refine goes_letj (fun v => (v.length : Int) ≤ u.1 + 1) (fun v hv => hs _ ⟨by simp only; omega, by simp only; omega, hv⟩ (by simp only; omega)) (fun j2 hj2 => ?_)
  have hlim := limit_le (n := (u.2.length + 1) * 8) (by omega)
  refine goes_ck (by omega) (goes_bif (fun _ => goes_ck hlim (hj2 _ (by simp; omega))) (fun _ => goes_bif (fun _ => goes_ck hlim (hj2 _ (by simp; omega))) (fun _ => hj2 _ (by omega))))
theorem goes_Other {K : Nat} {m : T_Mine} (r p : Int) : Goes (plan_Other K m r p) (fun y => ref01_Other K m r p = some y) := by
  unfold plan_Other ref01_Other
  refine goes_bif (fun h => goes_some (bl_true h)) (fun h => ?_)
  rw [bl_false h]
  refine goes_bif (fun h2 => goes_some (bl_true h2)) (fun h2 => ?_)
  rw [bl_false h2]
  simp only [decide_eq_false_iff_not] at h h2
  rw [ck_ok (by omega), ck_ok (by omega), BEq.comm (a := (m.Roads.getD r.toNat d_Road).From), BEq.comm (a := (m.Roads.getD r.toNat d_Road).To)]
  refine goes_bif (fun h3 => goes_some (bl_true h3)) (fun h3 => ?_)
  rw [bl_false h3]
  exact goes_bif (fun h4 => goes_some (bl_true h4)) (fun h4 => goes_some (bl_false h4))

theorem looks_CutOff {K : Nat} (hK : 300 ≤ K) (m : T_Mine) : Goes (plan_CutOff K m) (fun l => ref01_CutOff K m = some l ∧ l.length ≤ 64) := by
  obtain ⟨r, hr, h0, _⟩ := goes_Check (K := K) (by omega) m
  by_cases h : r = 0
  · have hv := h0.mp h
    exact ⟨_, goes_CutOff hK hv, goes_RefCutOff hK hv, Nat.le_trans (sel_len _ _) hv.np⟩
  · refine ⟨[], ?_, ?_, by simp⟩
    · unfold plan_CutOff
      rw [bnd_ok (valid_eq hr), bl_true (by simpa using h)]
    · unfold ref01_CutOff
      rw [check_eq, bnd_ok hr, bl_true (by simpa using h)]
theorem looks_Parts {K : Nat} (hK : 300 ≤ K) (m : T_Mine) : Goes (plan_Parts K m) (fun l => ref01_Parts K m = some l ∧ l.length ≤ 64 ∧ ∀ k, k < l.length → (l.getD k []).length ≤ 64) := by
  obtain ⟨r, hr, h0, _⟩ := goes_Check (K := K) (by omega) m
  by_cases h : r = 0
  · have hv := h0.mp h
    obtain ⟨l, hl, c, of, hy, l1, l2⟩ := goes_Parts hK hv
    obtain ⟨l', hl', l1', l2'⟩ := goes_RefParts hK hv hy
    have c0 := hy.c0
    have cN := hy.cN
    have np := hv.np
    have e : l' = l := by
      refine List.ext_getElem (by omega) (fun k k1 k2 => ?_)
      have a := l2 k (by omega)
      have b := l2' k (by omega)
      rw [List.getD_eq_getElem?_getD, List.getElem?_eq_getElem k2, Option.getD_some] at a
      rw [List.getD_eq_getElem?_getD, List.getElem?_eq_getElem k1, Option.getD_some] at b
      rw [a, b]
    subst e
    refine ⟨l', hl, hl', by omega, fun k hk => ?_⟩
    rw [l2 k (by omega)]
    exact Nat.le_trans (sel_len _ _) np
  · refine ⟨[], ?_, ?_, by simp, by simp⟩
    · unfold plan_Parts
      rw [bnd_ok (valid_eq hr), bl_true (by simpa using h)]
    · unfold ref01_Parts
      rw [check_eq, bnd_ok hr, bl_true (by simpa using h)]

theorem pure_PlanLooks : Said_law01_PlanLooks := by
  intro a0 a1 a2 a3 h0 h1 h2 h3
  refine ⟨300, ?_⟩
  suffices H : Goes (law01_PlanLooks 300 a0 a1 a2 a3) (fun r => r = true) by
    obtain ⟨r, hr, rfl⟩ := H; exact hr
  unfold law01_PlanLooks
  refine goes_bnd _ (goes_New h0) (fun c hc => goes_bnd _ (goes_Mine hc (by omega)) (fun y ⟨_, hm⟩ => ?_))
  have m0 := hm.hi
  have m1 := hm.roads
  refine goes_letj (fun v => v.1.length ≤ 20 ∧ v.2.length ≤ 20) (fun v ⟨v1, v2⟩ => ?_) (fun j hj => ?_)
  · refine goes_letj (fun _ => True) (fun _ _ => ⟨_, goes_awake (by omega), rfl⟩) (fun j hj => ?_)
    refine goes_loop (fun (u : Int) => 0 ≤ u ∧ u ≤ 2) (fun u => 2 - u.toNat) ?_ 300 _ ⟨by omega, by omega⟩ (by omega)
    intro self u ⟨u1, u2⟩ hs
    unfold law01_PlanLooks_b2
    refine goes_bif (fun h => ?_) (fun h => hj _ trivial)
    simp only [decide_eq_true_eq] at h
    have hx : (([y.1, (⟨v.1, v.2⟩ : T_Mine)] : List T_Mine).getD u.toNat d_Mine).Places.length ≤ 20 ∧ (([y.1, (⟨v.1, v.2⟩ : T_Mine)] : List T_Mine).getD u.toNat d_Mine).Roads.length ≤ 20 := by
      have : u = 0 ∨ u = 1 := by omega
      rcases this with rfl | rfl
      · exact ⟨Nat.le_trans m0 (by omega), Nat.le_trans m1 (by omega)⟩
      · exact ⟨v1, v2⟩
    rw [w64 (e := u + 1) (by omega)]
    refine goes_ck (by simp; omega) ?_
    generalize ([y.1, (⟨v.1, v.2⟩ : T_Mine)] : List T_Mine).getD u.toNat d_Mine = x at hx ⊢
    obtain ⟨x1, x2⟩ := hx
    rw [w64 (e := (x.Places.length : Int) + 1) (by omega), w64 (e := (x.Roads.length : Int) + 1) (by omega), roads_eq]
    refine goes_bnd _ (goes_Mod (by omega)) (fun p _ => goes_bnd _ (goes_Mod (by omega)) (fun r _ => ?_))
    obtain ⟨l, hl, l1⟩ := goes_Roads (K := 300) (m := x) (by omega) (by omega) p
    rw [bnd_ok hl, bnd_ok hl, bnd_ok (ints_self (by omega) (by omega)), bl_false (b := !true) rfl]
    obtain ⟨l', hl', l1'⟩ := goes_Roads (K := 300) (m := x) (by omega) (by omega) a2
    rw [bnd_ok hl', bnd_ok hl', bnd_ok (ints_self (by omega) (by omega)), bl_false (b := !true) rfl]
    obtain ⟨o, ho, ho'⟩ := goes_Other (K := 300) (m := x) r p
    rw [bnd_ok ho, bnd_ok ho', bl_false (by simp)]
    obtain ⟨o2, ho2, ho2'⟩ := goes_Other (K := 300) (m := x) a3 a2
    rw [bnd_ok ho2, bnd_ok ho2', bl_false (by simp)]
    obtain ⟨k, hk, hk', k1⟩ := looks_CutOff (K := 300) (by omega) x
    rw [bnd_ok hk, bnd_ok hk', bnd_ok (ints_self (by omega) (by omega)), bl_false (b := !true) rfl]
    obtain ⟨q, hq, hq', q1, q2⟩ := looks_Parts (K := 300) (by omega) x
    rw [bnd_ok hq, bnd_ok hq', bnd_ok (lists_self (by omega) (by omega) (fun k hk => by have := q2 k hk; omega)), bl_false (b := !true) rfl]
    exact hs _ ⟨by omega, by omega⟩ (by omega)
  · refine goes_bif (fun _ => hj _ ⟨by simp, by simp⟩) (fun g => goes_bif (fun _ => hj _ ⟨by simp, by simp⟩) (fun g2 => hj _ ?_))
    simp only [decide_eq_false_iff_not] at g g2
    exact ⟨by simp only; omega, by simp only; omega⟩
end Go.Proofs.Ytmkhmonbfikbpaa
