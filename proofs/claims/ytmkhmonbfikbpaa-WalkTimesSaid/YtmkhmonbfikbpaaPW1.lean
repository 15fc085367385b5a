/- How long a road takes. -/
import Derived.Test.YtmkhmonbfikbpaaPL6
namespace Go.Proofs.Ytmkhmonbfikbpaa
open Go Go.Ev
set_option linter.unusedVariables false

def height (m : T_Mine) (p : Int) : Int := (m.Places.getD p.toNat d_Place).Height
def rise (m : T_Mine) (r : T_Road) (back : Bool) : Int := if back = true then height m r.From - height m r.To else height m r.To - height m r.From
def speed (rs len u d l : Int) : Int := if 10 * rs > len then u else if -10 * rs > len then d else l
def dur (m : T_Mine) (r : T_Road) (back : Bool) (u d l : Int) : Int :=
  if r.Closed = true ∨ r.Walk = false then -1 else (10 * r.Length + speed (rise m r back) r.Length u d l - 1).tdiv (speed (rise m r back) r.Length u d l)

theorem height_le {m : T_Mine} (hv : Valid m) {p : Int} (h0 : 0 ≤ p) (h1 : p < m.Places.length) : -10000 ≤ height m p ∧ height m p ≤ 10000 := hv.h _ (getD_mem (by omega))
theorem tdiv_le {a b : Int} (ha : 0 ≤ a) (hb : 1 ≤ b) : 0 ≤ a.tdiv b ∧ a.tdiv b ≤ a := by
  refine ⟨Int.tdiv_nonneg ha (by omega), ?_⟩
  exact Int.tdiv_le_self _ ha

theorem with_eq {K : Nat} {m : T_Mine} (hv : Valid m) {k : Int} (h0 : 0 ≤ k) (h1 : k < m.Roads.length) (back : Bool) (p : T_pace) (hu : 1 ≤ p.up_ ∧ p.up_ ≤ 100) (hd : 1 ≤ p.down_ ∧ p.down_ ≤ 100) (hl : 1 ≤ p.level_ ∧ p.level_ ≤ 100) :
    walk_with K m k back p = some (dur m (m.Roads.getD k.toNat d_Road) back p.up_ p.down_ p.level_) := by
  have hr := hv.r _ (getD_mem (d := d_Road) (show k.toNat < m.Roads.length by omega))
  unfold walk_with
  rw [ck_ok ⟨h0, h1⟩]
  generalize m.Roads.getD k.toNat d_Road = r at hr ⊢
  have f := hr.from_
  have t := hr.to_
  have ln := hr.len
  have b1 := height_le hv f.1 f.2
  have b2 := height_le hv t.1 t.2
  unfold dur
  cases hc : r.Closed with
  | true => simp
  | false =>
    cases hw : r.Walk with
    | false => simp
    | true =>
      rw [bl_false rfl, bl_false (b := !true) rfl, ck_ok t, ck_ok f, if_neg (by simp)]
      have tail : ∀ v : Int, v = rise m r back → -20000 ≤ v → v ≤ 20000 →
          (letj (fun (v2 : Int) => (ck (v2 ≠ 0) (some (IntKind.wrap .i64 (Int.tdiv (IntKind.wrap .i64 ((IntKind.wrap .i64 ((IntKind.wrap .i64 (10 * r.Length)) + v2)) - 1)) v2))))) fun j2 => (bif (decide ((IntKind.wrap .i64 (10 * v)) > r.Length)) then (j2 p.up_) else (bif (decide ((IntKind.wrap .i64 ((-10) * v)) > r.Length)) then (j2 p.down_) else (j2 p.level_)))) = some ((10 * r.Length + speed (rise m r back) r.Length p.up_ p.down_ p.level_ - 1).tdiv (speed (rise m r back) r.Length p.up_ p.down_ p.level_)) := by
        intro v e v1 v2
        rw [← e]
        have fin : ∀ s : Int, 1 ≤ s → s ≤ 100 → (ck (s ≠ 0) (some (IntKind.wrap .i64 (Int.tdiv (IntKind.wrap .i64 ((IntKind.wrap .i64 ((IntKind.wrap .i64 (10 * r.Length)) + s)) - 1)) s)))) = some ((10 * r.Length + s - 1).tdiv s) := by
          intro s s1 s2
          rw [ck_ok (by omega), w64 (e := 10 * r.Length) (by omega), w64 (e := 10 * r.Length + s) (by omega), w64 (e := 10 * r.Length + s - 1) (by omega)]
          have := tdiv_le (a := 10 * r.Length + s - 1) (b := s) (by omega) s1
          rw [w64 (by omega)]
        simp only [letj]
        rw [w64 (e := 10 * v) (by omega), w64 (e := (-10) * v) (by omega)]
        unfold speed
        by_cases c1 : 10 * v > r.Length
        · rw [bl_true (by simpa using c1), if_pos c1]; exact fin _ hu.1 hu.2
        · rw [bl_false (by simpa using c1), if_neg c1]
          by_cases c2 : -10 * v > r.Length
          · rw [bl_true (by simpa using c2), if_pos c2]; exact fin _ hd.1 hd.2
          · rw [bl_false (by simpa using c2), if_neg c2]; exact fin _ hl.1 hl.2
      have e1 : (m.Places.getD r.To.toNat d_Place).Height = height m r.To := rfl
      have e2 : (m.Places.getD r.From.toNat d_Place).Height = height m r.From := rfl
      rw [e1, e2, w64 (e := height m r.To - height m r.From) (by omega), w64 (e := 0 - (height m r.To - height m r.From)) (by omega)]
      cases back with
      | true => exact tail (0 - (height m r.To - height m r.From)) (by unfold rise; rw [if_pos rfl]; omega) (by omega) (by omega)
      | false => exact tail (height m r.To - height m r.From) (by unfold rise; rw [if_neg (by simp)]) (by omega) (by omega)

theorem walked_eq {K : Nat} (hK : 130 < K) {m : T_Mine} (hv : Valid m) (k : Int) (back : Bool) (u d l : Int) (hu : 1 ≤ u ∧ u ≤ 100) (hd : 1 ≤ d ∧ d ≤ 100) (hl : 1 ≤ l ∧ l ≤ 100) :
    ref03_walked K m k back u d l = some (if 0 ≤ k ∧ k < m.Roads.length then dur m (m.Roads.getD k.toNat d_Road) back u d l else -1) := by
  unfold ref03_walked
  rw [check_eq, bnd_ok (check_valid hK hv), bl_false (b := (0 : Int) != 0) rfl]
  by_cases h0 : k < 0
  · rw [bl_true (by simpa using h0), if_neg (by omega)]
  rw [bl_false (by simpa using h0)]
  by_cases h1 : k ≥ m.Roads.length
  · rw [bl_true (by simpa using h1), if_neg (by omega)]
  rw [bl_false (by simpa using h1), ck_ok (by omega), if_pos (by omega)]
  have hr := hv.r _ (getD_mem (d := d_Road) (show k.toNat < m.Roads.length by omega))
  generalize m.Roads.getD k.toNat d_Road = r at hr ⊢
  have f := hr.from_
  have t := hr.to_
  have ln := hr.len
  have b1 := height_le hv f.1 f.2
  have b2 := height_le hv t.1 t.2
  unfold dur
  cases hc : r.Closed with
  | true => simp
  | false =>
    cases hw : r.Walk with
    | false => simp
    | true =>
      rw [bl_false rfl, bl_false (b := !true) rfl, if_neg (by simp)]
      have he : ref03_ends K r back = some (if back = true then r.To else r.From, if back = true then r.From else r.To) := by
        unfold ref03_ends
        cases back <;> rfl
      rw [bnd_ok he]
      have hh : (m.Places.getD (if back = true then r.From else r.To).toNat d_Place).Height - (m.Places.getD (if back = true then r.To else r.From).toNat d_Place).Height = rise m r back := by
        unfold rise height
        cases back <;> rfl
      have hri : -20000 ≤ rise m r back ∧ rise m r back ≤ 20000 := by
        unfold rise; split <;> omega
      simp only
      rw [ck_ok (by split <;> omega), ck_ok (by split <;> omega), hh, w64 (e := rise m r back) (by omega)]
      simp only [letj]
      rw [w64 (e := 10 * rise m r back) (by omega), w64 (e := (-10) * rise m r back) (by omega)]
      have fin : ∀ s : Int, 1 ≤ s → s ≤ 100 → (ck (s ≠ 0) (some (IntKind.wrap .i64 (Int.tdiv (IntKind.wrap .i64 ((IntKind.wrap .i64 ((IntKind.wrap .i64 (10 * r.Length)) + s)) - 1)) s)))) = some ((10 * r.Length + s - 1).tdiv s) := by
        intro s s1 s2
        rw [ck_ok (by omega), w64 (e := 10 * r.Length) (by omega), w64 (e := 10 * r.Length + s) (by omega), w64 (e := 10 * r.Length + s - 1) (by omega)]
        have := tdiv_le (a := 10 * r.Length + s - 1) (b := s) (by omega) s1
        rw [w64 (by omega)]
      unfold speed
      by_cases c1 : 10 * rise m r back > r.Length
      · rw [bl_true (by simpa using c1), if_pos c1, bl_false (by simp only [decide_eq_false_iff_not]; omega)]; exact fin _ hu.1 hu.2
      · rw [bl_false (by simpa using c1), if_neg c1]
        by_cases c2 : -10 * rise m r back > r.Length
        · rw [bl_true (by simpa using c2), if_pos c2]; exact fin _ hd.1 hd.2
        · rw [bl_false (by simpa using c2), if_neg c2]; exact fin _ hl.1 hl.2

def timeOf (m : T_Mine) (k : Int) (back : Bool) : Int := if 0 ≤ k ∧ k < m.Roads.length then dur m (m.Roads.getD k.toNat d_Road) back 6 9 12 else -1
def slowOf (m : T_Mine) (k : Int) (back : Bool) : Int := if 0 ≤ k ∧ k < m.Roads.length then dur m (m.Roads.getD k.toNat d_Road) back 2 3 4 else -1
theorem step_eq {K : Nat} {m : T_Mine} (hv : Valid m) {k : Int} (h0 : 0 ≤ k) (h1 : k < m.Roads.length) (back : Bool) : walk_step K m k back = some (timeOf m k back) := by
  unfold walk_step walk_quick timeOf
  rw [bnd_ok rfl, bnd_ok (with_eq hv h0 h1 back _ (by simp) (by simp) (by simp)), if_pos ⟨h0, h1⟩]
theorem time_eq {K : Nat} (hK : 130 < K) {m : T_Mine} (hv : Valid m) (k : Int) (back : Bool) : walk_Time K m k back = some (timeOf m k back) := by
  unfold walk_Time
  rw [bnd_ok (valid_eq (check_valid hK hv)), bl_false (b := !((0 : Int) == 0)) rfl]
  by_cases h0 : k < 0
  · rw [bl_true (by simpa using h0)]; unfold timeOf; rw [if_neg (by omega)]
  rw [bl_false (by simpa using h0)]
  by_cases h1 : k ≥ m.Roads.length
  · rw [bl_true (by simpa using h1)]; unfold timeOf; rw [if_neg (by omega)]
  rw [bl_false (by simpa using h1), bnd_ok (step_eq hv (by omega) (by omega) back)]
theorem slow_eq {K : Nat} (hK : 130 < K) {m : T_Mine} (hv : Valid m) (k : Int) (back : Bool) : walk_Slow K m k back = some (slowOf m k back) := by
  unfold walk_Slow
  rw [bnd_ok (valid_eq (check_valid hK hv)), bl_false (b := !((0 : Int) == 0)) rfl]
  by_cases h0 : k < 0
  · rw [bl_true (by simpa using h0)]; unfold slowOf; rw [if_neg (by omega)]
  rw [bl_false (by simpa using h0)]
  by_cases h1 : k ≥ m.Roads.length
  · rw [bl_true (by simpa using h1)]; unfold slowOf; rw [if_neg (by omega)]
  unfold walk_slow
  rw [bl_false (by simpa using h1), bnd_ok rfl, bnd_ok (with_eq hv (by omega) (by omega) back _ (by simp) (by simp) (by simp))]
  unfold slowOf; rw [if_pos (by omega)]
theorem rtime_eq {K : Nat} (hK : 130 < K) {m : T_Mine} (hv : Valid m) (k : Int) (back : Bool) : ref03_Time K m k back = some (timeOf m k back) := by
  unfold ref03_Time
  rw [bnd_ok (walked_eq hK hv k back 6 9 12 (by simp) (by simp) (by simp))]
  rfl
theorem rslow_eq {K : Nat} (hK : 130 < K) {m : T_Mine} (hv : Valid m) (k : Int) (back : Bool) : ref03_Slow K m k back = some (slowOf m k back) := by
  unfold ref03_Slow
  rw [bnd_ok (walked_eq hK hv k back 2 3 4 (by simp) (by simp) (by simp))]
  rfl

theorem awake3 {K : Nat} (hK : 200 ≤ K) : law03_awake K = some true := by
  obtain ⟨k, rfl⟩ : ∃ k, K = k + 200 := ⟨K - 200, by omega⟩
  clear hK
  kernel_rfl
theorem goes_awake3 {K : Nat} (hK : 200 ≤ K) : bnd (law03_awake K) (fun y => some y) = some true := by rw [bnd_ok (awake3 hK)]

theorem pure_WalkTimes : Said_law03_WalkTimes := by
  intro a0 a1 a2 h0 h1 h2
  refine ⟨300, ?_⟩
  suffices H : Goes (law03_WalkTimes 300 a0 a1 a2) (fun r => r = true) by
    obtain ⟨r, hr, rfl⟩ := H; exact hr
  unfold law03_WalkTimes
  refine goes_bnd _ (goes_New h0) (fun c hc => goes_bnd _ (goes_Mine hc (by omega)) (fun y ⟨_, hm⟩ => ?_))
  have m2 := hm.roads
  have hv := hm.valid
  refine goes_letj (fun _ => True) (fun _ _ => ⟨_, goes_awake3 (by omega), rfl⟩) (fun j hj => ?_)
  rw [w64 (by omega)]
  refine goes_bnd _ (goes_Mod (by omega)) (fun z _ => ?_)
  refine goes_loop (fun (u : Int) => 0 ≤ u ∧ u ≤ 2) (fun u => 2 - u.toNat) ?_ 300 _ ⟨by omega, by omega⟩ (by omega)
  intro self u ⟨u1, u2⟩ hs
  unfold law03_WalkTimes_b1
  refine goes_bif (fun h => ?_) (fun h => hj _ trivial)
  simp only [decide_eq_true_eq] at h
  rw [w64 (e := u + 1) (by omega)]
  refine goes_ck (by simp; omega) ?_
  rw [bnd_ok (time_eq (by omega) hv _ _), bnd_ok (rtime_eq (by omega) hv _ _), bl_false (by simp), bnd_ok (slow_eq (by omega) hv _ _), bnd_ok (rslow_eq (by omega) hv _ _), bl_false (by simp)]
  exact hs _ ⟨by omega, by omega⟩ (by omega)
end Go.Proofs.Ytmkhmonbfikbpaa
