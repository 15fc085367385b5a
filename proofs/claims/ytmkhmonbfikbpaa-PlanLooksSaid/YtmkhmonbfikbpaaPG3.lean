/- What is cut off, and the parts. -/
import Derived.Test.YtmkhmonbfikbpaaPG2
import Derived.Test.YtmkhmonbfikbpaaPL6
namespace Go.Proofs.Ytmkhmonbfikbpaa
open Go Go.Ev
set_option linter.unusedVariables false

def Airy (m : T_Mine) (p : Nat) : Prop := ∃ q, q < m.Places.length ∧ (m.Places.getD q d_Place).Surface = true ∧ Conn m.Roads p q
open Classical in
noncomputable def sel (n : Nat) (f : Nat → Prop) : List Int := ((List.range n).filter (fun p => decide (f p))).map Int.ofNat
theorem sel_succ (n : Nat) (f : Nat → Prop) : (f n → sel (n + 1) f = sel n f ++ [(n : Int)]) ∧ (¬ f n → sel (n + 1) f = sel n f) := by
  unfold sel
  rw [List.range_succ, List.filter_append]
  constructor
  · intro h
    simp [h]
  · intro h
    simp [h]
theorem mem_sel {n : Nat} {f : Nat → Prop} {x : Int} : x ∈ sel n f ↔ ∃ p : Nat, p < n ∧ f p ∧ x = p := by
  unfold sel
  simp only [List.mem_map, List.mem_filter, List.mem_range, decide_eq_true_eq]
  constructor
  · rintro ⟨p, ⟨h1, h2⟩, rfl⟩; exact ⟨p, h1, h2, rfl⟩
  · rintro ⟨p, h1, h2, rfl⟩; exact ⟨p, ⟨h1, h2⟩, rfl⟩
theorem sel_zero (f : Nat → Prop) : sel 0 f = [] := rfl
theorem sel_len (n : Nat) (f : Nat → Prop) : (sel n f).length ≤ n := by
  induction n with
  | zero => simp [sel_zero]
  | succ n ih =>
    by_cases h : f n
    · rw [(sel_succ n f).1 h]; simp; omega
    · rw [(sel_succ n f).2 h]; omega
theorem sel_congr {n : Nat} {f g : Nat → Prop} (h : ∀ p, p < n → (f p ↔ g p)) : sel n f = sel n g := by
  induction n with
  | zero => rfl
  | succ n ih =>
    have ih' := ih (fun p hp => h p (by omega))
    by_cases k : f n
    · rw [(sel_succ n f).1 k, (sel_succ n g).1 ((h n (by omega)).mp k), ih']
    · rw [(sel_succ n f).2 k, (sel_succ n g).2 (fun z => k ((h n (by omega)).mpr z)), ih']

theorem valid_true {K : Nat} (hK : 130 < K) {m : T_Mine} (h : Valid m) : plan_Valid K m = some true := valid_eq (check_valid hK h)

theorem goes_CutOff {K : Nat} (hK : 300 ≤ K) {m : T_Mine} (hv : Valid m) : plan_CutOff K m = some (sel m.Places.length (fun p => ¬ Airy m p)) := by
  suffices H : Goes (plan_CutOff K m) (fun r => r = sel m.Places.length (fun p => ¬ Airy m p)) by
    obtain ⟨r, hr, rfl⟩ := H; exact hr
  have np := hv.np
  unfold plan_CutOff
  rw [bnd_ok (valid_true (by omega) hv), bl_false (b := !true) rfl]
  refine goes_bnd _ (goes_part hK hv) (fun y hy => ?_)
  obtain ⟨of, c⟩ := y
  simp only at hy ⊢
  have h0 := hy.c0
  have hN := hy.cN
  have hlen := hy.len
  have hairy : ∀ p, p < m.Places.length → (Airy m p ↔ ∃ q, q < m.Places.length ∧ (m.Places.getD q d_Place).Surface = true ∧ of.getD q 0 = of.getD p 0) := by
    intro p hp
    constructor
    · rintro ⟨q, q1, q2, q3⟩; exact ⟨q, q1, q2, ((hy.conn p q hp q1).mpr q3).symm⟩
    · rintro ⟨q, q1, q2, q3⟩; exact ⟨q, q1, q2, (hy.conn p q hp q1).mp q3.symm⟩
  refine goes_ck h0 (goes_ck ⟨limit_le (by omega), by omega⟩ ?_)
  refine goes_letj (fun (fr : List Bool) => fr.length = c.toNat ∧ ∀ k : Nat, (k : Int) < c → (fr.getD k false = true ↔ ∃ q, q < m.Places.length ∧ (m.Places.getD q d_Place).Surface = true ∧ of.getD q 0 = k)) (fun fr ⟨f1, f2⟩ => ?_) (fun j hj => ?_)
  · refine goes_letj (fun v => v = sel m.Places.length (fun p => ¬ Airy m p)) (fun v hv => goes_some hv) (fun j hj => ?_)
    refine goes_loop (fun (u : Int × List Int) => 0 ≤ u.1 ∧ u.1 ≤ m.Places.length ∧ u.2 = sel u.1.toNat (fun p => ¬ Airy m p)) (fun u => m.Places.length - u.1.toNat) ?_ K _ ⟨by simp, by simp, rfl⟩ (by simp only; omega)
    intro self u ⟨u0, u1, u2⟩ hs
    unfold plan_CutOff_b4
    simp only
    refine goes_bif (fun h => ?_) (fun h => hj _ ?_)
    rotate_left
    · simp only [decide_eq_false_iff_not] at h
      rw [u2, show u.1.toNat = m.Places.length by omega]
    simp only [decide_eq_true_eq] at h
    rw [w64 (e := u.1 + 1) (by omega)]
    have h1 : (u.1 + 1).toNat = u.1.toNat + 1 := by omega
    have hr := hy.rng u.1.toNat (by omega)
    refine goes_letj (fun v => v = sel (u.1.toNat + 1) (fun p => ¬ Airy m p)) (fun v hv' => hs _ ⟨by simp only; omega, by simp only; omega, by simp only [h1]; exact hv'⟩ (by simp only; omega)) (fun j2 hj2 => ?_)
    refine goes_ck (by omega) (goes_ck (by omega) ?_)
    have hk := f2 (of.getD u.1.toNat 0).toNat (by omega)
    have ha : fr.getD (of.getD u.1.toNat 0).toNat false = true ↔ Airy m u.1.toNat := by
      rw [hk, hairy _ (by omega)]
      constructor
      · rintro ⟨q, q1, q2, q3⟩; exact ⟨q, q1, q2, by omega⟩
      · rintro ⟨q, q1, q2, q3⟩; exact ⟨q, q1, q2, by omega⟩
    have hl := sel_len u.1.toNat (fun p => ¬ Airy m p)
    refine goes_bif (fun g => goes_ck (limit_le (by rw [u2]; omega)) (hj2 _ ?_)) (fun g => hj2 _ ?_)
    · have hna : ¬ Airy m u.1.toNat := fun z => by rw [ha.mpr z] at g; cases g
      have hcast : ((u.1.toNat : Nat) : Int) = u.1 := Int.toNat_of_nonneg u0
      rw [(sel_succ _ _).1 hna, u2, hcast]
    · have hya : ¬ ¬ Airy m u.1.toNat := fun z => z (ha.mp (by simpa using g))
      rw [(sel_succ _ _).2 hya, u2]
  · refine goes_loop (fun (u : Int × List Bool) => 0 ≤ u.1 ∧ u.1 ≤ m.Places.length ∧ u.2.length = c.toNat ∧ ∀ k : Nat, (k : Int) < c → (u.2.getD k false = true ↔ ∃ q : Nat, q < m.Places.length ∧ (q : Int) < u.1 ∧ (m.Places.getD q d_Place).Surface = true ∧ of.getD q 0 = k)) (fun u => m.Places.length - u.1.toNat) ?_ K _ ⟨by simp, by simp, by simp, fun k hk => ?_⟩ (by simp only; omega)
    rotate_left
    · constructor
      · intro h
        rw [List.getD_eq_getElem?_getD, List.getElem?_replicate] at h
        split at h <;> simp at h
      · rintro ⟨q, _, q1, _⟩; simp only at q1; omega
    intro self u ⟨u0, u1, u2, u3⟩ hs
    unfold plan_CutOff_b1
    simp only
    refine goes_bif (fun h => ?_) (fun h => hj _ ⟨u2, fun k hk => ?_⟩)
    rotate_left
    · simp only [decide_eq_false_iff_not] at h
      rw [u3 k hk]
      constructor
      · rintro ⟨q, q1, _, q2⟩; exact ⟨q, q1, q2⟩
      · rintro ⟨q, q1, q2⟩; exact ⟨q, q1, by omega, q2⟩
    simp only [decide_eq_true_eq] at h
    rw [w64 (e := u.1 + 1) (by omega)]
    have hr := hy.rng u.1.toNat (by omega)
    refine goes_letj (fun (v : List Bool) => v.length = c.toNat ∧ ∀ k : Nat, (k : Int) < c → (v.getD k false = true ↔ ∃ q : Nat, q < m.Places.length ∧ (q : Int) < u.1 + 1 ∧ (m.Places.getD q d_Place).Surface = true ∧ of.getD q 0 = k)) (fun v ⟨hv1, hv2⟩ => hs _ ⟨by simp only; omega, by simp only; omega, hv1, hv2⟩ (by simp only; omega)) (fun j2 hj2 => ?_)
    refine goes_ck (by omega) (goes_bif (fun g => goes_ck (by omega) (goes_ck (by omega) (hj2 _ ⟨by simp [u2], fun k hk => ?_⟩))) (fun g => hj2 _ ⟨u2, fun k hk => ?_⟩))
    · rw [getD_set, u2]
      by_cases e : (of.getD u.1.toNat 0).toNat = k
      · rw [if_pos ⟨e, by omega⟩]
        simp only [true_iff]
        exact ⟨u.1.toNat, by omega, by omega, g, by omega⟩
      · rw [if_neg (fun z => e z.1), u3 k hk]
        constructor
        · rintro ⟨q, q1, q2, q3, q4⟩; exact ⟨q, q1, by omega, q3, q4⟩
        · rintro ⟨q, q1, q2, q3, q4⟩
          refine ⟨q, q1, ?_, q3, q4⟩
          rcases Int.lt_or_le (q : Int) u.1 with z | z
          · exact z
          · obtain rfl : q = u.1.toNat := by omega
            omega
    · rw [u3 k hk]
      constructor
      · rintro ⟨q, q1, q2, q3, q4⟩; exact ⟨q, q1, by omega, q3, q4⟩
      · rintro ⟨q, q1, q2, q3, q4⟩
        refine ⟨q, q1, ?_, q3, q4⟩
        rcases Int.lt_or_le (q : Int) u.1 with z | z
        · exact z
        · obtain rfl : q = u.1.toNat := by omega
          rw [q3] at g; cases g

def PartsOf (n : Nat) (c : Int) (of : List Int) (l : List (List Int)) : Prop := l.length = c.toNat ∧ ∀ k : Nat, (k : Int) < c → l.getD k [] = sel n (fun p => of.getD p 0 = k)
theorem goes_Parts {K : Nat} (hK : 300 ≤ K) {m : T_Mine} (hv : Valid m) : Goes (plan_Parts K m) (fun l => ∃ c of, PSpec m.Roads m.Places.length c of ∧ PartsOf m.Places.length c of l) := by
  have np := hv.np
  unfold plan_Parts
  rw [bnd_ok (valid_true (by omega) hv), bl_false (b := !true) rfl]
  refine goes_bnd _ (goes_part hK hv) (fun y hy => ?_)
  obtain ⟨of, c⟩ := y
  simp only at hy ⊢
  have h0 := hy.c0
  have hN := hy.cN
  have hlen := hy.len
  refine goes_ck h0 (goes_ck ⟨limit_le (by omega), by omega⟩ ?_)
  refine goes_letj (fun l => PartsOf m.Places.length c of l) (fun l hl => goes_some ⟨c, of, hy, hl⟩) (fun j hj => ?_)
  refine goes_loop (fun (u : Int × List (List Int)) => 0 ≤ u.1 ∧ u.1 ≤ m.Places.length ∧ u.2.length = c.toNat ∧ ∀ k : Nat, (k : Int) < c → u.2.getD k [] = sel u.1.toNat (fun p => of.getD p 0 = k)) (fun u => m.Places.length - u.1.toNat) ?_ K _ ⟨by simp, by simp, by simp, fun k hk => ?_⟩ (by simp only; omega)
  rotate_left
  · rw [List.getD_eq_getElem?_getD, List.getElem?_replicate]
    split <;> rfl
  intro self u ⟨u0, u1, u2, u3⟩ hs
  unfold plan_Parts_b1
  simp only
  refine goes_bif (fun h => ?_) (fun h => hj _ ⟨u2, fun k hk => ?_⟩)
  rotate_left
  · simp only [decide_eq_false_iff_not] at h
    rw [u3 k hk, show u.1.toNat = m.Places.length by omega]
  simp only [decide_eq_true_eq] at h
  rw [w64 (e := u.1 + 1) (by omega)]
  have h1 : (u.1 + 1).toNat = u.1.toNat + 1 := by omega
  have hr := hy.rng u.1.toNat (by omega)
  have hg := u3 (of.getD u.1.toNat 0).toNat (by omega)
  have hl := sel_len u.1.toNat (fun p => of.getD p 0 = ((of.getD u.1.toNat 0).toNat : Nat))
  refine goes_ck (by omega) (goes_ck (by omega) (goes_ck (limit_le (by rw [famR_len, hg]; omega)) (hs _ ⟨by simp only; omega, by simp only; omega, by simp [u2], fun k hk => ?_⟩ (by simp only; omega))))
  simp only [h1]
  rw [getD_set, u2]
  by_cases e : (of.getD u.1.toNat 0).toNat = k
  · rw [if_pos ⟨e, by omega⟩, hg, (sel_succ _ _).1 (by omega), e, show ((u.1.toNat : Nat) : Int) = u.1 by omega]
  · rw [if_neg (fun z => e z.1), u3 k hk, (sel_succ _ _).2 (by omega)]

theorem goes_Has {K : Nat} {l : List Int} {x : Int} (hl : l.length < K) (hl' : l.length ≤ 1000) : ref01_Has K l x = some (decide (x ∈ l)) := by
  suffices H : Goes (ref01_Has K l x) (fun r => r = decide (x ∈ l)) by
    obtain ⟨r, hr, rfl⟩ := H; exact hr
  unfold ref01_Has
  refine goes_letj (fun _ => x ∉ l) (fun _ h => goes_some (by simp [h])) (fun j hj => ?_)
  refine goes_loop (fun (u : Int) => 0 ≤ u ∧ u ≤ l.length ∧ x ∉ l.take u.toNat) (fun u => l.length - u.toNat) ?_ K _ ⟨by omega, by omega, by simp⟩ (by omega)
  intro self u ⟨u0, u1, u2⟩ hs
  unfold ref01_Has_b1
  refine goes_bif (fun h => ?_) (fun h => hj _ ?_)
  rotate_left
  · simp only [decide_eq_false_iff_not] at h
    rw [List.take_of_length_le (by omega)] at u2
    exact u2
  simp only [decide_eq_true_eq] at h
  refine goes_ck (by omega) (goes_bif (fun g => goes_some ?_) (fun g => ?_))
  · have : x = l.getD u.toNat 0 := by simpa using (by simpa using g : l.getD u.toNat 0 = x).symm
    have hm := getD_mem (d := (0 : Int)) (show u.toNat < l.length by omega)
    rw [← this] at hm
    simp [hm]
  · rw [w64 (e := u + 1) (by omega)]
    refine hs _ ⟨by omega, by omega, ?_⟩ (by omega)
    rw [show (u + 1).toNat = u.toNat + 1 by omega, take_succ_getD (d := 0) (show u.toNat < l.length by omega)]
    intro hm
    rcases List.mem_append.mp hm with hm | hm
    · exact u2 hm
    · simp only [List.mem_singleton] at hm
      rw [← hm] at g
      simp at g
end Go.Proofs.Ytmkhmonbfikbpaa
