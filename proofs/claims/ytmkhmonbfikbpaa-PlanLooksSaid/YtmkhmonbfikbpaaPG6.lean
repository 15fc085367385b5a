/- What the written-out answers of the document come to: connected places, what is cut off, the parts. -/
import Derived.Test.YtmkhmonbfikbpaaPG5
namespace Go.Proofs.Ytmkhmonbfikbpaa
open Go Go.Ev
set_option linter.unusedVariables false

def cf (l : List Bool) : Nat := l.countP (fun b => !b)
theorem cf_set1 {l : List Bool} {i : Nat} (hi : i < l.length) (h : l.getD i false = false) : cf (l.set i true) + 1 = cf l := by
  unfold cf
  have hg : l[i] = false := by
    rw [List.getD_eq_getElem?_getD, List.getElem?_eq_getElem hi] at h; exact h
  have hpos : 0 < l.countP (fun b => !b) := List.countP_pos_iff.mpr ⟨l[i], List.getElem_mem hi, by simp [hg]⟩
  rw [List.countP_set hi]
  simp only [hg, Bool.not_false, if_true, Bool.not_true, Bool.false_eq_true, if_false]
  omega
theorem set_same {l : List Bool} {i : Nat} (h : l.getD i false = true) : l.set i true = l := by
  by_cases hi : i < l.length
  · have hg : l[i] = true := by
      rw [List.getD_eq_getElem?_getD, List.getElem?_eq_getElem hi] at h; exact h
    have := List.set_getElem_self hi
    rw [hg] at this
    exact this
  · exact List.set_eq_of_length_le (by omega)
theorem cf_set2 {l : List Bool} {f t : Nat} (hf : f < l.length) (ht : t < l.length) (h : l.getD f false ≠ l.getD t false) : cf ((l.set f true).set t true) + 1 = cf l := by
  cases hb : l.getD f false with
  | false =>
    rw [hb] at h
    have h2 : l.getD t false = true := by cases h3 : l.getD t false with
      | true => rfl
      | false => rw [h3] at h; exact absurd rfl h
    have hne : f ≠ t := fun e => by subst e; rw [hb] at h2; cases h2
    rw [set_same (l := l.set f true) (i := t) (by rw [getD_set_ne hne]; exact h2)]
    exact cf_set1 hf hb
  | true =>
    rw [hb] at h
    rw [set_same hb]
    exact cf_set1 ht (by cases h3 : l.getD t false with
      | true => rw [h3] at h; exact absurd rfl h
      | false => rfl)

theorem goes_From {K : Nat} (hK : 300 ≤ K) {m : T_Mine} (hv : Valid m) {seen : List Bool} (hs : seen.length = m.Places.length) :
    Goes (ref01_From K m seen) (fun out => out.length = m.Places.length ∧ ∀ p, p < m.Places.length → (out.getD p false = true ↔ ∃ q, q < m.Places.length ∧ seen.getD q false = true ∧ Conn m.Roads q p)) := by
  have np := hv.np
  have nr := hv.nr
  have hvr := hv.r
  unfold ref01_From
  refine goes_ck (limit_le (by omega)) (goes_letj (fun out => out.length = m.Places.length ∧ ∀ p, p < m.Places.length → (out.getD p false = true ↔ ∃ q, q < m.Places.length ∧ seen.getD q false = true ∧ Conn m.Roads q p)) (fun v hv' => goes_some hv') (fun j hj => ?_))
  refine goes_loop (fun (u : Bool × List Bool) => u.2.length = m.Places.length ∧ (∀ p, p < m.Places.length → u.2.getD p false = true → ∃ q, q < m.Places.length ∧ seen.getD q false = true ∧ Conn m.Roads q p) ∧ (∀ p, seen.getD p false = true → u.2.getD p false = true) ∧ (u.1 = false → ∀ r ∈ m.Roads, r.Closed = false → u.2.getD r.From.toNat false = u.2.getD r.To.toNat false)) (fun u => if u.1 then cf u.2 + 1 else 0) ?_ K _ ⟨hs, fun p hp h => ⟨p, hp, h, .refl⟩, fun _ h => h, fun h => by cases h⟩ ?_
  rotate_left
  · have : cf seen ≤ seen.length := List.countP_le_length
    simp only [if_true]; omega
  intro self u ⟨u1, u2, u3, u4⟩ hself
  obtain ⟨again, out0⟩ := u
  simp only at u1 u2 u3 u4 hself
  unfold ref01_From_b1
  simp only
  refine goes_bif (fun h => ?_) (fun h => hj _ ⟨u1, fun p hp => ⟨u2 p hp, ?_⟩⟩)
  rotate_left
  · rintro ⟨q, q1, q2, q3⟩
    have hcl := u4 h
    induction q3 with
    | refl => exact u3 q q2
    | step e a ih =>
      have hl := a.lt hvr
      have := ih hl.1
      obtain ⟨r, r1, r2, r3⟩ := a
      have hc := hcl r r1 r2
      rcases r3 with ⟨e1, e2⟩ | ⟨e1, e2⟩
      · rw [e1, e2] at hc
        simp only [Int.toNat_natCast] at hc
        rw [← hc]; exact this
      · rw [e1, e2] at hc
        simp only [Int.toNat_natCast] at hc
        rw [hc]; exact this
  refine goes_loop (fun (w : Bool × Int × List Bool) => 0 ≤ w.2.1 ∧ w.2.1 ≤ m.Roads.length ∧ w.2.2.length = m.Places.length ∧ (∀ p, p < m.Places.length → w.2.2.getD p false = true → ∃ q, q < m.Places.length ∧ seen.getD q false = true ∧ Conn m.Roads q p) ∧ (∀ p, seen.getD p false = true → w.2.2.getD p false = true) ∧ (w.1 = false → w.2.2 = out0 ∧ ∀ r ∈ m.Roads.take w.2.1.toNat, r.Closed = false → w.2.2.getD r.From.toNat false = w.2.2.getD r.To.toNat false) ∧ (w.1 = true → cf w.2.2 < cf out0)) (fun w => m.Roads.length - w.2.1.toNat) ?_ K _ ⟨by simp, by simp, u1, u2, u3, fun _ => ⟨rfl, by simp⟩, fun h => by cases h⟩ (by simp only; omega)
  intro self2 w ⟨w1, w2, w3, w4, w5, w6, w7⟩ hs2
  obtain ⟨ag, i, out⟩ := w
  simp only at w1 w2 w3 w4 w5 w6 w7 hs2
  unfold ref01_From_b2
  simp only
  refine goes_bif (fun h2 => ?_) (fun h2 => hself _ ⟨w3, w4, w5, fun e => ?_⟩ ?_)
  rotate_left
  · simp only [decide_eq_false_iff_not] at h2
    have := (w6 e).2
    rw [List.take_of_length_le (by omega)] at this
    exact this
  · rw [h]
    cases ag with
    | true => have := w7 rfl; simp only [if_true]; omega
    | false => simp only [if_true, Bool.false_eq_true, if_false]; omega
  simp only [decide_eq_true_eq] at h2
  rw [w64 (e := i + 1) (by omega)]
  have hi1 : (i + 1).toNat = i.toNat + 1 := by omega
  have hrm := getD_mem (d := d_Road) (show i.toNat < m.Roads.length by omega)
  have htk := take_succ_getD (d := d_Road) (show i.toNat < m.Roads.length by omega)
  have hr := hvr _ hrm
  refine goes_letj (fun w => w.2.length = m.Places.length ∧ (∀ p, p < m.Places.length → w.2.getD p false = true → ∃ q, q < m.Places.length ∧ seen.getD q false = true ∧ Conn m.Roads q p) ∧ (∀ p, seen.getD p false = true → w.2.getD p false = true) ∧ (w.1 = false → w.2 = out0 ∧ ∀ r ∈ m.Roads.take (i.toNat + 1), r.Closed = false → w.2.getD r.From.toNat false = w.2.getD r.To.toNat false) ∧ (w.1 = true → cf w.2 < cf out0)) (fun w ⟨a1, a2, a3, a4, a5⟩ => hs2 _ ⟨by simp only; omega, by simp only; omega, a1, a2, a3, by simp only [hi1]; exact a4, a5⟩ (by simp only; omega)) (fun j2 hj2 => ?_)
  rw [htk] at hj2
  generalize m.Roads.getD i.toNat d_Road = r at hrm hr hj2 ⊢
  have hf := hr.from_
  have ht := hr.to_
  refine goes_ck (by omega) (goes_bif (fun g => goes_ck (by omega) (goes_ck (by omega) (goes_bif (fun g2 => hj2 _ ?_) (fun g2 => hj2 _ ?_)))) (fun g => hj2 _ ?_))
  · have hne : out.getD r.From.toNat false ≠ out.getD r.To.toNat false := by simpa using g2
    have hc2 := cf_set2 (by omega) (by omega) hne
    have hadj : AdjAt m.Roads r.From.toNat r.To.toNat := ⟨r, hrm, by simpa using g, .inl ⟨by omega, by omega⟩⟩
    have hboth : ∃ q, q < m.Places.length ∧ seen.getD q false = true ∧ Conn m.Roads q r.From.toNat ∧ Conn m.Roads q r.To.toNat := by
      cases hb : out.getD r.From.toNat false with
      | true =>
        obtain ⟨q, q1, q2, q3⟩ := w4 _ (by omega) hb
        exact ⟨q, q1, q2, q3, q3.step hadj⟩
      | false =>
        have h3 : out.getD r.To.toNat false = true := by
          cases h4 : out.getD r.To.toNat false with
          | true => rfl
          | false => rw [hb, h4] at hne; exact absurd rfl hne
        obtain ⟨q, q1, q2, q3⟩ := w4 _ (by omega) h3
        exact ⟨q, q1, q2, q3.step hadj.symm, q3⟩
    refine ⟨by simp [w3], fun p hp hpt => ?_, fun p hp => ?_, (fun e => by cases e), fun _ => ?_⟩
    · obtain ⟨q, q1, q2, q3, q4⟩ := hboth
      rw [getD_set, getD_set] at hpt
      by_cases e1 : r.To.toNat = p
      · subst e1; exact ⟨q, q1, q2, q4⟩
      · rw [if_neg (fun z => e1 z.1)] at hpt
        by_cases e2 : r.From.toNat = p
        · subst e2; exact ⟨q, q1, q2, q3⟩
        · rw [if_neg (fun z => e2 z.1)] at hpt
          exact w4 p hp hpt
    · rw [getD_set, getD_set]
      split
      · rfl
      · split
        · rfl
        · exact w5 p hp
    · cases ag with
      | true => have := w7 rfl; simp only; omega
      | false =>
        have := (w6 rfl).1
        subst this
        simp only; omega
  · have heq : out.getD r.From.toNat false = out.getD r.To.toNat false := by simpa using g2
    refine ⟨w3, w4, w5, fun e => ⟨(w6 e).1, fun z hz hzc => ?_⟩, w7⟩
    rcases List.mem_append.mp hz with hz | hz
    · exact (w6 e).2 z hz hzc
    · simp only [List.mem_singleton] at hz
      subst hz; exact heq
  · refine ⟨w3, w4, w5, fun e => ⟨(w6 e).1, fun z hz hzc => ?_⟩, w7⟩
    rcases List.mem_append.mp hz with hz | hz
    · exact (w6 e).2 z hz hzc
    · simp only [List.mem_singleton] at hz
      subst hz; rw [hzc] at g; cases g

theorem goes_RefCutOff {K : Nat} (hK : 300 ≤ K) {m : T_Mine} (hv : Valid m) : ref01_CutOff K m = some (sel m.Places.length (fun p => ¬ Airy m p)) := by
  suffices H : Goes (ref01_CutOff K m) (fun r => r = sel m.Places.length (fun p => ¬ Airy m p)) by
    obtain ⟨r, hr, rfl⟩ := H; exact hr
  have np := hv.np
  unfold ref01_CutOff
  rw [check_eq, bnd_ok (check_valid (by omega) hv), bl_false (b := (0 : Int) != 0) rfl]
  refine goes_bnd (fun out => out.length = m.Places.length ∧ ∀ p, p < m.Places.length → (out.getD p false = true ↔ Airy m p)) ?_ (fun out ⟨o1, o2⟩ => ?_)
  · unfold ref01_Airy
    refine goes_ck ⟨limit_le (by omega), by omega⟩ (goes_letj (fun s => s.length = m.Places.length ∧ ∀ p, p < m.Places.length → s.getD p false = (m.Places.getD p d_Place).Surface) (fun s ⟨s1, s2⟩ => ?_) (fun j hj => ?_))
    · refine goes_bnd _ (goes_From hK hv s1) (fun out ⟨o1, o2⟩ => goes_some ⟨o1, fun p hp => ?_⟩)
      rw [o2 p hp]
      constructor
      · rintro ⟨q, q1, q2, q3⟩; exact ⟨q, q1, by rw [← s2 q q1]; exact q2, q3.symm⟩
      · rintro ⟨q, q1, q2, q3⟩; exact ⟨q, q1, by rw [s2 q q1]; exact q2, q3.symm⟩
    · refine goes_loop (fun (u : Int × List Bool) => 0 ≤ u.1 ∧ u.1 ≤ m.Places.length ∧ u.2.length = m.Places.length ∧ ∀ p : Nat, p < m.Places.length → (p : Int) < u.1 → u.2.getD p false = (m.Places.getD p d_Place).Surface) (fun u => m.Places.length - u.1.toNat) ?_ K _ ⟨by simp, by simp, by simp, fun p _ hp => by simp only at hp; omega⟩ (by simp only; omega)
      intro self u ⟨u0, u1, u2, u3⟩ hs
      unfold ref01_Airy_b1
      refine goes_bif (fun h => ?_) (fun h => hj _ ⟨u2, fun p hp => u3 p hp ?_⟩)
      · simp only [decide_eq_true_eq] at h
        rw [w64 (e := u.1 + 1) (by omega)]
        refine goes_ck (by omega) (goes_ck (by omega) (hs _ ⟨by simp only; omega, by simp only; omega, by simp [u2], fun p hp hp' => ?_⟩ (by simp only; omega)))
        simp only at hp' ⊢
        rw [getD_set]
        by_cases e : u.1.toNat = p
        · rw [if_pos ⟨e, by omega⟩, e]
        · rw [if_neg (fun z => e z.1)]
          exact u3 p hp (by omega)
      · simp only [decide_eq_false_iff_not] at h
        omega
  · refine goes_letj (fun v => v = sel m.Places.length (fun p => ¬ Airy m p)) (fun v hv => goes_some hv) (fun j hj => ?_)
    refine goes_loop (fun (u : Int × List Int) => 0 ≤ u.1 ∧ u.1 ≤ m.Places.length ∧ u.2 = sel u.1.toNat (fun p => ¬ Airy m p)) (fun u => m.Places.length - u.1.toNat) ?_ K _ ⟨by simp, by simp, rfl⟩ (by simp only; omega)
    intro self u ⟨u0, u1, u2⟩ hs
    unfold ref01_CutOff_b1
    refine goes_bif (fun h => ?_) (fun h => hj _ ?_)
    rotate_left
    · simp only [decide_eq_false_iff_not] at h
      rw [u2, show u.1.toNat = m.Places.length by omega]
    simp only [decide_eq_true_eq] at h
    rw [w64 (e := u.1 + 1) (by omega)]
    have h1 : (u.1 + 1).toNat = u.1.toNat + 1 := by omega
    have ha := o2 u.1.toNat (by omega)
    have hl := sel_len u.1.toNat (fun p => ¬ Airy m p)
    refine goes_letj (fun v => v = sel (u.1.toNat + 1) (fun p => ¬ Airy m p)) (fun v hv' => hs _ ⟨by simp only; omega, by simp only; omega, by simp only [h1]; exact hv'⟩ (by simp only; omega)) (fun j2 hj2 => ?_)
    refine goes_ck (by omega) (goes_bif (fun g => goes_ck (limit_le (by rw [u2]; omega)) (hj2 _ ?_)) (fun g => hj2 _ ?_))
    · have hna : ¬ Airy m u.1.toNat := fun z => by rw [ha.mpr z] at g; cases g
      have hcast : ((u.1.toNat : Nat) : Int) = u.1 := Int.toNat_of_nonneg u0
      rw [(sel_succ _ _).1 hna, u2, hcast]
    · have hya : ¬ ¬ Airy m u.1.toNat := fun z => z (ha.mp (by simpa using g))
      rw [(sel_succ _ _).2 hya, u2]
end Go.Proofs.Ytmkhmonbfikbpaa
