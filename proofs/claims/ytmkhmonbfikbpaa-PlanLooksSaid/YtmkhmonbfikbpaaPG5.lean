/- PlanParts. -/
import Derived.Test.YtmkhmonbfikbpaaPG4
namespace Go.Proofs.Ytmkhmonbfikbpaa
open Go Go.Ev
set_option linter.unusedVariables false

theorem sel_len_add {n : Nat} {f g h : Nat → Prop} (hd : ∀ p, p < n → ¬ (f p ∧ g p)) (hh : ∀ p, p < n → (h p ↔ f p ∨ g p)) : (sel n h).length = (sel n f).length + (sel n g).length := by
  induction n with
  | zero => rfl
  | succ n ih =>
    have ih' := ih (fun p hp => hd p (by omega)) (fun p hp => hh p (by omega))
    have a := hd n (by omega)
    have b := hh n (by omega)
    by_cases k : f n
    · by_cases l : g n
      · exact absurd ⟨k, l⟩ a
      · rw [(sel_succ n h).1 (b.mpr (.inl k)), (sel_succ n f).1 k, (sel_succ n g).2 l]
        simp only [List.length_append, List.length_singleton]; omega
    · by_cases l : g n
      · rw [(sel_succ n h).1 (b.mpr (.inr l)), (sel_succ n f).2 k, (sel_succ n g).1 l]
        simp only [List.length_append, List.length_singleton]; omega
      · rw [(sel_succ n h).2 (fun z => (b.mp z).elim k l), (sel_succ n f).2 k, (sel_succ n g).2 l]
        omega
theorem sel_all {n : Nat} {f : Nat → Prop} (h : ∀ p, p < n → f p) : (sel n f).length = n := by
  induction n with
  | zero => rfl
  | succ n ih =>
    rw [(sel_succ n f).1 (h n (by omega))]
    simp only [List.length_append, List.length_singleton]
    rw [ih (fun p hp => h p (by omega))]
theorem sel_none {n : Nat} {f : Nat → Prop} (h : ∀ p, p < n → ¬ f p) : sel n f = [] := by
  induction n with
  | zero => rfl
  | succ n ih => rw [(sel_succ n f).2 (h n (by omega)), ih (fun p hp => h p (by omega))]

theorem goes_PlanParts {K : Nat} (hK : 300 ≤ K) {y3 : T_Mine × T_Codes} (hv : Valid y3.1) :
    Goes (bnd (plan_Parts K y3.1) fun y5 => (bnd (plan_CutOff K y3.1) fun y7 => (ck (y3.1.Places.length * 8 ≤ LIMIT ∧ y3.1.Places.length < 2 ^ 63) (letj (fun (v6 : (Int × (List Int))) => (bif (v6.1 != ((v6.2.length : Nat) : Int)) then (some false) else (letj (fun (v8 : Unit) => (letj (fun (v11 : Unit) => (bnd (law01_awake K) fun y11 => (some y11))) fun j11 => (loopK (law01_PlanParts_b9 K y3 v6 j11) K 0))) fun j8 => (loopK (law01_PlanParts_b7 K v6 j8) K 0)))) fun j6 => (loopK (law01_PlanParts_b1 K y3 y5 y7 j6) K (0, 0, (List.replicate y3.1.Places.length (0 : Int)))))))) (fun r => r = true) := by
  have np := hv.np
  have nr := hv.nr
  obtain ⟨m, c2⟩ := y3
  simp only at hv np nr ⊢
  refine goes_bnd _ (goes_Parts hK hv) (fun l ⟨c, of, hy, l1, l2⟩ => ?_)
  rw [bnd_ok (goes_CutOff hK hv)]
  have h0 := hy.c0
  have hN := hy.cN
  have hlen := hy.len
  have hcutlen := sel_len m.Places.length (fun p => ¬ Airy m p)
  have hairy : ∀ p, p < m.Places.length → (Airy m p ↔ ∃ q, q < m.Places.length ∧ (m.Places.getD q d_Place).Surface = true ∧ of.getD q 0 = of.getD p 0) := by
    intro p hp
    constructor
    · rintro ⟨q, q1, q2, q3⟩; exact ⟨q, q1, q2, ((hy.conn p q hp q1).mpr q3).symm⟩
    · rintro ⟨q, q1, q2, q3⟩; exact ⟨q, q1, q2, (hy.conn p q hp q1).mp q3.symm⟩
  have hcut : ∀ p : Nat, p < m.Places.length → ((p : Int) ∈ sel m.Places.length (fun p => ¬ Airy m p) ↔ ¬ Airy m p) := by
    intro p hp
    rw [mem_sel]
    constructor
    · rintro ⟨q, q1, q2, q3⟩; obtain rfl : p = q := by omega
      exact q2
    · intro h; exact ⟨p, hp, h, rfl⟩
  generalize hcutl : sel m.Places.length (fun p => ¬ Airy m p) = cut at hcutlen hcut ⊢
  refine goes_ck ⟨limit_le (by omega), by omega⟩ ?_
  refine goes_letj (fun v => v.1 = m.Places.length ∧ v.2.length = m.Places.length ∧ ∀ p, p < m.Places.length → v.2.getD p 0 = of.getD p 0 + 1) (fun v ⟨v1, v2, v3⟩ => ?_) (fun j hj => ?_)
  · rw [bl_false (by simp only [v1, v2]; simp)]
    refine goes_letj (fun _ => True) (fun _ _ => goes_letj (fun _ => True) (fun _ _ => ⟨_, goes_awake (by omega), rfl⟩) (fun j hj => ?_)) (fun j hj => ?_)
    · refine goes_loop (fun (u : Int) => 0 ≤ u ∧ u ≤ m.Roads.length) (fun u => m.Roads.length - u.toNat) ?_ K _ ⟨by omega, by omega⟩ (by omega)
      intro self u ⟨u1, u2⟩ hs
      unfold law01_PlanParts_b9
      simp only
      refine goes_bif (fun h => ?_) (fun h => hj _ trivial)
      simp only [decide_eq_true_eq] at h
      rw [w64 (e := u + 1) (by omega)]
      have hrm := getD_mem (d := d_Road) (show u.toNat < m.Roads.length by omega)
      have hvr := hv.r _ hrm
      generalize m.Roads.getD u.toNat d_Road = r at hrm hvr ⊢
      have hf := hvr.from_
      have ht := hvr.to_
      refine goes_letj (fun _ => True) (fun _ _ => hs _ ⟨by omega, by omega⟩ (by omega)) (fun j2 hj2 => goes_ck (by omega) (goes_bif (fun g => goes_ck (by omega) (goes_ck (by omega) ?_)) (fun g => hj2 _ trivial)))
      have ha : AdjAt m.Roads r.From.toNat r.To.toNat := ⟨r, hrm, by simpa using g, .inl ⟨by omega, by omega⟩⟩
      have := (hy.conn _ _ (by omega) (by omega)).mpr (Conn.refl.step ha)
      rw [v3 _ (by omega), v3 _ (by omega), this, bl_false (by simp)]
      exact hj2 _ trivial
    · refine goes_loop (fun (u : Int) => 0 ≤ u ∧ u ≤ v.2.length) (fun u => v.2.length - u.toNat) ?_ K _ ⟨by omega, by omega⟩ (by omega)
      intro self u ⟨u1, u2⟩ hs
      unfold law01_PlanParts_b7
      refine goes_bif (fun h => ?_) (fun h => hj _ trivial)
      simp only [decide_eq_true_eq] at h
      rw [w64 (e := u + 1) (by omega)]
      have hr := hy.rng u.toNat (by omega)
      refine goes_ck (by omega) ?_
      rw [v3 _ (by omega), bl_false (by simp only [beq_eq_false_iff_ne]; omega)]
      exact hs _ ⟨by omega, by omega⟩ (by omega)
  · refine goes_loop (fun (u : Int × Int × List Int) => 0 ≤ u.2.1 ∧ u.2.1 ≤ c ∧ u.1 = (sel m.Places.length (fun p => of.getD p 0 < u.2.1)).length ∧ u.2.2.length = m.Places.length ∧ ∀ p, p < m.Places.length → u.2.2.getD p 0 = if of.getD p 0 < u.2.1 then of.getD p 0 + 1 else 0) (fun u => l.length - u.2.1.toNat) ?_ K _ ⟨by simp, by simpa using h0, ?_, by simp, fun p hp => ?_⟩ (by simp only; omega)
    rotate_left
    · rw [sel_none (fun p hp => by have := hy.rng p hp; simp only; omega)]
      rfl
    · have := hy.rng p hp
      rw [if_neg (by simp only; omega), List.getD_eq_getElem?_getD, List.getElem?_replicate]
      split <;> rfl
    intro self u ⟨u1, u2, u3, u4, u5⟩ hs
    obtain ⟨tot, i, ofs⟩ := u
    simp only at u1 u2 u3 u4 u5 hs
    unfold law01_PlanParts_b1
    simp only
    refine goes_bif (fun h => ?_) (fun h => hj _ ?_)
    rotate_left
    · simp only [decide_eq_false_iff_not] at h
      have hic : i = c := by omega
      subst hic
      refine ⟨?_, u4, fun p hp => ?_⟩
      · simp only
        rw [u3, sel_all (fun p hp => (hy.rng p hp).2)]
      · simp only
        rw [u5 p hp, if_pos (hy.rng p hp).2]
    simp only [decide_eq_true_eq] at h
    have hi : i < c := by omega
    have hP := l2 i.toNat (by omega)
    rw [Int.toNat_of_nonneg u1] at hP
    have hPl := sel_len m.Places.length (fun p => of.getD p 0 = i)
    have hmemP : ∀ x : Int, x ∈ l.getD i.toNat [] ↔ ∃ p : Nat, p < m.Places.length ∧ of.getD p 0 = i ∧ x = p := fun x => by rw [hP]; exact mem_sel
    rw [← hP] at hPl
    have hadd : (sel m.Places.length (fun p => of.getD p 0 < i + 1)).length = (sel m.Places.length (fun p => of.getD p 0 < i)).length + (l.getD i.toNat []).length := by
      rw [hP]
      exact sel_len_add (fun p _ => by omega) (fun p _ => by omega)
    have hsl := sel_len m.Places.length (fun p => of.getD p 0 < i + 1)
    generalize hPd : l.getD i.toNat [] = P at hP hPl hmemP hadd ⊢
    -- what the inner loop comes to
    refine goes_letj (fun v => ((v.1 = true ∧ v.2.1 = 0) ∨ (v.1 = false ∧ v.2.1 = P.length ∧ 0 < P.length)) ∧ v.2.2.length = m.Places.length ∧ ∀ p, p < m.Places.length → v.2.2.getD p 0 = if of.getD p 0 < i + 1 then of.getD p 0 + 1 else 0) (fun v ⟨v1, v2, v3⟩ => ?_) (fun j2 hj2 => ?_)
    · rw [w64 (e := tot + P.length) (by omega), w64 (e := i + 1) (by omega)]
      refine goes_letj (fun _ => True) (fun _ _ => goes_ck (by omega) (hs _ ⟨by simp only; omega, by simp only; omega, ?_, v2, v3⟩ (by simp only; omega))) (fun j3 hj3 => ?_)
      · simp only
        rw [hadd, u3]
        simp
      · rcases v1 with ⟨e1, e2⟩ | ⟨e1, e2, e3⟩
        · rw [e1, e2, bl_false (by simp), bl_false (by simp)]
          exact hj3 _ trivial
        · rw [e1, e2, bl_true (by simp only [bne_iff_ne]; omega)]
          refine goes_ck (by omega) ?_
          have hd : decide ((P.length : Int) > 0) = true := by simp only [decide_eq_true_eq]; omega
          rw [bl_false (by simp), hd, bl_false (b := false == true) rfl]
          exact hj3 _ trivial
    · have hPA : ∀ p, p < m.Places.length → of.getD p 0 = i → (Airy m p ↔ ∃ q, q < m.Places.length ∧ (m.Places.getD q d_Place).Surface = true ∧ of.getD q 0 = i) := fun p hp e => by rw [hairy p hp, e]
      have hpos : 0 < P.length := by
        obtain ⟨r, r1, r2⟩ := hy.root i u1 hi
        exact List.length_pos_of_mem ((hmemP r).mpr ⟨r, r1, r2, rfl⟩)
      refine goes_loop (fun (w : Bool × Int × Int × List Int) => 0 ≤ w.2.2.1 ∧ w.2.2.1 ≤ P.length ∧ w.2.2.2.length = m.Places.length ∧
        (∀ p : Nat, p < m.Places.length → w.2.2.2.getD p 0 = if of.getD p 0 < i then of.getD p 0 + 1 else if (p : Int) ∈ P.take w.2.2.1.toNat then i + 1 else 0) ∧
        (((∃ q, q < m.Places.length ∧ (m.Places.getD q d_Place).Surface = true ∧ of.getD q 0 = i) ∧ w.2.1 = 0 ∧ ((∃ q : Nat, q < m.Places.length ∧ (m.Places.getD q d_Place).Surface = true ∧ (q : Int) ∈ P.take w.2.2.1.toNat) → w.1 = true)) ∨
         ((¬ ∃ q, q < m.Places.length ∧ (m.Places.getD q d_Place).Surface = true ∧ of.getD q 0 = i) ∧ w.2.1 = w.2.2.1 ∧ w.1 = false))) (fun w => P.length - w.2.2.1.toNat) ?_ K _ ⟨by simp, by simp, u4, fun p hp => ?_, ?_⟩ (by simp only; omega)
      rotate_left
      · simp only
        rw [u5 p hp]
        simp
      · by_cases e : ∃ q, q < m.Places.length ∧ (m.Places.getD q d_Place).Surface = true ∧ of.getD q 0 = i
        · exact .inl ⟨e, rfl, by rintro ⟨q, _, _, h⟩; simp at h⟩
        · exact .inr ⟨e, rfl, rfl⟩
      intro self2 w ⟨w1, w2, w3, w4, w5⟩ hs2
      obtain ⟨airy, lost, k, ofk⟩ := w
      simp only at w1 w2 w3 w4 w5 hs2
      unfold law01_PlanParts_b2
      simp only
      rw [hPd]
      refine goes_ck (by omega) (goes_bif (fun h2 => ?_) (fun h2 => hj2 _ ?_))
      rotate_left
      · simp only [decide_eq_false_iff_not] at h2
        have hk : P.take k.toNat = P := List.take_of_length_le (by omega)
        rw [hk] at w4 w5
        refine ⟨?_, w3, fun p hp => ?_⟩
        · rcases w5 with ⟨e, e1, e2⟩ | ⟨e, e1, e2⟩
          · refine .inl ⟨e2 ?_, e1⟩
            obtain ⟨q, q1, q2, q3⟩ := e
            exact ⟨q, q1, q2, (hmemP q).mpr ⟨q, q1, q3, rfl⟩⟩
          · exact .inr ⟨e2, by simp only; omega, hpos⟩
        · simp only
          rw [w4 p hp]
          by_cases e : of.getD p 0 < i
          · rw [if_pos e, if_pos (by omega)]
          · rw [if_neg e]
            by_cases e' : of.getD p 0 = i
            · rw [if_pos ((hmemP p).mpr ⟨p, hp, e', rfl⟩), if_pos (by omega)]; omega
            · rw [if_neg (fun z => e' (by obtain ⟨q, _, q2, q3⟩ := (hmemP p).mp z; obtain rfl : p = q := by omega
                                          exact q2)), if_neg (by omega)]
      simp only [decide_eq_true_eq] at h2
      have hkl : k.toNat < P.length := by omega
      obtain ⟨p, hp, hpi, hpe⟩ := (hmemP _).mp (getD_mem (d := (0 : Int)) hkl)
      rw [w64 (e := k + 1) (by omega), w64 (e := i + 1) (by omega)]
      have htk := take_succ_getD (d := (0 : Int)) hkl
      rw [hpe] at htk ⊢
      have hk1 : (k + 1).toNat = k.toNat + 1 := by omega
      have hap := hPA p hp hpi
      have hcp := hcut p hp
      have hofk : ∀ q : Nat, q < m.Places.length → (ofk.set p (i + 1)).getD q 0 = if of.getD q 0 < i then of.getD q 0 + 1 else if (q : Int) ∈ P.take (k.toNat + 1) then i + 1 else 0 := by
        intro q hq
        rw [getD_set, htk, w3]
        by_cases e : p = q
        · subst e
          rw [if_pos ⟨rfl, hp⟩, if_neg (by omega), if_pos (by simp)]
        · rw [if_neg (fun z => e z.1), w4 q hq]
          have : (q : Int) ∈ P.take k.toNat ++ [(p : Int)] ↔ (q : Int) ∈ P.take k.toNat := by
            simp only [List.mem_append, List.mem_singleton]
            constructor
            · rintro (z | z)
              · exact z
              · omega
            · exact .inl
          simp only [this]
      simp only [Int.toNat_natCast]
      refine goes_letj (fun v => ((∃ q, q < m.Places.length ∧ (m.Places.getD q d_Place).Surface = true ∧ of.getD q 0 = i) ∧ v.2 = 0 ∧ ((∃ q : Nat, q < m.Places.length ∧ (m.Places.getD q d_Place).Surface = true ∧ (q : Int) ∈ P.take (k.toNat + 1)) → v.1 = true)) ∨
         ((¬ ∃ q, q < m.Places.length ∧ (m.Places.getD q d_Place).Surface = true ∧ of.getD q 0 = i) ∧ v.2 = k + 1 ∧ v.1 = false)) (fun v hv' => hs2 _ ⟨by simp only; omega, by simp only; omega, by simp [w3], by simp only [hk1]; exact hofk, by simp only [hk1]; exact hv'⟩ (by simp only; omega)) (fun j4 hj4 => ?_)
      refine goes_ck (by omega) ?_
      rw [bl_false (by simp only [decide_eq_false_iff_not]; omega), bl_false (by simp only [decide_eq_false_iff_not]; omega)]
      refine goes_ck (by omega) ?_
      rw [bnd_ok (goes_Has (by omega) (by omega)), bnd_ok (goes_Has (by omega) (by omega))]
      rcases w5 with ⟨e, e1, e2⟩ | ⟨e, e1, e2⟩
      · have hnc : ¬ (p : Int) ∈ cut := fun z => (hcp.mp z) (hap.mpr e)
        refine goes_bif (fun g => ?_) (fun g => goes_ck (by omega) ?_)
        · rw [bl_false (by simpa using hnc)]
          exact hj4 _ (.inl ⟨e, e1, fun _ => rfl⟩)
        · rw [bl_false (by simpa using hnc)]
          refine hj4 _ (.inl ⟨e, e1, fun ⟨q, q1, q2, q3⟩ => ?_⟩)
          rw [htk] at q3
          rcases List.mem_append.mp q3 with z | z
          · exact absurd (e2 ⟨q, q1, q2, z⟩) (by rw [g]; simp)
          · simp only [List.mem_singleton] at z
            obtain rfl : q = p := by omega
            exact q2
      · have hyc : (p : Int) ∈ cut := hcp.mpr (fun z => e (hap.mp z))
        rw [e2, bl_false rfl]
        refine goes_ck (by omega) ?_
        rw [bl_true (by simpa using hyc), w64 (by omega)]
        refine hj4 _ (.inr ⟨e, by simp only; omega, ?_⟩)
        cases hsf : (m.Places.getD p d_Place).Surface with
        | false => rfl
        | true => exact absurd ⟨p, hp, hsf, hpi⟩ e

theorem pure_PlanParts : Said_law01_PlanParts := by
  intro a0 h0
  refine ⟨300, ?_⟩
  suffices H : Goes (law01_PlanParts 300 a0) (fun r => r = true) by
    obtain ⟨r, hr, rfl⟩ := H; exact hr
  unfold law01_PlanParts
  exact goes_bnd _ (goes_New h0) (fun c hc => goes_bnd _ (goes_Mine hc (by omega)) (fun y ⟨_, hm⟩ => goes_PlanParts (by omega) hm.valid))
end Go.Proofs.Ytmkhmonbfikbpaa
