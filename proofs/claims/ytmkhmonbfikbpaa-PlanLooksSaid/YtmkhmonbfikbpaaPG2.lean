/- Parts of a mine: the loops of the search. -/
import Derived.Test.YtmkhmonbfikbpaaPG1
namespace Go.Proofs.Ytmkhmonbfikbpaa
open Go Go.Ev
set_option linter.unusedVariables false

/-- What the numbers of the parts are. -/
structure PSpec (rs : List T_Road) (n : Nat) (c : Int) (of : List Int) : Prop where
  len : of.length = n
  c0 : 0 ≤ c
  cN : c ≤ n
  rng : ∀ p, p < n → 0 ≤ of.getD p 0 ∧ of.getD p 0 < c
  conn : ∀ p q, p < n → q < n → (of.getD p 0 = of.getD q 0 ↔ Conn rs p q)
  root : ∀ k, 0 ≤ k → k < c → ∃ r : Nat, r < n ∧ of.getD r 0 = k
  canon : ∀ (p : Nat) k, p < n → 0 ≤ k → k < of.getD p 0 → ∃ r : Nat, r < p ∧ of.getD r 0 = k

theorem PInv.spec {rs : List T_Road} {n : Nat} {c : Int} {of : List Int} (hv : ∀ r ∈ rs, VRoad n r) (h : PInv rs n c n of) : PSpec rs n c of := by
  have h0 : ∀ p, p < n → 0 ≤ of.getD p 0 := fun p hp => h.done p hp (by omega)
  refine ⟨h.len, h.c0, h.ci, fun p hp => ⟨h0 p hp, (h.rng p hp).2⟩, fun p q hp hq => ⟨fun e => h.conn p q hp hq e (h0 p hp), fun e => ?_⟩, fun k k0 k1 => ?_, h.canon⟩
  · induction e with
    | refl => rfl
    | step e' a ih =>
      have hl := a.lt hv
      exact (ih hl.1).trans (h.adj _ _ hl.1 hl.2 a)
  · obtain ⟨r, r1, _, r2⟩ := h.root k k0 k1
    exact ⟨r, r1, r2⟩

theorem mem_last {l : List Int} {x : Int} (h : 0 < l.length) (hx : x ∈ l) : x ∈ l.take (l.length - 1) ∨ x = l.getD (l.length - 1) 0 := by
  obtain ⟨i, hi, rfl⟩ := List.mem_iff_getElem.mp hx
  by_cases e : i = l.length - 1
  · right
    subst e
    rw [List.getD_eq_getElem?_getD, List.getElem?_eq_getElem hi]
    rfl
  · left
    exact List.mem_take_iff_getElem.mpr ⟨i, by omega, rfl⟩

theorem drop_getD {α : Type} {l : List α} {i : Nat} {d : α} (h : i < l.length) : l.drop i = l.getD i d :: l.drop (i + 1) := by
  rw [List.getD_eq_getElem?_getD, List.getElem?_eq_getElem h]
  exact List.drop_eq_getElem_cons h

theorem goes_part {K : Nat} (hK : 300 ≤ K) {m : T_Mine} (hv : Valid m) : Goes (plan_part K m) (fun y => PSpec m.Roads m.Places.length y.2 y.1) := by
  have np := hv.np
  have nr := hv.nr
  have hvr := hv.r
  unfold plan_part
  refine goes_ck ⟨limit_le (by omega), by omega⟩ (goes_letj (fun near => NearIn m.Roads m.Places.length near) (fun near hnear => ?_) (fun j hj => ?_))
  · refine goes_ck ⟨limit_le (by omega), by omega⟩ (goes_letj (fun of => of.length = m.Places.length ∧ ∀ p, p < m.Places.length → of.getD p 0 = -1) (fun of hof => ?_) (fun j hj => ?_))
    · refine goes_letj (fun v => PSpec m.Roads m.Places.length v.1 v.2) (fun v hv => goes_some hv) (fun j hj => ?_)
      refine goes_loop (fun (u : Int × Int × List Int) => PInv m.Roads m.Places.length u.1 u.2.1 u.2.2) (fun u => m.Places.length - u.2.1.toNat) ?_ K _ ?_ (by simp only; omega)
      rotate_left
      · refine ⟨hof.1, by simp, by simp, by simp, fun p hp => ?_, fun p hp h => ?_, fun p q hp hq _ => ?_, fun p q hp hq _ h => ?_, fun k k0 k1 => ?_, fun p k hp k0 k1 => ?_⟩
        · rw [hof.2 p hp]; omega
        · simp only at h; omega
        · rw [hof.2 p hp, hof.2 q hq]
        · rw [hof.2 p hp] at h; omega
        · simp only at k1; omega
        · rw [hof.2 p hp] at k1; omega
      intro self u hu hs
      obtain ⟨c, i, of'⟩ := u
      simp only at hu hs
      have ulen := hu.len
      have uc0 := hu.c0
      have uci := hu.ci
      have uiN := hu.iN
      unfold plan_part_b6
      simp only
      refine goes_bif (fun h => ?_) (fun h => ?_)
      rotate_left
      · simp only [decide_eq_false_iff_not] at h
        obtain rfl : i = (m.Places.length : Int) := by have := hof.1; omega
        exact hj _ (hu.spec hvr)
      simp only [decide_eq_true_eq] at h
      have hof1 := hof.1
      rw [w64 (e := i + 1) (by omega), w64 (e := c + 1) (by omega)]
      refine goes_letj (fun v => PInv m.Roads m.Places.length v.1 (i + 1) v.2) (fun v hv' => hs _ hv' (by simp only; omega)) (fun j2 hj2 => ?_)
      refine goes_ck (by omega) (goes_bif (fun g => hj2 _ ?_) (fun g => ?_))
      · simp only [decide_eq_true_eq] at g
        refine ⟨hu.len, hu.c0, by simp only; omega, by omega, hu.rng, fun p hp h' => ?_, hu.adj, hu.conn, fun k k0 k1 => ?_, hu.canon⟩
        · by_cases e : (p : Int) < i
          · exact hu.done p hp e
          · obtain rfl : p = i.toNat := by omega
            exact g
        · obtain ⟨r, r1, r2, r3⟩ := hu.root k k0 k1
          exact ⟨r, r1, by omega, r3⟩
      simp only [decide_eq_false_iff_not] at g
      -- the search of one part
      have hi' : i.toNat < m.Places.length := by omega
      have hin : of'.getD i.toNat 0 = -1 := by have := (hu.rng i.toNat hi').1; omega
      refine goes_letj (fun of2 => DInv m.Roads m.Places.length c i.toNat of' of2 [] (fun _ _ => False)) (fun of2 hd => hj2 _ ?_) (fun j3 hj3 => ?_)
      · have hadj : ∀ p q, p < m.Places.length → q < m.Places.length → AdjAt m.Roads p q → of2.getD p 0 = of2.getD q 0 := by
          intro p q hp hq ha
          rcases hd.adj p q hp hq ha with z | ⟨z | z, _⟩ | ⟨z | z, _⟩
          · exact z
          · simp at z
          · exact z.elim
          · simp at z
          · exact z.elim
        refine ⟨hd.len, by simp only; omega, by simp only; omega, by omega, fun p hp => ?_, fun p hp h' => ?_, hadj, fun p q hp hq e h' => ?_, fun k k0 k1 => ?_, fun p k hp k0 k1 => ?_⟩
        · have := hd.rng p hp; simp only; omega
        · by_cases e : (p : Int) < i
          · have := hu.done p hp e
            rw [hd.old p hp this]; exact this
          · obtain rfl : p = i.toNat := by omega
            rw [hd.at_]; omega
        · simp only at e h'
          have a := hd.new p hp h'
          have b := hd.new q hq (by omega)
          have r1 := (hu.rng p hp).2
          have r2 := (hu.rng q hq).2
          rcases a with a | ⟨a, _, a'⟩
          · rcases b with b | ⟨b, _, b'⟩
            · exact hu.conn p q hp hq (by omega) (by omega)
            · omega
          · rcases b with b | ⟨b, _, b'⟩
            · omega
            · exact a'.symm.trans b'
        · simp only at k1
          by_cases e : k < c
          · obtain ⟨r, r1, r2, r3⟩ := hu.root k k0 e
            exact ⟨r, r1, by omega, by rw [hd.old r r1 (by omega)]; exact r3⟩
          · exact ⟨i.toNat, hi', by omega, by rw [hd.at_]; omega⟩
        · simp only at k1
          have hk : k < c := by have := (hd.rng p hp).2; omega
          rcases hd.new p hp (by omega) with a | ⟨a, a2, _⟩
          · obtain ⟨r, r1, r2⟩ := hu.canon p k hp k0 (by omega)
            exact ⟨r, r1, by rw [hd.old r (by omega) (by omega)]; exact r2⟩
          · obtain ⟨r, r1, r2, r3⟩ := hu.root k k0 hk
            refine ⟨r, ?_, by rw [hd.old r r1 (by omega)]; exact r3⟩
            rcases Int.lt_or_le (p : Int) i with e | e
            · have := hu.done p hp e; omega
            · omega
      refine goes_loop (fun (w : List Int × List Int) => DInv m.Roads m.Places.length c i.toNat of' w.1 w.2 (fun _ _ => False) ∧ w.2.length + neg w.1 ≤ m.Places.length) (fun w => w.2.length + neg w.1) ?_ K _ ?_ ?_
      rotate_left
      · have hneg := neg_set (l := of') (i := i.toNat) (x := c) (by omega) (by omega) uc0
        have hle : neg of' ≤ of'.length := List.countP_le_length
        refine ⟨⟨by simp [ulen], fun p hp => ?_, fun p hp h0 => ?_, fun p hp h0 => ?_, ?_, fun x hx => ?_, fun p q hp hq ha => ?_⟩, by simp only [List.length_singleton]; omega⟩
        · simp only [getD_set]
          split
          · omega
          · have := hu.rng p hp; omega
        · simp only [getD_set]
          split
          · rename_i e; obtain ⟨rfl, _⟩ := e; omega
          · rfl
        · simp only [getD_set] at h0 ⊢
          split
          · rename_i e; obtain ⟨rfl, _⟩ := e; exact .inr ⟨rfl, by omega, .refl⟩
          · exact .inl rfl
        · simp only [getD_set]
          rw [if_pos ⟨trivial, by omega⟩]
        · simp only [List.mem_singleton] at hx
          exact ⟨i.toNat, by omega, hi', by simp only [getD_set]; rw [if_pos ⟨trivial, by omega⟩]⟩
        · have old := hu.adj p q hp hq ha
          simp only [getD_set, ulen]
          by_cases ep : i.toNat = p
          · by_cases eq : i.toNat = q
            · left; rw [if_pos ⟨ep, hi'⟩, if_pos ⟨eq, hi'⟩]
            · right; left
              rw [if_neg (fun z => eq z.1)]
              subst ep
              exact ⟨.inl (by simp; omega), by omega⟩
          · by_cases eq : i.toNat = q
            · right; right
              rw [if_neg (fun z => ep z.1)]
              subst eq
              exact ⟨.inl (by simp; omega), by omega⟩
            · left; rw [if_neg (fun z => ep z.1), if_neg (fun z => eq z.1)]; exact old
      · have hneg := neg_set (l := of') (i := i.toNat) (x := c) (by omega) (by omega) uc0
        have hle : neg of' ≤ of'.length := List.countP_le_length
        simp only [List.length_singleton]; omega
      intro self2 w ⟨hw, hwl⟩ hs2
      obtain ⟨of2, todo⟩ := w
      simp only at hw hwl hs2
      unfold plan_part_b7
      simp only
      refine goes_bif (fun h7 => ?_) (fun h7 => ?_)
      rotate_left
      · simp only [decide_eq_false_iff_not] at h7
        obtain rfl : todo = [] := List.eq_nil_of_length_eq_zero (by omega)
        exact hj3 _ hw
      simp only [decide_eq_true_eq] at h7
      rw [w64 (e := (todo.length : Int) - 1) (by omega)]
      have htn : ((todo.length : Int) - 1).toNat = todo.length - 1 := by omega
      rw [htn]
      obtain ⟨p, p1, p2, p3⟩ := hw.tod _ (getD_mem (d := 0) (show todo.length - 1 < todo.length by omega))
      have hnl := hnear.1
      refine goes_ck (by omega) (goes_ck (by omega) (goes_ck (by omega) (goes_ck (by rw [p1]; omega) ?_)))
      have hpi : of'.getD p 0 < 0 := by
        rcases Int.lt_or_le (of'.getD p 0) 0 with z | z
        · exact z
        · have := hw.old p p2 z
          have := (hu.rng p p2).2
          omega
      have htake : (todo.take (todo.length - 1)).length = todo.length - 1 := by simp
      have hpt : (todo.getD (todo.length - 1) 0).toNat = p := by omega
      -- the places near p
      refine goes_loop (fun (w : Int × List Int × List Int) => 0 ≤ w.1 ∧ DInv m.Roads m.Places.length c i.toNat of' w.2.1 w.2.2 (fun x y => x = p ∧ (y : Int) ∈ (near.getD p []).drop w.1.toNat) ∧ w.2.1.getD p 0 = c ∧ w.2.2.length + neg w.2.1 + 1 ≤ todo.length + neg of2) (fun w => (near.getD p []).length - w.1.toNat) ?_ K _ ⟨by simp, ?_, p3, by simp only [htake]; omega⟩ ?_
      rotate_left
      · refine ⟨hw.len, hw.rng, hw.old, hw.new, hw.at_, fun x hx => hw.tod x (List.mem_of_mem_take hx), fun x y hx hy ha => ?_⟩
        have hmem : ∀ x y : Nat, (x : Int) ∈ todo → x < m.Places.length → AdjAt m.Roads x y → (x : Int) ∈ todo.take (todo.length - 1) ∨ (x = p ∧ (y : Int) ∈ (near.getD p []).drop 0) := by
          intro x y hx hxn ha
          rcases mem_last (by omega) hx with z | z
          · exact .inl z
          · obtain rfl : x = p := by omega
            exact .inr ⟨rfl, by simpa using (hnear.2.2.1 x y hxn).mpr ha⟩
        rcases hw.adj x y hx hy ha with z | ⟨z | z, z'⟩ | ⟨z | z, z'⟩
        · exact .inl z
        · exact .inr (.inl ⟨hmem x y z hx ha, z'⟩)
        · exact z.elim
        · exact .inr (.inr ⟨hmem y x z hy ha.symm, z'⟩)
        · exact z.elim
      · have := hnear.2.2.2 p p2
        simp only; omega
      intro self3 w ⟨w0, hw3, w1, w2⟩ hs3
      obtain ⟨jj, of3, todo3⟩ := w
      simp only at w0 hw3 w1 w2 hs3
      unfold plan_part_b8
      simp only
      rw [w64 (e := (todo.length : Int) - 1) (by omega), htn, hpt]
      refine goes_bif (fun h8 => ?_) (fun h8 => hs2 _ ⟨?_, by simp only; omega⟩ (by simp only; omega))
      rotate_left
      · simp only [decide_eq_false_iff_not] at h8
        have hd : (near.getD p []).drop jj.toNat = [] := List.drop_eq_nil_iff.mpr (by omega)
        refine ⟨hw3.len, hw3.rng, hw3.old, hw3.new, hw3.at_, hw3.tod, fun x y hx hy ha => ?_⟩
        rcases hw3.adj x y hx hy ha with z | ⟨z | z, z'⟩ | ⟨z | z, z'⟩
        · exact .inl z
        · exact .inr (.inl ⟨.inl z, z'⟩)
        · rw [hd] at z; simp at z
        · exact .inr (.inr ⟨.inl z, z'⟩)
        · rw [hd] at z; simp at z
      simp only [decide_eq_true_eq] at h8
      have hjl : jj.toNat < (near.getD p []).length := by omega
      have hmem := getD_mem (d := (0 : Int)) hjl
      have hdrop : (near.getD p []).drop jj.toNat = (near.getD p []).getD jj.toNat 0 :: (near.getD p []).drop (jj.toNat + 1) := drop_getD hjl
      have hqr := hnear.2.1 p p2 _ hmem
      obtain ⟨q, hq⟩ : ∃ q : Nat, (near.getD p []).getD jj.toNat 0 = q := ⟨_, (Int.toNat_of_nonneg hqr.1).symm⟩
      rw [hq] at hmem hdrop hqr
      have hapq := (hnear.2.2.1 p q p2).mp hmem
      have hlen3 := hw3.len
      have hrow := hnear.2.2.2 p p2
      rw [w64 (e := jj + 1) (by omega)]
      have hj1 : (jj + 1).toNat = jj.toNat + 1 := by omega
      refine goes_letj (fun (z : List Int × List Int) => DInv m.Roads m.Places.length c i.toNat of' z.1 z.2 (fun x y => x = p ∧ (y : Int) ∈ (near.getD p []).drop (jj + 1).toNat) ∧ z.1.getD p 0 = c ∧ z.2.length + neg z.1 + 1 ≤ todo.length + neg of2) (fun z hz => hs3 _ ⟨by simp only; omega, hz⟩ (by simp only; omega)) (fun j4 hj4 => ?_)
      rw [hq]
      refine goes_ck (by omega) (goes_ck (by omega) (goes_bif (fun g8 => goes_ck (limit_le (by omega)) (hj4 _ ?_)) (fun g8 => hj4 _ ?_)))
      · simp only [decide_eq_true_eq, Int.toNat_natCast] at g8 ⊢
        have hqn : q < m.Places.length := by omega
        have hneg := neg_set (l := of3) (i := q) (x := c) (by omega) g8 uc0
        have hdp := dinv_push (more' := fun x y => x = p ∧ (y : Int) ∈ (near.getD p []).drop (jj + 1).toNat) hw3 uc0 p2 w1 hpi hqn g8 hapq (fun x y ⟨e1, e2⟩ => by
          rw [hdrop] at e2
          rcases List.mem_cons.mp e2 with e | e
          · exact .inl (by omega)
          · exact .inr ⟨e1, by rw [hj1]; exact e⟩) (fun x y ⟨e1, _⟩ => by rw [e1]; exact w1)
        refine ⟨hdp, ?_, by simp only [List.length_append, List.length_singleton]; omega⟩
        rw [getD_set]
        split
        · rfl
        · exact w1
      · simp only [decide_eq_false_iff_not, Int.toNat_natCast] at g8 ⊢
        refine ⟨⟨hw3.len, hw3.rng, hw3.old, hw3.new, hw3.at_, hw3.tod, fun x y hx hy ha => ?_⟩, w1, w2⟩
        have hm : ∀ x y : Nat, (x = p ∧ (y : Int) ∈ (near.getD p []).drop jj.toNat) → of3.getD y 0 = -1 → x = p ∧ (y : Int) ∈ (near.getD p []).drop (jj + 1).toNat := by
          intro x y ⟨e1, e2⟩ e3
          rw [hdrop] at e2
          rcases List.mem_cons.mp e2 with e | e
          · obtain rfl : y = q := by omega
            omega
          · exact ⟨e1, by rw [hj1]; exact e⟩
        rcases hw3.adj x y hx hy ha with z | ⟨z | z, z'⟩ | ⟨z | z, z'⟩
        · exact .inl z
        · exact .inr (.inl ⟨.inl z, z'⟩)
        · exact .inr (.inl ⟨.inr (hm _ _ z z'), z'⟩)
        · exact .inr (.inr ⟨.inl z, z'⟩)
        · exact .inr (.inr ⟨.inr (hm _ _ z z'), z'⟩)
    · refine goes_loop (fun (u : Int × List Int) => 0 ≤ u.1 ∧ u.1 ≤ m.Places.length ∧ u.2.length = m.Places.length ∧ ∀ p : Nat, p < m.Places.length → (p : Int) < u.1 → u.2.getD p 0 = -1) (fun u => m.Places.length - u.1.toNat) ?_ K _ ⟨by simp, by simp, by simp, fun p _ hp => by simp only at hp; omega⟩ (by simp only; omega)
      intro self u ⟨u0, u1, u2, u3⟩ hs
      unfold plan_part_b4
      rw [List.length_replicate]
      refine goes_bif (fun h => ?_) (fun h => hj _ ⟨u2, fun p hp => u3 p hp ?_⟩)
      · simp only [decide_eq_true_eq] at h
        rw [w64 (e := u.1 + 1) (by omega)]
        refine goes_ck (by omega) (hs _ ⟨by simp only; omega, by simp only; omega, by simp [u2], fun p hp hp' => ?_⟩ (by simp only; omega))
        simp only at hp' ⊢
        rw [getD_set]
        by_cases e : u.1.toNat = p
        · rw [if_pos ⟨e, by omega⟩]
        · rw [if_neg (fun z => e z.1)]
          exact u3 p hp (by omega)
      · simp only [decide_eq_false_iff_not] at h
        omega
  · refine goes_loop (fun (u : Int × List (List Int)) => 0 ≤ u.1 ∧ u.1 ≤ m.Roads.length ∧ NearIn (m.Roads.take u.1.toNat) m.Places.length u.2) (fun u => m.Roads.length - u.1.toNat) ?_ K _ ⟨by simp, by simp, ?_⟩ (by simp only; omega)
    rotate_left
    · have e : ∀ p, (List.replicate m.Places.length ([] : List Int)).getD p [] = [] := by
        intro p
        rw [List.getD_eq_getElem?_getD, List.getElem?_replicate]
        split <;> rfl
      refine ⟨by simp, fun p _ x hx => ?_, fun p q _ => ?_, fun p _ => ?_⟩
      · simp only [e] at hx; simp at hx
      · simp only [e]
        simp [AdjAt]
      · simp only [e]; simp
    intro self u ⟨u0, u1, hn⟩ hs
    unfold plan_part_b1
    refine goes_bif (fun h => ?_) (fun h => hj _ ?_)
    rotate_left
    · simp only [decide_eq_false_iff_not] at h
      rw [List.take_of_length_le (by omega)] at hn
      exact hn
    simp only [decide_eq_true_eq] at h
    have hrm := getD_mem (d := d_Road) (show u.1.toNat < m.Roads.length by omega)
    have hvr' := hvr _ hrm
    have htk := take_succ_getD (d := d_Road) (show u.1.toNat < m.Roads.length by omega)
    rw [w64 (e := u.1 + 1) (by omega)]
    have h1 : (u.1 + 1).toNat = u.1.toNat + 1 := by omega
    refine goes_letj (fun v => NearIn (m.Roads.take (u.1.toNat + 1)) m.Places.length v) (fun v hv' => hs _ ⟨by simp only; omega, by simp only; omega, by simp only [h1]; exact hv'⟩ (by simp only; omega)) (fun j2 hj2 => ?_)
    refine goes_ck (by omega) ?_
    rw [htk] at hj2
    generalize m.Roads.getD u.1.toNat d_Road = r at hvr' hj2 ⊢
    refine goes_bif (fun g => ?_) (fun g => hj2 _ (near_skip hn (by simpa using g)))
    have hn1 := hn.1
    have hn4 := hn.2.2.2
    have ef := hvr'.from_
    have et := hvr'.to_
    have hst := near_step hn hvr' (by simpa using g)
    have htl : (m.Roads.take u.1.toNat).length ≤ 128 := by rw [List.length_take]; omega
    have b1 := hn4 r.From.toNat (by omega)
    have b2 := hst.2.2.2 r.To.toNat (by omega)
    simp only [List.length_append, List.length_singleton] at b2
    refine goes_ck (by omega) (goes_ck (limit_le (by rw [famR_len]; omega)) (goes_ck (by rw [List.length_set]; omega) (goes_ck (limit_le ?_) (hj2 _ hst))))
    rw [famR_len, getD_set]
    split
    · rename_i e
      have := hn4 r.From.toNat (by omega)
      simp only [List.length_append, List.length_singleton]; omega
    · have := hn4 r.To.toNat (by omega)
      omega
end Go.Proofs.Ytmkhmonbfikbpaa
