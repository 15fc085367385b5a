/- The plain law. -/
import Derived.Test.YtmdolfannbbipaaDoorH3A
import Derived.KernelRfl
namespace Go.Ev
open Go
set_option linter.unusedVariables false

def Goes {α : Type} (x : Option α) (Q : α → Prop) : Prop := ∃ r, x = some r ∧ Q r
section
variable {α β ρ : Type}
theorem Goes.mono {x : Option α} {Q R : α → Prop} (h : Goes x Q) (k : ∀ r, Q r → R r) : Goes x R := by
  obtain ⟨r, h1, h2⟩ := h; exact ⟨r, h1, k r h2⟩
theorem Goes.and {x : Option α} {Q R : α → Prop} (h : Goes x Q) (k : Goes x R) : Goes x (fun r => Q r ∧ R r) := by
  obtain ⟨r, h1, h2⟩ := h
  obtain ⟨s, k1, k2⟩ := k
  rw [h1] at k1
  obtain rfl := Option.some.inj k1
  exact ⟨r, h1, h2, k2⟩
theorem Goes.val {x : Option α} {Q : α → Prop} {r : α} (h : Goes x Q) (e : x = some r) : Q r := by
  obtain ⟨s, h1, h2⟩ := h
  rw [e] at h1
  obtain rfl := Option.some.inj h1
  exact h2
theorem goes_some {r : α} {Q : α → Prop} (h : Q r) : Goes (some r) Q := ⟨r, rfl, h⟩
theorem goes_of {x : Option α} {r : α} {Q : α → Prop} (e : x = some r) (h : Q r) : Goes x Q := ⟨r, e, h⟩
theorem goes_bnd {x : Option α} {f : α → Option β} {Q : β → Prop} (M : α → Prop) (h : Goes x M) (k : ∀ y, M y → Goes (f y) Q) : Goes (bnd x f) Q := by
  obtain ⟨y, h1, h2⟩ := h
  rw [bnd_ok h1]; exact k y h2
theorem goes_ck {p : Prop} [Decidable p] {x : Option α} {Q : α → Prop} (hp : p) (h : Goes x Q) : Goes (ck p x) Q := by rw [ck_ok hp]; exact h
theorem goes_bif {b : Bool} {x y : Option α} {Q : α → Prop} (h : b = true → Goes x Q) (k : b = false → Goes y Q) : Goes (bif b then x else y) Q := by
  cases b with
  | true => exact h rfl
  | false => exact k rfl
theorem goes_letj {j : α → Option ρ} {A : (α → Option ρ) → Option ρ} {Q : ρ → Prop} (J : α → Prop) (hj : ∀ v, J v → Goes (j v) Q) (hA : ∀ j' : α → Option ρ, (∀ v, J v → Goes (j' v) Q) → Goes (A j') Q) : Goes (letj j A) Q := hA j hj
theorem goes_loop {B : (α → Option ρ) → α → Option ρ} {Q : ρ → Prop} (Inv : α → Prop) (m : α → Nat)
    (step : ∀ self v, Inv v → (∀ v', Inv v' → m v' < m v → Goes (self v') Q) → Goes (B self v) Q) : ∀ (K : Nat) (v : α), Inv v → m v < K → Goes (loopK B K v) Q := by
  intro K
  induction K with
  | zero => intro v _ h; omega
  | succ k ih => intro v hv hm; exact step _ v hv (fun v' h1 h2 => ih v' h1 (by omega))
end
theorem w64 {e : Int} (h : -9223372036854775808 ≤ e ∧ e < 9223372036854775808) : IntKind.wrap .i64 e = e := by
  have hb : (2 : Int) ^ IntKind.bits .i64 = 18446744073709551616 := by decide
  have hb' : (2 : Int) ^ (IntKind.bits .i64 - 1) = 9223372036854775808 := by decide
  have hs : IntKind.signed .i64 = true := by decide
  unfold IntKind.wrap
  rw [hb, hb', hs]
  simp only [Bool.true_and, decide_eq_true_eq]
  split <;> omega
theorem okI_i64 {n : Int} (h : okI .i64 n) : -9223372036854775808 ≤ n ∧ n < 9223372036854775808 := by
  have hb : (Lit.int .i64 n).wf = true := h
  simp [Lit.wf, IntKind.min, IntKind.max, IntKind.signed, IntKind.bits] at hb
  omega
theorem okI_u8 {n : Int} (h : okI .u8 n) : 0 ≤ n ∧ n ≤ 255 := by
  have hb : (Lit.int .u8 n).wf = true := h
  simp [Lit.wf, IntKind.min, IntKind.max, IntKind.signed, IntKind.bits] at hb
  omega
theorem w64_range (e : Int) : -9223372036854775808 ≤ IntKind.wrap .i64 e ∧ IntKind.wrap .i64 e < 9223372036854775808 := by
  have hb : (2 : Int) ^ IntKind.bits .i64 = 18446744073709551616 := by decide
  have hb' : (2 : Int) ^ (IntKind.bits .i64 - 1) = 9223372036854775808 := by decide
  have hs : IntKind.signed .i64 = true := by decide
  unfold IntKind.wrap
  rw [hb, hb', hs]
  simp only [Bool.true_and, decide_eq_true_eq]
  split <;> omega
theorem getD_mem {α : Type} {l : List α} {i : Nat} {d : α} (h : i < l.length) : l.getD i d ∈ l := by
  rw [List.getD_eq_getElem?_getD, List.getElem?_eq_getElem h]
  exact List.getElem_mem h
theorem bl_true {b : Bool} {α : Type} {x y : α} (h : b = true) : (bif b then x else y) = x := by rw [h]; rfl
theorem bl_false {b : Bool} {α : Type} {x y : α} (h : b = false) : (bif b then x else y) = y := by rw [h]; rfl
end Go.Ev
namespace Go.Proofs.YtmdolfannbbipaaDoor
open Go Go.Ev
set_option linter.unusedVariables false
def okC (c : T_Codes) : Prop := (∀ x ∈ c.l_, 0 ≤ x ∧ x ≤ 255) ∧ c.l_.length ≤ 300 ∧ 0 ≤ c.at_ ∧ c.at_ ≤ c.l_.length
theorem goes_New {K : Nat} {l : List Int} (hl : okL (okI .u8) l) : Goes (draw_New K l) okC := by
  have hb : ∀ x ∈ l, 0 ≤ x ∧ x ≤ 255 := fun x hx => okI_u8 (hl.1 x hx)
  unfold draw_New
  refine goes_ck (by split <;> omega) (goes_ck (by split <;> omega) (goes_some ?_))
  refine ⟨fun x hx => hb x (List.mem_of_mem_take hx), ?_, by simp, by simp⟩
  simp only [List.length_take]
  split <;> omega
theorem goes_Next {K : Nat} {c : T_Codes} {n : Int} (hc : okC c) : Goes (draw_Codes_Next K c n) (fun y => okC y.2 ∧ 0 ≤ y.1 ∧ (1 ≤ n → y.1 < n) ∧ (n < 1 → y.1 = 0)) := by
  obtain ⟨h1, h2, h3, h4⟩ := hc
  unfold draw_Codes_Next
  refine goes_bif (fun h => ?_) (fun h => ?_)
  · simp only [decide_eq_true_eq] at h
    exact goes_some ⟨⟨h1, h2, h3, h4⟩, by simp, fun _ => by simp; omega, fun _ => rfl⟩
  simp only [decide_eq_false_iff_not] at h
  refine goes_bif (fun k => ?_) (fun k => ?_)
  · exact goes_some ⟨⟨h1, h2, h3, h4⟩, by simp, fun _ => by simp; omega, fun _ => rfl⟩
  simp only [decide_eq_false_iff_not] at k
  have e1 : IntKind.wrap .i64 (c.at_ + 1) = c.at_ + 1 := w64 (by omega)
  rw [e1]
  have e2 : IntKind.wrap .i64 (c.at_ + 1 - 1) = c.at_ := by rw [w64 (by omega)]; omega
  rw [e2]
  have b1 : 0 ≤ c.l_.getD c.at_.toNat 0 ∧ c.l_.getD c.at_.toNat 0 ≤ 255 := h1 _ (getD_mem (by omega))
  rw [w64 (e := c.l_.getD c.at_.toNat 0) (by omega)]
  refine goes_ck (by omega) (goes_letj (fun v => 0 ≤ v.1 ∧ 0 ≤ v.2 ∧ v.2 ≤ c.l_.length) (fun v hv => ?_) (fun j hj => ?_))
  · refine goes_ck (by omega) (goes_some ⟨⟨h1, h2, hv.2.1, hv.2.2⟩, Int.tmod_nonneg _ hv.1, fun _ => ?_, fun h' => by omega⟩)
    have := Int.tmod_lt_of_pos v.1 (show 0 < n by omega)
    exact this
  refine goes_bif (fun p => goes_bif (fun q => ?_) (fun q => ?_)) (fun p => ?_)
  · simp only [decide_eq_true_eq] at p q
    refine goes_ck (by omega) (hj _ ?_)
    have b2 : 0 ≤ c.l_.getD (c.at_ + 1).toNat 0 ∧ c.l_.getD (c.at_ + 1).toNat 0 ≤ 255 := h1 _ (getD_mem (by omega))
    rw [w64 (e := c.l_.getD (c.at_ + 1).toNat 0) (by omega), w64 (e := c.l_.getD c.at_.toNat 0 * 256) (by omega), w64 (by omega), w64 (by omega)]
    simp only
    omega
  · exact hj _ ⟨b1.1, by simp only; omega, by simp only; omega⟩
  · exact hj _ ⟨b1.1, by simp only; omega, by simp only; omega⟩
theorem goes_Range {K : Nat} {c : T_Codes} {lo hi : Int} (hc : okC c) (hlo : -1000000 ≤ lo) (hle : lo ≤ hi) (hhi : hi ≤ 1000000) :
    Goes (draw_Codes_Range K c lo hi) (fun y => okC y.2 ∧ lo ≤ y.1 ∧ y.1 ≤ hi) := by
  unfold draw_Codes_Range
  rw [w64 (e := hi - lo) (by omega), w64 (by omega)]
  refine goes_bnd _ (goes_Next hc) (fun y ⟨y1, y2, y3, _⟩ => goes_some ⟨y1, ?_, ?_⟩)
  · simp only; rw [w64 (by omega)]; omega
  · simp only; rw [w64 (by omega)]; omega
theorem goes_One {K : Nat} {c : T_Codes} {n : Int} (hc : okC c) : Goes (draw_Codes_One K c n) (fun y => okC y.2) := by
  unfold draw_Codes_One
  exact goes_bnd _ (goes_Next hc) (fun y ⟨y1, _⟩ => goes_some y1)
end Go.Proofs.YtmdolfannbbipaaDoor
namespace Go.Proofs.YtmdolfannbbipaaDoor
open Go Go.Ev
set_option linter.unusedVariables false
/-- A rule as a tree: a condition; not; and (or: the last one false). -/
inductive F where
  | c (n : Nat)
  | n (a : F)
  | b (w : Bool) (x y : F)
def F.len : F → Nat
  | .c _ => 1
  | .n a => a.len + 1
  | .b _ x y => x.len + y.len + 1
def F.depth : F → Nat
  | .c _ => 1
  | .n a => a.depth + 1
  | .b _ x y => max x.depth y.depth + 1
def F.bd (m : Nat) : F → Prop
  | .c i => i < m
  | .n a => a.bd m
  | .b _ x y => x.bd m ∧ y.bd m
def kd (w : Bool) : Int := bif w then 3 else 4
/-- Its nodes, from place s on. -/
def flat (s : Nat) : F → List T_RuleNode
  | .c n => [⟨1, n, 0, 0⟩]
  | .n a => flat s a ++ [⟨2, 0, ((s + a.len : Nat) : Int) - 1, 0⟩]
  | .b w x y => flat s x ++ (flat (s + x.len) y ++ [⟨kd w, 0, ((s + x.len : Nat) : Int) - 1, ((s + x.len + y.len : Nat) : Int) - 1⟩])
theorem flat_len : ∀ (f : F) (s : Nat), (flat s f).length = f.len := by
  intro f
  induction f with
  | c n => intro s; rfl
  | n a ih => intro s; simp [flat, F.len, ih]
  | b w x y ihx ihy => intro s; simp [flat, F.len, ihx, ihy]; omega
theorem F.len_pos (f : F) : 1 ≤ f.len := by cases f <;> simp [F.len]
theorem F.depth_le : ∀ f : F, f.depth ≤ f.len := by
  intro f
  induction f with
  | c n => exact Nat.le_refl _
  | n a ih => simp only [F.depth, F.len]; omega
  | b w x y ihx ihy => simp only [F.depth, F.len]; have := x.len_pos; have := y.len_pos; omega
/-- A tree's nodes lie in the list from place s on. -/
def Seg (l : List T_RuleNode) (s : Nat) (f : F) : Prop := l.drop s = flat s f ++ l.drop (s + f.len)
theorem drop_at {l : List T_RuleNode} {i : Nat} (h : i < l.length) : l.drop i = l.getD i d_RuleNode :: l.drop (i + 1) := by
  rw [List.drop_eq_getElem_cons h]
  simp [h]
theorem Seg.leaf {l : List T_RuleNode} {i : Nat} (h : i < l.length) {n : Nat} (e : l.getD i d_RuleNode = ⟨1, n, 0, 0⟩) : Seg l i (.c n) := by
  unfold Seg; rw [drop_at h, e]; rfl
theorem Seg.not {l : List T_RuleNode} {s : Nat} {a : F} (ha : Seg l s a) (h : s + a.len < l.length) (e : l.getD (s + a.len) d_RuleNode = ⟨2, 0, ((s + a.len : Nat) : Int) - 1, 0⟩) : Seg l s (.n a) := by
  unfold Seg at ha ⊢
  rw [ha, drop_at h, e]
  simp [flat, F.len, Nat.add_assoc]
theorem Seg.bin {l : List T_RuleNode} {s : Nat} {x y : F} {w : Bool} (hx : Seg l s x) (hy : Seg l (s + x.len) y) (h : s + x.len + y.len < l.length)
    (e : l.getD (s + x.len + y.len) d_RuleNode = ⟨kd w, 0, ((s + x.len : Nat) : Int) - 1, ((s + x.len + y.len : Nat) : Int) - 1⟩) : Seg l s (.b w x y) := by
  unfold Seg at hx hy ⊢
  rw [hx, hy, drop_at h, e]
  simp [flat, F.len, Nat.add_assoc]
theorem drop_app {l a r : List T_RuleNode} {s n : Nat} (h : l.drop s = a ++ r) (hn : a.length = n) : l.drop (s + n) = r := by
  rw [← List.drop_drop, h, ← hn, List.drop_left]
theorem at_of_drop {l : List T_RuleNode} {i : Nat} {x : T_RuleNode} {r : List T_RuleNode} (h : l.drop i = x :: r) : i < l.length ∧ l.getD i d_RuleNode = x := by
  have hl : i < l.length := by
    have := congrArg List.length h
    simp at this; omega
  rw [drop_at hl] at h
  injection h with h1 h2
  exact ⟨hl, h1⟩
theorem Seg.leaf_inv {l : List T_RuleNode} {i n : Nat} (h : Seg l i (.c n)) : i < l.length ∧ l.getD i d_RuleNode = ⟨1, n, 0, 0⟩ := at_of_drop h
theorem Seg.not_inv {l : List T_RuleNode} {s : Nat} {a : F} (h : Seg l s (.n a)) : Seg l s a ∧ s + a.len < l.length ∧ l.getD (s + a.len) d_RuleNode = ⟨2, 0, ((s + a.len : Nat) : Int) - 1, 0⟩ := by
  unfold Seg at h
  simp only [flat, List.append_assoc] at h
  have h1 := drop_app h (flat_len a s)
  refine ⟨?_, at_of_drop h1⟩
  unfold Seg; rw [h1]; exact h
theorem Seg.bin_inv {l : List T_RuleNode} {s : Nat} {x y : F} {w : Bool} (h : Seg l s (.b w x y)) : Seg l s x ∧ Seg l (s + x.len) y ∧ s + x.len + y.len < l.length ∧
    l.getD (s + x.len + y.len) d_RuleNode = ⟨kd w, 0, ((s + x.len : Nat) : Int) - 1, ((s + x.len + y.len : Nat) : Int) - 1⟩ := by
  unfold Seg at h
  simp only [flat, List.append_assoc] at h
  have h1 := drop_app h (flat_len x s)
  have h2 := drop_app h1 (flat_len y (s + x.len))
  refine ⟨?_, ?_, at_of_drop h2⟩
  · unfold Seg; rw [h1]; exact h
  · unfold Seg; rw [h2]; exact h1
/-- A part that is right, of a list. -/
def PartOk (l : List T_RuleNode) (fr at_ deep : Int) : Prop := ∃ (f : F) (s : Nat), fr = s ∧ at_ + 1 = ((s + f.len : Nat) : Int) ∧ f.bd 64 ∧ Seg l s f ∧ deep = f.depth
theorem PartOk.pos {l : List T_RuleNode} {fr at_ deep : Int} (h : PartOk l fr at_ deep) : 0 ≤ fr ∧ fr ≤ at_ ∧ 0 ≤ deep ∧ deep ≤ at_ + 1 := by
  obtain ⟨f, s, rfl, h2, _, _, rfl⟩ := h
  have := f.len_pos; have := f.depth_le
  omega
theorem node_eta (x : T_RuleNode) : x = ⟨x.Kind, x.Cond, x.Left, x.Right⟩ := rfl
theorem PartOk.leaf {l : List T_RuleNode} {t : Int} (h0 : 0 ≤ t) (h1 : t < l.length) (hk : (l.getD t.toNat d_RuleNode).Kind = 1) (hl : (l.getD t.toNat d_RuleNode).Left = 0) (hr : (l.getD t.toNat d_RuleNode).Right = 0) (hc : 0 ≤ (l.getD t.toNat d_RuleNode).Cond) (hc' : (l.getD t.toNat d_RuleNode).Cond < 64) : PartOk l t t 1 := by
  refine ⟨.c (l.getD t.toNat d_RuleNode).Cond.toNat, t.toNat, by omega, by simp only [F.len]; omega, by simp only [F.bd]; omega, Seg.leaf (by omega) ?_, rfl⟩
  rw [node_eta (l.getD t.toNat d_RuleNode), hk, hl, hr]
  congr 1
  simp only
  omega
theorem PartOk.not {l : List T_RuleNode} {t fr d : Int} (h : PartOk l fr (t - 1) d) (h1 : t < l.length) (hk : (l.getD t.toNat d_RuleNode).Kind = 2) (hc : (l.getD t.toNat d_RuleNode).Cond = 0) (hr : (l.getD t.toNat d_RuleNode).Right = 0) (hl : (l.getD t.toNat d_RuleNode).Left = t - 1) : PartOk l fr t (d + 1) := by
  obtain ⟨f, s, rfl, h2, hb, hs, rfl⟩ := h
  have ht : t.toNat = s + f.len := by omega
  rw [ht] at hk hc hr hl
  refine ⟨.n f, s, rfl, by simp only [F.len]; omega, hb, hs.not (by omega) ?_, by simp [F.depth]⟩
  rw [node_eta (l.getD (s + f.len) d_RuleNode), hk, hc, hr, hl]
  congr 1
  omega
theorem PartOk.bin {l : List T_RuleNode} {t fr mid dl dr : Int} (w : Bool) (hy : PartOk l mid (t - 1) dr) (hx : PartOk l fr (mid - 1) dl) (h1 : t < l.length) (hk : (l.getD t.toNat d_RuleNode).Kind = kd w) (hc : (l.getD t.toNat d_RuleNode).Cond = 0) (hr : (l.getD t.toNat d_RuleNode).Right = t - 1) (hl : (l.getD t.toNat d_RuleNode).Left = mid - 1) :
    PartOk l fr t ((if dl < dr then dr else dl) + 1) := by
  obtain ⟨y, m, rfl, h2, hby, hsy, rfl⟩ := hy
  obtain ⟨x, s, rfl, h3, hbx, hsx, rfl⟩ := hx
  have hm : m = s + x.len := by omega
  subst hm
  have ht : t.toNat = s + x.len + y.len := by omega
  rw [ht] at hk hc hr hl
  refine ⟨.b w x y, s, rfl, by simp only [F.len]; omega, ⟨hbx, hby⟩, hsx.bin hsy (by omega) ?_, ?_⟩
  · rw [node_eta (l.getD (s + x.len + y.len) d_RuleNode), hk, hc, hr, hl]
    congr 1
    omega
  · simp only [F.depth]
    split <;> omega
theorem goes_part : ∀ (K : Nat) (l : List T_RuleNode) (t : Int), -1 ≤ t → t < l.length → l.length ≤ 1000 → t + 1 < K → Goes (rule_part K l t) (fun r => r.2.2 = true → PartOk l r.1 t r.2.1) := by
  intro K
  induction K with
  | zero => intro l t h0 _ _ h; omega
  | succ K ih =>
    intro l t h0 h1 h2 h3
    show Goes (rule_part_F K (rule_part K) l t) _
    unfold rule_part_F
    rw [w64 (e := t - 1) (by omega)]
    refine goes_bif (fun _ => goes_some (fun h => by cases h)) (fun q => ?_)
    simp only [decide_eq_false_iff_not] at q
    refine goes_ck (by omega) ?_
    refine goes_bif (fun k => ?_) (fun k => ?_)
    · have k := eq_of_beq k
      refine goes_bif (fun hl => ?_) (fun _ => goes_some (fun h => by cases h))
      refine goes_bif (fun hr => ?_) (fun _ => goes_some (fun h => by cases h))
      refine goes_bif (fun hc => ?_) (fun _ => goes_some (fun h => by cases h))
      refine goes_some (fun h => ?_)
      simp only [decide_eq_true_eq] at hc h
      exact .leaf (by omega) h1 k (eq_of_beq hl) (eq_of_beq hr) (by omega) h
    refine goes_bif (fun k => ?_) (fun k => ?_)
    · have k := eq_of_beq k
      refine goes_bnd _ (ih l (t - 1) (by omega) (by omega) h2 (by omega)) (fun y hy => ?_)
      refine goes_bif (fun ok => ?_) (fun _ => goes_some (fun h => by cases h))
      refine goes_bif (fun hc => ?_) (fun _ => goes_some (fun h => by cases h))
      refine goes_bif (fun hr => ?_) (fun _ => goes_some (fun h => by cases h))
      refine goes_some (fun h => ?_)
      have p := hy ok
      have := p.pos
      rw [w64 (by omega)]
      exact p.not h1 k (eq_of_beq hc) (eq_of_beq hr) (eq_of_beq h)
    have goal : ∀ w : Bool, (l.getD t.toNat d_RuleNode).Kind = kd w → Goes (bif true then (bnd (rule_part K l (t - 1)) fun y14 => (bif (!y14.2.2) then (some (0, 0, false)) else (bif ((l.getD t.toNat d_RuleNode).Cond != 0) then (some (0, 0, false)) else (bif ((l.getD t.toNat d_RuleNode).Right != (t - 1)) then (some (0, 0, false)) else (bif ((l.getD t.toNat d_RuleNode).Left != (IntKind.wrap .i64 (y14.1 - 1))) then (some (0, 0, false)) else (bnd (rule_part K l (IntKind.wrap .i64 (y14.1 - 1))) fun y23 => (some (y23.1, (IntKind.wrap .i64 ((if y23.2.1 < y14.2.1 then y14.2.1 else y23.2.1) + 1)), y23.2.2)))))))) else (some (0, 0, false))) (fun r => r.2.2 = true → PartOk l r.1 t r.2.1) := by
      intro w k
      refine goes_bif (fun _ => ?_) (fun h => by cases h)
      refine goes_bnd _ (ih l (t - 1) (by omega) (by omega) h2 (by omega)) (fun y hy => ?_)
      refine goes_bif (fun _ => goes_some (fun h => by cases h)) (fun ok => ?_)
      refine goes_bif (fun _ => goes_some (fun h => by cases h)) (fun hc => ?_)
      refine goes_bif (fun _ => goes_some (fun h => by cases h)) (fun hr => ?_)
      have p := hy (by simpa using ok)
      have pp := p.pos
      rw [w64 (e := y.1 - 1) (by omega)]
      refine goes_bif (fun _ => goes_some (fun h => by cases h)) (fun hl => ?_)
      simp only [bne_eq_false_iff_eq] at hc hr hl
      refine goes_bnd _ (ih l (y.1 - 1) (by omega) (by omega) h2 (by omega)) (fun z hz => goes_some (fun h => ?_))
      have r := hz h
      have rr := r.pos
      rw [w64 (by split <;> omega)]
      exact .bin w p r h1 k hc hr hl
    refine goes_letj (fun v => v = true → ∃ w, (l.getD t.toNat d_RuleNode).Kind = kd w) (fun v hv => ?_) (fun j hj => ?_)
    · cases v with
      | true => obtain ⟨w, hw⟩ := hv rfl; exact goal w hw
      | false => exact goes_some (fun h => by cases h)
    · refine goes_bif (fun k3 => hj _ (fun _ => ⟨true, eq_of_beq k3⟩)) (fun _ => hj _ (fun k4 => ⟨false, eq_of_beq k4⟩))
/-- Where a tree lies, the part is right. -/
theorem part_flat : ∀ (f : F) (K s : Nat) (l : List T_RuleNode), f.bd 64 → l.length ≤ 1000 → Seg l s f → f.depth ≤ K → rule_part K l (((s + f.len : Nat) : Int) - 1) = some ((s : Int), (f.depth : Int), true) := by
  intro f
  induction f with
  | c i =>
    intro K s l hb hl hs hK
    obtain ⟨h1, h2⟩ := hs.leaf_inv
    match K, hK with
    | K + 1, _ =>
      show rule_part_F K (rule_part K) l _ = _
      have e : ((s + (F.c i).len : Nat) : Int) - 1 = (s : Int) := by simp only [F.len]; omega
      have hi : i < 64 := hb
      rw [e]
      unfold rule_part_F
      simp only [Int.toNat_natCast, h2]
      rw [bl_false (decide_eq_false (by omega)), ck_ok (by omega)]
      simp [F.depth]
      omega
  | n a ih =>
    intro K s l hb hl hs hK
    obtain ⟨h1, h2, h3⟩ := hs.not_inv
    simp only [F.depth] at hK
    match K, hK with
    | K + 1, hK =>
      show rule_part_F K (rule_part K) l _ = _
      have e : ((s + (F.n a).len : Nat) : Int) - 1 = ((s + a.len : Nat) : Int) := by simp only [F.len]; omega
      have hd := a.depth_le
      have hp := a.len_pos
      rw [e]
      unfold rule_part_F
      simp only [Int.toNat_natCast, h3]
      rw [w64 (e := ((s + a.len : Nat) : Int) - 1) (by omega), ih K s l hb hl h1 (by omega)]
      rw [bl_false (decide_eq_false (by omega)), ck_ok (by omega)]
      have e2 : IntKind.wrap .i64 ((a.depth : Int) + 1) = ((F.n a).depth : Int) := by
        rw [w64 (by omega)]; simp [F.depth]
      simp [bnd, e2]
  | b w x y ihx ihy =>
    intro K s l hb hl hs hK
    obtain ⟨h1, h2, h3, h4⟩ := hs.bin_inv
    simp only [F.depth] at hK
    match K, hK with
    | K + 1, hK =>
      show rule_part_F K (rule_part K) l _ = _
      have e : ((s + (F.b w x y).len : Nat) : Int) - 1 = ((s + x.len + y.len : Nat) : Int) := by simp only [F.len]; omega
      have hdx := x.depth_le
      have hdy := y.depth_le
      have hpx := x.len_pos
      have hpy := y.len_pos
      rw [e]
      unfold rule_part_F
      simp only [Int.toNat_natCast, h4]
      rw [w64 (e := ((s + x.len + y.len : Nat) : Int) - 1) (by omega), ihy K (s + x.len) l hb.2 hl h2 (by omega)]
      rw [bl_false (decide_eq_false (by omega)), ck_ok (by omega)]
      have e1 : IntKind.wrap .i64 (((s + x.len : Nat) : Int) - 1) = ((s + x.len : Nat) : Int) - 1 := w64 (by omega)
      have ex := ihx K s l hb.1 hl h1 (by omega)
      have e2 : IntKind.wrap .i64 ((if (x.depth : Int) < (y.depth : Int) then (y.depth : Int) else (x.depth : Int)) + 1) = ((F.b w x y).depth : Int) := by
        rw [w64 (by split <;> omega)]
        simp only [F.depth]
        split <;> omega
      cases w <;> simp only [kd, letj, bnd, cond_true, cond_false, Int.reduceBEq, Option.bind_some, Bool.not_true, bne_self_eq_false, e1, ex, e2]
/-- A right rule: its tree. -/
def OkF (f : F) : Prop := f.bd 64 ∧ f.len ≤ 64 ∧ f.depth ≤ 16
theorem seg_flat (f : F) : Seg (flat 0 f) 0 f := by
  unfold Seg
  have : (flat 0 f).drop (0 + f.len) = [] := List.drop_eq_nil_of_le (by rw [flat_len]; omega)
  rw [this]; simp
theorem right_flat {K : Nat} {f : F} (h : OkF f) (hK : 17 ≤ K) : rule_right K (flat 0 f) = some true := by
  obtain ⟨h1, h2, h3⟩ := h
  have hp := f.len_pos
  unfold rule_right
  rw [flat_len, bl_false (by simp; omega), bl_false (by simp; omega), w64 (by omega)]
  have e := part_flat f K 0 (flat 0 f) h1 (by rw [flat_len]; omega) (seg_flat f) (by omega)
  rw [Nat.zero_add] at e
  rw [e]
  simp [bnd]
  omega
theorem goes_right {K : Nat} {l : List T_RuleNode} (hK : 66 ≤ K) : Goes (rule_right K l) (fun r => r = true ↔ ∃ f, OkF f ∧ l = flat 0 f) := by
  by_cases hf : ∃ f, OkF f ∧ l = flat 0 f
  · obtain ⟨f, h, rfl⟩ := hf
    exact goes_of (right_flat h (by omega)) ⟨fun _ => ⟨f, h, rfl⟩, fun _ => rfl⟩
  · have no : ∀ {b : Bool}, b = false → (b = true ↔ ∃ f, OkF f ∧ l = flat 0 f) := fun h => ⟨fun q => (by rw [h] at q; cases q), fun q => (hf q).elim⟩
    unfold rule_right
    refine goes_bif (fun _ => goes_some (no rfl)) (fun q1 => goes_bif (fun _ => goes_some (no rfl)) (fun q2 => ?_))
    simp only [decide_eq_false_iff_not] at q1 q2
    rw [w64 (by omega)]
    refine goes_bnd _ (goes_part K l _ (by omega) (by omega) (by omega) (by omega)) (fun y hy => ?_)
    refine goes_bif (fun ok => goes_bif (fun z => goes_some ?_) (fun _ => goes_some (no rfl))) (fun _ => goes_some (no rfl))
    obtain ⟨f, s, e1, e2, hb, hs, e3⟩ := hy ok
    have z := eq_of_beq z
    obtain rfl : s = 0 := by omega
    refine ⟨fun h => ?_, fun q => (hf q).elim⟩
    simp only [decide_eq_true_eq] at h
    refine ⟨f, ⟨hb, by omega, by omega⟩, ?_⟩
    have e : l.drop 0 = flat 0 f ++ l.drop (0 + f.len) := hs
    have e4 : l.drop (0 + f.len) = [] := List.drop_eq_nil_of_le (by omega)
    rw [e4] at e
    simpa using e
end Go.Proofs.YtmdolfannbbipaaDoor
namespace Go.Proofs.YtmdolfannbbipaaDoor
open Go Go.Ev
set_option linter.unusedVariables false
theorem goes_refpart : ∀ (K : Nat) (l : List T_RuleNode) (t : Int), -1 ≤ t → t < l.length → l.length ≤ 1000 → t + 1 < K → Goes (ref19_part K l t) (fun r => 0 ≤ r.1 → PartOk l r.1 t r.2) := by
  intro K
  induction K with
  | zero => intro l t h0 _ _ h; omega
  | succ K ih =>
    intro l t h0 h1 h2 h3
    show Goes (ref19_part_F K (ref19_part K) l t) _
    unfold ref19_part_F
    rw [w64 (e := t - 1) (by omega)]
    have no : ∀ {d : Int}, Goes (some ((-1 : Int), d)) (fun r : Int × Int => 0 ≤ r.1 → PartOk l r.1 t r.2) := fun {d} => goes_some (fun h => absurd h (by simp))
    refine goes_bif (fun _ => no) (fun q => ?_)
    refine goes_bif (fun _ => no) (fun _ => ?_)
    simp only [decide_eq_false_iff_not] at q
    refine goes_ck (by omega) ?_
    refine goes_bif (fun k => ?_) (fun k => ?_)
    · have k := eq_of_beq k
      refine goes_bif (fun _ => no) (fun c1 => goes_bif (fun _ => no) (fun c2 => goes_bif (fun _ => no) (fun c3 => goes_bif (fun _ => no) (fun c4 => goes_some (fun _ => ?_)))))
      simp only [decide_eq_false_iff_not, bne_eq_false_iff_eq] at c1 c2 c3 c4
      show PartOk l t t 1
      exact .leaf (by omega) h1 k c3 c4 (by omega) (by omega)
    refine goes_bif (fun k => ?_) (fun k => ?_)
    · have k := eq_of_beq k
      refine goes_bif (fun _ => no) (fun c1 => goes_bif (fun _ => no) (fun c2 => goes_bif (fun _ => no) (fun c3 => ?_)))
      refine goes_bnd _ (ih l (t - 1) (by omega) (by omega) h2 (by omega)) (fun y hy => goes_some (fun h => ?_))
      simp only [bne_eq_false_iff_eq] at c1 c2 c3
      have p := hy h
      have := p.pos
      rw [w64 (by omega)]
      exact p.not h1 k c1 c2 c3
    have goal : ∀ w : Bool, (l.getD t.toNat d_RuleNode).Kind = kd w → Goes (bif true then (bif ((l.getD t.toNat d_RuleNode).Cond != 0) then (some ((-1), 0)) else (bif ((l.getD t.toNat d_RuleNode).Right != (t - 1)) then (some ((-1), 0)) else (bnd (ref19_part K l (t - 1)) fun y25 => (bif (decide (y25.1 < 1)) then (some ((-1), 0)) else (bif ((l.getD t.toNat d_RuleNode).Left != (IntKind.wrap .i64 (y25.1 - 1))) then (some ((-1), 0)) else (bnd (ref19_part K l (IntKind.wrap .i64 (y25.1 - 1))) fun y30 => (some (y30.1, (IntKind.wrap .i64 ((if y30.2 < y25.2 then y25.2 else y30.2) + 1)))))))))) else (some ((-1), 0))) (fun r : Int × Int => 0 ≤ r.1 → PartOk l r.1 t r.2) := by
      intro w k
      refine goes_bif (fun _ => ?_) (fun h => by cases h)
      refine goes_bif (fun _ => no) (fun hc => goes_bif (fun _ => no) (fun hr => ?_))
      refine goes_bnd _ (ih l (t - 1) (by omega) (by omega) h2 (by omega)) (fun y hy => ?_)
      refine goes_bif (fun _ => no) (fun z => ?_)
      simp only [decide_eq_false_iff_not] at z
      have p := hy (by omega)
      have pp := p.pos
      rw [w64 (e := y.1 - 1) (by omega)]
      refine goes_bif (fun _ => no) (fun hl => ?_)
      simp only [bne_eq_false_iff_eq] at hc hr hl
      refine goes_bnd _ (ih l (y.1 - 1) (by omega) (by omega) h2 (by omega)) (fun z hz => goes_some (fun h => ?_))
      have r := hz h
      have rr := r.pos
      rw [w64 (by split <;> omega)]
      exact .bin w p r h1 k hc hr hl
    refine goes_letj (fun v => v = true → ∃ w, (l.getD t.toNat d_RuleNode).Kind = kd w) (fun v hv => ?_) (fun j hj => ?_)
    · cases v with
      | true => obtain ⟨w, hw⟩ := hv rfl; exact goal w hw
      | false => exact no
    · refine goes_bif (fun k3 => hj _ (fun _ => ⟨true, eq_of_beq k3⟩)) (fun _ => hj _ (fun k4 => ⟨false, eq_of_beq k4⟩))
theorem refpart_flat : ∀ (f : F) (K s : Nat) (l : List T_RuleNode), f.bd 64 → l.length ≤ 1000 → Seg l s f → f.depth ≤ K → ref19_part K l (((s + f.len : Nat) : Int) - 1) = some ((s : Int), (f.depth : Int)) := by
  intro f
  induction f with
  | c i =>
    intro K s l hb hl hs hK
    obtain ⟨h1, h2⟩ := hs.leaf_inv
    match K, hK with
    | K + 1, _ =>
      show ref19_part_F K (ref19_part K) l _ = _
      have e : ((s + (F.c i).len : Nat) : Int) - 1 = (s : Int) := by simp only [F.len]; omega
      have hi : i < 64 := hb
      rw [e]
      unfold ref19_part_F
      simp only [Int.toNat_natCast, h2]
      rw [bl_false (decide_eq_false (by omega)), bl_false (decide_eq_false (by omega)), ck_ok (by omega), bl_true (by rfl), bl_false (decide_eq_false (by omega)), bl_false (decide_eq_false (by omega))]
      simp [F.depth]
  | n a ih =>
    intro K s l hb hl hs hK
    obtain ⟨h1, h2, h3⟩ := hs.not_inv
    simp only [F.depth] at hK
    match K, hK with
    | K + 1, hK =>
      show ref19_part_F K (ref19_part K) l _ = _
      have e : ((s + (F.n a).len : Nat) : Int) - 1 = ((s + a.len : Nat) : Int) := by simp only [F.len]; omega
      have hd := a.depth_le
      have hp := a.len_pos
      rw [e]
      unfold ref19_part_F
      simp only [Int.toNat_natCast, h3]
      have e1 : IntKind.wrap .i64 (((s + a.len : Nat) : Int) - 1) = ((s + a.len : Nat) : Int) - 1 := w64 (by omega)
      have e2 : IntKind.wrap .i64 ((a.depth : Int) + 1) = ((F.n a).depth : Int) := by
        rw [w64 (by omega)]; simp [F.depth]
      have ex := ih K s l hb hl h1 (by omega)
      rw [bl_false (decide_eq_false (by omega)), bl_false (decide_eq_false (by omega)), ck_ok (by omega)]
      simp only [bnd, cond_true, cond_false, Int.reduceBEq, Option.bind_some, bne_self_eq_false, e1, ex, e2]
  | b w x y ihx ihy =>
    intro K s l hb hl hs hK
    obtain ⟨h1, h2, h3, h4⟩ := hs.bin_inv
    simp only [F.depth] at hK
    match K, hK with
    | K + 1, hK =>
      show ref19_part_F K (ref19_part K) l _ = _
      have e : ((s + (F.b w x y).len : Nat) : Int) - 1 = ((s + x.len + y.len : Nat) : Int) := by simp only [F.len]; omega
      have hdx := x.depth_le
      have hdy := y.depth_le
      have hpx := x.len_pos
      have hpy := y.len_pos
      rw [e]
      unfold ref19_part_F
      simp only [Int.toNat_natCast, h4]
      have e0 : IntKind.wrap .i64 (((s + x.len + y.len : Nat) : Int) - 1) = ((s + x.len + y.len : Nat) : Int) - 1 := w64 (by omega)
      have e1 : IntKind.wrap .i64 (((s + x.len : Nat) : Int) - 1) = ((s + x.len : Nat) : Int) - 1 := w64 (by omega)
      have ey := ihy K (s + x.len) l hb.2 hl h2 (by omega)
      have ex := ihx K s l hb.1 hl h1 (by omega)
      have e2 : IntKind.wrap .i64 ((if (x.depth : Int) < (y.depth : Int) then (y.depth : Int) else (x.depth : Int)) + 1) = ((F.b w x y).depth : Int) := by
        rw [w64 (by split <;> omega)]
        simp only [F.depth]
        split <;> omega
      have e3 : decide (((s + x.len : Nat) : Int) < 1) = false := decide_eq_false (by omega)
      rw [bl_false (decide_eq_false (by omega)), bl_false (decide_eq_false (by omega)), ck_ok (by omega)]
      cases w <;> simp only [kd, letj, bnd, cond_true, cond_false, Int.reduceBEq, Option.bind_some, bne_self_eq_false, e0, e1, ex, ey, e2, e3]
theorem refright_flat {K : Nat} {f : F} (h : OkF f) (hK : 17 ≤ K) : ref19_Right K (flat 0 f) = some true := by
  obtain ⟨h1, h2, h3⟩ := h
  have hp := f.len_pos
  unfold ref19_Right
  rw [flat_len, bl_false (by simp; omega), bl_false (by simp; omega), w64 (by omega)]
  have e := refpart_flat f K 0 (flat 0 f) h1 (by rw [flat_len]; omega) (seg_flat f) (by omega)
  rw [Nat.zero_add] at e
  rw [e]
  simp [bnd]
  omega
theorem goes_refright {K : Nat} {l : List T_RuleNode} (hK : 66 ≤ K) : Goes (ref19_Right K l) (fun r => r = true ↔ ∃ f, OkF f ∧ l = flat 0 f) := by
  by_cases hf : ∃ f, OkF f ∧ l = flat 0 f
  · obtain ⟨f, h, rfl⟩ := hf
    exact goes_of (refright_flat h (by omega)) ⟨fun _ => ⟨f, h, rfl⟩, fun _ => rfl⟩
  · have no : ∀ {b : Bool}, b = false → (b = true ↔ ∃ f, OkF f ∧ l = flat 0 f) := fun h => ⟨fun q => (by rw [h] at q; cases q), fun q => (hf q).elim⟩
    unfold ref19_Right
    refine goes_bif (fun _ => goes_some (no rfl)) (fun q1 => goes_bif (fun _ => goes_some (no rfl)) (fun q2 => ?_))
    simp only [decide_eq_false_iff_not] at q1 q2
    rw [w64 (by omega)]
    refine goes_bnd _ (goes_refpart K l _ (by omega) (by omega) (by omega) (by omega)) (fun y hy => ?_)
    refine goes_bif (fun z => goes_some ?_) (fun _ => goes_some (no rfl))
    have z := eq_of_beq z
    obtain ⟨f, s, e1, e2, hb, hs, e3⟩ := hy (by omega)
    obtain rfl : s = 0 := by omega
    refine ⟨fun h => ?_, fun q => (hf q).elim⟩
    simp only [decide_eq_true_eq] at h
    refine ⟨f, ⟨hb, by omega, by omega⟩, ?_⟩
    have e : l.drop 0 = flat 0 f ++ l.drop (0 + f.len) := hs
    have e4 : l.drop (0 + f.len) = [] := List.drop_eq_nil_of_le (by omega)
    rw [e4] at e
    simpa using e
end Go.Proofs.YtmdolfannbbipaaDoor
namespace Go.Proofs.YtmdolfannbbipaaDoor
open Go Go.Ev
set_option linter.unusedVariables false
def val {α : Type} (ev : Nat → α) (ng : α → α) (op : Bool → α → α → α) : F → α
  | .c i => ev i
  | .n a => ng (val ev ng op a)
  | .b w x y => op w (val ev ng op x) (val ev ng op y)
/-- The values of all its nodes. -/
def vals {α : Type} (ev : Nat → α) (ng : α → α) (op : Bool → α → α → α) : F → List α
  | .c i => [ev i]
  | .n a => vals ev ng op a ++ [ng (val ev ng op a)]
  | .b w x y => vals ev ng op x ++ (vals ev ng op y ++ [op w (val ev ng op x) (val ev ng op y)])
theorem vals_len {α : Type} (ev : Nat → α) (ng : α → α) (op : Bool → α → α → α) : ∀ f : F, (vals ev ng op f).length = f.len := by
  intro f
  induction f with
  | c i => rfl
  | n a ih => simp [vals, F.len, ih]
  | b w x y ihx ihy => simp [vals, F.len, ihx, ihy]; omega
theorem vals_last {α : Type} (ev : Nat → α) (ng : α → α) (op : Bool → α → α → α) (d : α) : ∀ f : F, (vals ev ng op f).getD (f.len - 1) d = val ev ng op f := by
  intro f
  cases f with
  | c i => rfl
  | n a =>
    have h := vals_len ev ng op a
    simp only [vals, val, F.len, Nat.add_sub_cancel, List.getD_eq_getElem?_getD]
    rw [List.getElem?_append_right (by omega), h]; simp
  | b w x y =>
    have h := vals_len ev ng op x
    have k := vals_len ev ng op y
    simp only [vals, val, F.len, Nat.add_sub_cancel, List.getD_eq_getElem?_getD]
    rw [List.getElem?_append_right (by omega), h, List.getElem?_append_right (by omega), k]
    simp
/-- A node's value comes out of the values of nodes ahead of it. -/
def NodeOk {α : Type} (ev : Nat → α) (ng : α → α) (op : Bool → α → α → α) (l : List T_RuleNode) (R : Nat → α) (i : Nat) : Prop :=
  (∃ k : Nat, l.getD i d_RuleNode = ⟨1, k, 0, 0⟩ ∧ k < 64 ∧ R i = ev k) ∨ (∃ j : Nat, j < i ∧ l.getD i d_RuleNode = ⟨2, 0, j, 0⟩ ∧ R i = ng (R j)) ∨
    ∃ (w : Bool) (j k : Nat), j < i ∧ k < i ∧ l.getD i d_RuleNode = ⟨kd w, 0, j, k⟩ ∧ R i = op w (R j) (R k)
theorem nodes_ok {α : Type} (ev : Nat → α) (ng : α → α) (op : Bool → α → α → α) (d : α) (l : List T_RuleNode) (R : Nat → α) : ∀ (f : F) (s : Nat), f.bd 64 → Seg l s f → (∀ i, i < f.len → R (s + i) = (vals ev ng op f).getD i d) → ∀ i, i < f.len → NodeOk ev ng op l R (s + i) := by
  intro f
  induction f with
  | c k =>
    intro s hb hs hR i hi
    obtain rfl : i = 0 := by simp only [F.len] at hi; omega
    exact .inl ⟨k, hs.leaf_inv.2, hb, hR 0 hi⟩
  | n a ih =>
    intro s hb hs hR i hi
    obtain ⟨h1, h2, h3⟩ := hs.not_inv
    have hl := vals_len ev ng op a
    have hp := a.len_pos
    simp only [F.len] at hi
    have hR' : ∀ i, i < a.len → R (s + i) = (vals ev ng op a).getD i d := fun i hi => by
      rw [hR i (by simp only [F.len]; omega)]
      simp only [vals, List.getD_eq_getElem?_getD]
      rw [List.getElem?_append_left (by omega)]
    by_cases hi' : i < a.len
    · exact ih s hb h1 hR' i hi'
    · obtain rfl : i = a.len := by omega
      refine .inr (.inl ⟨s + (a.len - 1), by omega, ?_, ?_⟩)
      · rw [h3]; congr 1; omega
      · rw [hR' (a.len - 1) (by omega), vals_last, hR a.len (by simp only [F.len]; omega)]
        exact vals_last ev ng op d (.n a)
  | b w x y ihx ihy =>
    intro s hb hs hR i hi
    obtain ⟨h1, h2, h3, h4⟩ := hs.bin_inv
    have hl := vals_len ev ng op x
    have hl' := vals_len ev ng op y
    have hp := x.len_pos
    have hp' := y.len_pos
    simp only [F.len] at hi
    have hRx : ∀ i, i < x.len → R (s + i) = (vals ev ng op x).getD i d := fun i hi => by
      rw [hR i (by simp only [F.len]; omega)]
      simp only [vals, List.getD_eq_getElem?_getD]
      rw [List.getElem?_append_left (by omega)]
    have hRy : ∀ i, i < y.len → R (s + x.len + i) = (vals ev ng op y).getD i d := fun i hi => by
      rw [Nat.add_assoc, hR (x.len + i) (by simp only [F.len]; omega)]
      simp only [vals, List.getD_eq_getElem?_getD]
      rw [List.getElem?_append_right (by omega), List.getElem?_append_left (by omega), hl, Nat.add_sub_cancel_left]
    by_cases hx : i < x.len
    · exact ihx s hb.1 h1 hRx i hx
    by_cases hy : i < x.len + y.len
    · have := ihy (s + x.len) hb.2 h2 hRy (i - x.len) (by omega)
      rw [show s + x.len + (i - x.len) = s + i by omega] at this
      exact this
    · obtain rfl : i = x.len + y.len := by omega
      refine .inr (.inr ⟨w, s + (x.len - 1), s + x.len + (y.len - 1), by omega, by omega, ?_, ?_⟩)
      · rw [← Nat.add_assoc, h4]
        congr 1 <;> omega
      · rw [hRx (x.len - 1) (by omega), hRy (y.len - 1) (by omega), vals_last, vals_last, hR (x.len + y.len) (by simp only [F.len]; omega)]
        exact vals_last ev ng op d (.b w x y)
/-- What a condition is worth. -/
def evc (v : List Int) (k : Nat) : Int := if k < v.length ∧ -1 ≤ v.getD k 0 ∧ v.getD k 0 ≤ 1 then v.getD k 0 else 0
def mnx (w : Bool) (a b : Int) : Int := bif w then (if b < a then b else a) else (if a < b then b else a)
/-- A rule's value. -/
def evf (v : List Int) (f : F) : Int := val (evc v) (fun a => -a) mnx f
theorem ok_bd {v : List Int} {l : List T_RuleNode} {R : Nat → Int} (h : ∀ i, i < l.length → NodeOk (evc v) (fun a => -a) mnx l R i) : ∀ n i, i < n → i < l.length → -1 ≤ R i ∧ R i ≤ 1 := by
  intro n
  induction n with
  | zero => intro i hi; omega
  | succ n ih =>
    intro i hi hl
    rcases h i hl with ⟨k, _, _, e⟩ | ⟨j, hj, _, e⟩ | ⟨w, j, k, hj, hk, _, e⟩
    · rw [e]; simp only [evc]; split <;> omega
    · have := ih j (by omega) (by omega)
      rw [e]
      show -1 ≤ -(R j) ∧ -(R j) ≤ 1
      omega
    · have h1 := ih j (by omega) (by omega)
      have h2 := ih k (by omega) (by omega)
      rw [e]; simp only [mnx]
      cases w <;> simp only [cond_true, cond_false] <;> split <;> omega
theorem getD_set {α : Type} (l : List α) (i j : Nat) (x d : α) : (l.set i x).getD j d = if i = j ∧ j < l.length then x else l.getD j d := by
  simp only [List.getD_eq_getElem?_getD, List.getElem?_set]
  split
  · rename_i h; subst h
    split
    · rename_i h; rw [if_pos ⟨rfl, h⟩]; rfl
    · rename_i h; rw [if_neg (by omega), List.getElem?_eq_none (by omega)]
  · rename_i h; rw [if_neg (fun q => h q.1)]
theorem goes_Eval {K : Nat} {f : F} {v : List Int} (hf : OkF f) (hK : 70 ≤ K) : rule_Eval K (flat 0 f) v = some (evf v f) := by
  suffices h : Goes (rule_Eval K (flat 0 f) v) (fun r => r = evf v f) by
    obtain ⟨r, h1, h2⟩ := h; rw [h1, h2]
  have hlen := flat_len f 0
  have hp := f.len_pos
  have hf64 := hf.2.1
  let R : Nat → Int := fun i => (vals (evc v) (fun a => -a) mnx f).getD i 0
  have hN : ∀ i, i < (flat 0 f).length → NodeOk (evc v) (fun a => -a) mnx (flat 0 f) R i := fun i hi => by
    have := nodes_ok (evc v) (fun a => -a) mnx 0 (flat 0 f) R f 0 hf.1 (seg_flat f) (fun i _ => by rw [Nat.zero_add]) i (by omega)
    rwa [Nat.zero_add] at this
  have hB := ok_bd hN
  unfold rule_Eval
  rw [right_flat hf (by omega)]
  refine goes_bnd (fun y => y = true) (goes_some rfl) (fun y hy => ?_)
  subst hy
  refine goes_bif (fun h => by cases h) (fun _ => ?_)
  refine goes_ck (by unfold LIMIT; omega) ?_
  generalize hl : flat 0 f = l at *
  refine goes_letj (fun z : List Int => z.length = l.length ∧ ∀ j, j < l.length → z.getD j 0 = R j) (fun z hz => ?_) (fun j hj => ?_)
  · rw [hz.1, w64 (by omega)]
    refine goes_ck (by omega) (goes_some ?_)
    rw [hz.2 _ (by omega)]
    have := vals_last (evc v) (fun a => -a) mnx 0 f
    show (vals (evc v) (fun a => -a) mnx f).getD _ 0 = evf v f
    rw [show (((l.length : Nat) : Int) - 1).toNat = f.len - 1 by omega]
    exact this
  refine goes_loop (fun z : Int × List Int => 0 ≤ z.1 ∧ z.1 ≤ l.length ∧ z.2.length = l.length ∧ (∀ j : Nat, (j : Int) < z.1 → z.2.getD j 0 = R j) ∧ ∀ j : Nat, z.1 ≤ j → z.2.getD j 0 = 0) (fun z => l.length - z.1.toNat) ?_ K _ ?_ (by simp; omega)
  · rintro self ⟨i, z⟩ ⟨h1, h2, h3, h4, h5⟩ hself
    simp only at h1 h2 h3 h4 h5
    unfold rule_Eval_b1
    simp only
    refine goes_bif (fun q => ?_) (fun q => ?_)
    · simp only [decide_eq_true_eq] at q
      have hi : i.toNat < l.length := by omega
      rw [w64 (e := i + 1) (by omega)]
      refine goes_letj (fun z' : List Int => z'.length = l.length ∧ (∀ j : Nat, (j : Int) < i + 1 → z'.getD j 0 = R j) ∧ ∀ j : Nat, i + 1 ≤ j → z'.getD j 0 = 0) (fun z' hz' => hself _ ⟨by simp only; omega, by simp only; omega, hz'.1, hz'.2.1, hz'.2.2⟩ (by simp only; omega)) (fun j2 hj2 => ?_)
      refine goes_ck (by omega) ?_
      have put : ∀ x : Int, x = R i.toNat → Goes (j2 (z.set i.toNat x)) (fun r => r = evf v f) := fun x hx => hj2 _ ⟨by simp [h3], fun j hj => by
        rw [getD_set]
        split
        · rename_i q; rw [← q.1, hx]
        · rename_i q; exact h4 j (by omega), fun j hj => by
        rw [getD_set, if_neg (by omega)]; exact h5 j (by omega)⟩
      have same : R i.toNat = 0 → Goes (j2 z) (fun r => r = evf v f) := fun hx => hj2 _ ⟨h3, fun j hj => by
        by_cases e : j = i.toNat
        · rw [e, hx]; exact h5 _ (by omega)
        · exact h4 j (by omega), fun j hj => h5 j (by omega)⟩
      have hb := hB _ i.toNat (Nat.lt_succ_self _) hi
      rcases hN i.toNat hi with ⟨k, e, hk, er⟩ | ⟨j, hj, e, er⟩ | ⟨w, j, k, hj, hk, e, er⟩
      · rw [e]
        simp only [evc] at er
        simp only [Int.toNat_natCast]
        refine goes_bif (fun _ => ?_) (fun h => by cases h)
        refine goes_bif (fun q1 => ?_) (fun q1 => ?_)
        · simp only [decide_eq_true_eq] at q1
          refine goes_ck (by omega) ?_
          refine goes_bif (fun q2 => goes_bif (fun q3 => ?_) (fun q3 => ?_)) (fun q2 => ?_)
          · simp only [decide_eq_true_eq] at q2 q3
            refine goes_ck (by omega) (put _ ?_)
            rw [er, if_pos ⟨by omega, by omega, q3⟩]
          · simp only [decide_eq_false_iff_not] at q3
            exact same (by rw [er, if_neg (fun h => q3 h.2.2)])
          · simp only [decide_eq_false_iff_not] at q2
            exact same (by rw [er, if_neg (fun h => q2 h.2.1)])
        · simp only [decide_eq_false_iff_not] at q1
          exact same (by rw [er, if_neg (fun h => q1 (by omega))])
      · rw [e]
        refine goes_bif (fun h => by cases h) (fun _ => goes_bif (fun _ => ?_) (fun h => by cases h))
        have hj' := hB _ j (Nat.lt_succ_self _) (by omega)
        simp only [Int.toNat_natCast]
        refine goes_ck (by omega) (goes_ck (by omega) (put _ ?_))
        rw [h4 j (by omega), w64 (by omega), er]
        show 0 - R j = -(R j)
        omega
      · rw [e]
        simp only [Int.toNat_natCast]
        cases w with
        | true =>
          refine goes_bif (fun h => by cases h) (fun _ => goes_bif (fun h => by cases h) (fun _ => goes_bif (fun _ => ?_) (fun h => by cases h)))
          refine goes_ck (by omega) (goes_ck (by omega) (goes_ck (by omega) (put _ ?_)))
          rw [h4 j (by omega), h4 k (by omega), er]; rfl
        | false =>
          refine goes_bif (fun h => by cases h) (fun _ => goes_bif (fun h => by cases h) (fun _ => goes_bif (fun h => by cases h) (fun _ => ?_)))
          refine goes_ck (by omega) (goes_ck (by omega) (goes_ck (by omega) (put _ ?_)))
          rw [h4 j (by omega), h4 k (by omega), er]; rfl
    · simp only [decide_eq_false_iff_not] at q
      exact hj _ ⟨h3, fun j hj => h4 j (by omega)⟩
  · refine ⟨by simp, by simp, by simp, fun j hj => absurd (show (j : Int) < 0 from hj) (by omega), fun j _ => ?_⟩
    simp only [List.getD_eq_getElem?_getD]
    rcases Nat.lt_or_ge j l.length with h | h
    · simp [h]
    · simp [h]
theorem refvalue {v : List Int} {l : List T_RuleNode} {R : Nat → Int} (h : ∀ i, i < l.length → NodeOk (evc v) (fun a => -a) mnx l R i) : ∀ (K i : Nat), i < l.length → i < K → ref19_value K l v i = some (R i) := by
  have hB := ok_bd h
  intro K
  induction K with
  | zero => intro i _ h; omega
  | succ K ih =>
    intro i hi hK
    show ref19_value_F K (ref19_value K) l v i = _
    have hb := hB _ i (Nat.lt_succ_self _) hi
    unfold ref19_value_F
    rw [ck_ok (by omega)]
    simp only [Int.toNat_natCast]
    rcases h i hi with ⟨k, e, hk, er⟩ | ⟨j, hj, e, er⟩ | ⟨w, j, k, hj, hk, e, er⟩
    · simp only [e, evc, Int.toNat_natCast] at er ⊢
      rw [bl_true (by rfl), er]
      by_cases q1 : k < v.length
      · rw [bl_false (decide_eq_false (by omega)), ck_ok (by omega)]
        by_cases q2 : -1 ≤ v.getD k 0
        · rw [bl_false (decide_eq_false (by omega))]
          by_cases q3 : v.getD k 0 ≤ 1
          · rw [bl_false (decide_eq_false (by omega)), if_pos ⟨q1, q2, q3⟩]
          · rw [bl_true (decide_eq_true (by omega)), if_neg (fun h => q3 h.2.2)]
        · rw [bl_true (decide_eq_true (by omega)), if_neg (fun h => q2 h.2.1)]
      · rw [bl_true (decide_eq_true (by omega)), if_neg (fun h => q1 h.1)]
    · simp only [e]
      rw [bl_false (by rfl), bl_true (by rfl)]
      have hj' := hB _ j (Nat.lt_succ_self _) (by omega)
      rw [ih j (by omega) (by omega), bnd_ok rfl, w64 (by omega), er]
      show some (0 - R j) = some (-(R j))
      congr 1; omega
    · simp only [e]
      rw [ih j (by omega) (by omega), ih k (by omega) (by omega), er]
      cases w <;> rfl
theorem goes_refEval {K : Nat} {f : F} {v : List Int} (hf : OkF f) (hK : 70 ≤ K) : ref19_Eval K (flat 0 f) v = some (evf v f) := by
  have hlen := flat_len f 0
  have hp := f.len_pos
  have hf64 := hf.2.1
  let R : Nat → Int := fun i => (vals (evc v) (fun a => -a) mnx f).getD i 0
  have hN : ∀ i, i < (flat 0 f).length → NodeOk (evc v) (fun a => -a) mnx (flat 0 f) R i := fun i hi => by
    have := nodes_ok (evc v) (fun a => -a) mnx 0 (flat 0 f) R f 0 hf.1 (seg_flat f) (fun i _ => by rw [Nat.zero_add]) i (by omega)
    rwa [Nat.zero_add] at this
  unfold ref19_Eval
  rw [refright_flat hf (by omega), bnd_ok rfl, bl_false (by rfl), hlen, w64 (by omega)]
  have e : (((f.len : Nat) : Int) - 1) = ((f.len - 1 : Nat) : Int) := by omega
  rw [e, refvalue hN K (f.len - 1) (by omega) (by omega), bnd_ok rfl]
  congr 1
  exact vals_last (evc v) (fun a => -a) mnx 0 f
/-- A rule that is not right is worth nothing known. -/
theorem eval_none {K : Nat} {l : List T_RuleNode} {v : List Int} (h : ¬ ∃ f, OkF f ∧ l = flat 0 f) (hK : 70 ≤ K) : rule_Eval K l v = some 0 ∧ ref19_Eval K l v = some 0 := by
  obtain ⟨r, h1, h2⟩ := goes_right (K := K) (l := l) (by omega)
  obtain ⟨s, k1, k2⟩ := goes_refright (K := K) (l := l) (by omega)
  have hr : r = false := by
    cases r with
    | false => rfl
    | true => exact (h (h2.1 rfl)).elim
  have hs : s = false := by
    cases s with
    | false => rfl
    | true => exact (h (k2.1 rfl)).elim
  subst hr; subst hs
  unfold rule_Eval ref19_Eval
  rw [h1, k1]
  exact ⟨rfl, rfl⟩
end Go.Proofs.YtmdolfannbbipaaDoor
namespace Go.Proofs.YtmdolfannbbipaaDoor
open Go Go.Ev
set_option linter.unusedVariables false
/-- A node, n places further on. -/
def sh (n : Int) (x : T_RuleNode) : T_RuleNode := if x.Kind = 1 then x else if x.Kind = 2 then { x with Left := x.Left + n } else { x with Left := x.Left + n, Right := x.Right + n }
theorem flat_shift (n : Nat) : ∀ (f : F) (s : Nat), flat (s + n) f = (flat s f).map (sh n) := by
  intro f
  induction f with
  | c k => intro s; simp [flat, sh]
  | n a ih =>
    intro s
    simp only [flat, List.map_append, List.map_cons, List.map_nil, ih s]
    congr 2
    simp only [sh]
    rw [if_neg (by omega), if_pos trivial]
    congr 1
    omega
  | b w x y ihx ihy =>
    intro s
    simp only [flat, List.map_append, List.map_cons, List.map_nil, ihx s]
    have := ihy (s + x.len)
    rw [show s + n + x.len = s + x.len + n by omega, this]
    congr 3
    simp only [sh]
    rw [if_neg (by cases w <;> simp [kd]), if_neg (by cases w <;> simp [kd])]
    congr 1 <;> omega
theorem flat_small : ∀ (f : F) (s : Nat), ∀ x ∈ flat s f, (x.Kind = 1 ∨ x.Kind = 2 ∨ x.Kind = 3 ∨ x.Kind = 4) ∧ -1 ≤ x.Left ∧ x.Left ≤ s + f.len ∧ -1 ≤ x.Right ∧ x.Right ≤ s + f.len := by
  intro f
  induction f with
  | c k =>
    intro s x hx
    simp only [flat, List.mem_singleton] at hx
    subst hx
    exact ⟨.inl rfl, by simp only [F.len]; omega⟩
  | n a ih =>
    intro s x hx
    simp only [flat, List.mem_append, List.mem_singleton] at hx
    simp only [F.len]
    rcases hx with hx | rfl
    · have := ih s x hx; omega
    · exact ⟨.inr (.inl rfl), by simp only; omega⟩
  | b w a c iha ihc =>
    intro s x hx
    simp only [flat, List.mem_append, List.mem_singleton] at hx
    simp only [F.len]
    rcases hx with hx | hx | rfl
    · have := iha s x hx; omega
    · have := ihc (s + a.len) x hx; omega
    · refine ⟨by cases w <;> simp [kd], ?_⟩
      simp only; omega
/-- What a drawn rule is. -/
def Drawn (m d : Nat) (l : List T_RuleNode) : Prop := ∃ f : F, l = flat 0 f ∧ f.bd m ∧ f.depth ≤ d + 1 ∧ f.len + 1 ≤ 2 ^ (d + 1)
theorem getD_mem' {l : List T_RuleNode} {i : Nat} (h : i < l.length) : l.getD i d_RuleNode ∈ l := getD_mem h
theorem goes_shift {K : Nat} {y : List T_RuleNode × T_Codes} {l0 : List T_RuleNode} {f : F} (hl0 : l0 = flat 0 f) (hf : f.len ≤ 200) (hy : y.1.length ≤ 200) (hK : 210 ≤ K) {Q : List T_RuleNode × T_Codes → Prop} {j4 : List T_RuleNode → Option (List T_RuleNode × T_Codes)}
    (hj : Goes (j4 (flat y.1.length f)) Q) : Goes (loopK (draw_Codes_Rule_b1 K y j4) K (0, l0)) Q := by
  have hlen : l0.length = f.len := by rw [hl0, flat_len]
  have hsm : ∀ i, i < l0.length → _ := fun i hi => flat_small f 0 (l0.getD i d_RuleNode) (by rw [← hl0]; exact getD_mem' hi)
  refine goes_loop (fun z : Int × List T_RuleNode => 0 ≤ z.1 ∧ z.1 ≤ l0.length ∧ z.2.length = l0.length ∧ (∀ j : Nat, (j : Int) < z.1 → z.2.getD j d_RuleNode = sh y.1.length (l0.getD j d_RuleNode)) ∧ ∀ j : Nat, z.1 ≤ j → z.2.getD j d_RuleNode = l0.getD j d_RuleNode) (fun z => l0.length - z.1.toNat) ?_ K _ ?_ (by simp; omega)
  · rintro self ⟨i, v⟩ ⟨h1, h2, h3, h4, h5⟩ hself
    simp only at h1 h2 h3 h4 h5
    unfold draw_Codes_Rule_b1
    simp only
    refine goes_bif (fun q => ?_) (fun q => ?_)
    · simp only [decide_eq_true_eq] at q
      have hi : i.toNat < l0.length := by omega
      rw [w64 (e := i + 1) (by omega)]
      have hx := h5 i.toNat (by omega)
      obtain ⟨s1, s2, s3, s4, s5⟩ := hsm i.toNat hi
      rw [← hx] at s1 s2 s3 s4 s5
      refine goes_letj (fun v' : List T_RuleNode => v'.length = l0.length ∧ (∀ j : Nat, j ≠ i.toNat → v'.getD j d_RuleNode = v.getD j d_RuleNode) ∧ v'.getD i.toNat d_RuleNode = sh y.1.length (v.getD i.toNat d_RuleNode)) (fun v' hv' => hself _ ⟨by simp only; omega, by simp only; omega, hv'.1, fun j hj => ?_, fun j hj => ?_⟩ (by simp only; omega)) (fun j3 hj3 => ?_)
      · by_cases e : j = i.toNat
        · rw [e, hv'.2.2, hx]
        · rw [hv'.2.1 j e]; exact h4 j (by simp only at hj; omega)
      · rw [hv'.2.1 j (by simp only at hj; omega)]; exact h5 j (by simp only at hj; omega)
      refine goes_letj (fun v' : List T_RuleNode => v'.length = l0.length ∧ (∀ j : Nat, j ≠ i.toNat → v'.getD j d_RuleNode = v.getD j d_RuleNode) ∧ v'.getD i.toNat d_RuleNode = (if (v.getD i.toNat d_RuleNode).Kind = 1 then v.getD i.toNat d_RuleNode else { v.getD i.toNat d_RuleNode with Left := (v.getD i.toNat d_RuleNode).Left + y.1.length })) (fun v' hv' => ?_) (fun j2 hj2 => ?_)
      · obtain ⟨g1, g2, g3⟩ := hv'
        have hk : (v'.getD i.toNat d_RuleNode).Kind = (v.getD i.toNat d_RuleNode).Kind := by rw [g3]; split <;> rfl
        have hr : (v'.getD i.toNat d_RuleNode).Right = (v.getD i.toNat d_RuleNode).Right := by rw [g3]; split <;> rfl
        have set3 : (v.getD i.toNat d_RuleNode).Kind = 3 ∨ (v.getD i.toNat d_RuleNode).Kind = 4 → Goes (j3 (v'.set i.toNat { (v'.getD i.toNat d_RuleNode) with Right := (IntKind.wrap .i64 ((v'.getD i.toNat d_RuleNode).Right + ((y.1.length : Nat) : Int))) })) Q := by
          intro hk3
          refine hj3 _ ⟨by simp [g1], fun j hj => by rw [getD_set, if_neg (fun h => hj h.1.symm)]; exact g2 j hj, ?_⟩
          rw [getD_set, if_pos ⟨rfl, by omega⟩, hr, w64 (by omega), g3]
          simp only [sh]
          rw [if_neg (by omega), if_neg (by omega), if_neg (by omega)]
        refine goes_ck (by omega) (goes_bif (fun k3 => ?_) (fun k3 => goes_bif (fun k4 => ?_) (fun k4 => ?_)))
        · exact set3 (.inl (by rw [← hk]; exact eq_of_beq k3))
        · exact set3 (.inr (by rw [← hk]; exact eq_of_beq k4))
        · have k3' : (v.getD i.toNat d_RuleNode).Kind ≠ 3 := by rw [← hk]; intro e; rw [e] at k3; cases k3
          have k4' : (v.getD i.toNat d_RuleNode).Kind ≠ 4 := by rw [← hk]; intro e; rw [e] at k4; cases k4
          refine hj3 _ ⟨g1, g2, ?_⟩
          rw [g3]
          simp only [sh]
          split
          · rfl
          · rw [if_pos (by omega)]
      · refine goes_ck (by omega) (goes_bif (fun k1 => ?_) (fun k1 => ?_))
        · have k1' : (v.getD i.toNat d_RuleNode).Kind ≠ 1 := by simpa using k1
          refine hj2 _ ⟨by simp [h3], fun j hj => by rw [getD_set, if_neg (fun h => hj h.1.symm)], ?_⟩
          rw [getD_set, if_pos ⟨rfl, by omega⟩, w64 (by omega), if_neg k1']
        · have k1' : (v.getD i.toNat d_RuleNode).Kind = 1 := by simpa using k1
          exact hj2 _ ⟨h3, fun _ _ => rfl, by rw [if_pos k1']⟩
    · simp only [decide_eq_false_iff_not] at q
      have e : v = flat y.1.length f := by
        have e0 := flat_shift y.1.length f 0
        rw [Nat.zero_add] at e0
        rw [e0, ← hl0]
        apply List.ext_getElem (by simp [h3])
        intro j hj1 hj2
        have := h4 j (by omega)
        simp only [List.getD_eq_getElem?_getD, List.getElem?_eq_getElem hj1, List.getElem?_eq_getElem (show j < l0.length by omega), Option.getD_some] at this
        simp [this]
      rw [e]; exact hj
  · exact ⟨by simp, by simp, rfl, fun j hj => absurd (show (j : Int) < 0 from hj) (by omega), fun j _ => rfl⟩
theorem goes_Rule : ∀ (d K : Nat) (c : T_Codes) (m : Nat), okC c → 1 ≤ m → m ≤ 64 → d ≤ 6 → 220 + d ≤ K → Goes (draw_Codes_Rule K c m d) (fun y => okC y.2 ∧ Drawn m d y.1) := by
  intro d
  induction d with
  | zero =>
    intro K c m hc h1 h2 _ hK
    match K, hK with
    | K + 1, hK =>
      show Goes (draw_Codes_Rule_F K (draw_Codes_Rule K) c m _) _
      unfold draw_Codes_Rule_F
      refine goes_bif (fun _ => ?_) (fun h => by simp at h)
      refine goes_bnd _ (goes_Next hc) (fun y ⟨y1, y2, y3, _⟩ => goes_some ⟨y1, .c y.1.toNat, ?_, ?_, by simp [F.depth], by simp [F.len]⟩)
      · simp only [flat]; congr 2; omega
      · have := y3 (by omega); simp only [F.bd]; omega
  | succ d ih =>
    intro K c m hc h1 h2 hd hK
    match K, hK with
    | K + 1, hK =>
      show Goes (draw_Codes_Rule_F K (draw_Codes_Rule K) c m _) _
      unfold draw_Codes_Rule_F
      have hpw : (2 : Nat) ^ (d + 1 + 1) = 2 * 2 ^ (d + 1) := by rw [Nat.pow_succ]; omega
      have hpw2 : (2 : Nat) ^ (d + 1) ≤ 2 ^ 6 := Nat.pow_le_pow_right (by omega) (by omega)
      have hpw3 : (1 : Nat) ≤ 2 ^ (d + 1) := Nat.one_le_two_pow
      refine goes_bif (fun h => by simp at h; omega) (fun _ => ?_)
      rw [show ((d + 1 : Nat) : Int) - 1 = (d : Int) by omega, w64 (e := (d : Int)) (by omega)]
      refine goes_bnd _ (goes_Next hc) (fun y5 ⟨y1, y2, y3, _⟩ => ?_)
      refine goes_bif (fun _ => ?_) (fun _ => ?_)
      · refine goes_bnd _ (goes_Next y1) (fun y ⟨y1, y2, y3, _⟩ => goes_some ⟨y1, .c y.1.toNat, ?_, ?_, by simp [F.depth], by simp only [F.len]; omega⟩)
        · simp only [flat]; congr 2; omega
        · have := y3 (by omega); simp only [F.bd]; omega
      refine goes_bnd _ (ih K _ m y1 h1 h2 (by omega) (by omega)) (fun ya ⟨ca, a, ea, ba, da, la⟩ => ?_)
      have lena : ya.1.length = a.len := by rw [ea, flat_len]
      refine goes_bnd _ (goes_One ca) (fun y12 c12 => ?_)
      refine goes_bif (fun _ => ?_) (fun _ => ?_)
      · refine goes_ck (by unfold LIMIT; omega) (goes_some ⟨c12, .n a, ?_, ba, by simp only [F.depth]; omega, by simp only [F.len]; omega⟩)
        rw [lena, w64 (by omega), ea]
        simp [flat]
      refine goes_bnd _ (ih K _ m c12 h1 h2 (by omega) (by omega)) (fun yb ⟨cb, b, eb, bb, db, lb⟩ => ?_)
      refine goes_letj (fun v => v = flat ya.1.length b) (fun v hv => ?_) (fun j hj => goes_shift eb (by omega) (by omega) (by omega) (hj _ rfl))
      subst hv
      rw [flat_len, lena]
      refine goes_ck (by unfold LIMIT; omega) ?_
      refine goes_bnd _ (goes_Range cb (by omega) (by omega) (by omega)) (fun y19 ⟨c19, l19, u19⟩ => ?_)
      refine goes_ck (by unfold LIMIT; omega) (goes_some ⟨c19, .b (y19.1 == 3) a b, ?_, ⟨ba, bb⟩, by simp only [F.depth]; omega, by simp only [F.len]; omega⟩)
      have hp := a.len_pos
      have hp' := b.len_pos
      rw [w64 (e := ((a.len : Nat) : Int) - 1) (by omega), w64 (e := ((a.len : Nat) : Int) + ((b.len : Nat) : Int)) (by omega), w64 (by omega), ea]
      simp only [flat, List.append_assoc, Nat.zero_add]
      have ek : kd (y19.1 == 3) = y19.1 := by
        by_cases q : y19.1 = 3
        · rw [q]; rfl
        · have : y19.1 = 4 := by omega
          rw [this]; rfl
      rw [ek]
      congr 4
end Go.Proofs.YtmdolfannbbipaaDoor
namespace Go.Proofs.YtmdolfannbbipaaDoor
open Go Go.Ev
set_option linter.unusedVariables false
theorem awake3 : law19_awake 300 = some true := by kernel_rfl
theorem F.bd_mono {m n : Nat} (h : m ≤ n) : ∀ {f : F}, f.bd m → f.bd n := by
  intro f
  induction f with
  | c i => intro hb; exact Nat.lt_of_lt_of_le hb h
  | n a ih => intro hb; exact ih hb
  | b w x y ihx ihy => intro hb; exact ⟨ihx hb.1, ihy hb.2⟩
theorem Drawn.ok {m d : Nat} {l : List T_RuleNode} (h : Drawn m d l) (hm : m ≤ 64) (hd : d ≤ 5) : ∃ f, l = flat 0 f ∧ OkF f ∧ f.bd m ∧ f.depth ≤ d + 1 ∧ f.len + 1 ≤ 2 ^ (d + 1) := by
  obtain ⟨f, e, hb, h1, h2⟩ := h
  have hp : (2 : Nat) ^ (d + 1) ≤ 2 ^ 6 := Nat.pow_le_pow_right (by omega) (by omega)
  exact ⟨f, e, ⟨F.bd_mono hm hb, by omega, by omega⟩, hb, h1, h2⟩
theorem goes_Truth {K : Nat} {c : T_Codes} (hc : okC c) : Goes (draw_Codes_Truth K c) (fun y => okC y.2) := by
  unfold draw_Codes_Truth
  exact goes_bnd _ (goes_Next hc) (fun y ⟨y1, _⟩ => goes_some y1)
theorem goes_values {K : Nat} {l : List Int} (hl : okL (okI .u8) l) (hK : 10 ≤ K) : Goes (law19_values K l) (fun v => v.length ≤ 7) := by
  unfold law19_values
  refine goes_bnd _ (goes_New hl) (fun c hc => goes_letj (fun v => v.length ≤ 7) (fun v hv => goes_some hv) (fun j hj => ?_))
  refine goes_bnd _ (goes_Next hc) (fun y ⟨y1, y2, y3, _⟩ => ?_)
  have := y3 (by omega)
  rw [w64 (by omega)]
  refine goes_loop (fun z : Int × List Int × Int × List Int => okC ⟨z.2.1, z.2.2.1⟩ ∧ 0 ≤ z.1 ∧ z.1 + z.2.2.2.length ≤ 7) (fun z => z.1.toNat) ?_ K _ ⟨y1, by simp only; omega, by simp only [List.length_nil]; omega⟩ (by simp only; omega)
  rintro self ⟨n, l1, at1, v⟩ ⟨h1, h2, h3⟩ hself
  simp only at h1 h2 h3
  unfold law19_values_b1
  simp only
  refine goes_bif (fun q => ?_) (fun q => hj _ (by omega))
  simp only [decide_eq_true_eq] at q
  rw [w64 (e := n - 1) (by omega)]
  refine goes_bnd _ (goes_Truth h1) (fun y6 hy6 => ?_)
  refine goes_letj (fun v2 : Int × List Int × Int => okC ⟨v2.2.1, v2.2.2⟩) (fun v2 hv2 => goes_ck (by unfold LIMIT; omega) (hself _ ⟨hv2, by simp only; omega, by simp only [List.length_append, List.length_singleton]; omega⟩ (by simp only; omega))) (fun j2 hj2 => ?_)
  refine goes_bnd _ (goes_One hy6) (fun y9 hy9 => goes_bif (fun _ => ?_) (fun _ => hj2 _ hy9))
  exact goes_bnd _ (goes_Range hy9 (by omega) (by omega) (by omega)) (fun y12 ⟨h12, _⟩ => hj2 _ h12)
end Go.Proofs.YtmdolfannbbipaaDoor
namespace Go.Proofs.YtmdolfannbbipaaDoor
open Go Go.Ev
set_option linter.unusedVariables false
theorem right_eq {K : Nat} (l : List T_RuleNode) (hK : 66 ≤ K) : ∃ b, rule_right K l = some b ∧ ref19_Right K l = some b ∧ (b = true ↔ ∃ f, OkF f ∧ l = flat 0 f) := by
  obtain ⟨r, h1, h2⟩ := goes_right (l := l) hK
  obtain ⟨s, k1, k2⟩ := goes_refright (l := l) hK
  refine ⟨r, h1, ?_, h2⟩
  rw [k1]
  congr 1
  cases r <;> cases s
  · rfl
  · exact (by simpa using h2.2 (k2.1 rfl))
  · exact (by simpa using k2.2 (h2.1 rfl))
  · rfl
theorem check_b : rule_Check_b1 = ref19_Check_b1 := rfl
theorem check_eq {K : Nat} (l : List T_RuleNode) (c : Int) (hK : 66 ≤ K) : ref19_Check K l c = rule_Check K l c ∧ Goes (rule_Check K l c) (fun _ => True) := by
  obtain ⟨b, h1, h2, h3⟩ := right_eq (K := K) l hK
  unfold rule_Check ref19_Check
  rw [h1, h2, check_b]
  refine ⟨rfl, ?_⟩
  refine goes_bnd (fun y => y = b) (goes_some rfl) (fun y hy => ?_)
  subst hy
  refine goes_bif (fun _ => goes_some trivial) (fun q => ?_)
  obtain ⟨f, hf, rfl⟩ := h3.1 (by simpa using q)
  have hlen := flat_len f 0
  have hf64 := hf.2.1
  refine goes_letj (fun _ : Unit => True) (fun _ _ => goes_some trivial) (fun j hj => ?_)
  refine goes_loop (fun i : Int => 0 ≤ i ∧ i ≤ (flat 0 f).length) (fun i => (flat 0 f).length - i.toNat) ?_ K _ ⟨by omega, by omega⟩ (by omega)
  rintro self i ⟨h1, h2⟩ hself
  unfold ref19_Check_b1
  refine goes_bif (fun q => ?_) (fun _ => hj _ trivial)
  simp only [decide_eq_true_eq] at q
  rw [w64 (e := i + 1) (by omega)]
  refine goes_letj (fun _ : Unit => True) (fun _ _ => hself _ ⟨by omega, by omega⟩ (by omega)) (fun j2 hj2 => ?_)
  exact goes_ck (by omega) (goes_bif (fun _ => goes_bif (fun _ => goes_some trivial) (fun _ => hj2 _ trivial)) (fun _ => hj2 _ trivial))
/-- Condition c is used by one of the first n nodes. -/
def U (l : List T_RuleNode) (n c : Nat) : Bool := (List.range n).any (fun j => (l.getD j d_RuleNode).Kind == 1 && (l.getD j d_RuleNode).Cond == (c : Int))
theorem U_succ (l : List T_RuleNode) (n c : Nat) : U l (n + 1) c = (U l n c || ((l.getD n d_RuleNode).Kind == 1 && (l.getD n d_RuleNode).Cond == (c : Int))) := by
  unfold U
  rw [List.range_succ, List.any_append]
  simp
/-- The conditions below c that are used. -/
def O (l : List T_RuleNode) (c : Nat) : List Int := ((List.range c).filter (fun c => U l l.length c)).map (fun c : Nat => (c : Int))
theorem O_succ (l : List T_RuleNode) (c : Nat) : O l (c + 1) = (bif U l l.length c then O l c ++ [(c : Int)] else O l c) := by
  unfold O
  rw [List.range_succ, List.filter_append, List.map_append]
  cases h : U l l.length c <;> simp [h]
theorem O_len (l : List T_RuleNode) (c : Nat) : (O l c).length ≤ c := by
  unfold O
  rw [List.length_map]
  exact Nat.le_trans (List.length_filter_le _ _) (by simp)
theorem flat_cond : ∀ (f : F) (s : Nat), f.bd 64 → ∀ x ∈ flat s f, x.Kind = 1 → 0 ≤ x.Cond ∧ x.Cond < 64 := by
  intro f
  induction f with
  | c k =>
    intro s hb x hx _
    simp only [flat, List.mem_singleton] at hx
    subst hx
    have : k < 64 := hb
    simp only; omega
  | n a ih =>
    intro s hb x hx hk
    simp only [flat, List.mem_append, List.mem_singleton] at hx
    rcases hx with hx | rfl
    · exact ih s hb x hx hk
    · cases hk
  | b w a c iha ihc =>
    intro s hb x hx hk
    simp only [flat, List.mem_append, List.mem_singleton] at hx
    rcases hx with hx | hx | rfl
    · exact iha s hb.1 x hx hk
    · exact ihc _ hb.2 x hx hk
    · cases w <;> cases hk
theorem uses_rule {K : Nat} {f : F} (hf : OkF f) (hK : 70 ≤ K) : Goes (rule_Uses K (flat 0 f)) (fun r => r = O (flat 0 f) 64) := by
  have hlen := flat_len f 0
  have hf64 := hf.2.1
  unfold rule_Uses
  rw [right_flat hf (by omega)]
  refine goes_bnd (fun y => y = true) (goes_some rfl) (fun y hy => ?_)
  subst hy
  refine goes_bif (fun h => by cases h) (fun _ => ?_)
  have hcond : ∀ j, j < (flat 0 f).length → ((flat 0 f).getD j d_RuleNode).Kind = 1 → _ := fun j hj => flat_cond f 0 hf.1 _ (getD_mem' hj)
  generalize hl : flat 0 f = l at *
  refine goes_letj (fun v : List Bool => v.length = 64 ∧ ∀ c, c < 64 → v.getD c false = U l l.length c) (fun v hv => ?_) (fun j hj => ?_)
  · refine goes_letj (fun v : List Int => v = O l 64) (fun v hv => goes_some hv) (fun j hj => ?_)
    refine goes_ck hv.1 ?_
    refine goes_loop (fun z : Int × List Int => 0 ≤ z.1 ∧ z.1 ≤ 64 ∧ z.2 = O l z.1.toNat) (fun z => 64 - z.1.toNat) ?_ K _ ⟨by simp, by simp, rfl⟩ (by simp; omega)
    rintro self ⟨c, o⟩ ⟨h1, h2, h3⟩ hself
    simp only at h1 h2 h3
    subst h3
    unfold rule_Uses_b4
    simp only
    refine goes_bif (fun q => ?_) (fun q => ?_)
    · simp only [decide_eq_true_eq] at q
      rw [w64 (e := c + 1) (by omega)]
      have hs := O_succ l c.toNat
      have ht : (c + 1).toNat = c.toNat + 1 := by omega
      have hu := hv.2 c.toNat (by omega)
      have hol := O_len l c.toNat
      refine goes_letj (fun o' : List Int => o' = O l (c + 1).toNat) (fun o' ho' => hself _ ⟨by simp only; omega, by simp only; omega, ho'⟩ (by simp only; omega)) (fun j5 hj5 => ?_)
      refine goes_ck (by omega) (goes_bif (fun u => ?_) (fun u => ?_))
      · rw [hu] at u
        refine goes_ck (by unfold LIMIT; omega) (hj5 _ ?_)
        rw [ht, hs, u, show ((c.toNat : Nat) : Int) = c by omega]; rfl
      · rw [hu] at u
        refine hj5 _ ?_
        rw [ht, hs, u]; rfl
    · simp only [decide_eq_false_iff_not] at q
      have : c = 64 := by omega
      subst this
      exact hj _ rfl
  · refine goes_loop (fun z : Int × List Bool => 0 ≤ z.1 ∧ z.1 ≤ l.length ∧ z.2.length = 64 ∧ ∀ c, c < 64 → z.2.getD c false = U l z.1.toNat c) (fun z => l.length - z.1.toNat) ?_ K _ ⟨by simp, by simp, by simp, fun c hc => ?_⟩ (by simp; omega)
    · rintro self ⟨i, v⟩ ⟨h1, h2, h3, h4⟩ hself
      simp only at h1 h2 h3 h4
      unfold rule_Uses_b1
      simp only
      refine goes_bif (fun q => ?_) (fun q => ?_)
      · simp only [decide_eq_true_eq] at q
        rw [w64 (e := i + 1) (by omega)]
        have ht : (i + 1).toNat = i.toNat + 1 := by omega
        refine goes_letj (fun v' : List Bool => v'.length = 64 ∧ ∀ c, c < 64 → v'.getD c false = U l (i + 1).toNat c) (fun v' hv' => hself _ ⟨by simp only; omega, by simp only; omega, hv'.1, hv'.2⟩ (by simp only; omega)) (fun j2 hj2 => ?_)
        refine goes_ck (by omega) (goes_bif (fun k => ?_) (fun k => ?_))
        · obtain ⟨c1, c2⟩ := hcond i.toNat (by omega) (eq_of_beq k)
          refine goes_ck (by omega) (goes_ck (by omega) (hj2 _ ⟨by simp [h3], fun c hc => ?_⟩))
          rw [ht, U_succ, k, Bool.true_and, ← h4 c hc]
          by_cases e : (l.getD i.toNat d_RuleNode).Cond = (c : Int)
          · have e' : (l.getD i.toNat d_RuleNode).Cond.toNat = c := by omega
            have e2 : ((l.getD i.toNat d_RuleNode).Cond == (c : Int)) = true := beq_iff_eq.2 e
            rw [getD_set, if_pos ⟨e', by omega⟩, e2, Bool.or_true]
          · have e' : (l.getD i.toNat d_RuleNode).Cond.toNat ≠ c := by omega
            have e2 : ((l.getD i.toNat d_RuleNode).Cond == (c : Int)) = false := beq_eq_false_iff_ne.2 e
            rw [e2, Bool.or_false, getD_set, if_neg (fun h => e' h.1)]
        · refine hj2 _ ⟨h3, fun c hc => ?_⟩
          rw [ht, U_succ, k, Bool.false_and, Bool.or_false]
          exact h4 c hc
      · simp only [decide_eq_false_iff_not] at q
        have : i = l.length := by omega
        subst this
        exact hj _ ⟨h3, fun c hc => by rw [h4 c hc]; simp⟩
    · simp only [List.getD_eq_getElem?_getD, Int.toNat_zero]
      rw [List.getElem?_replicate, if_pos hc]; rfl
theorem uses_ref {K : Nat} {f : F} (hf : OkF f) (hK : 70 ≤ K) : Goes (ref19_Uses K (flat 0 f)) (fun r => r = O (flat 0 f) 64) := by
  have hlen := flat_len f 0
  have hf64 := hf.2.1
  unfold ref19_Uses
  rw [refright_flat hf (by omega)]
  refine goes_bnd (fun y => y = true) (goes_some rfl) (fun y hy => ?_)
  subst hy
  refine goes_bif (fun h => by cases h) (fun _ => ?_)
  generalize hl : flat 0 f = l at *
  refine goes_letj (fun v : List Int => v = O l 64) (fun v hv => goes_some hv) (fun j hj => ?_)
  refine goes_loop (fun z : Int × List Int => 0 ≤ z.1 ∧ z.1 ≤ 64 ∧ z.2 = O l z.1.toNat) (fun z => 64 - z.1.toNat) ?_ K _ ⟨by simp, by simp, rfl⟩ (by simp; omega)
  rintro self ⟨c, o⟩ ⟨h1, h2, h3⟩ hself
  simp only at h1 h2 h3
  subst h3
  unfold ref19_Uses_b1
  simp only
  refine goes_bif (fun q => ?_) (fun q => ?_)
  · simp only [decide_eq_true_eq] at q
    rw [w64 (e := c + 1) (by omega)]
    have hs := O_succ l c.toNat
    have ht : (c + 1).toNat = c.toNat + 1 := by omega
    have hol := O_len l c.toNat
    refine goes_letj (fun o' : List Int => o' = O l (c + 1).toNat) (fun o' ho' => hself _ ⟨by simp only; omega, by simp only; omega, ho'⟩ (by simp only; omega)) (fun j5 hj5 => ?_)
    refine goes_letj (fun u : Bool => u = U l l.length c.toNat) (fun u hu => ?_) (fun j4 hj4 => ?_)
    · subst hu
      refine goes_bif (fun u => ?_) (fun u => ?_)
      · refine goes_ck (by unfold LIMIT; omega) (hj5 _ ?_)
        rw [ht, hs, u, show ((c.toNat : Nat) : Int) = c by omega]; rfl
      · refine hj5 _ ?_
        rw [ht, hs, u]; rfl
    · refine goes_loop (fun z : Bool × Int => 0 ≤ z.2 ∧ z.2 ≤ l.length ∧ z.1 = U l z.2.toNat c.toNat) (fun z => l.length - z.2.toNat) ?_ K _ ⟨by simp, by simp, rfl⟩ (by simp; omega)
      rintro self2 ⟨u, i⟩ ⟨g1, g2, g3⟩ hself2
      simp only at g1 g2 g3
      subst g3
      unfold ref19_Uses_b2
      simp only
      refine goes_bif (fun q => ?_) (fun q => ?_)
      · simp only [decide_eq_true_eq] at q
        rw [w64 (e := i + 1) (by omega)]
        have ht' : (i + 1).toNat = i.toNat + 1 := by omega
        refine goes_letj (fun u' : Bool => u' = U l (i + 1).toNat c.toNat) (fun u' hu' => hself2 _ ⟨by simp only; omega, by simp only; omega, hu'⟩ (by simp only; omega)) (fun j3 hj3 => ?_)
        refine goes_bif (fun u => hj3 _ ?_) (fun u => goes_ck (by omega) (goes_bif (fun k => hj3 _ ?_) (fun k => hj3 _ ?_)))
        · rw [ht', U_succ, u]; rfl
        · rw [ht', U_succ, u, k, show ((c.toNat : Nat) : Int) = c by omega]; rfl
        · rw [ht', U_succ, u, k]; rfl
      · simp only [decide_eq_false_iff_not] at q
        have : i = l.length := by omega
        subst this
        exact hj4 _ (by simp)
  · simp only [decide_eq_false_iff_not] at q
    have : c = 64 := by omega
    subst this
    exact hj _ rfl
end Go.Proofs.YtmdolfannbbipaaDoor
namespace Go.Proofs.YtmdolfannbbipaaDoor
open Go Go.Ev
set_option linter.unusedVariables false
theorem goes_Ints {K : Nat} {l : List Int} (h : l.length < K) (hl : l.length ≤ 1000) : Goes (ref01_Ints K l l) (fun r => r = true) := by
  unfold ref01_Ints
  refine goes_bif (fun q => by simp at q) (fun _ => ?_)
  refine goes_letj (fun _ : Unit => True) (fun _ _ => goes_some rfl) (fun j hj => ?_)
  refine goes_loop (fun i : Int => 0 ≤ i ∧ i ≤ l.length) (fun i => l.length - i.toNat) ?_ K _ ⟨by omega, by omega⟩ (by omega)
  rintro self i ⟨h1, h2⟩ hself
  unfold ref01_Ints_b1
  refine goes_bif (fun q => ?_) (fun _ => hj _ trivial)
  simp only [decide_eq_true_eq] at q
  refine goes_ck (by omega) (goes_ck (by omega) (goes_bif (fun q => by simp at q) (fun _ => ?_)))
  rw [w64 (by omega)]
  exact hself _ ⟨by omega, by omega⟩ (by omega)
theorem uses_eq {K : Nat} (l : List T_RuleNode) (hK : 70 ≤ K) : ∃ u, rule_Uses K l = some u ∧ ref19_Uses K l = some u ∧ u.length ≤ 64 := by
  by_cases h : ∃ f, OkF f ∧ l = flat 0 f
  · obtain ⟨f, hf, rfl⟩ := h
    obtain ⟨r, h1, h2⟩ := uses_rule hf hK
    obtain ⟨s, k1, k2⟩ := uses_ref hf hK
    exact ⟨_, by rw [h1, h2], by rw [k1, k2], O_len _ _⟩
  · obtain ⟨b, h1, h2, h3⟩ := right_eq (K := K) l (by omega)
    have hb : b = false := by
      cases b with
      | false => rfl
      | true => exact (h (h3.1 rfl)).elim
    subst hb
    unfold rule_Uses ref19_Uses
    rw [h1, h2]
    exact ⟨[], rfl, rfl, by simp⟩
theorem eval_eq {K : Nat} (l : List T_RuleNode) (v : List Int) (hK : 70 ≤ K) : ∃ u, rule_Eval K l v = some u ∧ ref19_Eval K l v = some u := by
  by_cases h : ∃ f, OkF f ∧ l = flat 0 f
  · obtain ⟨f, hf, rfl⟩ := h
    exact ⟨_, goes_Eval hf hK, goes_refEval hf hK⟩
  · exact ⟨0, eval_none h hK⟩
theorem goes_Mod {K : Nat} {a n : Int} (hn : 1 ≤ n) (hn' : n ≤ 1000) : Goes (draw_Mod K a n) (fun r => 0 ≤ r ∧ r < n) := by
  unfold draw_Mod
  have h1 := Int.tmod_lt_of_pos a (show 0 < n by omega)
  have h2 : -n < Int.tmod a n := by
    have := Int.tmod_lt_of_pos (-a) (show 0 < n by omega)
    rw [Int.neg_tmod] at this
    omega
  refine goes_bif (fun h => by simp at h; omega) (fun _ => goes_ck (by omega) (goes_letj (fun v => 0 ≤ v ∧ v < n) (fun v hv => goes_some hv) (fun j hj => ?_)))
  refine goes_bif (fun q => ?_) (fun q => ?_)
  · simp only [decide_eq_true_eq] at q
    rw [w64 (by omega)]
    exact hj _ (by omega)
  · simp only [decide_eq_false_iff_not] at q
    exact hj _ (by omega)
theorem goes_made {K : Nat} {l : List Int} {a b : Int} (hl : okL (okI .u8) l) (hK : 230 ≤ K) : Goes (law19_made K l a b) (fun _ => True) := by
  unfold law19_made
  refine goes_bnd _ (goes_New hl) (fun c hc => ?_)
  refine goes_bnd _ (goes_Rule 4 K c 6 hc (by omega) (by omega) (by omega) (by omega)) (fun y ⟨hc2, hy⟩ => ?_)
  obtain ⟨f, ef, hf, hb, _, _⟩ := hy.ok (by omega) (by omega)
  have hlen : y.1.length = f.len := by rw [ef, flat_len]
  have hp := f.len_pos
  have h64 := hf.2.1
  refine goes_bnd _ (goes_Mod (by omega) (by omega)) (fun m hm => ?_)
  refine goes_ck (by omega) (goes_letj (fun _ => True) (fun _ _ => goes_some trivial) (fun j hj => ?_))
  refine goes_bnd _ (goes_Next hc2) (fun y8 _ => ?_)
  refine goes_bif (fun _ => hj _ trivial) (fun _ => goes_bif (fun _ => hj _ trivial) (fun _ => goes_bif (fun _ => hj _ trivial) (fun _ => goes_bif (fun _ => hj _ trivial) (fun _ => goes_bif (fun _ => ?_) (fun _ => hj _ trivial)))))
  rw [w64 (by omega)]
  exact goes_ck (by omega) (goes_ck (by omega) (hj _ trivial))
theorem pure_law19_RuleChecks : Said_law19_RuleChecks := by
  intro a0 a1 a2 a3 a4 a5 h0 h1 h2 h3 h4 h5
  refine ⟨300, ?_⟩
  suffices h : Goes (law19_RuleChecks 300 a0 a1 a2 a3 a4 a5) (fun r => r = true) by
    obtain ⟨r, k1, k2⟩ := h; rw [k1, k2]
  have aw : Goes (bnd (law19_awake 300) fun y14 => (some y14)) (fun r => r = true) := goes_bnd (fun r => r = true) (goes_of awake3 rfl) (fun r hr => goes_some hr)
  unfold law19_RuleChecks
  refine goes_bif (fun _ => aw) (fun _ => ?_)
  refine goes_bnd _ (goes_values h5 (by omega)) (fun v hv => ?_)
  refine goes_letj (fun _ : Unit => True) (fun _ _ => aw) (fun j hj => ?_)
  refine goes_bnd _ (goes_made h0 (by omega)) (fun l _ => ?_)
  refine goes_loop (fun i : Int => 0 ≤ i ∧ i ≤ 2) (fun i => 2 - i.toNat) ?_ 300 _ ⟨by omega, by omega⟩ (by omega)
  rintro self i ⟨g1, g2⟩ hself
  unfold law19_RuleChecks_b1
  refine goes_bif (fun q => ?_) (fun _ => hj _ trivial)
  simp only [decide_eq_true_eq] at q
  refine goes_ck (by simp; omega) ?_
  generalize ([l, a1] : List (List T_RuleNode)).getD i.toNat [] = x
  obtain ⟨c1, d1⟩ := check_eq (K := 300) x a4 (by omega)
  obtain ⟨c2, d2⟩ := check_eq (K := 300) x ((v.length : Nat) : Int) (by omega)
  obtain ⟨u, u1, u2, u3⟩ := uses_eq (K := 300) x (by omega)
  obtain ⟨e, e1, e2⟩ := eval_eq (K := 300) x v (by omega)
  obtain ⟨r1, k1, _⟩ := d1
  obtain ⟨r2, k2, _⟩ := d2
  rw [c1, c2, k1, k2, u1, u2, e1, e2, w64 (by omega)]
  simp only [bnd, Option.bind_some, bne_self_eq_false, cond_false]
  refine goes_bnd (x := ref01_Ints 300 u u) _ (goes_Ints (by omega) (by omega)) (fun y hy => ?_)
  subst hy
  exact goes_bif (fun h => by cases h) (fun _ => hself _ ⟨by omega, by omega⟩ (by omega))
end Go.Proofs.YtmdolfannbbipaaDoor
