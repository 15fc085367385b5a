/- The plain law. -/
import Derived.Test.YtmdolfannbbipaaDoorH7A
import Derived.KernelRfl
import Derived.Laws.Strings
import Derived.Lib.ItoaMem
namespace Go.Ev
open Go
set_option linter.unusedVariables false

def Goes {α : Type} (x : Option α) (Q : α → Prop) : Prop := ∃ r, x = some r ∧ Q r
section
variable {α β ρ : Type}
theorem Goes.mono {x : Option α} {Q R : α → Prop} (h : Goes x Q) (k : ∀ r, Q r → R r) : Goes x R := by
  obtain ⟨r, h1, h2⟩ := h; exact ⟨r, h1, k r h2⟩
theorem Goes.and {x : Option α} {Q R : α → Prop} (h : Goes x Q) (k : Goes x R) : Goes x (fun r => Q r ∧ R r) := by
  obtain ⟨r, h1, h2⟩ := h
  obtain ⟨s, k1, k2⟩ := k
  rw [h1] at k1
  obtain rfl := Option.some.inj k1
  exact ⟨r, h1, h2, k2⟩
theorem Goes.val {x : Option α} {Q : α → Prop} {r : α} (h : Goes x Q) (e : x = some r) : Q r := by
  obtain ⟨s, h1, h2⟩ := h
  rw [e] at h1
  obtain rfl := Option.some.inj h1
  exact h2
theorem goes_some {r : α} {Q : α → Prop} (h : Q r) : Goes (some r) Q := ⟨r, rfl, h⟩
theorem goes_of {x : Option α} {r : α} {Q : α → Prop} (e : x = some r) (h : Q r) : Goes x Q := ⟨r, e, h⟩
theorem goes_bnd {x : Option α} {f : α → Option β} {Q : β → Prop} (M : α → Prop) (h : Goes x M) (k : ∀ y, M y → Goes (f y) Q) : Goes (bnd x f) Q := by
  obtain ⟨y, h1, h2⟩ := h
  rw [bnd_ok h1]; exact k y h2
theorem goes_ck {p : Prop} [Decidable p] {x : Option α} {Q : α → Prop} (hp : p) (h : Goes x Q) : Goes (ck p x) Q := by rw [ck_ok hp]; exact h
theorem goes_bif {b : Bool} {x y : Option α} {Q : α → Prop} (h : b = true → Goes x Q) (k : b = false → Goes y Q) : Goes (bif b then x else y) Q := by
  cases b with
  | true => exact h rfl
  | false => exact k rfl
theorem goes_letj {j : α → Option ρ} {A : (α → Option ρ) → Option ρ} {Q : ρ → Prop} (J : α → Prop) (hj : ∀ v, J v → Goes (j v) Q) (hA : ∀ j' : α → Option ρ, (∀ v, J v → Goes (j' v) Q) → Goes (A j') Q) : Goes (letj j A) Q := hA j hj
theorem goes_loop {B : (α → Option ρ) → α → Option ρ} {Q : ρ → Prop} (Inv : α → Prop) (m : α → Nat)
    (step : ∀ self v, Inv v → (∀ v', Inv v' → m v' < m v → Goes (self v') Q) → Goes (B self v) Q) : ∀ (K : Nat) (v : α), Inv v → m v < K → Goes (loopK B K v) Q := by
  intro K
  induction K with
  | zero => intro v _ h; omega
  | succ k ih => intro v hv hm; exact step _ v hv (fun v' h1 h2 => ih v' h1 (by omega))
end
theorem w64 {e : Int} (h : -9223372036854775808 ≤ e ∧ e < 9223372036854775808) : IntKind.wrap .i64 e = e := by
  have hb : (2 : Int) ^ IntKind.bits .i64 = 18446744073709551616 := by decide
  have hb' : (2 : Int) ^ (IntKind.bits .i64 - 1) = 9223372036854775808 := by decide
  have hs : IntKind.signed .i64 = true := by decide
  unfold IntKind.wrap
  rw [hb, hb', hs]
  simp only [Bool.true_and, decide_eq_true_eq]
  split <;> omega
theorem okI_i64 {n : Int} (h : okI .i64 n) : -9223372036854775808 ≤ n ∧ n < 9223372036854775808 := by
  have hb : (Lit.int .i64 n).wf = true := h
  simp [Lit.wf, IntKind.min, IntKind.max, IntKind.signed, IntKind.bits] at hb
  omega
theorem okI_u8 {n : Int} (h : okI .u8 n) : 0 ≤ n ∧ n ≤ 255 := by
  have hb : (Lit.int .u8 n).wf = true := h
  simp [Lit.wf, IntKind.min, IntKind.max, IntKind.signed, IntKind.bits] at hb
  omega
theorem w64_range (e : Int) : -9223372036854775808 ≤ IntKind.wrap .i64 e ∧ IntKind.wrap .i64 e < 9223372036854775808 := by
  have hb : (2 : Int) ^ IntKind.bits .i64 = 18446744073709551616 := by decide
  have hb' : (2 : Int) ^ (IntKind.bits .i64 - 1) = 9223372036854775808 := by decide
  have hs : IntKind.signed .i64 = true := by decide
  unfold IntKind.wrap
  rw [hb, hb', hs]
  simp only [Bool.true_and, decide_eq_true_eq]
  split <;> omega
theorem getD_mem {α : Type} {l : List α} {i : Nat} {d : α} (h : i < l.length) : l.getD i d ∈ l := by
  rw [List.getD_eq_getElem?_getD, List.getElem?_eq_getElem h]
  exact List.getElem_mem h
theorem bl_true {b : Bool} {α : Type} {x y : α} (h : b = true) : (bif b then x else y) = x := by rw [h]; rfl
theorem bl_false {b : Bool} {α : Type} {x y : α} (h : b = false) : (bif b then x else y) = y := by rw [h]; rfl
end Go.Ev
namespace Go.Proofs.YtmdolfannbbipaaDoor
open Go Go.Ev
set_option linter.unusedVariables false
def okC (c : T_Codes) : Prop := (∀ x ∈ c.l_, 0 ≤ x ∧ x ≤ 255) ∧ c.l_.length ≤ 300 ∧ 0 ≤ c.at_ ∧ c.at_ ≤ c.l_.length
theorem goes_New {K : Nat} {l : List Int} (hl : okL (okI .u8) l) : Goes (draw_New K l) okC := by
  have hb : ∀ x ∈ l, 0 ≤ x ∧ x ≤ 255 := fun x hx => okI_u8 (hl.1 x hx)
  unfold draw_New
  refine goes_ck (by split <;> omega) (goes_ck (by split <;> omega) (goes_some ?_))
  refine ⟨fun x hx => hb x (List.mem_of_mem_take hx), ?_, by simp, by simp⟩
  simp only [List.length_take]
  split <;> omega
theorem goes_Next {K : Nat} {c : T_Codes} {n : Int} (hc : okC c) : Goes (draw_Codes_Next K c n) (fun y => okC y.2 ∧ 0 ≤ y.1 ∧ (1 ≤ n → y.1 < n) ∧ (n < 1 → y.1 = 0)) := by
  obtain ⟨h1, h2, h3, h4⟩ := hc
  unfold draw_Codes_Next
  refine goes_bif (fun h => ?_) (fun h => ?_)
  · simp only [decide_eq_true_eq] at h
    exact goes_some ⟨⟨h1, h2, h3, h4⟩, by simp, fun _ => by simp; omega, fun _ => rfl⟩
  simp only [decide_eq_false_iff_not] at h
  refine goes_bif (fun k => ?_) (fun k => ?_)
  · exact goes_some ⟨⟨h1, h2, h3, h4⟩, by simp, fun _ => by simp; omega, fun _ => rfl⟩
  simp only [decide_eq_false_iff_not] at k
  have e1 : IntKind.wrap .i64 (c.at_ + 1) = c.at_ + 1 := w64 (by omega)
  rw [e1]
  have e2 : IntKind.wrap .i64 (c.at_ + 1 - 1) = c.at_ := by rw [w64 (by omega)]; omega
  rw [e2]
  have b1 : 0 ≤ c.l_.getD c.at_.toNat 0 ∧ c.l_.getD c.at_.toNat 0 ≤ 255 := h1 _ (getD_mem (by omega))
  rw [w64 (e := c.l_.getD c.at_.toNat 0) (by omega)]
  refine goes_ck (by omega) (goes_letj (fun v => 0 ≤ v.1 ∧ 0 ≤ v.2 ∧ v.2 ≤ c.l_.length) (fun v hv => ?_) (fun j hj => ?_))
  · refine goes_ck (by omega) (goes_some ⟨⟨h1, h2, hv.2.1, hv.2.2⟩, Int.tmod_nonneg _ hv.1, fun _ => ?_, fun h' => by omega⟩)
    have := Int.tmod_lt_of_pos v.1 (show 0 < n by omega)
    exact this
  refine goes_bif (fun p => goes_bif (fun q => ?_) (fun q => ?_)) (fun p => ?_)
  · simp only [decide_eq_true_eq] at p q
    refine goes_ck (by omega) (hj _ ?_)
    have b2 : 0 ≤ c.l_.getD (c.at_ + 1).toNat 0 ∧ c.l_.getD (c.at_ + 1).toNat 0 ≤ 255 := h1 _ (getD_mem (by omega))
    rw [w64 (e := c.l_.getD (c.at_ + 1).toNat 0) (by omega), w64 (e := c.l_.getD c.at_.toNat 0 * 256) (by omega), w64 (by omega), w64 (by omega)]
    simp only
    omega
  · exact hj _ ⟨b1.1, by simp only; omega, by simp only; omega⟩
  · exact hj _ ⟨b1.1, by simp only; omega, by simp only; omega⟩
theorem goes_Range {K : Nat} {c : T_Codes} {lo hi : Int} (hc : okC c) (hlo : -1000000 ≤ lo) (hle : lo ≤ hi) (hhi : hi ≤ 1000000) :
    Goes (draw_Codes_Range K c lo hi) (fun y => okC y.2 ∧ lo ≤ y.1 ∧ y.1 ≤ hi) := by
  unfold draw_Codes_Range
  rw [w64 (e := hi - lo) (by omega), w64 (by omega)]
  refine goes_bnd _ (goes_Next hc) (fun y ⟨y1, y2, y3, _⟩ => goes_some ⟨y1, ?_, ?_⟩)
  · simp only; rw [w64 (by omega)]; omega
  · simp only; rw [w64 (by omega)]; omega
theorem goes_One {K : Nat} {c : T_Codes} {n : Int} (hc : okC c) : Goes (draw_Codes_One K c n) (fun y => okC y.2) := by
  unfold draw_Codes_One
  exact goes_bnd _ (goes_Next hc) (fun y ⟨y1, _⟩ => goes_some y1)
end Go.Proofs.YtmdolfannbbipaaDoor
namespace Go.Proofs.YtmdolfannbbipaaDoor
open Go Go.Ev
set_option linter.unusedVariables false
/-- A rule as a tree: a condition; not; and (or: the last one false). -/
inductive F where
  | c (n : Nat)
  | n (a : F)
  | b (w : Bool) (x y : F)
def F.len : F → Nat
  | .c _ => 1
  | .n a => a.len + 1
  | .b _ x y => x.len + y.len + 1
def F.depth : F → Nat
  | .c _ => 1
  | .n a => a.depth + 1
  | .b _ x y => max x.depth y.depth + 1
def F.bd (m : Nat) : F → Prop
  | .c i => i < m
  | .n a => a.bd m
  | .b _ x y => x.bd m ∧ y.bd m
def kd (w : Bool) : Int := bif w then 3 else 4
/-- Its nodes, from place s on. -/
def flat (s : Nat) : F → List T_RuleNode
  | .c n => [⟨1, n, 0, 0⟩]
  | .n a => flat s a ++ [⟨2, 0, ((s + a.len : Nat) : Int) - 1, 0⟩]
  | .b w x y => flat s x ++ (flat (s + x.len) y ++ [⟨kd w, 0, ((s + x.len : Nat) : Int) - 1, ((s + x.len + y.len : Nat) : Int) - 1⟩])
theorem flat_len : ∀ (f : F) (s : Nat), (flat s f).length = f.len := by
  intro f
  induction f with
  | c n => intro s; rfl
  | n a ih => intro s; simp [flat, F.len, ih]
  | b w x y ihx ihy => intro s; simp [flat, F.len, ihx, ihy]; omega
theorem F.len_pos (f : F) : 1 ≤ f.len := by cases f <;> simp [F.len]
theorem F.depth_le : ∀ f : F, f.depth ≤ f.len := by
  intro f
  induction f with
  | c n => exact Nat.le_refl _
  | n a ih => simp only [F.depth, F.len]; omega
  | b w x y ihx ihy => simp only [F.depth, F.len]; have := x.len_pos; have := y.len_pos; omega
/-- A tree's nodes lie in the list from place s on. -/
def Seg (l : List T_RuleNode) (s : Nat) (f : F) : Prop := l.drop s = flat s f ++ l.drop (s + f.len)
theorem drop_at {l : List T_RuleNode} {i : Nat} (h : i < l.length) : l.drop i = l.getD i d_RuleNode :: l.drop (i + 1) := by
  rw [List.drop_eq_getElem_cons h]
  simp [h]
theorem Seg.not {l : List T_RuleNode} {s : Nat} {a : F} (ha : Seg l s a) (h : s + a.len < l.length) (e : l.getD (s + a.len) d_RuleNode = ⟨2, 0, ((s + a.len : Nat) : Int) - 1, 0⟩) : Seg l s (.n a) := by
  unfold Seg at ha ⊢
  rw [ha, drop_at h, e]
  simp [flat, F.len, Nat.add_assoc]
theorem drop_app {l a r : List T_RuleNode} {s n : Nat} (h : l.drop s = a ++ r) (hn : a.length = n) : l.drop (s + n) = r := by
  rw [← List.drop_drop, h, ← hn, List.drop_left]
theorem at_of_drop {l : List T_RuleNode} {i : Nat} {x : T_RuleNode} {r : List T_RuleNode} (h : l.drop i = x :: r) : i < l.length ∧ l.getD i d_RuleNode = x := by
  have hl : i < l.length := by
    have := congrArg List.length h
    simp at this; omega
  rw [drop_at hl] at h
  injection h with h1 h2
  exact ⟨hl, h1⟩
theorem Seg.leaf_inv {l : List T_RuleNode} {i n : Nat} (h : Seg l i (.c n)) : i < l.length ∧ l.getD i d_RuleNode = ⟨1, n, 0, 0⟩ := at_of_drop h
theorem Seg.not_inv {l : List T_RuleNode} {s : Nat} {a : F} (h : Seg l s (.n a)) : Seg l s a ∧ s + a.len < l.length ∧ l.getD (s + a.len) d_RuleNode = ⟨2, 0, ((s + a.len : Nat) : Int) - 1, 0⟩ := by
  unfold Seg at h
  simp only [flat, List.append_assoc] at h
  have h1 := drop_app h (flat_len a s)
  refine ⟨?_, at_of_drop h1⟩
  unfold Seg; rw [h1]; exact h
theorem Seg.bin_inv {l : List T_RuleNode} {s : Nat} {x y : F} {w : Bool} (h : Seg l s (.b w x y)) : Seg l s x ∧ Seg l (s + x.len) y ∧ s + x.len + y.len < l.length ∧
    l.getD (s + x.len + y.len) d_RuleNode = ⟨kd w, 0, ((s + x.len : Nat) : Int) - 1, ((s + x.len + y.len : Nat) : Int) - 1⟩ := by
  unfold Seg at h
  simp only [flat, List.append_assoc] at h
  have h1 := drop_app h (flat_len x s)
  have h2 := drop_app h1 (flat_len y (s + x.len))
  refine ⟨?_, ?_, at_of_drop h2⟩
  · unfold Seg; rw [h1]; exact h
  · unfold Seg; rw [h2]; exact h1
/-- A part that is right, of a list. -/
def PartOk (l : List T_RuleNode) (fr at_ deep : Int) : Prop := ∃ (f : F) (s : Nat), fr = s ∧ at_ + 1 = ((s + f.len : Nat) : Int) ∧ f.bd 64 ∧ Seg l s f ∧ deep = f.depth
theorem node_eta (x : T_RuleNode) : x = ⟨x.Kind, x.Cond, x.Left, x.Right⟩ := rfl
theorem PartOk.not {l : List T_RuleNode} {t fr d : Int} (h : PartOk l fr (t - 1) d) (h1 : t < l.length) (hk : (l.getD t.toNat d_RuleNode).Kind = 2) (hc : (l.getD t.toNat d_RuleNode).Cond = 0) (hr : (l.getD t.toNat d_RuleNode).Right = 0) (hl : (l.getD t.toNat d_RuleNode).Left = t - 1) : PartOk l fr t (d + 1) := by
  obtain ⟨f, s, rfl, h2, hb, hs, rfl⟩ := h
  have ht : t.toNat = s + f.len := by omega
  rw [ht] at hk hc hr hl
  refine ⟨.n f, s, rfl, by simp only [F.len]; omega, hb, hs.not (by omega) ?_, by simp [F.depth]⟩
  rw [node_eta (l.getD (s + f.len) d_RuleNode), hk, hc, hr, hl]
  congr 1
  omega
/-- Where a tree lies, the part is right. -/
theorem part_flat : ∀ (f : F) (K s : Nat) (l : List T_RuleNode), f.bd 64 → l.length ≤ 1000 → Seg l s f → f.depth ≤ K → rule_part K l (((s + f.len : Nat) : Int) - 1) = some ((s : Int), (f.depth : Int), true) := by
  intro f
  induction f with
  | c i =>
    intro K s l hb hl hs hK
    obtain ⟨h1, h2⟩ := hs.leaf_inv
    match K, hK with
    | K + 1, _ =>
      show rule_part_F K (rule_part K) l _ = _
      have e : ((s + (F.c i).len : Nat) : Int) - 1 = (s : Int) := by simp only [F.len]; omega
      have hi : i < 64 := hb
      rw [e]
      unfold rule_part_F
      simp only [Int.toNat_natCast, h2]
      rw [bl_false (decide_eq_false (by omega)), ck_ok (by omega)]
      simp [F.depth]
      omega
  | n a ih =>
    intro K s l hb hl hs hK
    obtain ⟨h1, h2, h3⟩ := hs.not_inv
    simp only [F.depth] at hK
    match K, hK with
    | K + 1, hK =>
      show rule_part_F K (rule_part K) l _ = _
      have e : ((s + (F.n a).len : Nat) : Int) - 1 = ((s + a.len : Nat) : Int) := by simp only [F.len]; omega
      have hd := a.depth_le
      have hp := a.len_pos
      rw [e]
      unfold rule_part_F
      simp only [Int.toNat_natCast, h3]
      rw [w64 (e := ((s + a.len : Nat) : Int) - 1) (by omega), ih K s l hb hl h1 (by omega)]
      rw [bl_false (decide_eq_false (by omega)), ck_ok (by omega)]
      have e2 : IntKind.wrap .i64 ((a.depth : Int) + 1) = ((F.n a).depth : Int) := by
        rw [w64 (by omega)]; simp [F.depth]
      simp [bnd, e2]
  | b w x y ihx ihy =>
    intro K s l hb hl hs hK
    obtain ⟨h1, h2, h3, h4⟩ := hs.bin_inv
    simp only [F.depth] at hK
    match K, hK with
    | K + 1, hK =>
      show rule_part_F K (rule_part K) l _ = _
      have e : ((s + (F.b w x y).len : Nat) : Int) - 1 = ((s + x.len + y.len : Nat) : Int) := by simp only [F.len]; omega
      have hdx := x.depth_le
      have hdy := y.depth_le
      have hpx := x.len_pos
      have hpy := y.len_pos
      rw [e]
      unfold rule_part_F
      simp only [Int.toNat_natCast, h4]
      rw [w64 (e := ((s + x.len + y.len : Nat) : Int) - 1) (by omega), ihy K (s + x.len) l hb.2 hl h2 (by omega)]
      rw [bl_false (decide_eq_false (by omega)), ck_ok (by omega)]
      have e1 : IntKind.wrap .i64 (((s + x.len : Nat) : Int) - 1) = ((s + x.len : Nat) : Int) - 1 := w64 (by omega)
      have ex := ihx K s l hb.1 hl h1 (by omega)
      have e2 : IntKind.wrap .i64 ((if (x.depth : Int) < (y.depth : Int) then (y.depth : Int) else (x.depth : Int)) + 1) = ((F.b w x y).depth : Int) := by
        rw [w64 (by split <;> omega)]
        simp only [F.depth]
        split <;> omega
      cases w <;> simp only [kd, letj, bnd, cond_true, cond_false, Int.reduceBEq, Option.bind_some, Bool.not_true, bne_self_eq_false, e1, ex, e2]
/-- A right rule: its tree. -/
def OkF (f : F) : Prop := f.bd 64 ∧ f.len ≤ 64 ∧ f.depth ≤ 16
theorem seg_flat (f : F) : Seg (flat 0 f) 0 f := by
  unfold Seg
  have : (flat 0 f).drop (0 + f.len) = [] := List.drop_eq_nil_of_le (by rw [flat_len]; omega)
  rw [this]; simp
theorem right_flat {K : Nat} {f : F} (h : OkF f) (hK : 17 ≤ K) : rule_right K (flat 0 f) = some true := by
  obtain ⟨h1, h2, h3⟩ := h
  have hp := f.len_pos
  unfold rule_right
  rw [flat_len, bl_false (by simp; omega), bl_false (by simp; omega), w64 (by omega)]
  have e := part_flat f K 0 (flat 0 f) h1 (by rw [flat_len]; omega) (seg_flat f) (by omega)
  rw [Nat.zero_add] at e
  rw [e]
  simp [bnd]
  omega
end Go.Proofs.YtmdolfannbbipaaDoor
namespace Go.Proofs.YtmdolfannbbipaaDoor
open Go Go.Ev
set_option linter.unusedVariables false
def val {α : Type} (ev : Nat → α) (ng : α → α) (op : Bool → α → α → α) : F → α
  | .c i => ev i
  | .n a => ng (val ev ng op a)
  | .b w x y => op w (val ev ng op x) (val ev ng op y)
/-- The values of all its nodes. -/
def vals {α : Type} (ev : Nat → α) (ng : α → α) (op : Bool → α → α → α) : F → List α
  | .c i => [ev i]
  | .n a => vals ev ng op a ++ [ng (val ev ng op a)]
  | .b w x y => vals ev ng op x ++ (vals ev ng op y ++ [op w (val ev ng op x) (val ev ng op y)])
theorem vals_len {α : Type} (ev : Nat → α) (ng : α → α) (op : Bool → α → α → α) : ∀ f : F, (vals ev ng op f).length = f.len := by
  intro f
  induction f with
  | c i => rfl
  | n a ih => simp [vals, F.len, ih]
  | b w x y ihx ihy => simp [vals, F.len, ihx, ihy]; omega
theorem vals_last {α : Type} (ev : Nat → α) (ng : α → α) (op : Bool → α → α → α) (d : α) : ∀ f : F, (vals ev ng op f).getD (f.len - 1) d = val ev ng op f := by
  intro f
  cases f with
  | c i => rfl
  | n a =>
    have h := vals_len ev ng op a
    simp only [vals, val, F.len, Nat.add_sub_cancel, List.getD_eq_getElem?_getD]
    rw [List.getElem?_append_right (by omega), h]; simp
  | b w x y =>
    have h := vals_len ev ng op x
    have k := vals_len ev ng op y
    simp only [vals, val, F.len, Nat.add_sub_cancel, List.getD_eq_getElem?_getD]
    rw [List.getElem?_append_right (by omega), h, List.getElem?_append_right (by omega), k]
    simp
/-- A node's value comes out of the values of nodes ahead of it. -/
def NodeOk {α : Type} (ev : Nat → α) (ng : α → α) (op : Bool → α → α → α) (l : List T_RuleNode) (R : Nat → α) (i : Nat) : Prop :=
  (∃ k : Nat, l.getD i d_RuleNode = ⟨1, k, 0, 0⟩ ∧ k < 64 ∧ R i = ev k) ∨ (∃ j : Nat, j < i ∧ l.getD i d_RuleNode = ⟨2, 0, j, 0⟩ ∧ R i = ng (R j)) ∨
    ∃ (w : Bool) (j k : Nat), j < i ∧ k < i ∧ l.getD i d_RuleNode = ⟨kd w, 0, j, k⟩ ∧ R i = op w (R j) (R k)
theorem nodes_ok {α : Type} (ev : Nat → α) (ng : α → α) (op : Bool → α → α → α) (d : α) (l : List T_RuleNode) (R : Nat → α) : ∀ (f : F) (s : Nat), f.bd 64 → Seg l s f → (∀ i, i < f.len → R (s + i) = (vals ev ng op f).getD i d) → ∀ i, i < f.len → NodeOk ev ng op l R (s + i) := by
  intro f
  induction f with
  | c k =>
    intro s hb hs hR i hi
    obtain rfl : i = 0 := by simp only [F.len] at hi; omega
    exact .inl ⟨k, hs.leaf_inv.2, hb, hR 0 hi⟩
  | n a ih =>
    intro s hb hs hR i hi
    obtain ⟨h1, h2, h3⟩ := hs.not_inv
    have hl := vals_len ev ng op a
    have hp := a.len_pos
    simp only [F.len] at hi
    have hR' : ∀ i, i < a.len → R (s + i) = (vals ev ng op a).getD i d := fun i hi => by
      rw [hR i (by simp only [F.len]; omega)]
      simp only [vals, List.getD_eq_getElem?_getD]
      rw [List.getElem?_append_left (by omega)]
    by_cases hi' : i < a.len
    · exact ih s hb h1 hR' i hi'
    · obtain rfl : i = a.len := by omega
      refine .inr (.inl ⟨s + (a.len - 1), by omega, ?_, ?_⟩)
      · rw [h3]; congr 1; omega
      · rw [hR' (a.len - 1) (by omega), vals_last, hR a.len (by simp only [F.len]; omega)]
        exact vals_last ev ng op d (.n a)
  | b w x y ihx ihy =>
    intro s hb hs hR i hi
    obtain ⟨h1, h2, h3, h4⟩ := hs.bin_inv
    have hl := vals_len ev ng op x
    have hl' := vals_len ev ng op y
    have hp := x.len_pos
    have hp' := y.len_pos
    simp only [F.len] at hi
    have hRx : ∀ i, i < x.len → R (s + i) = (vals ev ng op x).getD i d := fun i hi => by
      rw [hR i (by simp only [F.len]; omega)]
      simp only [vals, List.getD_eq_getElem?_getD]
      rw [List.getElem?_append_left (by omega)]
    have hRy : ∀ i, i < y.len → R (s + x.len + i) = (vals ev ng op y).getD i d := fun i hi => by
      rw [Nat.add_assoc, hR (x.len + i) (by simp only [F.len]; omega)]
      simp only [vals, List.getD_eq_getElem?_getD]
      rw [List.getElem?_append_right (by omega), List.getElem?_append_left (by omega), hl, Nat.add_sub_cancel_left]
    by_cases hx : i < x.len
    · exact ihx s hb.1 h1 hRx i hx
    by_cases hy : i < x.len + y.len
    · have := ihy (s + x.len) hb.2 h2 hRy (i - x.len) (by omega)
      rw [show s + x.len + (i - x.len) = s + i by omega] at this
      exact this
    · obtain rfl : i = x.len + y.len := by omega
      refine .inr (.inr ⟨w, s + (x.len - 1), s + x.len + (y.len - 1), by omega, by omega, ?_, ?_⟩)
      · rw [← Nat.add_assoc, h4]
        congr 1 <;> omega
      · rw [hRx (x.len - 1) (by omega), hRy (y.len - 1) (by omega), vals_last, vals_last, hR (x.len + y.len) (by simp only [F.len]; omega)]
        exact vals_last ev ng op d (.b w x y)
/-- What a condition is worth. -/
def evc (v : List Int) (k : Nat) : Int := if k < v.length ∧ -1 ≤ v.getD k 0 ∧ v.getD k 0 ≤ 1 then v.getD k 0 else 0
def mnx (w : Bool) (a b : Int) : Int := bif w then (if b < a then b else a) else (if a < b then b else a)
/-- A rule's value. -/
def evf (v : List Int) (f : F) : Int := val (evc v) (fun a => -a) mnx f
theorem evf_bd (v : List Int) : ∀ f : F, -1 ≤ evf v f ∧ evf v f ≤ 1 := by
  intro f
  unfold evf
  induction f with
  | c i => simp only [val, evc]; split <;> omega
  | n a ih => simp only [val]; omega
  | b w x y ihx ihy =>
    simp only [val, mnx]
    cases w <;> simp only [cond_true, cond_false] <;> split <;> omega
theorem ok_bd {v : List Int} {l : List T_RuleNode} {R : Nat → Int} (h : ∀ i, i < l.length → NodeOk (evc v) (fun a => -a) mnx l R i) : ∀ n i, i < n → i < l.length → -1 ≤ R i ∧ R i ≤ 1 := by
  intro n
  induction n with
  | zero => intro i hi; omega
  | succ n ih =>
    intro i hi hl
    rcases h i hl with ⟨k, _, _, e⟩ | ⟨j, hj, _, e⟩ | ⟨w, j, k, hj, hk, _, e⟩
    · rw [e]; simp only [evc]; split <;> omega
    · have := ih j (by omega) (by omega)
      rw [e]
      show -1 ≤ -(R j) ∧ -(R j) ≤ 1
      omega
    · have h1 := ih j (by omega) (by omega)
      have h2 := ih k (by omega) (by omega)
      rw [e]; simp only [mnx]
      cases w <;> simp only [cond_true, cond_false] <;> split <;> omega
theorem getD_set {α : Type} (l : List α) (i j : Nat) (x d : α) : (l.set i x).getD j d = if i = j ∧ j < l.length then x else l.getD j d := by
  simp only [List.getD_eq_getElem?_getD, List.getElem?_set]
  split
  · rename_i h; subst h
    split
    · rename_i h; rw [if_pos ⟨rfl, h⟩]; rfl
    · rename_i h; rw [if_neg (by omega), List.getElem?_eq_none (by omega)]
  · rename_i h; rw [if_neg (fun q => h q.1)]
theorem goes_Eval {K : Nat} {f : F} {v : List Int} (hf : OkF f) (hK : 70 ≤ K) : rule_Eval K (flat 0 f) v = some (evf v f) := by
  suffices h : Goes (rule_Eval K (flat 0 f) v) (fun r => r = evf v f) by
    obtain ⟨r, h1, h2⟩ := h; rw [h1, h2]
  have hlen := flat_len f 0
  have hp := f.len_pos
  have hf64 := hf.2.1
  let R : Nat → Int := fun i => (vals (evc v) (fun a => -a) mnx f).getD i 0
  have hN : ∀ i, i < (flat 0 f).length → NodeOk (evc v) (fun a => -a) mnx (flat 0 f) R i := fun i hi => by
    have := nodes_ok (evc v) (fun a => -a) mnx 0 (flat 0 f) R f 0 hf.1 (seg_flat f) (fun i _ => by rw [Nat.zero_add]) i (by omega)
    rwa [Nat.zero_add] at this
  have hB := ok_bd hN
  unfold rule_Eval
  rw [right_flat hf (by omega)]
  refine goes_bnd (fun y => y = true) (goes_some rfl) (fun y hy => ?_)
  subst hy
  refine goes_bif (fun h => by cases h) (fun _ => ?_)
  refine goes_ck (by unfold LIMIT; omega) ?_
  generalize hl : flat 0 f = l at *
  refine goes_letj (fun z : List Int => z.length = l.length ∧ ∀ j, j < l.length → z.getD j 0 = R j) (fun z hz => ?_) (fun j hj => ?_)
  · rw [hz.1, w64 (by omega)]
    refine goes_ck (by omega) (goes_some ?_)
    rw [hz.2 _ (by omega)]
    have := vals_last (evc v) (fun a => -a) mnx 0 f
    show (vals (evc v) (fun a => -a) mnx f).getD _ 0 = evf v f
    rw [show (((l.length : Nat) : Int) - 1).toNat = f.len - 1 by omega]
    exact this
  refine goes_loop (fun z : Int × List Int => 0 ≤ z.1 ∧ z.1 ≤ l.length ∧ z.2.length = l.length ∧ (∀ j : Nat, (j : Int) < z.1 → z.2.getD j 0 = R j) ∧ ∀ j : Nat, z.1 ≤ j → z.2.getD j 0 = 0) (fun z => l.length - z.1.toNat) ?_ K _ ?_ (by simp; omega)
  · rintro self ⟨i, z⟩ ⟨h1, h2, h3, h4, h5⟩ hself
    simp only at h1 h2 h3 h4 h5
    unfold rule_Eval_b1
    simp only
    refine goes_bif (fun q => ?_) (fun q => ?_)
    · simp only [decide_eq_true_eq] at q
      have hi : i.toNat < l.length := by omega
      rw [w64 (e := i + 1) (by omega)]
      refine goes_letj (fun z' : List Int => z'.length = l.length ∧ (∀ j : Nat, (j : Int) < i + 1 → z'.getD j 0 = R j) ∧ ∀ j : Nat, i + 1 ≤ j → z'.getD j 0 = 0) (fun z' hz' => hself _ ⟨by simp only; omega, by simp only; omega, hz'.1, hz'.2.1, hz'.2.2⟩ (by simp only; omega)) (fun j2 hj2 => ?_)
      refine goes_ck (by omega) ?_
      have put : ∀ x : Int, x = R i.toNat → Goes (j2 (z.set i.toNat x)) (fun r => r = evf v f) := fun x hx => hj2 _ ⟨by simp [h3], fun j hj => by
        rw [getD_set]
        split
        · rename_i q; rw [← q.1, hx]
        · rename_i q; exact h4 j (by omega), fun j hj => by
        rw [getD_set, if_neg (by omega)]; exact h5 j (by omega)⟩
      have same : R i.toNat = 0 → Goes (j2 z) (fun r => r = evf v f) := fun hx => hj2 _ ⟨h3, fun j hj => by
        by_cases e : j = i.toNat
        · rw [e, hx]; exact h5 _ (by omega)
        · exact h4 j (by omega), fun j hj => h5 j (by omega)⟩
      have hb := hB _ i.toNat (Nat.lt_succ_self _) hi
      rcases hN i.toNat hi with ⟨k, e, hk, er⟩ | ⟨j, hj, e, er⟩ | ⟨w, j, k, hj, hk, e, er⟩
      · rw [e]
        simp only [evc] at er
        simp only [Int.toNat_natCast]
        refine goes_bif (fun _ => ?_) (fun h => by cases h)
        refine goes_bif (fun q1 => ?_) (fun q1 => ?_)
        · simp only [decide_eq_true_eq] at q1
          refine goes_ck (by omega) ?_
          refine goes_bif (fun q2 => goes_bif (fun q3 => ?_) (fun q3 => ?_)) (fun q2 => ?_)
          · simp only [decide_eq_true_eq] at q2 q3
            refine goes_ck (by omega) (put _ ?_)
            rw [er, if_pos ⟨by omega, by omega, q3⟩]
          · simp only [decide_eq_false_iff_not] at q3
            exact same (by rw [er, if_neg (fun h => q3 h.2.2)])
          · simp only [decide_eq_false_iff_not] at q2
            exact same (by rw [er, if_neg (fun h => q2 h.2.1)])
        · simp only [decide_eq_false_iff_not] at q1
          exact same (by rw [er, if_neg (fun h => q1 (by omega))])
      · rw [e]
        refine goes_bif (fun h => by cases h) (fun _ => goes_bif (fun _ => ?_) (fun h => by cases h))
        have hj' := hB _ j (Nat.lt_succ_self _) (by omega)
        simp only [Int.toNat_natCast]
        refine goes_ck (by omega) (goes_ck (by omega) (put _ ?_))
        rw [h4 j (by omega), w64 (by omega), er]
        show 0 - R j = -(R j)
        omega
      · rw [e]
        simp only [Int.toNat_natCast]
        cases w with
        | true =>
          refine goes_bif (fun h => by cases h) (fun _ => goes_bif (fun h => by cases h) (fun _ => goes_bif (fun _ => ?_) (fun h => by cases h)))
          refine goes_ck (by omega) (goes_ck (by omega) (goes_ck (by omega) (put _ ?_)))
          rw [h4 j (by omega), h4 k (by omega), er]; rfl
        | false =>
          refine goes_bif (fun h => by cases h) (fun _ => goes_bif (fun h => by cases h) (fun _ => goes_bif (fun h => by cases h) (fun _ => ?_)))
          refine goes_ck (by omega) (goes_ck (by omega) (goes_ck (by omega) (put _ ?_)))
          rw [h4 j (by omega), h4 k (by omega), er]; rfl
    · simp only [decide_eq_false_iff_not] at q
      exact hj _ ⟨h3, fun j hj => h4 j (by omega)⟩
  · refine ⟨by simp, by simp, by simp, fun j hj => absurd (show (j : Int) < 0 from hj) (by omega), fun j _ => ?_⟩
    simp only [List.getD_eq_getElem?_getD]
    rcases Nat.lt_or_ge j l.length with h | h
    · simp [h]
    · simp [h]
end Go.Proofs.YtmdolfannbbipaaDoor
namespace Go.Proofs.YtmdolfannbbipaaDoor
open Go Go.Ev
set_option linter.unusedVariables false
/-- A node, n places further on. -/
def sh (n : Int) (x : T_RuleNode) : T_RuleNode := if x.Kind = 1 then x else if x.Kind = 2 then { x with Left := x.Left + n } else { x with Left := x.Left + n, Right := x.Right + n }
theorem flat_shift (n : Nat) : ∀ (f : F) (s : Nat), flat (s + n) f = (flat s f).map (sh n) := by
  intro f
  induction f with
  | c k => intro s; simp [flat, sh]
  | n a ih =>
    intro s
    simp only [flat, List.map_append, List.map_cons, List.map_nil, ih s]
    congr 2
    simp only [sh]
    rw [if_neg (by omega), if_pos trivial]
    congr 1
    omega
  | b w x y ihx ihy =>
    intro s
    simp only [flat, List.map_append, List.map_cons, List.map_nil, ihx s]
    have := ihy (s + x.len)
    rw [show s + n + x.len = s + x.len + n by omega, this]
    congr 3
    simp only [sh]
    rw [if_neg (by cases w <;> simp [kd]), if_neg (by cases w <;> simp [kd])]
    congr 1 <;> omega
theorem flat_small : ∀ (f : F) (s : Nat), ∀ x ∈ flat s f, (x.Kind = 1 ∨ x.Kind = 2 ∨ x.Kind = 3 ∨ x.Kind = 4) ∧ -1 ≤ x.Left ∧ x.Left ≤ s + f.len ∧ -1 ≤ x.Right ∧ x.Right ≤ s + f.len := by
  intro f
  induction f with
  | c k =>
    intro s x hx
    simp only [flat, List.mem_singleton] at hx
    subst hx
    exact ⟨.inl rfl, by simp only [F.len]; omega⟩
  | n a ih =>
    intro s x hx
    simp only [flat, List.mem_append, List.mem_singleton] at hx
    simp only [F.len]
    rcases hx with hx | rfl
    · have := ih s x hx; omega
    · exact ⟨.inr (.inl rfl), by simp only; omega⟩
  | b w a c iha ihc =>
    intro s x hx
    simp only [flat, List.mem_append, List.mem_singleton] at hx
    simp only [F.len]
    rcases hx with hx | hx | rfl
    · have := iha s x hx; omega
    · have := ihc (s + a.len) x hx; omega
    · refine ⟨by cases w <;> simp [kd], ?_⟩
      simp only; omega
/-- What a drawn rule is. -/
def Drawn (m d : Nat) (l : List T_RuleNode) : Prop := ∃ f : F, l = flat 0 f ∧ f.bd m ∧ f.depth ≤ d + 1 ∧ f.len + 1 ≤ 2 ^ (d + 1)
theorem getD_mem' {l : List T_RuleNode} {i : Nat} (h : i < l.length) : l.getD i d_RuleNode ∈ l := getD_mem h
theorem goes_shift {K : Nat} {y : List T_RuleNode × T_Codes} {l0 : List T_RuleNode} {f : F} (hl0 : l0 = flat 0 f) (hf : f.len ≤ 200) (hy : y.1.length ≤ 200) (hK : 210 ≤ K) {Q : List T_RuleNode × T_Codes → Prop} {j4 : List T_RuleNode → Option (List T_RuleNode × T_Codes)}
    (hj : Goes (j4 (flat y.1.length f)) Q) : Goes (loopK (draw_Codes_Rule_b1 K y j4) K (0, l0)) Q := by
  have hlen : l0.length = f.len := by rw [hl0, flat_len]
  have hsm : ∀ i, i < l0.length → _ := fun i hi => flat_small f 0 (l0.getD i d_RuleNode) (by rw [← hl0]; exact getD_mem' hi)
  refine goes_loop (fun z : Int × List T_RuleNode => 0 ≤ z.1 ∧ z.1 ≤ l0.length ∧ z.2.length = l0.length ∧ (∀ j : Nat, (j : Int) < z.1 → z.2.getD j d_RuleNode = sh y.1.length (l0.getD j d_RuleNode)) ∧ ∀ j : Nat, z.1 ≤ j → z.2.getD j d_RuleNode = l0.getD j d_RuleNode) (fun z => l0.length - z.1.toNat) ?_ K _ ?_ (by simp; omega)
  · rintro self ⟨i, v⟩ ⟨h1, h2, h3, h4, h5⟩ hself
    simp only at h1 h2 h3 h4 h5
    unfold draw_Codes_Rule_b1
    simp only
    refine goes_bif (fun q => ?_) (fun q => ?_)
    · simp only [decide_eq_true_eq] at q
      have hi : i.toNat < l0.length := by omega
      rw [w64 (e := i + 1) (by omega)]
      have hx := h5 i.toNat (by omega)
      obtain ⟨s1, s2, s3, s4, s5⟩ := hsm i.toNat hi
      rw [← hx] at s1 s2 s3 s4 s5
      refine goes_letj (fun v' : List T_RuleNode => v'.length = l0.length ∧ (∀ j : Nat, j ≠ i.toNat → v'.getD j d_RuleNode = v.getD j d_RuleNode) ∧ v'.getD i.toNat d_RuleNode = sh y.1.length (v.getD i.toNat d_RuleNode)) (fun v' hv' => hself _ ⟨by simp only; omega, by simp only; omega, hv'.1, fun j hj => ?_, fun j hj => ?_⟩ (by simp only; omega)) (fun j3 hj3 => ?_)
      · by_cases e : j = i.toNat
        · rw [e, hv'.2.2, hx]
        · rw [hv'.2.1 j e]; exact h4 j (by simp only at hj; omega)
      · rw [hv'.2.1 j (by simp only at hj; omega)]; exact h5 j (by simp only at hj; omega)
      refine goes_letj (fun v' : List T_RuleNode => v'.length = l0.length ∧ (∀ j : Nat, j ≠ i.toNat → v'.getD j d_RuleNode = v.getD j d_RuleNode) ∧ v'.getD i.toNat d_RuleNode = (if (v.getD i.toNat d_RuleNode).Kind = 1 then v.getD i.toNat d_RuleNode else { v.getD i.toNat d_RuleNode with Left := (v.getD i.toNat d_RuleNode).Left + y.1.length })) (fun v' hv' => ?_) (fun j2 hj2 => ?_)
      · obtain ⟨g1, g2, g3⟩ := hv'
        have hk : (v'.getD i.toNat d_RuleNode).Kind = (v.getD i.toNat d_RuleNode).Kind := by rw [g3]; split <;> rfl
        have hr : (v'.getD i.toNat d_RuleNode).Right = (v.getD i.toNat d_RuleNode).Right := by rw [g3]; split <;> rfl
        have set3 : (v.getD i.toNat d_RuleNode).Kind = 3 ∨ (v.getD i.toNat d_RuleNode).Kind = 4 → Goes (j3 (v'.set i.toNat { (v'.getD i.toNat d_RuleNode) with Right := (IntKind.wrap .i64 ((v'.getD i.toNat d_RuleNode).Right + ((y.1.length : Nat) : Int))) })) Q := by
          intro hk3
          refine hj3 _ ⟨by simp [g1], fun j hj => by rw [getD_set, if_neg (fun h => hj h.1.symm)]; exact g2 j hj, ?_⟩
          rw [getD_set, if_pos ⟨rfl, by omega⟩, hr, w64 (by omega), g3]
          simp only [sh]
          rw [if_neg (by omega), if_neg (by omega), if_neg (by omega)]
        refine goes_ck (by omega) (goes_bif (fun k3 => ?_) (fun k3 => goes_bif (fun k4 => ?_) (fun k4 => ?_)))
        · exact set3 (.inl (by rw [← hk]; exact eq_of_beq k3))
        · exact set3 (.inr (by rw [← hk]; exact eq_of_beq k4))
        · have k3' : (v.getD i.toNat d_RuleNode).Kind ≠ 3 := by rw [← hk]; intro e; rw [e] at k3; cases k3
          have k4' : (v.getD i.toNat d_RuleNode).Kind ≠ 4 := by rw [← hk]; intro e; rw [e] at k4; cases k4
          refine hj3 _ ⟨g1, g2, ?_⟩
          rw [g3]
          simp only [sh]
          split
          · rfl
          · rw [if_pos (by omega)]
      · refine goes_ck (by omega) (goes_bif (fun k1 => ?_) (fun k1 => ?_))
        · have k1' : (v.getD i.toNat d_RuleNode).Kind ≠ 1 := by simpa using k1
          refine hj2 _ ⟨by simp [h3], fun j hj => by rw [getD_set, if_neg (fun h => hj h.1.symm)], ?_⟩
          rw [getD_set, if_pos ⟨rfl, by omega⟩, w64 (by omega), if_neg k1']
        · have k1' : (v.getD i.toNat d_RuleNode).Kind = 1 := by simpa using k1
          exact hj2 _ ⟨h3, fun _ _ => rfl, by rw [if_pos k1']⟩
    · simp only [decide_eq_false_iff_not] at q
      have e : v = flat y.1.length f := by
        have e0 := flat_shift y.1.length f 0
        rw [Nat.zero_add] at e0
        rw [e0, ← hl0]
        apply List.ext_getElem (by simp [h3])
        intro j hj1 hj2
        have := h4 j (by omega)
        simp only [List.getD_eq_getElem?_getD, List.getElem?_eq_getElem hj1, List.getElem?_eq_getElem (show j < l0.length by omega), Option.getD_some] at this
        simp [this]
      rw [e]; exact hj
  · exact ⟨by simp, by simp, rfl, fun j hj => absurd (show (j : Int) < 0 from hj) (by omega), fun j _ => rfl⟩
theorem goes_Rule : ∀ (d K : Nat) (c : T_Codes) (m : Nat), okC c → 1 ≤ m → m ≤ 64 → d ≤ 6 → 220 + d ≤ K → Goes (draw_Codes_Rule K c m d) (fun y => okC y.2 ∧ Drawn m d y.1) := by
  intro d
  induction d with
  | zero =>
    intro K c m hc h1 h2 _ hK
    match K, hK with
    | K + 1, hK =>
      show Goes (draw_Codes_Rule_F K (draw_Codes_Rule K) c m _) _
      unfold draw_Codes_Rule_F
      refine goes_bif (fun _ => ?_) (fun h => by simp at h)
      refine goes_bnd _ (goes_Next hc) (fun y ⟨y1, y2, y3, _⟩ => goes_some ⟨y1, .c y.1.toNat, ?_, ?_, by simp [F.depth], by simp [F.len]⟩)
      · simp only [flat]; congr 2; omega
      · have := y3 (by omega); simp only [F.bd]; omega
  | succ d ih =>
    intro K c m hc h1 h2 hd hK
    match K, hK with
    | K + 1, hK =>
      show Goes (draw_Codes_Rule_F K (draw_Codes_Rule K) c m _) _
      unfold draw_Codes_Rule_F
      have hpw : (2 : Nat) ^ (d + 1 + 1) = 2 * 2 ^ (d + 1) := by rw [Nat.pow_succ]; omega
      have hpw2 : (2 : Nat) ^ (d + 1) ≤ 2 ^ 6 := Nat.pow_le_pow_right (by omega) (by omega)
      have hpw3 : (1 : Nat) ≤ 2 ^ (d + 1) := Nat.one_le_two_pow
      refine goes_bif (fun h => by simp at h; omega) (fun _ => ?_)
      rw [show ((d + 1 : Nat) : Int) - 1 = (d : Int) by omega, w64 (e := (d : Int)) (by omega)]
      refine goes_bnd _ (goes_Next hc) (fun y5 ⟨y1, y2, y3, _⟩ => ?_)
      refine goes_bif (fun _ => ?_) (fun _ => ?_)
      · refine goes_bnd _ (goes_Next y1) (fun y ⟨y1, y2, y3, _⟩ => goes_some ⟨y1, .c y.1.toNat, ?_, ?_, by simp [F.depth], by simp only [F.len]; omega⟩)
        · simp only [flat]; congr 2; omega
        · have := y3 (by omega); simp only [F.bd]; omega
      refine goes_bnd _ (ih K _ m y1 h1 h2 (by omega) (by omega)) (fun ya ⟨ca, a, ea, ba, da, la⟩ => ?_)
      have lena : ya.1.length = a.len := by rw [ea, flat_len]
      refine goes_bnd _ (goes_One ca) (fun y12 c12 => ?_)
      refine goes_bif (fun _ => ?_) (fun _ => ?_)
      · refine goes_ck (by unfold LIMIT; omega) (goes_some ⟨c12, .n a, ?_, ba, by simp only [F.depth]; omega, by simp only [F.len]; omega⟩)
        rw [lena, w64 (by omega), ea]
        simp [flat]
      refine goes_bnd _ (ih K _ m c12 h1 h2 (by omega) (by omega)) (fun yb ⟨cb, b, eb, bb, db, lb⟩ => ?_)
      refine goes_letj (fun v => v = flat ya.1.length b) (fun v hv => ?_) (fun j hj => goes_shift eb (by omega) (by omega) (by omega) (hj _ rfl))
      subst hv
      rw [flat_len, lena]
      refine goes_ck (by unfold LIMIT; omega) ?_
      refine goes_bnd _ (goes_Range cb (by omega) (by omega) (by omega)) (fun y19 ⟨c19, l19, u19⟩ => ?_)
      refine goes_ck (by unfold LIMIT; omega) (goes_some ⟨c19, .b (y19.1 == 3) a b, ?_, ⟨ba, bb⟩, by simp only [F.depth]; omega, by simp only [F.len]; omega⟩)
      have hp := a.len_pos
      have hp' := b.len_pos
      rw [w64 (e := ((a.len : Nat) : Int) - 1) (by omega), w64 (e := ((a.len : Nat) : Int) + ((b.len : Nat) : Int)) (by omega), w64 (by omega), ea]
      simp only [flat, List.append_assoc, Nat.zero_add]
      have ek : kd (y19.1 == 3) = y19.1 := by
        by_cases q : y19.1 = 3
        · rw [q]; rfl
        · have : y19.1 = 4 := by omega
          rw [this]; rfl
      rw [ek]
      congr 4
end Go.Proofs.YtmdolfannbbipaaDoor
namespace Go.Proofs.YtmdolfannbbipaaDoor
open Go Go.Ev
set_option linter.unusedVariables false
theorem F.bd_mono {m n : Nat} (h : m ≤ n) : ∀ {f : F}, f.bd m → f.bd n := by
  intro f
  induction f with
  | c i => intro hb; exact Nat.lt_of_lt_of_le hb h
  | n a ih => intro hb; exact ih hb
  | b w x y ihx ihy => intro hb; exact ⟨ihx hb.1, ihy hb.2⟩
theorem Drawn.ok {m d : Nat} {l : List T_RuleNode} (h : Drawn m d l) (hm : m ≤ 64) (hd : d ≤ 5) : ∃ f, l = flat 0 f ∧ OkF f ∧ f.bd m ∧ f.depth ≤ d + 1 ∧ f.len + 1 ≤ 2 ^ (d + 1) := by
  obtain ⟨f, e, hb, h1, h2⟩ := h
  have hp : (2 : Nat) ^ (d + 1) ≤ 2 ^ 6 := Nat.pow_le_pow_right (by omega) (by omega)
  exact ⟨f, e, ⟨F.bd_mono hm hb, by omega, by omega⟩, hb, h1, h2⟩
theorem goes_Truth {K : Nat} {c : T_Codes} (hc : okC c) : Goes (draw_Codes_Truth K c) (fun y => okC y.2) := by
  unfold draw_Codes_Truth
  exact goes_bnd _ (goes_Next hc) (fun y ⟨y1, _⟩ => goes_some y1)
theorem goes_values {K : Nat} {l : List Int} (hl : okL (okI .u8) l) (hK : 10 ≤ K) : Goes (law19_values K l) (fun v => v.length ≤ 7) := by
  unfold law19_values
  refine goes_bnd _ (goes_New hl) (fun c hc => goes_letj (fun v => v.length ≤ 7) (fun v hv => goes_some hv) (fun j hj => ?_))
  refine goes_bnd _ (goes_Next hc) (fun y ⟨y1, y2, y3, _⟩ => ?_)
  have := y3 (by omega)
  rw [w64 (by omega)]
  refine goes_loop (fun z : Int × List Int × Int × List Int => okC ⟨z.2.1, z.2.2.1⟩ ∧ 0 ≤ z.1 ∧ z.1 + z.2.2.2.length ≤ 7) (fun z => z.1.toNat) ?_ K _ ⟨y1, by simp only; omega, by simp only [List.length_nil]; omega⟩ (by simp only; omega)
  rintro self ⟨n, l1, at1, v⟩ ⟨h1, h2, h3⟩ hself
  simp only at h1 h2 h3
  unfold law19_values_b1
  simp only
  refine goes_bif (fun q => ?_) (fun q => hj _ (by omega))
  simp only [decide_eq_true_eq] at q
  rw [w64 (e := n - 1) (by omega)]
  refine goes_bnd _ (goes_Truth h1) (fun y6 hy6 => ?_)
  refine goes_letj (fun v2 : Int × List Int × Int => okC ⟨v2.2.1, v2.2.2⟩) (fun v2 hv2 => goes_ck (by unfold LIMIT; omega) (hself _ ⟨hv2, by simp only; omega, by simp only [List.length_append, List.length_singleton]; omega⟩ (by simp only; omega))) (fun j2 hj2 => ?_)
  refine goes_bnd _ (goes_One hy6) (fun y9 hy9 => goes_bif (fun _ => ?_) (fun _ => hj2 _ hy9))
  exact goes_bnd _ (goes_Range hy9 (by omega) (by omega) (by omega)) (fun y12 ⟨h12, _⟩ => hj2 _ h12)
end Go.Proofs.YtmdolfannbbipaaDoor
namespace Go.Proofs.YtmdolfannbbipaaDoor
open Go Go.Ev
set_option linter.unusedVariables false
def evs (i : Nat) : ByteArray := sB [99] ++ sB (Lib.itoa (i : Int))
def ngs (a : ByteArray) : ByteArray := sB [33] ++ a
def ops (w : Bool) (a b : ByteArray) : ByteArray := (((sB [40] ++ a) ++ (bif w then sB [32, 38, 32] else sB [32, 124, 32])) ++ b) ++ sB [41]
/-- A rule's text. -/
def textB (f : F) : ByteArray := val evs ngs ops f
theorem itoa_len : ∀ i : Nat, i < 64 → (sB (Lib.itoa (i : Int))).size ≤ 2 := by decide +kernel
theorem sz_evs {i : Nat} (h : i < 64) : (evs i).size ≤ 3 := by
  have := itoa_len i h
  unfold evs
  rw [ByteArray.size_append]
  have : (sB [99]).size = 1 := rfl
  omega
theorem sz_ngs (a : ByteArray) : (ngs a).size = a.size + 1 := by
  unfold ngs
  rw [ByteArray.size_append]
  have : (sB [33]).size = 1 := rfl
  omega
theorem sz_ops (w : Bool) (a b : ByteArray) : (ops w a b).size = a.size + b.size + 5 := by
  unfold ops
  simp only [ByteArray.size_append]
  have h1 : (sB [40]).size = 1 := rfl
  have h2 : (sB [41]).size = 1 := rfl
  have h3 : (bif w then sB [32, 38, 32] else sB [32, 124, 32]).size = 3 := by cases w <;> rfl
  omega
theorem sz_text : ∀ f : F, f.bd 64 → (val evs ngs ops f).size ≤ 6 * f.len ∧ ∀ x ∈ vals evs ngs ops f, x.size ≤ 6 * f.len := by
  intro f
  induction f with
  | c i =>
    intro hb
    have := sz_evs (i := i) hb
    refine ⟨by simp only [val, F.len]; omega, fun x hx => ?_⟩
    simp only [vals, List.mem_singleton] at hx
    subst hx
    simp only [F.len]; omega
  | n a ih =>
    intro hb
    obtain ⟨h1, h2⟩ := ih hb
    have h3 := sz_ngs (val evs ngs ops a)
    refine ⟨by simp only [val, F.len]; omega, fun x hx => ?_⟩
    simp only [vals, List.mem_append, List.mem_singleton] at hx
    simp only [F.len]
    rcases hx with hx | rfl
    · have := h2 x hx; omega
    · omega
  | b w x y ihx ihy =>
    intro hb
    obtain ⟨h1, h2⟩ := ihx hb.1
    obtain ⟨h3, h4⟩ := ihy hb.2
    have h5 := sz_ops w (val evs ngs ops x) (val evs ngs ops y)
    refine ⟨by simp only [val, F.len]; omega, fun z hz => ?_⟩
    simp only [vals, List.mem_append, List.mem_singleton] at hz
    simp only [F.len]
    rcases hz with hz | hz | rfl
    · have := h2 z hz; omega
    · have := h4 z hz; omega
    · omega
theorem goes_Print {K : Nat} {f : F} (hf : OkF f) (hK : 70 ≤ K) : rule_Print K (flat 0 f) = some (textB f, 0) := by
  suffices h : Goes (rule_Print K (flat 0 f)) (fun r => r = (textB f, 0)) by
    obtain ⟨r, h1, h2⟩ := h; rw [h1, h2]
  have hlen := flat_len f 0
  have hp := f.len_pos
  have hf64 := hf.2.1
  let R : Nat → ByteArray := fun i => (vals evs ngs ops f).getD i ByteArray.empty
  have hN : ∀ i, i < (flat 0 f).length → NodeOk evs ngs ops (flat 0 f) R i := fun i hi => by
    have := nodes_ok evs ngs ops ByteArray.empty (flat 0 f) R f 0 hf.1 (seg_flat f) (fun i _ => by rw [Nat.zero_add]) i (by omega)
    rwa [Nat.zero_add] at this
  have hS : ∀ i, i < (flat 0 f).length → (R i).size ≤ 384 := fun i hi => by
    have := (sz_text f hf.1).2 (R i) (getD_mem (by rw [vals_len]; omega))
    omega
  unfold rule_Print
  rw [right_flat hf (by omega)]
  refine goes_bnd (fun y => y = true) (goes_some rfl) (fun y hy => ?_)
  subst hy
  refine goes_bif (fun h => by cases h) (fun _ => ?_)
  refine goes_ck (by unfold LIMIT; omega) ?_
  generalize hl : flat 0 f = l at *
  have b1 : (sB [99]).size = 1 := rfl
  have b2 : (sB [33]).size = 1 := rfl
  have b3 : (sB [40]).size = 1 := rfl
  have b4 : (sB [41]).size = 1 := rfl
  have b5 : (sB [32, 38, 32]).size = 3 := rfl
  have b6 : (sB [32, 124, 32]).size = 3 := rfl
  refine goes_letj (fun z : List ByteArray => z.length = l.length ∧ ∀ j, j < l.length → z.getD j ByteArray.empty = R j) (fun z hz => ?_) (fun j hj => ?_)
  · rw [hz.1, w64 (by omega)]
    refine goes_ck (by omega) (goes_some ?_)
    rw [hz.2 _ (by omega)]
    have := vals_last evs ngs ops ByteArray.empty f
    show ((vals evs ngs ops f).getD _ ByteArray.empty, (0 : Int)) = (textB f, 0)
    rw [show (((l.length : Nat) : Int) - 1).toNat = f.len - 1 by omega, this]
    rfl
  refine goes_loop (fun z : Int × List ByteArray => 0 ≤ z.1 ∧ z.1 ≤ l.length ∧ z.2.length = l.length ∧ (∀ j : Nat, (j : Int) < z.1 → z.2.getD j ByteArray.empty = R j)) (fun z => l.length - z.1.toNat) ?_ K _ ⟨by simp, by simp, by simp, fun j hj => absurd (show (j : Int) < 0 from hj) (by omega)⟩ (by simp; omega)
  rintro self ⟨i, z⟩ ⟨h1, h2, h3, h4⟩ hself
  simp only at h1 h2 h3 h4
  unfold rule_Print_b1
  simp only
  refine goes_bif (fun q => ?_) (fun q => ?_)
  · simp only [decide_eq_true_eq] at q
    have hi : i.toNat < l.length := by omega
    rw [w64 (e := i + 1) (by omega)]
    refine goes_letj (fun z' : List ByteArray => z'.length = l.length ∧ (∀ j : Nat, (j : Int) < i + 1 → z'.getD j ByteArray.empty = R j)) (fun z' hz' => hself _ ⟨by simp only; omega, by simp only; omega, hz'.1, hz'.2⟩ (by simp only; omega)) (fun j2 hj2 => ?_)
    refine goes_ck (by omega) ?_
    have put : ∀ x : ByteArray, x = R i.toNat → Goes (j2 (z.set i.toNat x)) (fun r => r = (textB f, 0)) := fun x hx => hj2 _ ⟨by simp [h3], fun j hj => by
      rw [getD_set]
      split
      · rename_i q; rw [← q.1, hx]
      · rename_i q; exact h4 j (by omega)⟩
    rcases hN i.toNat hi with ⟨k, e, hk, er⟩ | ⟨j, hj, e, er⟩ | ⟨w, j, k, hj, hk, e, er⟩
    · rw [e]
      refine goes_bif (fun _ => ?_) (fun h => by cases h)
      have hz := itoa_len k hk
      refine goes_bnd (fun y => y = sB (Lib.itoa (k : Int))) (by unfold strconv_Itoa; exact goes_ck (by simp only; omega) (goes_some rfl)) (fun y hy => ?_)
      subst hy
      refine goes_ck (by omega) (goes_ck (by omega) (put _ ?_))
      rw [er]; rfl
    · rw [e]
      refine goes_bif (fun h => by cases h) (fun _ => goes_bif (fun _ => ?_) (fun h => by cases h))
      simp only [Int.toNat_natCast]
      have hs := hS j (by omega)
      have ej := h4 j (by omega)
      simp only [ej]
      refine goes_ck (by omega) (goes_ck (by omega) (goes_ck (by omega) (put _ ?_)))
      rw [er]; rfl
    · rw [e]
      simp only [Int.toNat_natCast]
      have hs := hS j (by omega)
      have hs' := hS k (by omega)
      have ej := h4 j (by omega)
      have ek := h4 k (by omega)
      simp only [ej, ek]
      cases w with
      | true =>
        refine goes_bif (fun h => by cases h) (fun _ => goes_bif (fun h => by cases h) (fun _ => goes_bif (fun _ => ?_) (fun h => by cases h)))
        refine goes_ck (by omega) (goes_ck (by omega) (goes_ck (by simp only [ByteArray.size_append]; omega) (goes_ck (by omega) (goes_ck (by simp only [ByteArray.size_append]; omega) (goes_ck (by simp only [ByteArray.size_append]; omega) (goes_ck (by omega) (put _ ?_)))))))
        rw [er]; rfl
      | false =>
        refine goes_bif (fun h => by cases h) (fun _ => goes_bif (fun h => by cases h) (fun _ => goes_bif (fun h => by cases h) (fun _ => ?_)))
        refine goes_ck (by omega) (goes_ck (by omega) (goes_ck (by simp only [ByteArray.size_append]; omega) (goes_ck (by omega) (goes_ck (by simp only [ByteArray.size_append]; omega) (goes_ck (by simp only [ByteArray.size_append]; omega) (goes_ck (by omega) (put _ ?_)))))))
        rw [er]; rfl
  · simp only [decide_eq_false_iff_not] at q
    exact hj _ ⟨h3, fun j hj => h4 j (by omega)⟩
end Go.Proofs.YtmdolfannbbipaaDoor
namespace Go.Proofs.YtmdolfannbbipaaDoor
open Go Go.Ev
set_option linter.unusedVariables false
theorem atoi_of_dec : ∀ i : Nat, i < 64 → Lib.atoiAll (Lib.decDigits i) = .ok (i : Int) := by decide +kernel
theorem dec_isD : ∀ i : Nat, i < 64 → ∀ c ∈ Lib.decDigits i, 48 ≤ c.toNat ∧ c.toNat ≤ 57 := by decide +kernel
theorem dec_head : ∀ i : Nat, i < 64 → (Lib.decDigits i).length = 1 ∨ ((Lib.decDigits i).headD 0).toNat ≠ 48 := by decide +kernel
theorem dec_len : ∀ i : Nat, i < 64 → 1 ≤ (Lib.decDigits i).length ∧ (Lib.decDigits i).length ≤ 2 := by decide +kernel
end Go.Proofs.YtmdolfannbbipaaDoor
namespace Go.Proofs.YtmdolfannbbipaaDoor
open Go Go.Ev
set_option linter.unusedVariables false
def dig (c : UInt8) : Bool := decide (48 ≤ c.toNat) && decide (c.toNat ≤ 57)
/-- How many digits stand ahead. -/
def dc (t : List UInt8) : Nat := (t.takeWhile dig).length
/-- Reads a condition's number. -/
def num (t : List UInt8) (ns : List T_RuleNode) : Option (List UInt8 × List T_RuleNode) :=
  match Lib.atoiAll (t.take (dc t)) with
  | .ok v => bif (dc t == 1) || (t.headD 0).toNat != 48 then some (t.drop (dc t), ns ++ [⟨1, v, 0, 0⟩]) else none
  | _ => none
def opr (t : List UInt8) : Option (Bool × List UInt8) :=
  bif [32, 38, 32].isPrefixOf t then some (true, t.drop 3) else bif [32, 124, 32].isPrefixOf t then some (false, t.drop 3) else none
/-- Reads a part that may be so deep. -/
def rd : Nat → List UInt8 → List T_RuleNode → Option (List UInt8 × List T_RuleNode)
  | 0, _, _ => none
  | d + 1, t, ns =>
    bif decide (ns.length ≤ 64) then
      bif [33].isPrefixOf t then (rd d (t.drop 1) ns).bind fun q => some (q.1, q.2 ++ [⟨2, 0, (q.2.length : Int) - 1, 0⟩])
      else bif [40].isPrefixOf t then
        (rd d (t.drop 1) ns).bind fun q => (opr q.1).bind fun o => (rd d o.2 q.2).bind fun z =>
          bif [41].isPrefixOf z.1 then some (z.1.drop 1, z.2 ++ [⟨kd o.1, 0, (q.2.length : Int) - 1, (z.2.length : Int) - 1⟩]) else none
      else bif [99].isPrefixOf t then num (t.drop 1) ns else none
    else none
theorem sB_list (t : List UInt8) : (sB t).data.toList = t := by simp [sB]
theorem sB_size (t : List UInt8) : (sB t).size = t.length := by simp [sB, ByteArray.size]
theorem sB_of (s : ByteArray) : sB s.data.toList = s := by cases s; simp [sB]
theorem num_len {t : List UInt8} {ns : List T_RuleNode} {q : List UInt8 × List T_RuleNode} (h : num t ns = some q) : q.1.length ≤ t.length ∧ q.2.length = ns.length + 1 := by
  unfold num at h
  split at h
  · cases hb : ((dc t == 1) || (t.headD 0).toNat != 48) with
    | false => rw [hb] at h; cases h
    | true =>
      rw [hb] at h
      obtain rfl := Option.some.inj h
      exact ⟨by simp, by simp⟩
  · cases h
theorem opr_len {t : List UInt8} {o : Bool × List UInt8} (h : opr t = some o) : o.2.length ≤ t.length := by
  unfold opr at h
  cases h1 : [32, 38, 32].isPrefixOf t with
  | true => rw [h1] at h; obtain rfl := Option.some.inj h; simp
  | false =>
    rw [h1] at h
    cases h2 : [32, 124, 32].isPrefixOf t with
    | true => rw [h2] at h; obtain rfl := Option.some.inj h; simp
    | false => rw [h2] at h; cases h
theorem rd_len : ∀ (d : Nat) (t : List UInt8) (ns : List T_RuleNode) (q : List UInt8 × List T_RuleNode), rd d t ns = some q → q.1.length ≤ t.length ∧ 1 ≤ q.2.length ∧ q.2.length ≤ 64 + d := by
  intro d
  induction d with
  | zero => intro t ns q h; cases h
  | succ d ih =>
    intro t ns q h
    unfold rd at h
    cases hn : decide (ns.length ≤ 64) with
    | false => rw [hn] at h; cases h
    | true =>
      rw [hn] at h
      simp only [decide_eq_true_eq] at hn
      simp only [cond_true] at h
      cases h1 : [33].isPrefixOf t with
      | true =>
        simp only [h1, cond_true] at h
        obtain ⟨a, ha, h⟩ := Option.bind_eq_some_iff.1 h
        obtain rfl := Option.some.inj h
        have := ih _ _ _ ha
        simp at this ⊢
        omega
      | false =>
        simp only [h1, cond_false] at h
        cases h2 : [40].isPrefixOf t with
        | true =>
          simp only [h2, cond_true] at h
          obtain ⟨a, ha, h⟩ := Option.bind_eq_some_iff.1 h
          obtain ⟨o, ho, h⟩ := Option.bind_eq_some_iff.1 h
          obtain ⟨z, hz, h⟩ := Option.bind_eq_some_iff.1 h
          cases h3 : [41].isPrefixOf z.1 with
          | false => simp only [h3, cond_false] at h; cases h
          | true =>
            simp only [h3, cond_true] at h
            obtain rfl := Option.some.inj h
            have k1 := ih _ _ _ ha
            have k2 := ih _ _ _ hz
            have k3 := opr_len ho
            simp at k1 k2 k3 ⊢
            omega
        | false =>
          simp only [h2, cond_false] at h
          cases h3 : [99].isPrefixOf t with
          | false => simp only [h3, cond_false] at h; cases h
          | true =>
            simp only [h3, cond_true] at h
            have := num_len h
            simp at this ⊢
            omega
/-! ### the code comes to it -/
theorem take_eq (K : Nat) (t p : List UInt8) (ns : List T_RuleNode) : rule_reader_take K ⟨sB t, ns⟩ (sB p) = some (p.isPrefixOf t, ⟨sB (bif p.isPrefixOf t then t.drop p.length else t), ns⟩) := by
  unfold rule_reader_take strings_CutPrefix
  simp only [bnd, Option.bind_some, sB_list, Lib.trimPrefix, Lib.hasPrefix]
  cases h : p.isPrefixOf t <;> simp
theorem need_t (K : Nat) (y : T_reader) : rule_reader_need K y true = some (some y) := rfl
theorem need_f (K : Nat) (y : T_reader) : rule_reader_need K y false = some none := rfl
theorem add_eq (K : Nat) (s : ByteArray) (ns : List T_RuleNode) (x : T_RuleNode) (h : ns.length ≤ 1000) : rule_reader_add K ⟨s, ns⟩ x = some ((ns.length : Int), ⟨s, ns ++ [x]⟩) := by
  unfold rule_reader_add
  rw [ck_ok (by unfold LIMIT; simp only; omega)]
  simp only [List.length_append, List.length_singleton]
  rw [w64 (by omega)]
  congr 2
  omega
theorem extract_take (t : List UInt8) (n : Nat) : (sB t).extract 0 n = sB (t.take n) := by
  have : ((sB t).extract 0 n).data.toList = t.take n := by simp [sB]
  rw [← sB_of ((sB t).extract 0 n), this]
theorem extract_drop (t : List UInt8) (n : Nat) : (sB t).extract n (sB t).size = sB (t.drop n) := by
  have : ((sB t).extract n (sB t).size).data.toList = t.drop n := by
    simp only [sB, ByteArray.size]
    simp
    rw [List.take_of_length_le (by simp)]
  rw [← sB_of ((sB t).extract n (sB t).size), this]
def emb (q : Option (List UInt8 × List T_RuleNode)) : Option (Int × T_reader) := q.map fun q => ((q.2.length : Int) - 1, ⟨sB q.1, q.2⟩)
theorem bex_s {α β : Type} {y : α} {f : α → Option (Option β)} : bex (some (some y)) f = f y := rfl
theorem bex_n {α β : Type} {f : α → Option (Option β)} : bex (some none) f = some none := rfl
theorem dc_out : ∀ t : List UInt8, dc t < t.length → dig (t.getD (dc t) 0) = false := by
  intro t
  induction t with
  | nil => intro h; simp at h
  | cons c r ih =>
    intro h
    cases hc : dig c with
    | true =>
      have e : dc (c :: r) = dc r + 1 := by simp [dc, hc]
      rw [e] at h ⊢
      have := ih (by simp at h; omega)
      simpa using this
    | false =>
      have e : dc (c :: r) = 0 := by simp [dc, hc]
      rw [e]
      simpa using hc
theorem digits_loop {K : Nat} {t : List UInt8} {ns : List T_RuleNode} {j : Int → Option (Option (Int × T_reader))} {Q : Option (Int × T_reader) → Prop} (hK : t.length + 1 ≤ K) (ht : t.length ≤ 281474976710656) (hj : Goes (j ((dc t : Nat) : Int)) Q) : Goes (loopK (rule_reader_read_b2 K ⟨sB t, ns⟩ j) K 0) Q := by
  have hdc : dc t ≤ t.length := (List.takeWhile_sublist _).length_le
  refine goes_loop (fun i : Int => 0 ≤ i ∧ i ≤ dc t) (fun i => t.length - i.toNat) ?_ K _ ⟨by omega, by omega⟩ (by omega)
  rintro self i ⟨h1, h2⟩ hself
  have hbyte : ∀ n, n < t.length → byteAt (sB t) n = ((t.getD n 0).toNat : Int) := fun n hn => by
    unfold byteAt; rw [sB_list]
  have hin : ∀ n, n < dc t → dig (t.getD n 0) = true := fun n hn => by
    have hm : (t.takeWhile dig)[n]'hn ∈ t.takeWhile dig := List.getElem_mem _
    have := List.all_eq_true.1 (List.all_takeWhile (p := dig) (l := t)) _ hm
    have e : (t.takeWhile dig)[n]'hn = t.getD n 0 := by
      have hp := (List.takeWhile_prefix dig (l := t)).getElem hn
      rw [hp]
      simp [show n < t.length by omega]
    rwa [e] at this
  unfold rule_reader_read_b2
  simp only [sB_size]
  refine goes_bif (fun q => ?_) (fun q => ?_)
  · simp only [decide_eq_true_eq] at q
    refine goes_ck (by omega) ?_
    rw [hbyte i.toNat (by omega)]
    by_cases hlt : i < dc t
    · have hd := hin i.toNat (by omega)
      unfold dig at hd
      simp only [Bool.and_eq_true, decide_eq_true_eq] at hd
      refine goes_bif (fun _ => goes_bif (fun _ => ?_) (fun q2 => by simp only [decide_eq_false_iff_not] at q2; omega)) (fun q1 => by simp only [decide_eq_false_iff_not] at q1; omega)
      rw [w64 (by omega)]
      exact hself _ ⟨by omega, by omega⟩ (by omega)
    · have e : i = ((dc t : Nat) : Int) := by omega
      have hout := dc_out t (by omega)
      subst e
      simp only [Int.toNat_natCast] at q ⊢
      unfold dig at hout
      refine goes_bif (fun q1 => goes_bif (fun q2 => ?_) (fun _ => hj)) (fun _ => hj)
      simp only [decide_eq_true_eq] at q1 q2
      rw [decide_eq_true (by omega), decide_eq_true (by omega)] at hout
      cases hout
  · simp only [decide_eq_false_iff_not] at q
    have e : i = ((dc t : Nat) : Int) := by omega
    rw [e]; exact hj
theorem goes_eq {α : Type} {x : Option α} {r : α} (h : x = some r) : Goes x (fun y => y = r) := ⟨r, h, rfl⟩
/-- A condition's number. -/
theorem leaf_eq {K : Nat} {t : List UInt8} {ns : List T_RuleNode} (hn : ns.length ≤ 1000) (ht : t.length ≤ 281474976710656) :
    (ck ((0 : Int) ≤ ((dc t : Nat) : Int)) (ck (0 ≤ (((dc t : Nat) : Int)).toNat ∧ (((dc t : Nat) : Int)).toNat ≤ (⟨sB t, ns⟩ : T_reader).text_.size) (bnd (strconv_Atoi K ((⟨sB t, ns⟩ : T_reader).text_.extract 0 (((dc t : Nat) : Int)).toNat)) fun y37 => (bif y37.2 then (bex (rule_reader_need K (⟨sB t, ns⟩ : T_reader) false) fun y40 => (ck ((((dc t : Nat) : Int)).toNat ≤ y40.text_.size ∧ y40.text_.size ≤ y40.text_.size) (bnd (rule_reader_add K { y40 with text_ := (y40.text_.extract (((dc t : Nat) : Int)).toNat y40.text_.size) } (⟨1, y37.1, 0, 0⟩ : T_RuleNode)) fun y43 => (some (some (y43.1, y43.2)))))) else (bif (((dc t : Nat) : Int) == 1) then (bex (rule_reader_need K (⟨sB t, ns⟩ : T_reader) true) fun y46 => (ck ((((dc t : Nat) : Int)).toNat ≤ y46.text_.size ∧ y46.text_.size ≤ y46.text_.size) (bnd (rule_reader_add K { y46 with text_ := (y46.text_.extract (((dc t : Nat) : Int)).toNat y46.text_.size) } (⟨1, y37.1, 0, 0⟩ : T_RuleNode)) fun y49 => (some (some (y49.1, y49.2)))))) else (ck (0 ≤ (0 : Int) ∧ (0 : Int) < (((⟨sB t, ns⟩ : T_reader).text_.size : Nat) : Int)) (bex (rule_reader_need K (⟨sB t, ns⟩ : T_reader) ((byteAt (⟨sB t, ns⟩ : T_reader).text_ 0) != 48)) fun y52 => (ck ((((dc t : Nat) : Int)).toNat ≤ y52.text_.size ∧ y52.text_.size ≤ y52.text_.size) (bnd (rule_reader_add K { y52 with text_ := (y52.text_.extract (((dc t : Nat) : Int)).toNat y52.text_.size) } (⟨1, y37.1, 0, 0⟩ : T_RuleNode)) fun y55 => (some (some (y55.1, y55.2)))))))))))) = some (emb (num t ns)) := by
  have hdc : dc t ≤ t.length := (List.takeWhile_sublist _).length_le
  simp only [Int.toNat_natCast, sB_size, extract_take]
  rw [ck_ok (by omega), ck_ok (by omega)]
  unfold strconv_Atoi
  rw [ck_ok (by rw [sB_size, List.length_take]; omega), sB_list]
  have fin : ∀ v : Int, (ck (dc t ≤ (sB t).size ∧ (sB t).size ≤ (sB t).size) (bnd (rule_reader_add K { (⟨sB t, ns⟩ : T_reader) with text_ := ((sB t).extract (dc t) (sB t).size) } (⟨1, v, 0, 0⟩ : T_RuleNode)) fun y49 => (some (some (y49.1, y49.2))))) = some (emb (some (t.drop (dc t), ns ++ [⟨1, v, 0, 0⟩]))) := by
    intro v
    rw [ck_ok (by rw [sB_size]; omega), extract_drop, add_eq _ _ _ _ hn]
    simp [bnd, emb]
  have hne : Lib.atoiAll (t.take (dc t)) ≠ Lib.atoiAll [] → 1 ≤ dc t := fun h => by
    rcases Nat.eq_zero_or_pos (dc t) with e | e
    · rw [e] at h; simp at h
    · exact e
  unfold num
  cases hc : Lib.atoiAll (t.take (dc t)) with
  | ok v =>
    have h1 : 1 ≤ dc t := hne (by rw [hc]; intro e; cases e)
    simp only [bnd, Option.bind_some, cond_false]
    have hb : byteAt (sB t) 0 = ((t.headD 0).toNat : Int) := by
      unfold byteAt; rw [sB_list]
      cases t with
      | nil => rfl
      | cons c r => rfl
    cases h2 : (dc t == 1) with
    | true =>
      have e : (((dc t : Nat) : Int) == 1) = true := by
        have := eq_of_beq h2; rw [this]; rfl
      rw [e, need_t]
      simp only [cond_true, bex_s, Bool.true_or]
      exact fin v
    | false =>
      have e : (((dc t : Nat) : Int) == 1) = false := by
        have := ne_of_beq_false h2
        rw [beq_eq_false_iff_ne]; omega
      rw [e]
      simp only [cond_false, Bool.false_or]
      rw [ck_ok (by omega), hb]
      cases h3 : ((t.headD 0).toNat != 48) with
      | true =>
        have e3 : ((((t.headD 0).toNat : Nat) : Int) != 48) = true := by
          have : (t.headD 0).toNat ≠ 48 := by simpa using h3
          rw [bne_iff_ne]; omega
        rw [e3, need_t]
        simp only [cond_true, bex_s]
        exact fin v
      | false =>
        have e3 : ((((t.headD 0).toNat : Nat) : Int) != 48) = false := by
          have : (t.headD 0).toNat = 48 := by simpa using h3
          rw [this]; rfl
        rw [e3, need_f]
        rfl
  | range => rfl
  | _ => rfl
end Go.Proofs.YtmdolfannbbipaaDoor
namespace Go.Proofs.YtmdolfannbbipaaDoor
open Go Go.Ev
set_option linter.unusedVariables false
theorem of_goes {α : Type} {x : Option α} {r : α} (h : Goes x (fun y => y = r)) : x = some r := by
  obtain ⟨y, h1, h2⟩ := h; rw [h1, h2]
theorem read_eq : ∀ (d K : Nat) (t : List UInt8) (ns : List T_RuleNode), d ≤ 100 → t.length ≤ 281474976710656 → t.length + d + 2 ≤ K → rule_reader_read K ⟨sB t, ns⟩ (d : Int) = some (emb (rd d t ns)) := by
  intro d
  induction d with
  | zero =>
    intro K t ns _ _ hK
    match K, hK with
    | K + 1, _ => rfl
  | succ d ih =>
    intro K t ns hd ht hK
    match K, hK with
    | K + 1, hK =>
      show rule_reader_read_F K (rule_reader_read K) ⟨sB t, ns⟩ _ = _
      unfold rule_reader_read_F
      rw [bl_true (decide_eq_true (by omega))]
      have e1 : IntKind.wrap .i64 (((d + 1 : Nat) : Int) - 1) = (d : Int) := by rw [w64 (by omega)]; omega
      rw [e1]
      rw [rd]
      have ht1 : (t.drop 1).length ≤ t.length := by simp
      cases hn : decide (ns.length ≤ 64) with
      | false =>
        have hn' : decide (((ns.length : Nat) : Int) ≤ 64) = false := by
          simp only [decide_eq_false_iff_not] at hn ⊢; omega
        simp only [hn', need_f, bex_n, cond_false]
        rfl
      | true =>
        simp only [decide_eq_true_eq] at hn
        have hn' : decide (((ns.length : Nat) : Int) ≤ 64) = true := by
          simp only [decide_eq_true_eq]; omega
        simp only [hn', need_t, bex_s, cond_true, take_eq, bnd, Option.bind_some]
        cases h1 : [33].isPrefixOf t with
        | true =>
          simp only [cond_true, List.length_singleton]
          rw [ih K (t.drop 1) ns (by omega) (by omega) (by omega)]
          cases hr : rd d (t.drop 1) ns with
          | none => rfl
          | some q =>
            have hl := rd_len _ _ _ _ hr
            simp only [emb, Option.map_some, bex_s, Option.bind_some]
            rw [add_eq _ _ _ _ (by omega)]
            simp
        | false =>
          simp only [cond_false]
          cases h2 : [40].isPrefixOf t with
          | true =>
            simp only [cond_true, List.length_singleton]
            rw [ih K (t.drop 1) ns (by omega) (by omega) (by omega)]
            cases hr : rd d (t.drop 1) ns with
            | none => rfl
            | some q =>
              have hl := rd_len _ _ _ _ hr
              simp only [emb, Option.map_some, bex_s, Option.bind_some, letj, take_eq]
              unfold opr
              have hl2 : (q.1.drop 3).length ≤ q.1.length := by simp
              have tail : ∀ (w : Bool) (ns2 : List T_RuleNode), ns2 = q.2 → (bex (rule_reader_read K (⟨sB (q.1.drop 3), ns2⟩ : T_reader) (d : Int)) fun y16 => (bnd (rule_reader_take K y16.2 (sB [41])) fun y18 => (bex (rule_reader_need K y18.2 y18.1) fun y20 => (bnd (rule_reader_add K y20 (⟨kd w, 0, (q.2.length : Int) - 1, y16.1⟩ : T_RuleNode)) fun y22 => (some (some (y22.1, y22.2))))))) = some (emb ((rd d (q.1.drop 3) q.2).bind fun z => bif [41].isPrefixOf z.1 then some (z.1.drop 1, z.2 ++ [⟨kd w, 0, (q.2.length : Int) - 1, (z.2.length : Int) - 1⟩]) else none)) := by
                intro w ns2 e
                subst e
                rw [ih K (q.1.drop 3) q.2 (by omega) (by omega) (by omega)]
                cases hz : rd d (q.1.drop 3) q.2 with
                | none => rfl
                | some z =>
                  have hlz := rd_len _ _ _ _ hz
                  simp only [emb, Option.map_some, bex_s, Option.bind_some, bnd, take_eq]
                  cases h4 : [41].isPrefixOf z.1 with
                  | false => simp only [need_f, bex_n, cond_false]; rfl
                  | true =>
                    simp only [need_t, bex_s, cond_true, List.length_singleton]
                    rw [add_eq _ _ _ _ (by omega)]
                    simp
              cases h4 : [32, 38, 32].isPrefixOf q.1 with
              | true =>
                simp only [cond_true, Bool.not_true, cond_false, Option.bind_some]
                exact tail true _ rfl
              | false =>
                simp only [cond_true, Bool.not_false, cond_false]
                cases h5 : [32, 124, 32].isPrefixOf q.1 with
                | true =>
                  simp only [cond_true, need_t, bex_s, Option.bind_some]
                  exact tail false _ rfl
                | false =>
                  simp only [need_f, bex_n, cond_false]
                  rfl
          | false =>
            simp only [cond_false]
            cases h3 : [99].isPrefixOf t with
            | false =>
              simp only [need_f, bex_n, cond_false]
              rfl
            | true =>
              simp only [cond_true, need_t, bex_s, letj, List.length_singleton]
              refine of_goes ?_
              exact digits_loop (by omega) (by omega) (goes_eq (leaf_eq (by omega) (by omega)))
end Go.Proofs.YtmdolfannbbipaaDoor
namespace Go.Proofs.YtmdolfannbbipaaDoor
open Go Go.Ev
set_option linter.unusedVariables false
/-- A rule's text, as a list. -/
def txt : F → List UInt8
  | .c i => 99 :: Lib.decDigits i
  | .n a => 33 :: txt a
  | .b w x y => 40 :: (txt x ++ ((bif w then [32, 38, 32] else [32, 124, 32]) ++ (txt y ++ [41])))
theorem sB_app (a b : List UInt8) : sB a ++ sB b = sB (a ++ b) := by
  rw [← sB_of (sB a ++ sB b)]
  congr 1
theorem text_txt : ∀ f : F, textB f = sB (txt f) := by
  intro f
  unfold textB
  induction f with
  | c i => simp only [val, evs, txt, Lib.itoa_nonneg, sB_app]; rfl
  | n a ih => simp only [val, ngs, txt, ih, sB_app]; rfl
  | b w x y ihx ihy =>
    simp only [val, ops, txt, ihx, ihy]
    cases w <;> simp [sB_app]
end Go.Proofs.YtmdolfannbbipaaDoor
namespace Go.Proofs.YtmdolfannbbipaaDoor
open Go Go.Ev
set_option linter.unusedVariables false
theorem tw_app {a r : List UInt8} (ha : ∀ c ∈ a, dig c = true) (hr : ∀ c, r.head? = some c → dig c = false) : (a ++ r).takeWhile dig = a := by
  induction a with
  | nil =>
    cases r with
    | nil => rfl
    | cons c r => simp [hr c rfl]
  | cons c a ih =>
    rw [List.cons_append, List.takeWhile_cons, if_pos (ha c (by simp)), ih (fun x hx => ha x (by simp [hx]))]
theorem num_complete {i : Nat} (hi : i < 64) (rest : List UInt8) (ns : List T_RuleNode) (hr : ∀ c, rest.head? = some c → dig c = false) : num (Lib.decDigits i ++ rest) ns = some (rest, ns ++ [⟨1, (i : Int), 0, 0⟩]) := by
  have hd : ∀ c ∈ Lib.decDigits i, dig c = true := fun c hc => by
    have := dec_isD i hi c hc
    unfold dig
    simp only [Bool.and_eq_true, decide_eq_true_eq]
    exact this
  have e : dc (Lib.decDigits i ++ rest) = (Lib.decDigits i).length := by unfold dc; rw [tw_app hd hr]
  have hl := dec_len i hi
  have hh := dec_head i hi
  unfold num
  rw [e, List.take_left, List.drop_left, atoi_of_dec i hi]
  have e2 : (((Lib.decDigits i).length == 1) || ((Lib.decDigits i ++ rest).headD 0).toNat != 48) = true := by
    simp only [Bool.or_eq_true, beq_iff_eq, bne_iff_ne]
    rcases hh with h | h
    · exact .inl h
    · refine .inr ?_
      cases hq : Lib.decDigits i with
      | nil => rw [hq] at hl; simp at hl
      | cons c r => rw [hq] at h; simpa using h
  simp only [e2, cond_true]
theorem rd_complete : ∀ (f : F) (d : Nat) (rest : List UInt8) (ns : List T_RuleNode), f.bd 64 → f.depth ≤ d → ns.length + f.len ≤ 65 → (∀ c, rest.head? = some c → dig c = false) → rd d (txt f ++ rest) ns = some (rest, ns ++ flat ns.length f) := by
  intro f
  induction f with
  | c i =>
    intro d rest ns hb hd hl hr
    simp only [F.depth] at hd
    simp only [F.len] at hl
    match d, hd with
    | d + 1, _ =>
      rw [rd, decide_eq_true (by omega)]
      have := num_complete (i := i) hb rest ns hr
      have p1 : [33].isPrefixOf (txt (.c i) ++ rest) = false := rfl
      have p2 : [40].isPrefixOf (txt (.c i) ++ rest) = false := rfl
      have p3 : [99].isPrefixOf (txt (.c i) ++ rest) = true := rfl
      rw [p1, p2, p3]
      exact this
  | n a ih =>
    intro d rest ns hb hd hl hr
    simp only [F.depth] at hd
    simp only [F.len] at hl
    match d, hd with
    | d + 1, hd =>
      rw [rd, decide_eq_true (by omega)]
      have := ih d rest ns hb (by omega) (by omega) hr
      have p1 : [33].isPrefixOf (txt (.n a) ++ rest) = true := rfl
      rw [p1]
      have e : (txt (.n a) ++ rest).drop 1 = txt a ++ rest := rfl
      simp only [cond_true, e]
      rw [this]
      simp [flat, flat_len]
  | b w x y ihx ihy =>
    intro d rest ns hb hd hl hr
    simp only [F.depth] at hd
    simp only [F.len] at hl
    match d, hd with
    | d + 1, hd =>
      rw [rd, decide_eq_true (by omega)]
      have hy := ihy d (41 :: rest) (ns ++ flat ns.length x) hb.2 (by omega) (by simp [flat_len]; omega) (fun c hc => by
        simp at hc; subst hc; rfl)
      have hx := ihx d ((bif w then [32, 38, 32] else [32, 124, 32]) ++ (txt y ++ (41 :: rest))) ns hb.1 (by omega) (by omega) (fun c hc => by
        cases w <;> (simp at hc; subst hc; rfl))
      have et : txt (.b w x y) ++ rest = 40 :: (txt x ++ ((bif w then [32, 38, 32] else [32, 124, 32]) ++ (txt y ++ (41 :: rest)))) := by simp [txt]
      have eo : opr ((bif w then [32, 38, 32] else [32, 124, 32]) ++ (txt y ++ (41 :: rest))) = some (w, txt y ++ (41 :: rest)) := by
        cases w
        · rfl
        · rfl
      rw [et]
      have p1 : [33].isPrefixOf (40 :: (txt x ++ ((bif w then [32, 38, 32] else [32, 124, 32]) ++ (txt y ++ (41 :: rest))))) = false := rfl
      have p2 : [40].isPrefixOf (40 :: (txt x ++ ((bif w then [32, 38, 32] else [32, 124, 32]) ++ (txt y ++ (41 :: rest))))) = true := rfl
      rw [p1, p2]
      simp only [cond_true, cond_false, List.drop_succ_cons, List.drop_zero]
      rw [hx]
      simp only [Option.bind_some, eo]
      rw [hy]
      simp [flat, flat_len]
      omega
end Go.Proofs.YtmdolfannbbipaaDoor
namespace Go.Proofs.YtmdolfannbbipaaDoor
open Go Go.Ev
set_option linter.unusedVariables false
theorem awakeK (k : Nat) : law19_awake (k + 80) = some true := by kernel_rfl
theorem awake_at {K : Nat} (h : 80 ≤ K) : law19_awake K = some true := by
  have := awakeK (K - 80)
  rwa [Nat.sub_add_cancel h] at this
theorem sz_textB {f : F} (h : OkF f) : (textB f).size ≤ 384 := by
  have := (sz_text f h.1).1
  have := h.2.1
  unfold textB
  omega
theorem parse_print {K : Nat} {f : F} (ok : OkF f) (hK : 500 ≤ K) : rule_Parse K (textB f) = some (flat 0 f, 0) := by
  have hs := sz_textB ok
  have hl : (txt f).length = (textB f).size := by rw [text_txt, sB_size]
  have he := read_eq 16 K (txt f) [] (by omega) (by omega) (by omega)
  have hc := rd_complete f 16 [] [] ok.1 ok.2.2 (by have := ok.2.1; simp; omega) (by simp)
  rw [List.append_nil] at hc
  rw [hc, ← text_txt] at he
  unfold rule_Parse
  have he' : rule_reader_read K (⟨textB f, []⟩ : T_reader) 16 = _ := he
  rw [he']
  simp only [emb, Option.map_some, Option.bind_some, beq_self_eq_true, cond_true, List.nil_append, List.length_nil]
  rw [right_flat ok (by omega)]
  rfl
end Go.Proofs.YtmdolfannbbipaaDoor
namespace Go.Proofs.YtmdolfannbbipaaDoor
open Go Go.Ev
set_option linter.unusedVariables false
theorem t_or_not (a b : F) : (((sB [33, 40] ++ textB a) ++ sB [32, 124, 32]) ++ textB b) ++ sB [41] = textB (.n (.b false a b)) := by
  simp only [text_txt, sB_app]
  congr 1
  simp [txt]
theorem t_not_and (a b : F) : (((sB [40, 33] ++ textB a) ++ sB [32, 38, 32, 33]) ++ textB b) ++ sB [41] = textB (.b true (.n a) (.n b)) := by
  simp only [text_txt, sB_app]
  congr 1
  simp [txt]
theorem pure_law19_RuleLaws : Said_law19_RuleLaws := by
  intro a0 a1 h0 h1
  refine ⟨600, ?_⟩
  generalize hK : (600 : Nat) = K
  suffices h : Goes (law19_RuleLaws K a0 a1) (fun r => r = true) by
    obtain ⟨r, k1, k2⟩ := h; rw [k1, k2]
  have aw : Goes (bnd (law19_awake K) fun y14 => (some y14)) (fun r => r = true) := goes_bnd (fun r => r = true) (goes_of (awake_at (by omega)) rfl) (fun r hr => goes_some hr)
  unfold law19_RuleLaws
  refine goes_bnd _ (goes_New h0) (fun c hc => ?_)
  refine goes_bnd _ (goes_Rule 3 K c 5 hc (by omega) (by omega) (by omega) (by omega)) (fun ya ⟨hc2, hya⟩ => ?_)
  refine goes_bnd _ (goes_Rule 3 K ya.2 5 hc2 (by omega) (by omega) (by omega) (by omega)) (fun yb ⟨_, hyb⟩ => ?_)
  refine goes_bnd _ (goes_values h1 (by omega)) (fun v hv => ?_)
  obtain ⟨a, ea, ha, _, da, la⟩ := hya.ok (by omega) (by omega)
  obtain ⟨b, eb, hb, _, db, lb⟩ := hyb.ok (by omega) (by omega)
  have la : a.len ≤ 15 := by have : (2 : Nat) ^ (3 + 1) = 16 := rfl; omega
  have lb : b.len ≤ 15 := by have : (2 : Nat) ^ (3 + 1) = 16 := rfl; omega
  have o1 : OkF (.n a) := ⟨ha.1, by simp only [F.len]; omega, by simp only [F.depth]; omega⟩
  have o2 : ∀ w, OkF (.b w a b) := fun w => ⟨⟨ha.1, hb.1⟩, by simp only [F.len]; omega, by simp only [F.depth]; omega⟩
  have o3 : OkF (.n (.b false a b)) := ⟨⟨ha.1, hb.1⟩, by simp only [F.len]; omega, by simp only [F.depth]; omega⟩
  have o4 : OkF (.b true (.n a) (.n b)) := ⟨⟨ha.1, hb.1⟩, by simp only [F.len]; omega, by simp only [F.depth]; omega⟩
  have sa := sz_textB ha
  have sb := sz_textB hb
  have b1 : (sB [33]).size = 1 := rfl
  have b2 : (sB [40]).size = 1 := rfl
  have b3 : (sB [41]).size = 1 := rfl
  have b4 : (sB [32, 38, 32]).size = 3 := rfl
  have b5 : (sB [32, 124, 32]).size = 3 := rfl
  have b6 : (sB [33, 40]).size = 2 := rfl
  have b7 : (sB [40, 33]).size = 2 := rfl
  have b8 : (sB [32, 38, 32, 33]).size = 4 := rfl
  rw [ea, eb, goes_Print ha (by omega), goes_Print hb (by omega)]
  simp only [bnd, Option.bind_some]
  have p1 : rule_Parse K (sB [33] ++ textB a) = some (flat 0 (.n a), 0) := parse_print (f := .n a) o1 (by omega)
  have p2 : rule_Parse K ((((sB [40] ++ textB a) ++ sB [32, 38, 32]) ++ textB b) ++ sB [41]) = some (flat 0 (.b true a b), 0) := parse_print (f := .b true a b) (o2 true) (by omega)
  have p3 : rule_Parse K ((((sB [40] ++ textB a) ++ sB [32, 124, 32]) ++ textB b) ++ sB [41]) = some (flat 0 (.b false a b), 0) := parse_print (f := .b false a b) (o2 false) (by omega)
  have p4 : rule_Parse K ((((sB [33, 40] ++ textB a) ++ sB [32, 124, 32]) ++ textB b) ++ sB [41]) = some (flat 0 (.n (.b false a b)), 0) := by rw [t_or_not]; exact parse_print o3 (by omega)
  have p5 : rule_Parse K ((((sB [40, 33] ++ textB a) ++ sB [32, 38, 32, 33]) ++ textB b) ++ sB [41]) = some (flat 0 (.b true (.n a) (.n b)), 0) := by rw [t_not_and]; exact parse_print o4 (by omega)
  rw [p1, p2, p3, p4, p5, goes_Eval ha (by omega), goes_Eval hb (by omega)]
  simp only [Option.bind_some]
  rw [goes_Eval o1 (by omega), goes_Eval (o2 true) (by omega), goes_Eval (o2 false) (by omega), goes_Eval o3 (by omega), goes_Eval o4 (by omega)]
  simp only [Option.bind_some, ByteArray.size_append, bne_self_eq_false, cond_false]
  have ba := evf_bd v a
  have bb := evf_bd v b
  have e1 : evf v (.n a) = -(evf v a) := rfl
  have e2 : evf v (.b true a b) = (if evf v b < evf v a then evf v b else evf v a) := rfl
  have e3 : evf v (.b false a b) = (if evf v a < evf v b then evf v b else evf v a) := rfl
  have e4 : evf v (.n (.b false a b)) = -(if evf v a < evf v b then evf v b else evf v a) := rfl
  have e5 : evf v (.b true (.n a) (.n b)) = (if -(evf v b) < -(evf v a) then -(evf v b) else -(evf v a)) := rfl
  have e6 : evf v (.n (.b false a b)) = evf v (.b true (.n a) (.n b)) := by
    rw [e4, e5]; split <;> split <;> omega
  rw [e6, w64 (by omega), e1, show 0 - evf v a = -(evf v a) by omega, e2, e3]
  simp only [beq_self_eq_true, cond_true]
  repeat refine goes_ck (by omega) ?_
  exact aw
end Go.Proofs.YtmdolfannbbipaaDoor
