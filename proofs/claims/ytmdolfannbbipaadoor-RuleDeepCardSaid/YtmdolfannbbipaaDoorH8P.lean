/- The plain law. -/
import Derived.Test.YtmdolfannbbipaaDoorH8A
import Derived.KernelRfl
namespace Go.Ev
open Go
set_option linter.unusedVariables false

def Goes {α : Type} (x : Option α) (Q : α → Prop) : Prop := ∃ r, x = some r ∧ Q r
section
variable {α β ρ : Type}
theorem Goes.mono {x : Option α} {Q R : α → Prop} (h : Goes x Q) (k : ∀ r, Q r → R r) : Goes x R := by
  obtain ⟨r, h1, h2⟩ := h; exact ⟨r, h1, k r h2⟩
theorem Goes.and {x : Option α} {Q R : α → Prop} (h : Goes x Q) (k : Goes x R) : Goes x (fun r => Q r ∧ R r) := by
  obtain ⟨r, h1, h2⟩ := h
  obtain ⟨s, k1, k2⟩ := k
  rw [h1] at k1
  obtain rfl := Option.some.inj k1
  exact ⟨r, h1, h2, k2⟩
theorem Goes.val {x : Option α} {Q : α → Prop} {r : α} (h : Goes x Q) (e : x = some r) : Q r := by
  obtain ⟨s, h1, h2⟩ := h
  rw [e] at h1
  obtain rfl := Option.some.inj h1
  exact h2
theorem goes_some {r : α} {Q : α → Prop} (h : Q r) : Goes (some r) Q := ⟨r, rfl, h⟩
theorem goes_of {x : Option α} {r : α} {Q : α → Prop} (e : x = some r) (h : Q r) : Goes x Q := ⟨r, e, h⟩
theorem goes_bnd {x : Option α} {f : α → Option β} {Q : β → Prop} (M : α → Prop) (h : Goes x M) (k : ∀ y, M y → Goes (f y) Q) : Goes (bnd x f) Q := by
  obtain ⟨y, h1, h2⟩ := h
  rw [bnd_ok h1]; exact k y h2
theorem goes_ck {p : Prop} [Decidable p] {x : Option α} {Q : α → Prop} (hp : p) (h : Goes x Q) : Goes (ck p x) Q := by rw [ck_ok hp]; exact h
theorem goes_bif {b : Bool} {x y : Option α} {Q : α → Prop} (h : b = true → Goes x Q) (k : b = false → Goes y Q) : Goes (bif b then x else y) Q := by
  cases b with
  | true => exact h rfl
  | false => exact k rfl
theorem goes_letj {j : α → Option ρ} {A : (α → Option ρ) → Option ρ} {Q : ρ → Prop} (J : α → Prop) (hj : ∀ v, J v → Goes (j v) Q) (hA : ∀ j' : α → Option ρ, (∀ v, J v → Goes (j' v) Q) → Goes (A j') Q) : Goes (letj j A) Q := hA j hj
theorem goes_loop {B : (α → Option ρ) → α → Option ρ} {Q : ρ → Prop} (Inv : α → Prop) (m : α → Nat)
    (step : ∀ self v, Inv v → (∀ v', Inv v' → m v' < m v → Goes (self v') Q) → Goes (B self v) Q) : ∀ (K : Nat) (v : α), Inv v → m v < K → Goes (loopK B K v) Q := by
  intro K
  induction K with
  | zero => intro v _ h; omega
  | succ k ih => intro v hv hm; exact step _ v hv (fun v' h1 h2 => ih v' h1 (by omega))
end
theorem w64 {e : Int} (h : -9223372036854775808 ≤ e ∧ e < 9223372036854775808) : IntKind.wrap .i64 e = e := by
  have hb : (2 : Int) ^ IntKind.bits .i64 = 18446744073709551616 := by decide
  have hb' : (2 : Int) ^ (IntKind.bits .i64 - 1) = 9223372036854775808 := by decide
  have hs : IntKind.signed .i64 = true := by decide
  unfold IntKind.wrap
  rw [hb, hb', hs]
  simp only [Bool.true_and, decide_eq_true_eq]
  split <;> omega
theorem okI_i64 {n : Int} (h : okI .i64 n) : -9223372036854775808 ≤ n ∧ n < 9223372036854775808 := by
  have hb : (Lit.int .i64 n).wf = true := h
  simp [Lit.wf, IntKind.min, IntKind.max, IntKind.signed, IntKind.bits] at hb
  omega
theorem okI_u8 {n : Int} (h : okI .u8 n) : 0 ≤ n ∧ n ≤ 255 := by
  have hb : (Lit.int .u8 n).wf = true := h
  simp [Lit.wf, IntKind.min, IntKind.max, IntKind.signed, IntKind.bits] at hb
  omega
theorem w64_range (e : Int) : -9223372036854775808 ≤ IntKind.wrap .i64 e ∧ IntKind.wrap .i64 e < 9223372036854775808 := by
  have hb : (2 : Int) ^ IntKind.bits .i64 = 18446744073709551616 := by decide
  have hb' : (2 : Int) ^ (IntKind.bits .i64 - 1) = 9223372036854775808 := by decide
  have hs : IntKind.signed .i64 = true := by decide
  unfold IntKind.wrap
  rw [hb, hb', hs]
  simp only [Bool.true_and, decide_eq_true_eq]
  split <;> omega
theorem getD_mem {α : Type} {l : List α} {i : Nat} {d : α} (h : i < l.length) : l.getD i d ∈ l := by
  rw [List.getD_eq_getElem?_getD, List.getElem?_eq_getElem h]
  exact List.getElem_mem h
theorem bl_true {b : Bool} {α : Type} {x y : α} (h : b = true) : (bif b then x else y) = x := by rw [h]; rfl
theorem bl_false {b : Bool} {α : Type} {x y : α} (h : b = false) : (bif b then x else y) = y := by rw [h]; rfl
end Go.Ev
namespace Go.Proofs.YtmdolfannbbipaaDoor
open Go Go.Ev
set_option linter.unusedVariables false
def deepOk (b : Bool) (n : Nat) : Bool := law19_RuleDeep 80 ((n : Nat) : Int) b == some true
theorem deep_all1 : (List.range 256).all (deepOk true) = true := by kernel_rfl
theorem deep_all0 : (List.range 256).all (deepOk false) = true := by kernel_rfl
theorem pure_law19_RuleDeep : Said_law19_RuleDeep := by
  intro a0 a1 h0 h1
  have h0 := okI_u8 h0
  refine ⟨80, ?_⟩
  have hm : a0 = ((a0.toNat : Nat) : Int) := by omega
  have hr : a0.toNat ∈ List.range 256 := List.mem_range.2 (by omega)
  rw [hm]
  cases a1 with
  | true => exact eq_of_beq (List.all_eq_true.1 deep_all1 _ hr)
  | false => exact eq_of_beq (List.all_eq_true.1 deep_all0 _ hr)
end Go.Proofs.YtmdolfannbbipaaDoor
