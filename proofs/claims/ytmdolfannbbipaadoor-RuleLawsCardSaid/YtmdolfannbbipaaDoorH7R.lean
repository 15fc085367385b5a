/- RuleLaws holds: for every input the law returns true, and each argument reads as it did. No condition beyond the given statement's own. -/
import Derived.Test.YtmdolfannbbipaaDoorRows
import Derived.Test.YtmdolfannbbipaaDoorTie
import Derived.Test.YtmdolfannbbipaaDoorCards
import Derived.Test.YtmdolfannbbipaaDoorEvRow
import Derived.Test.YtmdolfannbbipaaDoorH7B2
import Derived.Test.YtmdolfannbbipaaDoorH7P
import Derived.ProofKit
import Derived.LaidMore
import Derived.OpenShut
import Derived.Stop.Joined
import Derived.Stop.LaidErr
import Derived.MakeChecks
namespace Go.Proofs.YtmdolfannbbipaaDoor
open Go Go.ChangeShapes Go.WideShapes Go.ChangeAt Go.RowKit Go.Ev
set_option linter.unusedVariables false

end Go.Proofs.YtmdolfannbbipaaDoor
namespace Go.Proofs.YtmdolfannbbipaaDoor
open Go Go.ChangeShapes Go.WideShapes Go.ChangeAt Go.RowKit Go.Ev
set_option linter.unusedVariables false
set_option maxRecDepth 100000

abbrev laid19 : List (String × DataW Unit) := Rows.ruleChecksRow.laid
theorem own : ownKnob Tryd.prog.godebug = none := by kernel_rfl
theorem laidOut : laidOutB Tryd.prog = true := by kernel_rfl
theorem door_met (os : Os) (args : Array Value) : laidMetH Tryd.prog laid19 ((World.doorLaid Tryd.prog 72 os).forCall (fun _ _ => 0) ⟨#[], args, []⟩).memory :=
  laidMetH_of_parts3 (fuel := 8) (laidMet_of_run' 8 (by kernel_rfl) (by kernel_rfl)) (by kernel_rfl) (by kernel_rfl)
theorem iface_of_trod {H : Type} {enc : TypeId × Value → H} {P : Program} {w : World} {base : Nat} {sp : Nat → Bool} {fuel : Nat} {t : TypeId} {ms : Array (String × TypeId)} {cs : List Value} {nm : String} {d : DataW H} {p : List MemPlace} (hi : P.underlying t = some (.interface ms))
    (h : DataW.trod enc P w base sp false fuel t cs = some (.iface nm d, p)) : ∃ u v, cs = [.iface u v] := by
  cases fuel with
  | zero => simp [DataW.trod] at h
  | succ fuel =>
    simp only [DataW.trod, hi] at h
    split at h
    all_goals first | exact ⟨_, _, rfl⟩ | (rename_i q; cases q; done) | (simp at h; done)
theorem iface_of_head {P : Program} {W : World} {name : String} {nm : String} {d : DataW Unit} {rest : List (String × DataW Unit)} {g : Nat} {t : TypeId} {ms : Array (String × TypeId)}
    (hg : P.globalNamed name = some g) (hty : (P.globals[g]?).map (·.type) = some t) (ht : P.underlying t = some (.interface ms)) (h : laidMet P ((name, .iface nm d) :: rest) W) : (∃ u v, W.var? P name = some #[.iface u v]) ∧ g < W.heap.size := by
  obtain ⟨ps, ⟨g', t', cs, fuel, p, q, hg', ht', hvar, hd, _, _⟩, _⟩ := h
  obtain rfl := Option.some.inj (hg.symm.trans hg')
  obtain rfl := Option.some.inj (hty.symm.trans ht')
  obtain ⟨u, v, e⟩ := iface_of_trod ht hd
  refine ⟨⟨u, v, ?_⟩, ?_⟩
  · rw [hvar, Array.eq_one_of_toList e]
  · unfold World.var? at hvar
    rw [hg] at hvar
    simp only [Option.bind_some] at hvar
    rcases Nat.lt_or_ge g W.heap.size with h | h
    · exact h
    · rw [Array.getElem?_eq_none h] at hvar; cases hvar
theorem of_laid {W : World} (h : laidMetH Tryd.prog laid19 W) : GL W ∧ ∀ b, glob b → b < W.heap.size := by
  rw [MakeChecks.laidMetH_plain _ _ _ (by kernel_rfl)] at h
  have h1 := laidMet.tail (laidMet.tail h)
  have h2 := laidMet.tail h1
  have h3 := laidMet.tail h2
  obtain ⟨k3, b3⟩ := iface_of_head (g := 3) (by kernel_rfl) (t := 108) (by kernel_rfl) Tryd.underlying108 h2
  obtain ⟨k2, b2⟩ := iface_of_head (g := 2) (by kernel_rfl) (t := 108) (by kernel_rfl) Tryd.underlying108 h3
  refine ⟨⟨?_, k2, k3⟩, fun b hb => Nat.lt_of_lt_of_le hb b3⟩
  exact Lib.tabIs_of_head (g := 1) (by kernel_rfl) (t := 166) (by kernel_rfl) Tryd.underlying166 Tryd.underlying47 (by kernel_rfl) (by kernel_rfl) h1
end Go.Proofs.YtmdolfannbbipaaDoor
namespace Go.Proofs.YtmdolfannbbipaaDoor.ruleLaws
open Go Go.ChangeShapes Go.WideShapes Go.ChangeAt Go.RowKit Go.Ev
set_option linter.unusedVariables false
set_option maxRecDepth 100000 in
theorem lifted (pure : Said_law19_RuleLaws) (os : Os) (started : os.Started) (H : Type) (enc : TypeId × Value → H) :
    ReturnsInHanded {} Tryd.checked os 7 .any (fun w args => (Rows.ruleLawsSpec.pre enc Tryd.prog Tryd.f7 [] false w args ∧ laidMetH Tryd.prog laid19 w) ∧ sizedMet enc Tryd.prog Tryd.f7 (OpenSpec.ofChange Rows.ruleLawsSpec) false w args) (Rows.ruleLawsSpec.post enc Tryd.prog Tryd.f7 false true false false) := by
  refine returnsInHanded_of_change_and (C := Tryd.checked) (X := fun w _ => laidMetH Tryd.prog laid19 w) (fun _ _ _ hh h => h.of_heap hh) own started (by kernel_rfl) Tryd.func7
    (ChangeSpec.witness_shaped (enc := enc) (C := Tryd.checked) (os := os) (X := fun w _ => laidMetH Tryd.prog laid19 w) false (World.doorLaid Tryd.prog 72 os) #[.slice none 0 0, .slice none 0 0] 8 rfl (World.shaped_of_RefB (by kernel_rfl) (by kernel_rfl)) (by kernel_rfl) (by kernel_rfl) (by kernel_rfl) (door_met os _)) ?_
  intro W base args ds gs before hval0 hW hcnd hsz0 hL _
  have hval : ∀ (j : Nat) t v, Tryd.f7.params[j]? = some t → args[j]? = some v → Value.okWide Tryd.prog W .any base t v := hval0
  have hW' := hW
  obtain ⟨p, q, hA0, hV, rfl, hfz, hnd⟩ := hW
  have hA : DataW.TrodAll enc Tryd.prog W 0 (fun _ => true) true Tryd.f7.params.toList args.toList ds p := hA0
  rw [Tryd.params7] at hA hval
  obtain ⟨v0, vs0, d0, ds0, p0, q0, hargs, rfl, rfl, h0, r0⟩ := trodAll_cons hA
  obtain ⟨v1, vs1, d1, ds1, p1, q1, rfl, rfl, rfl, h1, r1⟩ := trodAll_cons r0
  obtain ⟨rfl, rfl, rfl⟩ := trodAll_nil r1
  obtain rfl : args = #[v0, v1] := by cases args; simp_all
  obtain ⟨rfl, rfl⟩ := trodVars_none hV
  obtain ⟨a0, k0, x0⟩ := (argL Tryd.underlying22 (opensL (d := 0) (s := 0) Tryd.underlying22 (by kernel_rfl) (opensI Tryd.underlying5)) (hval 0 22 v0 rfl rfl) h0)
  have lt0 : ∀ x ∈ p0, x.block < W.heap.size := by obtain ⟨m, hm⟩ := h0; exact DataW.trod_lt m _ _ _ hm
  obtain ⟨a1, k1, x1⟩ := (argL Tryd.underlying22 (opensL (d := 0) (s := 0) Tryd.underlying22 (by kernel_rfl) (opensI Tryd.underlying5)) (hval 1 22 v1 rfl rfl) h1)
  have lt1 : ∀ x ∈ p1, x.block < W.heap.size := by obtain ⟨m, hm⟩ := h1; exact DataW.trod_lt m _ _ _ hm
  obtain ⟨K, hK⟩ := pure a0 a1 k0 k1
  clear hA0 hval0 hsz0
  obtain ⟨hgl, hgb⟩ := of_laid hL
  have hx : RXl W (· < W.heap.size) (ax_law19_RuleLaws a0 a1) (#[v0, v1] : Array Value).toList [] := ⟨[], [], rfl, x0, ⟨[], [], rfl, x1, rfl⟩⟩
  refine (told_calls (ok_law19_RuleLaws K a0 a1 true hK) hx hgl hgb).mono fun e W' ⟨he, bel⟩ => ?_
  subst he
  exact ⟨_, rfl, _, _, _, [], _, [], hW', trodAll_mk1 (shut_bool Tryd.underlying4 _), (trodAll_cons_mk (Below.trod laidOut (by kernel_rfl) (of_decide_eq_true (by kernel_rfl)) h0 bel lt0) (trodAll_cons_mk (Below.trod laidOut (by kernel_rfl) (of_decide_eq_true (by kernel_rfl)) h1 bel lt1) trodAll_mk0)), rfl, bel.frame _, fun h => by cases h⟩
theorem over (pure : Said_law19_RuleLaws) : Rows.ruleLawsRow.holds Tryd.pinned (OpenSpec.ofChange Rows.ruleLawsSpec) :=
  OpenClaim.holds_of_wide 7 Tryd.f7 rfl rfl rfl rfl rfl rfl rfl ⟨rfl, rfl, rfl, rfl, rfl⟩ rfl rfl rfl rfl rfl (by kernel_rfl) Tryd.func7 (by kernel_rfl)
    (of_decide_eq_true (by kernel_rfl)) (by unfold Func.isWrapper; first | (rw [if_pos (by decide +kernel)]; kernel_rfl) | (rw [if_neg (by decide +kernel)]; exact ⟨rfl, rfl⟩))
    (fun os started H enc _ => lifted pure os started H enc)
theorem proved (pure : Said_law19_RuleLaws) : Rows.RuleLawsCardSaid :=
  Claim7.holds_tied_plain_at .later [] [.data, .data, .data, .sentinel, .sentinel] true (true, "7a9c693910ae7a4dabb00eda06f2967d0df0072959488d602ca66cd7cc0c7b8e") true
    (over pure) (fun _ h => by cases h) (by kernel_rfl) (fun _ h => by cases h) ruleLaws_row_tie rfl ⟨rfl, rfl⟩ (by kernel_rfl) rfl
    (fun f fn hf hfn => by
      obtain rfl : f = 7 := Option.some.inj ((show Tryd.prog.funcNamed Rows.ruleLawsRow.func = some 7 by kernel_rfl).symm.trans hf) |>.symm
      obtain rfl : fn = Tryd.f7 := (Option.some.inj (Tryd.func7.symm.trans hfn)).symm
      exact ⟨by kernel_rfl, fun j t ht => by
        rw [Tryd.params7] at ht
        have hm : t ∈ [22, 22] := by simpa using Array.mem_of_getElem? ht
        have hall : ([22, 22].all fun u => !Tryd.prog.wantsStandIn u) = true := by kernel_rfl
        exact (show Tryd.prog.wantsStandIn t = false by simpa using List.all_eq_true.1 hall t hm)⟩)
    (by kernel_rfl)
end Go.Proofs.YtmdolfannbbipaaDoor.ruleLaws
namespace Go.Proofs.YtmdolfannbbipaaDoor
theorem ruleLaws_holds : Rows.RuleLawsCardSaid := ruleLaws.proved pure_law19_RuleLaws
#print axioms ruleLaws_holds
end Go.Proofs.YtmdolfannbbipaaDoor
