/- What the code of a function does. -/
import Derived.Test.YtmkhmonbfikbpaaGB
import Derived.Test.YtmkhmonbfikbpaaGC18
namespace Go.Proofs.Ytmkhmonbfikbpaa
open Go Go.RowKit Go.Ev Go.Proofs
set_option linter.unusedVariables false

set_option maxRecDepth 100000
theorem ok_plan_Valid (K : Nat) (a0 : T_Mine) (r : Bool) (h : plan_Valid K a0 = some r) : FnOk Try.prog 20 (ax_plan_Valid a0) (rx_plan_Valid r) (px_plan_Valid r) := by
  refine ⟨⟨Try.f20, Try.func20, by kernel_rfl, by kernel_rfl⟩, ?_⟩
  unfold plan_Valid at h
  refine fn_ok env Try.func20 rfl ⟨6, [(0, .agg [.lst 2 a0.Places.length (encF e_Place d_Place a0.Places), .lst 10 a0.Roads.length (encF e_Road d_Road a0.Roads)])], [], []⟩ [] (by kernel_rfl) fun X => ?_
  refine tri_reg env [] 1 1024 [.keep [1] [(1000, 0)] []] ⟨6, [(1, .c (.pvar (1000, 0) 0))], [((1000, 0), [.lst 2 a0.Places.length (encF e_Place d_Place a0.Places), .lst 10 a0.Roads.length (encF e_Road d_Road a0.Roads)])], []⟩ [] (by kernel_rfl) trivial ?_
  obtain ⟨y1, c2, h⟩ := bnd_inv h
  refine tri_reg env [(1, .call ⟨(ax_plan_Check a0), [false], rx_plan_Check y1, px_plan_Check y1, true⟩)] 2 1024 [.keep [2] [] []] ⟨6, [(2, .c (.v (.bool (y1 == 0))))], [], []⟩ [(EqXs (ax_plan_Check a0) (ax_plan_Check a0)), (FnOk Try.prog 18 (ax_plan_Check a0) (rx_plan_Check y1) (px_plan_Check y1)), True] (by kernel_rfl) ⟨(eqs (eqa (eqr _) (eqa (eqr _) eqa0)) eqs0), (ok_plan_Check K a0 y1 c2), trivial, trivial⟩ ?_
  refine tri_ret ?_
  rw [some_inv h]
  exact ⟨[], by kernel_rfl, trivial⟩
end Go.Proofs.Ytmkhmonbfikbpaa
