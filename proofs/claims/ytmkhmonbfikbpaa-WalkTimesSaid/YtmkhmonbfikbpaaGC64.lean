/- What the code of a function does. -/
import Derived.Test.YtmkhmonbfikbpaaGB
import Derived.Test.YtmkhmonbfikbpaaGC72
import Derived.Test.YtmkhmonbfikbpaaGC66
namespace Go.Proofs.Ytmkhmonbfikbpaa
open Go Go.RowKit Go.Ev Go.Proofs
set_option linter.unusedVariables false

set_option maxRecDepth 100000
theorem ok_walk_step (K : Nat) (a0 : T_Mine) (a1 : Int) (a2 : Bool) (r : Int) (h : walk_step K a0 a1 a2 = some r) : FnOk Try.prog 64 (ax_walk_step a0 a1 a2) (rx_walk_step r) (px_walk_step r) := by
  refine ⟨⟨Try.f64, Try.func64, by kernel_rfl, by kernel_rfl⟩, ?_⟩
  unfold walk_step at h
  refine fn_ok env Try.func64 rfl ⟨12, [(0, .agg [.lst 2 a0.Places.length (encF e_Place d_Place a0.Places), .lst 10 a0.Roads.length (encF e_Road d_Road a0.Roads)]), (1, .c (.v (.int .i64 a1))), (2, .c (.v (.bool a2)))], [], []⟩ [] (by kernel_rfl) fun X => ?_
  refine tri_reg env [] 1 1024 [.keep [1, 2, 3] [(1000, 0)] []] ⟨12, [(1, .c (.v (.int .i64 a1))), (2, .c (.v (.bool a2))), (3, .c (.pvar (1000, 0) 0))], [((1000, 0), [.lst 2 a0.Places.length (encF e_Place d_Place a0.Places), .lst 10 a0.Roads.length (encF e_Road d_Road a0.Roads)])], []⟩ [] (by kernel_rfl) trivial ?_
  obtain ⟨y1, c2, h⟩ := bnd_inv h
  obtain ⟨y3, c4, h⟩ := bnd_inv h
  refine tri_reg env [(3, .call ⟨[], [], rx_walk_quick y1, px_walk_quick y1, true⟩), (4, .call ⟨(ax_walk_with a0 a1 a2 y1), [false, false, false, false], rx_walk_with y3, px_walk_with y3, true⟩)] 2 1024 [.keep [6] [] []] ⟨12, [(6, .c (.v (.int .i64 y3)))], [], []⟩ [(EqXs [] []), (FnOk Try.prog 72 [] (rx_walk_quick y1) (px_walk_quick y1)), (EqXs (ax_walk_with a0 a1 a2 y1) (ax_walk_with a0 a1 a2 y1)), (FnOk Try.prog 66 (ax_walk_with a0 a1 a2 y1) (rx_walk_with y3) (px_walk_with y3))] (by kernel_rfl) ⟨eqs0, (ok_walk_quick K  y1 c2), (eqs (eqa (eqr _) (eqa (eqr _) eqa0)) (eqs (eqr _) (eqs (eqr _) (eqs (eqa (eqr _) (eqa (eqr _) (eqa (eqr _) eqa0))) eqs0)))), (ok_walk_with K a0 a1 a2 y1 y3 c4), trivial⟩ ?_
  refine tri_ret ?_
  rw [some_inv h]
  exact ⟨[], by kernel_rfl, trivial⟩
end Go.Proofs.Ytmkhmonbfikbpaa
