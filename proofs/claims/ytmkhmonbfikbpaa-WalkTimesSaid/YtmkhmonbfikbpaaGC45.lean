/- What the code of a function does. -/
import Derived.Test.YtmkhmonbfikbpaaGB
import Derived.Test.YtmkhmonbfikbpaaGC65
namespace Go.Proofs.Ytmkhmonbfikbpaa
open Go Go.RowKit Go.Ev Go.Proofs
set_option linter.unusedVariables false

set_option maxRecDepth 100000
theorem ok_ref03_Slow (K : Nat) (a0 : T_Mine) (a1 : Int) (a2 : Bool) (r : Int) (h : ref03_Slow K a0 a1 a2 = some r) : FnOk Try.prog 45 (ax_ref03_Slow a0 a1 a2) (rx_ref03_Slow r) (px_ref03_Slow r) := by
  refine ⟨⟨Try.f45, Try.func45, by kernel_rfl, by kernel_rfl⟩, ?_⟩
  unfold ref03_Slow at h
  refine fn_ok env Try.func45 rfl ⟨11, [(0, .agg [.lst 2 a0.Places.length (encF e_Place d_Place a0.Places), .lst 10 a0.Roads.length (encF e_Road d_Road a0.Roads)]), (1, .c (.v (.int .i64 a1))), (2, .c (.v (.bool a2)))], [], []⟩ [] (by kernel_rfl) fun X => ?_
  refine tri_reg env [] 1 1024 [.keep [1, 2, 3] [(1000, 0)] []] ⟨11, [(1, .c (.v (.int .i64 a1))), (2, .c (.v (.bool a2))), (3, .c (.pvar (1000, 0) 0))], [((1000, 0), [.lst 2 a0.Places.length (encF e_Place d_Place a0.Places), .lst 10 a0.Roads.length (encF e_Road d_Road a0.Roads)])], []⟩ [] (by kernel_rfl) trivial ?_
  obtain ⟨y1, c2, h⟩ := bnd_inv h
  refine tri_reg env [(3, .call ⟨(ax_ref03_walked a0 a1 a2 2 3 4), [false, false, false, false, false, false], rx_ref03_walked y1, px_ref03_walked y1, true⟩)] 2 1024 [.keep [6] [] []] ⟨11, [(6, .c (.v (.int .i64 y1)))], [], []⟩ [(EqXs (ax_ref03_walked a0 a1 a2 2 3 4) (ax_ref03_walked a0 a1 a2 2 3 4)), (FnOk Try.prog 65 (ax_ref03_walked a0 a1 a2 2 3 4) (rx_ref03_walked y1) (px_ref03_walked y1))] (by kernel_rfl) ⟨(eqs (eqa (eqr _) (eqa (eqr _) eqa0)) (eqs (eqr _) (eqs (eqr _) (eqs (eqr _) (eqs (eqr _) (eqs (eqr _) eqs0)))))), (ok_ref03_walked K a0 a1 a2 2 3 4 y1 c2), trivial⟩ ?_
  refine tri_ret ?_
  rw [some_inv h]
  exact ⟨[], by kernel_rfl, trivial⟩
end Go.Proofs.Ytmkhmonbfikbpaa
