/- What the code of a function does. -/
import Derived.Test.YtmkhmonbfikbpaaGB
import Derived.Test.YtmkhmonbfikbpaaGC55
namespace Go.Proofs.Ytmkhmonbfikbpaa
open Go Go.RowKit Go.Ev Go.Proofs
set_option linter.unusedVariables false

set_option maxRecDepth 100000
theorem ok_draw_Codes_One (K : Nat) (a0 : T_Codes) (a1 : Int) (r : (Bool × T_Codes)) (h : draw_Codes_One K a0 a1 = some r) : FnOk Try.prog 57 (ax_draw_Codes_One a0 a1) (rx_draw_Codes_One r) (px_draw_Codes_One r) := by
  refine ⟨⟨Try.f57, Try.func57, by kernel_rfl, by kernel_rfl⟩, ?_⟩
  unfold draw_Codes_One at h
  refine fn_ok env Try.func57 rfl ⟨11, [(0, .c (.pvar (0, 0) 0)), (1, .c (.v (.int .i64 a1)))], [((0, 0), [.lst 1 a0.l_.length (encF (eI .u8) 0 a0.l_), .v (.int .i64 a0.at_)])], []⟩ [(0, 0)] (by kernel_rfl) fun X => ?_
  refine tri_reg env [] 1 1024 [.keep [0, 1] [(0, 0)] []] ⟨11, [(0, .c (.pvar (0, 0) 0)), (1, .c (.v (.int .i64 a1)))], [((0, 0), [.lst 1 a0.l_.length (encF (eI .u8) 0 a0.l_), .v (.int .i64 a0.at_)])], []⟩ [] (by kernel_rfl) trivial ?_
  obtain ⟨y1, c2, h⟩ := bnd_inv h
  refine tri_reg env [(2, .call ⟨(ax_draw_Codes_Next a0 a1), [false, false], rx_draw_Codes_Next y1, px_draw_Codes_Next y1, true⟩)] 2 1024 [.keep [4] [(0, 0)] []] ⟨11, [(4, .c (.v (.bool (y1.1 == (IntKind.wrap .i64 (a1 - 1))))))], [((0, 0), [.lst 1 y1.2.l_.length (encF (eI .u8) 0 y1.2.l_), .v (.int .i64 y1.2.at_)])], []⟩ [(EqXs (ax_draw_Codes_Next a0 a1) (ax_draw_Codes_Next a0 a1)), (FnOk Try.prog 55 (ax_draw_Codes_Next a0 a1) (rx_draw_Codes_Next y1) (px_draw_Codes_Next y1)), True, True] (by kernel_rfl) ⟨(eqs (eqp (eqr _) (eqp (eqr _) eqp0)) (eqs (eqr _) eqs0)), (ok_draw_Codes_Next K a0 a1 y1 c2), trivial, trivial, trivial⟩ ?_
  refine tri_ret ?_
  rw [some_inv h]
  exact ⟨[], by kernel_rfl, trivial⟩
end Go.Proofs.Ytmkhmonbfikbpaa
