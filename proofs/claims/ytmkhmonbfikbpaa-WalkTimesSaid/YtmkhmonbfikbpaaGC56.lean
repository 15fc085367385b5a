/- What the code of a function does. -/
import Derived.Test.YtmkhmonbfikbpaaGB
import Derived.Test.YtmkhmonbfikbpaaGC55
namespace Go.Proofs.Ytmkhmonbfikbpaa
open Go Go.RowKit Go.Ev Go.Proofs
set_option linter.unusedVariables false

set_option maxRecDepth 100000
theorem ok_draw_Codes_Range (K : Nat) (a0 : T_Codes) (a1 : Int) (a2 : Int) (r : (Int × T_Codes)) (h : draw_Codes_Range K a0 a1 a2 = some r) : FnOk Try.prog 56 (ax_draw_Codes_Range a0 a1 a2) (rx_draw_Codes_Range r) (px_draw_Codes_Range r) := by
  refine ⟨⟨Try.f56, Try.func56, by kernel_rfl, by kernel_rfl⟩, ?_⟩
  unfold draw_Codes_Range at h
  refine fn_ok env Try.func56 rfl ⟨15, [(0, .c (.pvar (0, 0) 0)), (1, .c (.v (.int .i64 a1))), (2, .c (.v (.int .i64 a2)))], [((0, 0), [.lst 1 a0.l_.length (encF (eI .u8) 0 a0.l_), .v (.int .i64 a0.at_)])], []⟩ [(0, 0)] (by kernel_rfl) fun X => ?_
  refine tri_reg env [] 1 1024 [.keep [0, 1, 2] [(0, 0)] []] ⟨15, [(0, .c (.pvar (0, 0) 0)), (1, .c (.v (.int .i64 a1))), (2, .c (.v (.int .i64 a2)))], [((0, 0), [.lst 1 a0.l_.length (encF (eI .u8) 0 a0.l_), .v (.int .i64 a0.at_)])], []⟩ [] (by kernel_rfl) trivial ?_
  obtain ⟨y1, c2, h⟩ := bnd_inv h
  refine tri_reg env [(6, .call ⟨(ax_draw_Codes_Next a0 (IntKind.wrap .i64 ((IntKind.wrap .i64 (a2 - a1)) + 1))), [false, false], rx_draw_Codes_Next y1, px_draw_Codes_Next y1, true⟩)] 2 1024 [.keep [6] [(0, 0)] []] ⟨15, [(6, .c (.v (.int .i64 (IntKind.wrap .i64 (a1 + y1.1)))))], [((0, 0), [.lst 1 y1.2.l_.length (encF (eI .u8) 0 y1.2.l_), .v (.int .i64 y1.2.at_)])], []⟩ [True, True, (EqXs (ax_draw_Codes_Next a0 (IntKind.wrap .i64 ((IntKind.wrap .i64 (a2 - a1)) + 1))) (ax_draw_Codes_Next a0 (IntKind.wrap .i64 ((IntKind.wrap .i64 (a2 - a1)) + 1)))), (FnOk Try.prog 55 (ax_draw_Codes_Next a0 (IntKind.wrap .i64 ((IntKind.wrap .i64 (a2 - a1)) + 1))) (rx_draw_Codes_Next y1) (px_draw_Codes_Next y1)), True] (by kernel_rfl) ⟨trivial, trivial, (eqs (eqp (eqr _) (eqp (eqr _) eqp0)) (eqs (eqr _) eqs0)), (ok_draw_Codes_Next K a0 (IntKind.wrap .i64 ((IntKind.wrap .i64 (a2 - a1)) + 1)) y1 c2), trivial, trivial⟩ ?_
  refine tri_ret ?_
  rw [some_inv h]
  exact ⟨[], by kernel_rfl, trivial⟩
end Go.Proofs.Ytmkhmonbfikbpaa
