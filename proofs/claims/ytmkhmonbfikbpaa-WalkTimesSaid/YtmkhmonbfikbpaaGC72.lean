/- What the code of a function does. -/
import Derived.Test.YtmkhmonbfikbpaaGB
namespace Go.Proofs.Ytmkhmonbfikbpaa
open Go Go.RowKit Go.Ev Go.Proofs
set_option linter.unusedVariables false

set_option maxRecDepth 100000
theorem ok_walk_quick (K : Nat) (r : T_pace) (h : walk_quick K = some r) : FnOk Try.prog 72 [] (rx_walk_quick r) (px_walk_quick r) := by
  refine ⟨⟨Try.f72, Try.func72, by kernel_rfl, by kernel_rfl⟩, ?_⟩
  unfold walk_quick at h
  refine fn_ok env Try.func72 rfl ⟨2, [], [], []⟩ [] (by kernel_rfl) fun X => ?_
  refine tri_reg env [] 1 1024 [.keep [0] [(1000, 0)] []] ⟨2, [(0, .c (.pvar (1000, 0) 0))], [((1000, 0), [.v (.int .i64 0), .v (.int .i64 0), .v (.int .i64 0)])], []⟩ [] (by kernel_rfl) trivial ?_
  refine tri_reg env [] 2 1024 [.keep [0] [(1000, 0)] []] ⟨2, [(0, .c (.pvar (1000, 0) 0))], [((1000, 0), [.v (.int .i64 6), .v (.int .i64 9), .v (.int .i64 12)])], []⟩ [] (by kernel_rfl) trivial ?_
  refine tri_ret ?_
  rw [some_inv h]
  exact ⟨[], by kernel_rfl, trivial⟩
end Go.Proofs.Ytmkhmonbfikbpaa
