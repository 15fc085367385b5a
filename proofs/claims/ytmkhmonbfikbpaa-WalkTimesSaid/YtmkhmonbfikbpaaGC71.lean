/- What the code of a function does. -/
import Derived.Test.YtmkhmonbfikbpaaGB
namespace Go.Proofs.Ytmkhmonbfikbpaa
open Go Go.RowKit Go.Ev Go.Proofs
set_option linter.unusedVariables false

set_option maxRecDepth 100000
theorem ok_ref03_ends (K : Nat) (a0 : T_Road) (a1 : Bool) (r : (Int × Int)) (h : ref03_ends K a0 a1 = some r) : FnOk Try.prog 71 (ax_ref03_ends a0 a1) (rx_ref03_ends r) (px_ref03_ends r) := by
  refine ⟨⟨Try.f71, Try.func71, by kernel_rfl, by kernel_rfl⟩, ?_⟩
  unfold ref03_ends at h
  refine fn_ok env Try.func71 rfl ⟨15, [(0, .agg (e_Road a0)), (1, .c (.v (.bool a1)))], [], []⟩ [] (by kernel_rfl) fun X => ?_
  refine tri_reg env [] 1 1024 [.keep [1, 2] [(1000, 0)] []] ⟨15, [(1, .c (.v (.bool a1))), (2, .c (.pvar (1000, 0) 0))], [((1000, 0), (e_Road a0))], []⟩ [] (by kernel_rfl) trivial ?_
  refine tri_seq ?_
  refine tri_reg env [] 2 1024 [.keep [2, 6] [(1000, 0)] []] ⟨15, [(2, .c (.pvar (1000, 0) 0)), (6, .c (.v (.bool a1)))], [((1000, 0), (e_Road a0))], []⟩ [] (by kernel_rfl) trivial ?_
  refine tri_cond a1 (by kernel_rfl) (fun e1 => ?_) (fun e1 => ?_)
  · replace h := cnd_t h e1
    refine tri_reg env [] 3 1024 [.keep [4, 5] [] []] ⟨15, [(4, .c (.v (.int .i64 a0.To))), (5, .c (.v (.int .i64 a0.From)))], [], []⟩ [] (by kernel_rfl) trivial ?_
    refine tri_ret ?_
    refine thenR ?_
    rw [some_inv h]
    exact ⟨[], by kernel_rfl, trivial⟩
  · replace h := cnd_f h e1
    refine tri_skip ?_
    refine thenN ?_
    refine tri_reg env [] 4 1024 [.keep [4, 5] [] []] ⟨15, [(4, .c (.v (.int .i64 a0.From))), (5, .c (.v (.int .i64 a0.To)))], [], []⟩ [] (by kernel_rfl) trivial ?_
    refine tri_ret ?_
    rw [some_inv h]
    exact ⟨[], by kernel_rfl, trivial⟩
end Go.Proofs.Ytmkhmonbfikbpaa
