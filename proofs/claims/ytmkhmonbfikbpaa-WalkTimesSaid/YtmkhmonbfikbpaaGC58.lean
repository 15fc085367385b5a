/- What the code of a function does. -/
import Derived.Test.YtmkhmonbfikbpaaGB
namespace Go.Proofs.Ytmkhmonbfikbpaa
open Go Go.RowKit Go.Ev Go.Proofs
set_option linter.unusedVariables false

set_option maxRecDepth 100000
theorem ok_plan_spanIn (K : Nat) (a0 : T_Span) (a1 : Int) (a2 : Int) (r : Bool) (h : plan_spanIn K a0 a1 a2 = some r) : FnOk Try.prog 58 (ax_plan_spanIn a0 a1 a2) (rx_plan_spanIn r) (px_plan_spanIn r) := by
  refine ⟨⟨Try.f58, Try.func58, by kernel_rfl, by kernel_rfl⟩, ?_⟩
  unfold plan_spanIn at h
  refine fn_ok env Try.func58 rfl ⟨24, [(0, .agg [.v (.int .i64 a0.Low), .v (.int .i64 a0.High)]), (1, .c (.v (.int .i64 a1))), (2, .c (.v (.int .i64 a2)))], [], []⟩ [] (by kernel_rfl) fun X => ?_
  refine tri_reg env [] 1 1024 [.keep [1, 2, 3] [(1000, 0)] []] ⟨24, [(1, .c (.v (.int .i64 a1))), (2, .c (.v (.int .i64 a2))), (3, .c (.pvar (1000, 0) 0))], [((1000, 0), [.v (.int .i64 a0.Low), .v (.int .i64 a0.High)])], []⟩ [] (by kernel_rfl) trivial ?_
  refine cnd_split h (fun e1 h => ?_) (fun e1 h => ?_)
  · refine cnd_split h (fun e2 h => ?_) (fun e2 h => ?_)
    · refine tri_reg env [(4, .b true), (10, .b true), (11, .b true), (16, .b true)] 2 1024 [.keep [6] [] []] ⟨24, [(6, .c (.v (.bool (decide (a0.High ≤ a2)))))], [], []⟩ [True, ((decide (a1 ≤ a0.Low)) = true), ((decide (a1 ≤ a0.Low)) = true), ((decide (a1 ≤ a0.Low)) = true), ((decide (a1 ≤ a0.Low)) = true), ((decide (a1 ≤ a0.Low)) = true), True, ((decide (a1 ≤ a0.Low)) = true), ((decide (a0.Low ≤ a0.High)) = true), ((decide (a0.Low ≤ a0.High)) = true), ((decide (a0.Low ≤ a0.High)) = true), ((decide (a0.Low ≤ a0.High)) = true), True, ((decide (a0.Low ≤ a0.High)) = true)] (by kernel_rfl) ⟨trivial, e1, e1, e1, e1, e1, trivial, e1, e2, e2, e2, e2, trivial, e2, trivial⟩ ?_
      refine tri_ret ?_
      rw [some_inv h]
      exact ⟨[], by kernel_rfl, trivial⟩
    · refine tri_reg env [(4, .b true), (10, .b true), (11, .b false), (16, .b false)] 2 1024 [.keep [6] [] []] ⟨24, [(6, .c (.v (.bool false)))], [], []⟩ [True, ((decide (a1 ≤ a0.Low)) = true), ((decide (a1 ≤ a0.Low)) = true), ((decide (a1 ≤ a0.Low)) = true), ((decide (a1 ≤ a0.Low)) = true), ((decide (a1 ≤ a0.Low)) = true), True, ((decide (a1 ≤ a0.Low)) = true), ((decide (a0.Low ≤ a0.High)) = false), ((decide (a0.Low ≤ a0.High)) = false), ((decide (a0.Low ≤ a0.High)) = false), ((decide (a0.Low ≤ a0.High)) = false), ((decide (a0.Low ≤ a0.High)) = false)] (by kernel_rfl) ⟨trivial, e1, e1, e1, e1, e1, trivial, e1, e2, e2, e2, e2, e2, trivial⟩ ?_
      refine tri_ret ?_
      rw [some_inv h]
      exact ⟨[], by kernel_rfl, trivial⟩
  · refine tri_reg env [(4, .b false), (10, .b false), (11, .b false), (16, .b false)] 2 1024 [.keep [6] [] []] ⟨24, [(6, .c (.v (.bool false)))], [], []⟩ [True, ((decide (a1 ≤ a0.Low)) = false), ((decide (a1 ≤ a0.Low)) = false), ((decide (a1 ≤ a0.Low)) = false), ((decide (a1 ≤ a0.Low)) = false), ((decide (a1 ≤ a0.Low)) = false), ((decide (a1 ≤ a0.Low)) = false), (false = false), (false = false), (false = false), (false = false), (false = false)] (by kernel_rfl) ⟨trivial, e1, e1, e1, e1, e1, e1, rfl, rfl, rfl, rfl, rfl, trivial⟩ ?_
    refine tri_ret ?_
    rw [some_inv h]
    exact ⟨[], by kernel_rfl, trivial⟩
end Go.Proofs.Ytmkhmonbfikbpaa
