/- What the code of a function does. -/
import Derived.Test.YtmkhmonbfikbpaaGB
namespace Go.Proofs.Ytmkhmonbfikbpaa
open Go Go.RowKit Go.Ev Go.Proofs
set_option linter.unusedVariables false

set_option maxRecDepth 100000
theorem ok_walk_cost_less (K : Nat) (a0 : T_cost) (a1 : T_cost) (r : Bool) (h : walk_cost_less K a0 a1 = some r) : FnOk Try.prog 69 (ax_walk_cost_less a0 a1) (rx_walk_cost_less r) (px_walk_cost_less r) := by
  refine ⟨⟨Try.f69, Try.func69, by kernel_rfl, by kernel_rfl⟩, ?_⟩
  unfold walk_cost_less at h
  refine fn_ok env Try.func69 rfl ⟨24, [(0, .agg [.v (.int .i64 a0.time_), .v (.int .i64 a0.roads_)]), (1, .agg [.v (.int .i64 a1.time_), .v (.int .i64 a1.roads_)])], [], []⟩ [] (by kernel_rfl) fun X => ?_
  refine tri_reg env [] 1 1024 [.keep [2, 3] [(1000, 0), (1001, 0)] []] ⟨24, [(2, .c (.pvar (1000, 0) 0)), (3, .c (.pvar (1001, 0) 0))], [((1000, 0), [.v (.int .i64 a0.time_), .v (.int .i64 a0.roads_)]), ((1001, 0), [.v (.int .i64 a1.time_), .v (.int .i64 a1.roads_)])], []⟩ [] (by kernel_rfl) trivial ?_
  refine cnd_split h (fun e1 h => ?_) (fun e1 h => ?_)
  · refine tri_reg env [(5, .b true), (18, .b true)] 2 1024 [.keep [4] [] []] ⟨24, [(4, .c (.v (.bool true)))], [], []⟩ [True, ((decide (a0.time_ < a1.time_)) = true), ((decide (a0.time_ < a1.time_)) = true), ((decide (a0.time_ < a1.time_)) = true), ((decide (a0.time_ < a1.time_)) = true), ((decide (a0.time_ < a1.time_)) = true), ((decide (a0.time_ < a1.time_)) = true), ((decide (a0.time_ < a1.time_)) = true), ((decide (a0.time_ < a1.time_)) = true)] (by kernel_rfl) ⟨trivial, e1, e1, e1, e1, e1, e1, e1, e1, trivial⟩ ?_
    refine tri_ret ?_
    rw [some_inv h]
    exact ⟨[], by kernel_rfl, trivial⟩
  · refine cnd_split h (fun e2 h => ?_) (fun e2 h => ?_)
    · refine tri_reg env [(5, .b false), (11, .b true), (17, .b true), (18, .b false)] 2 1024 [.keep [4] [] []] ⟨24, [(4, .c (.v (.bool (decide (a0.roads_ < a1.roads_)))))], [], []⟩ [True, ((decide (a0.time_ < a1.time_)) = false), ((decide (a0.time_ < a1.time_)) = false), ((decide (a0.time_ < a1.time_)) = false), ((decide (a0.time_ < a1.time_)) = false), ((decide (a0.time_ < a1.time_)) = false), True, ((decide (a0.time_ < a1.time_)) = false), ((a0.time_ == a1.time_) = true), ((a0.time_ == a1.time_) = true), ((a0.time_ == a1.time_) = true), ((a0.time_ == a1.time_) = true), ((a0.time_ == a1.time_) = true), True, ((decide (a0.time_ < a1.time_)) = false), ((a0.time_ == a1.time_) = true), ((decide (a0.time_ < a1.time_)) = false)] (by kernel_rfl) ⟨trivial, e1, e1, e1, e1, e1, trivial, e1, e2, e2, e2, e2, e2, trivial, e1, e2, e1, trivial⟩ ?_
      refine tri_ret ?_
      rw [some_inv h]
      exact ⟨[], by kernel_rfl, trivial⟩
    · refine tri_reg env [(5, .b false), (11, .b false), (17, .b false), (18, .b false)] 2 1024 [.keep [4] [] []] ⟨24, [(4, .c (.v (.bool false)))], [], []⟩ [True, ((decide (a0.time_ < a1.time_)) = false), ((decide (a0.time_ < a1.time_)) = false), ((decide (a0.time_ < a1.time_)) = false), ((decide (a0.time_ < a1.time_)) = false), ((decide (a0.time_ < a1.time_)) = false), True, ((decide (a0.time_ < a1.time_)) = false), ((a0.time_ == a1.time_) = false), ((a0.time_ == a1.time_) = false), ((a0.time_ == a1.time_) = false), ((a0.time_ == a1.time_) = false), ((a0.time_ == a1.time_) = false), ((decide (a0.time_ < a1.time_)) = false), ((a0.time_ == a1.time_) = false), ((decide (a0.time_ < a1.time_)) = false)] (by kernel_rfl) ⟨trivial, e1, e1, e1, e1, e1, trivial, e1, e2, e2, e2, e2, e2, e1, e2, e1, trivial⟩ ?_
      refine tri_ret ?_
      rw [some_inv h]
      exact ⟨[], by kernel_rfl, trivial⟩
end Go.Proofs.Ytmkhmonbfikbpaa
