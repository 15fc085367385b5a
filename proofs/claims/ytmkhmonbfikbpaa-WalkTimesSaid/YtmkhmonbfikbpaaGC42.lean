/- What the code of a function does. -/
import Derived.Test.YtmkhmonbfikbpaaGB
import Derived.Test.YtmkhmonbfikbpaaGC20
import Derived.Test.YtmkhmonbfikbpaaGC64
namespace Go.Proofs.Ytmkhmonbfikbpaa
open Go Go.RowKit Go.Ev Go.Proofs
set_option linter.unusedVariables false

set_option maxRecDepth 100000
theorem ok_walk_Time (K : Nat) (a0 : T_Mine) (a1 : Int) (a2 : Bool) (r : Int) (h : walk_Time K a0 a1 a2 = some r) : FnOk Try.prog 42 (ax_walk_Time a0 a1 a2) (rx_walk_Time r) (px_walk_Time r) := by
  refine ⟨⟨Try.f42, Try.func42, by kernel_rfl, by kernel_rfl⟩, ?_⟩
  unfold walk_Time at h
  refine fn_ok env Try.func42 rfl ⟨25, [(0, .agg [.lst 2 a0.Places.length (encF e_Place d_Place a0.Places), .lst 10 a0.Roads.length (encF e_Road d_Road a0.Roads)]), (1, .c (.v (.int .i64 a1))), (2, .c (.v (.bool a2)))], [], []⟩ [] (by kernel_rfl) fun X => ?_
  refine tri_reg env [] 1 1024 [.keep [1, 2, 3] [(1000, 0)] []] ⟨25, [(1, .c (.v (.int .i64 a1))), (2, .c (.v (.bool a2))), (3, .c (.pvar (1000, 0) 0))], [((1000, 0), [.lst 2 a0.Places.length (encF e_Place d_Place a0.Places), .lst 10 a0.Roads.length (encF e_Road d_Road a0.Roads)])], []⟩ [] (by kernel_rfl) trivial ?_
  refine tri_seq ?_
  obtain ⟨y1, c2, h⟩ := bnd_inv h
  refine cnd_split h (fun e3 h => ?_) (fun e3 h => ?_)
  · refine tri_reg env [(1, .call ⟨(ax_plan_Valid a0), [false], rx_plan_Valid y1, px_plan_Valid y1, true⟩), (3, .b true), (6, .b true), (7, .b true), (13, .b true)] 2 1024 [.keep [1, 2, 3, 20] [(1000, 0)] []] ⟨25, [(1, .c (.v (.int .i64 a1))), (2, .c (.v (.bool a2))), (3, .c (.pvar (1000, 0) 0)), (20, .c (.v (.bool true)))], [((1000, 0), [.lst 2 a0.Places.length (encF e_Place d_Place a0.Places), .lst 10 a0.Roads.length (encF e_Road d_Road a0.Roads)])], []⟩ [(EqXs (ax_plan_Valid a0) (ax_plan_Valid a0)), (FnOk Try.prog 20 (ax_plan_Valid a0) (rx_plan_Valid y1) (px_plan_Valid y1)), ((!y1) = true), ((!y1) = true), ((!y1) = true), (true = true), (true = true), (true = true), (true = true), (true = true), (true = true)] (by kernel_rfl) ⟨(eqs (eqa (eqr _) (eqa (eqr _) eqa0)) eqs0), (ok_plan_Valid K a0 y1 c2), e3, e3, e3, rfl, rfl, rfl, rfl, rfl, rfl, trivial⟩ ?_
    refine tri_cond true (by kernel_rfl) (fun _ => ?_) (fun e => by cases e)
    refine tri_reg env [] 3 1024 [.keep [6] [] []] ⟨25, [(6, .c (.v (.int .i64 (-1))))], [], []⟩ [] (by kernel_rfl) trivial ?_
    refine tri_ret ?_
    refine thenR ?_
    rw [some_inv h]
    exact ⟨[], by kernel_rfl, trivial⟩
  · refine cnd_split h (fun e5 h => ?_) (fun e5 h => ?_)
    · refine tri_reg env [(1, .call ⟨(ax_plan_Valid a0), [false], rx_plan_Valid y1, px_plan_Valid y1, true⟩), (3, .b false), (6, .b false), (7, .b true), (13, .b true)] 2 1024 [.keep [1, 2, 3, 20] [(1000, 0)] []] ⟨25, [(1, .c (.v (.int .i64 a1))), (2, .c (.v (.bool a2))), (3, .c (.pvar (1000, 0) 0)), (20, .c (.v (.bool true)))], [((1000, 0), [.lst 2 a0.Places.length (encF e_Place d_Place a0.Places), .lst 10 a0.Roads.length (encF e_Road d_Road a0.Roads)])], []⟩ [(EqXs (ax_plan_Valid a0) (ax_plan_Valid a0)), (FnOk Try.prog 20 (ax_plan_Valid a0) (rx_plan_Valid y1) (px_plan_Valid y1)), ((!y1) = false), ((!y1) = false), True, ((!y1) = false), ((decide (a1 < 0)) = true), ((decide (a1 < 0)) = true), ((decide (a1 < 0)) = true), ((decide (a1 < 0)) = true), ((decide (a1 < 0)) = true), ((decide (a1 < 0)) = true)] (by kernel_rfl) ⟨(eqs (eqa (eqr _) (eqa (eqr _) eqa0)) eqs0), (ok_plan_Valid K a0 y1 c2), e3, e3, trivial, e3, e5, e5, e5, e5, e5, e5, trivial⟩ ?_
      refine tri_cond true (by kernel_rfl) (fun _ => ?_) (fun e => by cases e)
      refine tri_reg env [] 3 1024 [.keep [6] [] []] ⟨25, [(6, .c (.v (.int .i64 (-1))))], [], []⟩ [] (by kernel_rfl) trivial ?_
      refine tri_ret ?_
      refine thenR ?_
      rw [some_inv h]
      exact ⟨[], by kernel_rfl, trivial⟩
    · refine tri_reg env [(1, .call ⟨(ax_plan_Valid a0), [false], rx_plan_Valid y1, px_plan_Valid y1, true⟩), (3, .b false), (6, .b false), (7, .b false), (13, .b false)] 2 1024 [.keep [1, 2, 3, 20] [(1000, 0)] []] ⟨25, [(1, .c (.v (.int .i64 a1))), (2, .c (.v (.bool a2))), (3, .c (.pvar (1000, 0) 0)), (20, .c (.v (.bool (decide (a1 ≥ ((a0.Roads.length : Nat) : Int))))))], [((1000, 0), [.lst 2 a0.Places.length (encF e_Place d_Place a0.Places), .lst 10 a0.Roads.length (encF e_Road d_Road a0.Roads)])], []⟩ [(EqXs (ax_plan_Valid a0) (ax_plan_Valid a0)), (FnOk Try.prog 20 (ax_plan_Valid a0) (rx_plan_Valid y1) (px_plan_Valid y1)), ((!y1) = false), ((!y1) = false), True, ((!y1) = false), ((decide (a1 < 0)) = false), ((decide (a1 < 0)) = false), ((decide (a1 < 0)) = false), ((decide (a1 < 0)) = false), ((decide (a1 < 0)) = false), True, ((decide (a1 < 0)) = false)] (by kernel_rfl) ⟨(eqs (eqa (eqr _) (eqa (eqr _) eqa0)) eqs0), (ok_plan_Valid K a0 y1 c2), e3, e3, trivial, e3, e5, e5, e5, e5, e5, trivial, e5, trivial⟩ ?_
      refine tri_cond (decide (a1 ≥ ((a0.Roads.length : Nat) : Int))) (by kernel_rfl) (fun e7 => ?_) (fun e7 => ?_)
      · replace h := cnd_t h e7
        refine tri_reg env [] 3 1024 [.keep [6] [] []] ⟨25, [(6, .c (.v (.int .i64 (-1))))], [], []⟩ [] (by kernel_rfl) trivial ?_
        refine tri_ret ?_
        refine thenR ?_
        rw [some_inv h]
        exact ⟨[], by kernel_rfl, trivial⟩
      · replace h := cnd_f h e7
        refine tri_skip ?_
        refine thenN ?_
        obtain ⟨y8, c9, h⟩ := bnd_inv h
        refine tri_reg env [(3, .call ⟨(ax_walk_step a0 a1 a2), [false, false, false], rx_walk_step y8, px_walk_step y8, true⟩)] 4 1024 [.keep [6] [] []] ⟨25, [(6, .c (.v (.int .i64 y8)))], [], []⟩ [(EqXs (ax_walk_step a0 a1 a2) (ax_walk_step a0 a1 a2)), (FnOk Try.prog 64 (ax_walk_step a0 a1 a2) (rx_walk_step y8) (px_walk_step y8))] (by kernel_rfl) ⟨(eqs (eqa (eqr _) (eqa (eqr _) eqa0)) (eqs (eqr _) (eqs (eqr _) eqs0))), (ok_walk_step K a0 a1 a2 y8 c9), trivial⟩ ?_
        refine tri_ret ?_
        rw [some_inv h]
        exact ⟨[], by kernel_rfl, trivial⟩
end Go.Proofs.Ytmkhmonbfikbpaa
