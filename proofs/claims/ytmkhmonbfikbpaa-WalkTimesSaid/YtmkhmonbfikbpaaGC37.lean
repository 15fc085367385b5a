/- What the code of a function does. -/
import Derived.Test.YtmkhmonbfikbpaaGB
namespace Go.Proofs.Ytmkhmonbfikbpaa
open Go Go.RowKit Go.Ev Go.Proofs
set_option linter.unusedVariables false

set_option maxRecDepth 100000
theorem ok_plan_Other (K : Nat) (a0 : T_Mine) (a1 : Int) (a2 : Int) (r : Int) (h : plan_Other K a0 a1 a2 = some r) : FnOk Try.prog 37 (ax_plan_Other a0 a1 a2) (rx_plan_Other r) (px_plan_Other r) := by
  refine ⟨⟨Try.f37, Try.func37, by kernel_rfl, by kernel_rfl⟩, ?_⟩
  unfold plan_Other at h
  refine fn_ok env Try.func37 rfl ⟨35, [(0, .agg [.lst 2 a0.Places.length (encF e_Place d_Place a0.Places), .lst 10 a0.Roads.length (encF e_Road d_Road a0.Roads)]), (1, .c (.v (.int .i64 a1))), (2, .c (.v (.int .i64 a2)))], [], []⟩ [] (by kernel_rfl) fun X => ?_
  refine tri_reg env [] 1 1024 [.keep [1, 2, 3] [(1000, 0)] []] ⟨35, [(1, .c (.v (.int .i64 a1))), (2, .c (.v (.int .i64 a2))), (3, .c (.pvar (1000, 0) 0))], [((1000, 0), [.lst 2 a0.Places.length (encF e_Place d_Place a0.Places), .lst 10 a0.Roads.length (encF e_Road d_Road a0.Roads)])], []⟩ [] (by kernel_rfl) trivial ?_
  refine tri_seq ?_
  refine cnd_split h (fun e1 h => ?_) (fun e1 h => ?_)
  · refine tri_reg env [(2, .b true), (8, .b true)] 2 1024 [.keep [1, 2, 3, 16] [(1000, 0)] []] ⟨35, [(1, .c (.v (.int .i64 a1))), (2, .c (.v (.int .i64 a2))), (3, .c (.pvar (1000, 0) 0)), (16, .c (.v (.bool true)))], [((1000, 0), [.lst 2 a0.Places.length (encF e_Place d_Place a0.Places), .lst 10 a0.Roads.length (encF e_Road d_Road a0.Roads)])], []⟩ [True, ((decide (a1 < 0)) = true), ((decide (a1 < 0)) = true), ((decide (a1 < 0)) = true), ((decide (a1 < 0)) = true), ((decide (a1 < 0)) = true), ((decide (a1 < 0)) = true)] (by kernel_rfl) ⟨trivial, e1, e1, e1, e1, e1, e1, trivial⟩ ?_
    refine tri_cond true (by kernel_rfl) (fun _ => ?_) (fun e => by cases e)
    refine tri_reg env [] 3 1024 [.keep [6] [] []] ⟨35, [(6, .c (.v (.int .i64 (-1))))], [], []⟩ [] (by kernel_rfl) trivial ?_
    refine tri_ret ?_
    refine thenR ?_
    rw [some_inv h]
    exact ⟨[], by kernel_rfl, trivial⟩
  · refine tri_reg env [(2, .b false), (8, .b false)] 2 1024 [.keep [1, 2, 3, 16] [(1000, 0)] []] ⟨35, [(1, .c (.v (.int .i64 a1))), (2, .c (.v (.int .i64 a2))), (3, .c (.pvar (1000, 0) 0)), (16, .c (.v (.bool (decide (a1 ≥ ((a0.Roads.length : Nat) : Int))))))], [((1000, 0), [.lst 2 a0.Places.length (encF e_Place d_Place a0.Places), .lst 10 a0.Roads.length (encF e_Road d_Road a0.Roads)])], []⟩ [True, ((decide (a1 < 0)) = false), ((decide (a1 < 0)) = false), ((decide (a1 < 0)) = false), ((decide (a1 < 0)) = false), ((decide (a1 < 0)) = false), True, ((decide (a1 < 0)) = false)] (by kernel_rfl) ⟨trivial, e1, e1, e1, e1, e1, trivial, e1, trivial⟩ ?_
    refine tri_cond (decide (a1 ≥ ((a0.Roads.length : Nat) : Int))) (by kernel_rfl) (fun e3 => ?_) (fun e3 => ?_)
    · replace h := cnd_t h e3
      refine tri_reg env [] 3 1024 [.keep [6] [] []] ⟨35, [(6, .c (.v (.int .i64 (-1))))], [], []⟩ [] (by kernel_rfl) trivial ?_
      refine tri_ret ?_
      refine thenR ?_
      rw [some_inv h]
      exact ⟨[], by kernel_rfl, trivial⟩
    · replace h := cnd_f h e3
      refine tri_skip ?_
      refine thenN ?_
      refine tri_seq ?_
      obtain ⟨q4, h⟩ := ck_inv h
      refine tri_reg env [] 4 1024 [.keep [2, 7] [(4005, 0)] []] ⟨35, [(2, .c (.v (.int .i64 a2))), (7, .c (.pvar (4005, 0) 0))], [((4005, 0), (e_Road (a0.Roads.getD a1.toNat d_Road)))], []⟩ [(0 ≤ a1 ∧ a1 < ((a0.Roads.length : Nat) : Int))] (by kernel_rfl) ⟨q4, trivial⟩ ?_
      refine tri_reg env [] 5 1024 [.keep [7, 22] [(4005, 0)] []] ⟨35, [(7, .c (.pvar (4005, 0) 0)), (22, .c (.v (.int .i64 a2)))], [((4005, 0), (e_Road (a0.Roads.getD a1.toNat d_Road)))], []⟩ [] (by kernel_rfl) trivial ?_
      refine tri_block ?_
      refine tri_reg env [] 6 1024 [.keep [7, 22, 23] [(4005, 0)] []] ⟨35, [(7, .c (.pvar (4005, 0) 0)), (22, .c (.v (.int .i64 a2))), (23, .c (.v (.bool (a2 == (a0.Roads.getD a1.toNat d_Road).From))))], [((4005, 0), (e_Road (a0.Roads.getD a1.toNat d_Road)))], []⟩ [True] (by kernel_rfl) ⟨trivial, trivial⟩ ?_
      refine tri_cond (a2 == (a0.Roads.getD a1.toNat d_Road).From) (by kernel_rfl) (fun e5 => ?_) (fun e5 => ?_)
      · replace h := cnd_t h e5
        refine tri_reg env [] 7 1024 [.keep [6] [] []] ⟨35, [(6, .c (.v (.int .i64 (a0.Roads.getD a1.toNat d_Road).To)))], [], []⟩ [] (by kernel_rfl) trivial ?_
        refine tri_ret ?_
        refine inBR ?_
        refine thenR ?_
        rw [some_inv h]
        exact ⟨[], by kernel_rfl, trivial⟩
      · replace h := cnd_f h e5
        refine tri_reg env [] 8 1024 [.keep [7, 29] [(4005, 0)] []] ⟨35, [(7, .c (.pvar (4005, 0) 0)), (29, .c (.v (.bool (a2 == (a0.Roads.getD a1.toNat d_Road).To))))], [((4005, 0), (e_Road (a0.Roads.getD a1.toNat d_Road)))], []⟩ [True] (by kernel_rfl) ⟨trivial, trivial⟩ ?_
        refine tri_cond (a2 == (a0.Roads.getD a1.toNat d_Road).To) (by kernel_rfl) (fun e6 => ?_) (fun e6 => ?_)
        · replace h := cnd_t h e6
          refine tri_reg env [] 9 1024 [.keep [6] [] []] ⟨35, [(6, .c (.v (.int .i64 (a0.Roads.getD a1.toNat d_Road).From)))], [], []⟩ [] (by kernel_rfl) trivial ?_
          refine tri_ret ?_
          refine inBR ?_
          refine thenR ?_
          rw [some_inv h]
          exact ⟨[], by kernel_rfl, trivial⟩
        · replace h := cnd_f h e6
          refine tri_skip ?_
          refine inBN ?_
          refine thenN ?_
          refine tri_reg env [] 10 1024 [.keep [6] [] []] ⟨35, [(6, .c (.v (.int .i64 (-1))))], [], []⟩ [] (by kernel_rfl) trivial ?_
          refine tri_ret ?_
          rw [some_inv h]
          exact ⟨[], by kernel_rfl, trivial⟩
end Go.Proofs.Ytmkhmonbfikbpaa
