/- What the code of a function does. -/
import Derived.Test.YtmkhmonbfikbpaaGB
namespace Go.Proofs.Ytmkhmonbfikbpaa
open Go Go.RowKit Go.Ev Go.Proofs
set_option linter.unusedVariables false

set_option maxRecDepth 100000
theorem ok_draw_Mod (K : Nat) (a0 : Int) (a1 : Int) (r : Int) (h : draw_Mod K a0 a1 = some r) : FnOk Try.prog 24 (ax_draw_Mod a0 a1) (rx_draw_Mod r) (px_draw_Mod r) := by
  refine ⟨⟨Try.f24, Try.func24, by kernel_rfl, by kernel_rfl⟩, ?_⟩
  unfold draw_Mod at h
  refine fn_ok env Try.func24 rfl ⟨16, [(0, .c (.v (.int .i64 a0))), (1, .c (.v (.int .i64 a1)))], [], []⟩ [] (by kernel_rfl) fun X => ?_
  refine tri_reg env [] 1 1024 [.keep [0, 1] [] []] ⟨16, [(0, .c (.v (.int .i64 a0))), (1, .c (.v (.int .i64 a1)))], [], []⟩ [] (by kernel_rfl) trivial ?_
  refine tri_seq ?_
  refine tri_reg env [] 2 1024 [.keep [0, 1, 6] [] []] ⟨16, [(0, .c (.v (.int .i64 a0))), (1, .c (.v (.int .i64 a1))), (6, .c (.v (.bool (decide (a1 < 1)))))], [], []⟩ [True] (by kernel_rfl) ⟨trivial, trivial⟩ ?_
  refine tri_cond (decide (a1 < 1)) (by kernel_rfl) (fun e1 => ?_) (fun e1 => ?_)
  · replace h := cnd_t h e1
    refine tri_reg env [] 3 1024 [.keep [4] [] []] ⟨16, [(4, .c (.v (.int .i64 0)))], [], []⟩ [] (by kernel_rfl) trivial ?_
    refine tri_ret ?_
    refine thenR ?_
    rw [some_inv h]
    exact ⟨[], by kernel_rfl, trivial⟩
  · replace h := cnd_f h e1
    refine tri_skip ?_
    refine thenN ?_
    obtain ⟨q2, h⟩ := ck_inv h
    refine tri_reg env [] 4 1024 [.keep [0, 1] [] []] ⟨16, [(0, .c (.v (.int .i64 (Int.tmod a0 a1)))), (1, .c (.v (.int .i64 a1)))], [], []⟩ [(a1 ≠ 0)] (by kernel_rfl) ⟨q2, trivial⟩ ?_
    refine tri_joinC (fun (v1 : Int) => ⟨16, [(0, .c (.v (.int .i64 v1)))], [], []⟩) h (fun v1 h => ?_) (fun j1 h => ?_)
    · refine tri_reg env [] 7 1024 [.keep [4] [] []] ⟨16, [(4, .c (.v (.int .i64 v1)))], [], []⟩ [] (by kernel_rfl) trivial ?_
      refine tri_ret ?_
      rw [some_inv h]
      exact ⟨[], by kernel_rfl, trivial⟩
    · refine tri_reg env [] 5 1024 [.keep [0, 1, 11] [] []] ⟨16, [(0, .c (.v (.int .i64 (Int.tmod a0 a1)))), (1, .c (.v (.int .i64 a1))), (11, .c (.v (.bool (decide ((Int.tmod a0 a1) < 0)))))], [], []⟩ [True] (by kernel_rfl) ⟨trivial, trivial⟩ ?_
      refine tri_cond (decide ((Int.tmod a0 a1) < 0)) (by kernel_rfl) (fun e3 => ?_) (fun e3 => ?_)
      · replace h := cnd_t h e3
        refine tri_reg_end env [] 6 1024 [.keep [0] [] []] ⟨16, [(0, .c (.v (.int .i64 (IntKind.wrap .i64 ((Int.tmod a0 a1) + a1)))))], [], []⟩ [True] (by kernel_rfl) ⟨trivial, trivial⟩ ?_
        exact thenJ (IntKind.wrap .i64 ((Int.tmod a0 a1) + a1)) h (by kernel_rfl)
      · replace h := cnd_f h e3
        refine tri_tell [.keep [0] [] []] ⟨16, [(0, .c (.v (.int .i64 (Int.tmod a0 a1))))], [], []⟩ [] (by kernel_rfl) trivial ?_
        refine tri_skip ?_
        exact thenJ (Int.tmod a0 a1) h (by kernel_rfl)
end Go.Proofs.Ytmkhmonbfikbpaa
