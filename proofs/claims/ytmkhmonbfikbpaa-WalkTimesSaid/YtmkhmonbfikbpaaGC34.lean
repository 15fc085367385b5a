/- What the code of a function does. -/
import Derived.Test.YtmkhmonbfikbpaaGB
namespace Go.Proofs.Ytmkhmonbfikbpaa
open Go Go.RowKit Go.Ev Go.Proofs
set_option linter.unusedVariables false

set_option maxRecDepth 100000
theorem ok_ref01_Ints (K : Nat) (a0 : (List Int)) (a1 : (List Int)) (r : Bool) (h : ref01_Ints K a0 a1 = some r) : FnOk Try.prog 34 (ax_ref01_Ints a0 a1) (rx_ref01_Ints r) (px_ref01_Ints r) := by
  refine ⟨⟨Try.f34, Try.func34, by kernel_rfl, by kernel_rfl⟩, ?_⟩
  unfold ref01_Ints at h
  refine fn_ok env Try.func34 rfl ⟨26, [(0, .c (.lst 1 a0.length (encF (eI .i64) 0 a0))), (1, .c (.lst 1 a1.length (encF (eI .i64) 0 a1)))], [], []⟩ [] (by kernel_rfl) fun X => ?_
  refine tri_reg env [] 1 1024 [.keep [0, 1] [] []] ⟨26, [(0, .c (.lst 1 a0.length (encF (eI .i64) 0 a0))), (1, .c (.lst 1 a1.length (encF (eI .i64) 0 a1)))], [], []⟩ [] (by kernel_rfl) trivial ?_
  refine tri_seq ?_
  refine tri_reg env [] 2 1024 [.keep [0, 1, 10] [] []] ⟨26, [(0, .c (.lst 1 a0.length (encF (eI .i64) 0 a0))), (1, .c (.lst 1 a1.length (encF (eI .i64) 0 a1))), (10, .c (.v (.bool (((a0.length : Nat) : Int) != ((a1.length : Nat) : Int)))))], [], []⟩ [True] (by kernel_rfl) ⟨trivial, trivial⟩ ?_
  refine tri_cond (((a0.length : Nat) : Int) != ((a1.length : Nat) : Int)) (by kernel_rfl) (fun e1 => ?_) (fun e1 => ?_)
  · replace h := cnd_t h e1
    refine tri_reg env [] 3 1024 [.keep [4] [] []] ⟨26, [(4, .c (.v (.bool false)))], [], []⟩ [] (by kernel_rfl) trivial ?_
    refine tri_ret ?_
    refine thenR ?_
    rw [some_inv h]
    exact ⟨[], by kernel_rfl, trivial⟩
  · replace h := cnd_f h e1
    refine tri_skip ?_
    refine thenN ?_
    refine tri_joinC (fun (v2 : Unit) => ⟨26, [], [], []⟩) h (fun v2 h => ?_) (fun j2 h => ?_)
    · refine tri_reg env [] 9 1024 [.keep [4] [] []] ⟨26, [(4, .c (.v (.bool true)))], [], []⟩ [] (by kernel_rfl) trivial ?_
      refine tri_ret ?_
      rw [some_inv h]
      exact ⟨[], by kernel_rfl, trivial⟩
    · refine tri_reg env [] 4 1024 [.keep [0, 1, 5] [] []] ⟨26, [(0, .c (.lst 1 a0.length (encF (eI .i64) 0 a0))), (1, .c (.lst 1 a1.length (encF (eI .i64) 0 a1))), (5, .c (.v (.int .i64 0)))], [], []⟩ [] (by kernel_rfl) trivial ?_
      refine tri_block ?_
      refine tri_loopK (fun (v1 : Int) => ⟨26, [(0, .c (.lst 1 a0.length (encF (eI .i64) 0 a0))), (1, .c (.lst 1 a1.length (encF (eI .i64) 0 a1))), (5, .c (.v (.int .i64 v1)))], [], []⟩) (v := 0) h (fun self1 v1 h => ?_) (by kernel_rfl)
      unfold ref01_Ints_b1 at h
      refine tri_seq ?_
      refine tri_reg env [] 5 1024 [.keep [0, 1, 5, 14] [] []] ⟨26, [(0, .c (.lst 1 a0.length (encF (eI .i64) 0 a0))), (1, .c (.lst 1 a1.length (encF (eI .i64) 0 a1))), (5, .c (.v (.int .i64 v1))), (14, .c (.v (.bool (decide (v1 < ((a0.length : Nat) : Int))))))], [], []⟩ [True] (by kernel_rfl) ⟨trivial, trivial⟩ ?_
      refine tri_cond (decide (v1 < ((a0.length : Nat) : Int))) (by kernel_rfl) (fun e2 => ?_) (fun e2 => ?_)
      · replace h := cnd_t h e2
        refine tri_skip ?_
        refine thenN ?_
        refine tri_seq ?_
        refine tri_block ?_
        obtain ⟨q3, h⟩ := ck_inv h
        obtain ⟨q4, h⟩ := ck_inv h
        refine tri_reg env [] 7 1024 [.keep [0, 1, 5, 25] [] []] ⟨26, [(0, .c (.lst 1 a0.length (encF (eI .i64) 0 a0))), (1, .c (.lst 1 a1.length (encF (eI .i64) 0 a1))), (5, .c (.v (.int .i64 v1))), (25, .c (.v (.bool ((a0.getD v1.toNat 0) != (a1.getD v1.toNat 0)))))], [], []⟩ [(0 ≤ v1 ∧ v1 < ((a0.length : Nat) : Int)), (0 ≤ v1 ∧ v1 < ((a1.length : Nat) : Int)), True] (by kernel_rfl) ⟨q3, q4, trivial, trivial⟩ ?_
        refine tri_cond ((a0.getD v1.toNat 0) != (a1.getD v1.toNat 0)) (by kernel_rfl) (fun e5 => ?_) (fun e5 => ?_)
        · replace h := cnd_t h e5
          refine tri_reg env [] 8 1024 [.keep [4] [] []] ⟨26, [(4, .c (.v (.bool false)))], [], []⟩ [] (by kernel_rfl) trivial ?_
          refine tri_ret ?_
          refine inBR ?_
          refine thenR ?_
          refine thenR ?_
          refine inBR ?_
          refine thenR ?_
          rw [some_inv h]
          exact ⟨[], by kernel_rfl, trivial⟩
        · replace h := cnd_f h e5
          refine tri_skip ?_
          refine inBN ?_
          refine thenN ?_
          refine tri_reg_end env [] 6 1024 [.keep [0, 1, 5] [] []] ⟨26, [(0, .c (.lst 1 a0.length (encF (eI .i64) 0 a0))), (1, .c (.lst 1 a1.length (encF (eI .i64) 0 a1))), (5, .c (.v (.int .i64 (IntKind.wrap .i64 (v1 + 1)))))], [], []⟩ [True] (by kernel_rfl) ⟨trivial, trivial⟩ ?_
          exact thenJ (IntKind.wrap .i64 (v1 + 1)) h (by kernel_rfl)
      · replace h := cnd_f h e2
        refine tri_tell [.keep [] [] []] ⟨26, [], [], []⟩ [] (by kernel_rfl) trivial ?_
        refine tri_exit ?_
        refine thenE ?_
        refine thenE ?_
        refine inBX ?_
        exact thenJ () h (by kernel_rfl)
end Go.Proofs.Ytmkhmonbfikbpaa
