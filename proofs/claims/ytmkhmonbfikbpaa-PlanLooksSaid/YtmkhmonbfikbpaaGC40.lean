/- What the code of a function does. -/
import Derived.Test.YtmkhmonbfikbpaaGB
import Derived.Test.YtmkhmonbfikbpaaGC34
namespace Go.Proofs.Ytmkhmonbfikbpaa
open Go Go.RowKit Go.Ev Go.Proofs
set_option linter.unusedVariables false

set_option maxRecDepth 100000
theorem ok_ref01_Lists (K : Nat) (a0 : (List (List Int))) (a1 : (List (List Int))) (r : Bool) (h : ref01_Lists K a0 a1 = some r) : FnOk Try.prog 40 (ax_ref01_Lists a0 a1) (rx_ref01_Lists r) (px_ref01_Lists r) := by
  refine ⟨⟨Try.f40, Try.func40, by kernel_rfl, by kernel_rfl⟩, ?_⟩
  unfold ref01_Lists at h
  refine fn_ok env Try.func40 rfl ⟨27, [(0, .c (.lst 1 a0.length (encF (eL 1 (eI .i64) 0) [] a0))), (1, .c (.lst 1 a1.length (encF (eL 1 (eI .i64) 0) [] a1)))], [], []⟩ [] (by kernel_rfl) fun X => ?_
  refine tri_reg env [] 1 1024 [.keep [0, 1] [] []] ⟨27, [(0, .c (.lst 1 a0.length (encF (eL 1 (eI .i64) 0) [] a0))), (1, .c (.lst 1 a1.length (encF (eL 1 (eI .i64) 0) [] a1)))], [], []⟩ [] (by kernel_rfl) trivial ?_
  refine tri_seq ?_
  refine tri_reg env [] 2 1024 [.keep [0, 1, 10] [] []] ⟨27, [(0, .c (.lst 1 a0.length (encF (eL 1 (eI .i64) 0) [] a0))), (1, .c (.lst 1 a1.length (encF (eL 1 (eI .i64) 0) [] a1))), (10, .c (.v (.bool (((a0.length : Nat) : Int) != ((a1.length : Nat) : Int)))))], [], []⟩ [True] (by kernel_rfl) ⟨trivial, trivial⟩ ?_
  refine tri_cond (((a0.length : Nat) : Int) != ((a1.length : Nat) : Int)) (by kernel_rfl) (fun e1 => ?_) (fun e1 => ?_)
  · replace h := cnd_t h e1
    refine tri_reg env [] 3 1024 [.keep [4] [] []] ⟨27, [(4, .c (.v (.bool false)))], [], []⟩ [] (by kernel_rfl) trivial ?_
    refine tri_ret ?_
    refine thenR ?_
    rw [some_inv h]
    exact ⟨[], by kernel_rfl, trivial⟩
  · replace h := cnd_f h e1
    refine tri_skip ?_
    refine thenN ?_
    refine tri_joinC (fun (v2 : Unit) => ⟨27, [], [], []⟩) h (fun v2 h => ?_) (fun j2 h => ?_)
    · refine tri_reg env [] 9 1024 [.keep [4] [] []] ⟨27, [(4, .c (.v (.bool true)))], [], []⟩ [] (by kernel_rfl) trivial ?_
      refine tri_ret ?_
      rw [some_inv h]
      exact ⟨[], by kernel_rfl, trivial⟩
    · refine tri_reg env [] 4 1024 [.keep [0, 1, 5] [] []] ⟨27, [(0, .c (.lst 1 a0.length (encF (eL 1 (eI .i64) 0) [] a0))), (1, .c (.lst 1 a1.length (encF (eL 1 (eI .i64) 0) [] a1))), (5, .c (.v (.int .i64 0)))], [], []⟩ [] (by kernel_rfl) trivial ?_
      refine tri_block ?_
      refine tri_loopK (fun (v1 : Int) => ⟨27, [(0, .c (.lst 1 a0.length (encF (eL 1 (eI .i64) 0) [] a0))), (1, .c (.lst 1 a1.length (encF (eL 1 (eI .i64) 0) [] a1))), (5, .c (.v (.int .i64 v1)))], [], []⟩) (v := 0) h (fun self1 v1 h => ?_) (by kernel_rfl)
      unfold ref01_Lists_b1 at h
      refine tri_seq ?_
      refine tri_reg env [] 5 1024 [.keep [0, 1, 5, 14] [] []] ⟨27, [(0, .c (.lst 1 a0.length (encF (eL 1 (eI .i64) 0) [] a0))), (1, .c (.lst 1 a1.length (encF (eL 1 (eI .i64) 0) [] a1))), (5, .c (.v (.int .i64 v1))), (14, .c (.v (.bool (decide (v1 < ((a0.length : Nat) : Int))))))], [], []⟩ [True] (by kernel_rfl) ⟨trivial, trivial⟩ ?_
      refine tri_cond (decide (v1 < ((a0.length : Nat) : Int))) (by kernel_rfl) (fun e2 => ?_) (fun e2 => ?_)
      · replace h := cnd_t h e2
        refine tri_skip ?_
        refine thenN ?_
        refine tri_seq ?_
        refine tri_block ?_
        obtain ⟨q3, h⟩ := ck_inv h
        obtain ⟨q4, h⟩ := ck_inv h
        obtain ⟨y5, c6, h⟩ := bnd_inv h
        refine tri_reg env [(8, .call ⟨(ax_ref01_Ints (a0.getD v1.toNat []) (a1.getD v1.toNat [])), [false, false], rx_ref01_Ints y5, px_ref01_Ints y5, true⟩)] 7 1024 [.keep [0, 1, 5, 26] [] []] ⟨27, [(0, .c (.lst 1 a0.length (encF (eL 1 (eI .i64) 0) [] a0))), (1, .c (.lst 1 a1.length (encF (eL 1 (eI .i64) 0) [] a1))), (5, .c (.v (.int .i64 v1))), (26, .c (.v (.bool (!y5))))], [], []⟩ [(0 ≤ v1 ∧ v1 < ((a0.length : Nat) : Int)), (0 ≤ v1 ∧ v1 < ((a1.length : Nat) : Int)), (EqXs (ax_ref01_Ints (a0.getD v1.toNat []) (a1.getD v1.toNat [])) (ax_ref01_Ints (a0.getD v1.toNat []) (a1.getD v1.toNat []))), (FnOk Try.prog 34 (ax_ref01_Ints (a0.getD v1.toNat []) (a1.getD v1.toNat [])) (rx_ref01_Ints y5) (px_ref01_Ints y5))] (by kernel_rfl) ⟨q3, q4, (eqs (eqr _) (eqs (eqr _) eqs0)), (ok_ref01_Ints K (a0.getD v1.toNat []) (a1.getD v1.toNat []) y5 c6), trivial⟩ ?_
        refine tri_cond (!y5) (by kernel_rfl) (fun e7 => ?_) (fun e7 => ?_)
        · replace h := cnd_t h e7
          refine tri_reg env [] 8 1024 [.keep [4] [] []] ⟨27, [(4, .c (.v (.bool false)))], [], []⟩ [] (by kernel_rfl) trivial ?_
          refine tri_ret ?_
          refine inBR ?_
          refine thenR ?_
          refine thenR ?_
          refine inBR ?_
          refine thenR ?_
          rw [some_inv h]
          exact ⟨[], by kernel_rfl, trivial⟩
        · replace h := cnd_f h e7
          refine tri_skip ?_
          refine inBN ?_
          refine thenN ?_
          refine tri_reg_end env [] 6 1024 [.keep [0, 1, 5] [] []] ⟨27, [(0, .c (.lst 1 a0.length (encF (eL 1 (eI .i64) 0) [] a0))), (1, .c (.lst 1 a1.length (encF (eL 1 (eI .i64) 0) [] a1))), (5, .c (.v (.int .i64 (IntKind.wrap .i64 (v1 + 1)))))], [], []⟩ [True] (by kernel_rfl) ⟨trivial, trivial⟩ ?_
          exact thenJ (IntKind.wrap .i64 (v1 + 1)) h (by kernel_rfl)
      · replace h := cnd_f h e2
        refine tri_tell [.keep [] [] []] ⟨27, [], [], []⟩ [] (by kernel_rfl) trivial ?_
        refine tri_exit ?_
        refine thenE ?_
        refine thenE ?_
        refine inBX ?_
        exact thenJ () h (by kernel_rfl)
end Go.Proofs.Ytmkhmonbfikbpaa
