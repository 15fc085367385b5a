/- What the code of a function does. -/
import Derived.Test.YtmkhmonbfikbpaaGB
import Derived.Test.YtmkhmonbfikbpaaGC28
namespace Go.Proofs.Ytmkhmonbfikbpaa
open Go Go.RowKit Go.Ev Go.Proofs
set_option linter.unusedVariables false

set_option maxRecDepth 100000
theorem ok_ref01_All (K : Nat) (a0 : T_Mine) (a1 : (List T_Edit)) (r : (T_Mine × Int × Int)) (h : ref01_All K a0 a1 = some r) : FnOk Try.prog 30 (ax_ref01_All a0 a1) (rx_ref01_All r) (px_ref01_All r) := by
  refine ⟨⟨Try.f30, Try.func30, by kernel_rfl, by kernel_rfl⟩, ?_⟩
  unfold ref01_All at h
  refine fn_ok env Try.func30 rfl ⟨34, [(0, .agg [.lst 2 a0.Places.length (encF e_Place d_Place a0.Places), .lst 10 a0.Roads.length (encF e_Road d_Road a0.Roads)]), (1, .c (.lst 16 a1.length (encF e_Edit d_Edit a1)))], [], []⟩ [] (by kernel_rfl) fun X => ?_
  refine tri_reg env [] 1 1024 [.keep [1, 2, 4] [(1000, 0), (1001, 0)] []] ⟨34, [(1, .c (.lst 16 a1.length (encF e_Edit d_Edit a1))), (2, .c (.pvar (1000, 0) 0)), (4, .c (.pvar (1001, 0) 0))], [((1000, 0), [.lst 2 a0.Places.length (encF e_Place d_Place a0.Places), .lst 10 a0.Roads.length (encF e_Road d_Road a0.Roads)]), ((1001, 0), [.nil 2, .nil 10])], []⟩ [] (by kernel_rfl) trivial ?_
  refine tri_joinC (fun (v2 : ((List T_Place) × (List T_Road))) => ⟨34, [(1, .c (.lst 16 a1.length (encF e_Edit d_Edit a1))), (2, .c (.pvar (1000, 0) 0)), (4, .c (.pvar (1001, 0) 0))], [((1000, 0), [.lst 2 v2.1.length (encF e_Place d_Place v2.1), .lst 10 v2.2.length (encF e_Road d_Road v2.2)]), ((1001, 0), [.nil 2, .nil 10])], []⟩) h (fun v2 h => ?_) (fun j2 h => ?_)
  · refine tri_reg env [] 9 1024 [.keep [4, 5, 6] [(1001, 0)] []] ⟨34, [(4, .c (.pvar (1001, 0) 0)), (5, .c (.v (.int .i64 ((a1.length : Nat) : Int)))), (6, .c (.v (.int .i64 0)))], [((1001, 0), [.lst 2 v2.1.length (encF e_Place d_Place v2.1), .lst 10 v2.2.length (encF e_Road d_Road v2.2)])], []⟩ [] (by kernel_rfl) trivial ?_
    refine tri_ret ?_
    rw [some_inv h]
    exact ⟨[], by kernel_rfl, trivial⟩
  · refine tri_reg env [] 2 1024 [.keep [1, 2, 4, 7] [(1000, 0), (1001, 0)] []] ⟨34, [(1, .c (.lst 16 a1.length (encF e_Edit d_Edit a1))), (2, .c (.pvar (1000, 0) 0)), (4, .c (.pvar (1001, 0) 0)), (7, .c (.v (.int .i64 0)))], [((1000, 0), [.lst 2 a0.Places.length (encF e_Place d_Place a0.Places), .lst 10 a0.Roads.length (encF e_Road d_Road a0.Roads)]), ((1001, 0), [.nil 2, .nil 10])], []⟩ [] (by kernel_rfl) trivial ?_
    refine tri_block ?_
    refine tri_loopK (fun (v1 : (Int × (List T_Place) × (List T_Road))) => ⟨34, [(1, .c (.lst 16 a1.length (encF e_Edit d_Edit a1))), (2, .c (.pvar (1000, 0) 0)), (4, .c (.pvar (1001, 0) 0)), (7, .c (.v (.int .i64 v1.1)))], [((1000, 0), [.lst 2 v1.2.1.length (encF e_Place d_Place v1.2.1), .lst 10 v1.2.2.length (encF e_Road d_Road v1.2.2)]), ((1001, 0), [.nil 2, .nil 10])], []⟩) (v := (0, a0.Places, a0.Roads)) h (fun self1 v1 h => ?_) (by kernel_rfl)
    unfold ref01_All_b1 at h
    refine tri_seq ?_
    refine tri_reg env [] 3 1024 [.keep [1, 2, 4, 7, 13] [(1000, 0), (1001, 0)] []] ⟨34, [(1, .c (.lst 16 a1.length (encF e_Edit d_Edit a1))), (2, .c (.pvar (1000, 0) 0)), (4, .c (.pvar (1001, 0) 0)), (7, .c (.v (.int .i64 v1.1))), (13, .c (.v (.bool (decide (v1.1 < ((a1.length : Nat) : Int))))))], [((1000, 0), [.lst 2 v1.2.1.length (encF e_Place d_Place v1.2.1), .lst 10 v1.2.2.length (encF e_Road d_Road v1.2.2)]), ((1001, 0), [.nil 2, .nil 10])], []⟩ [True] (by kernel_rfl) ⟨trivial, trivial⟩ ?_
    refine tri_cond (decide (v1.1 < ((a1.length : Nat) : Int))) (by kernel_rfl) (fun e1 => ?_) (fun e1 => ?_)
    · replace h := cnd_t h e1
      refine tri_skip ?_
      refine thenN ?_
      refine tri_seq ?_
      refine tri_block ?_
      obtain ⟨q2, h⟩ := ck_inv h
      obtain ⟨y3, c4, h⟩ := bnd_inv h
      refine tri_reg env [(5, .call ⟨(ax_ref01_Apply (⟨v1.2.1, v1.2.2⟩ : T_Mine) (a1.getD v1.1.toNat d_Edit)), [false, false], rx_ref01_Apply y3, px_ref01_Apply y3, true⟩)] 5 1024 [.keep [1, 2, 4, 7, 8, 9] [(1000, 0), (1001, 0), (5009, 0)] [(5005, 0), (5005, 4)]] ⟨34, [(1, .c (.lst 16 a1.length (encF e_Edit d_Edit a1))), (2, .c (.pvar (1000, 0) 0)), (4, .c (.pvar (1001, 0) 0)), (7, .c (.v (.int .i64 v1.1))), (8, .c (.pvar (5009, 0) 0)), (9, .c (.v (.int .i64 y3.2)))], [((1000, 0), [.lst 2 v1.2.1.length (encF e_Place d_Place v1.2.1), .lst 10 v1.2.2.length (encF e_Road d_Road v1.2.2)]), ((1001, 0), [.nil 2, .nil 10]), ((5009, 0), [.ref (5005, 0) y3.1.Places.length, .ref (5005, 4) y3.1.Roads.length])], [((5005, 0), some ⟨false, 2, y3.1.Places.length, encF e_Place d_Place y3.1.Places⟩), ((5005, 4), some ⟨false, 10, y3.1.Roads.length, encF e_Road d_Road y3.1.Roads⟩)]⟩ [(0 ≤ v1.1 ∧ v1.1 < ((a1.length : Nat) : Int)), (EqXs (ax_ref01_Apply (⟨v1.2.1, v1.2.2⟩ : T_Mine) (a1.getD v1.1.toNat d_Edit)) (ax_ref01_Apply (⟨v1.2.1, v1.2.2⟩ : T_Mine) (a1.getD v1.1.toNat d_Edit))), (FnOk Try.prog 28 (ax_ref01_Apply (⟨v1.2.1, v1.2.2⟩ : T_Mine) (a1.getD v1.1.toNat d_Edit)) (rx_ref01_Apply y3) (px_ref01_Apply y3))] (by kernel_rfl) ⟨q2, (eqs (eqa (eqr _) (eqa (eqr _) eqa0)) (eqs (eqa (eqr _) (eqa (eqr _) (eqa (eqr _) (eqa (eqr _) (eqa (eqr _) (eqa (eqr _) (eqa (eqr _) (eqa (eqr _) (eqa (eqr _) (eqa (eqr _) (eqa (eqr _) (eqa (eqr _) (eqa (eqr _) (eqa (eqr _) (eqa (eqr _) (eqa (eqr _) eqa0)))))))))))))))) eqs0)), (ok_ref01_Apply K (⟨v1.2.1, v1.2.2⟩ : T_Mine) (a1.getD v1.1.toNat d_Edit) y3 c4), trivial⟩ ?_
      refine tri_seq ?_
      refine tri_reg env [] 6 1024 [.keep [1, 2, 4, 7, 8, 9, 26] [(1000, 0), (1001, 0), (5009, 0)] [(5005, 0), (5005, 4)]] ⟨34, [(1, .c (.lst 16 a1.length (encF e_Edit d_Edit a1))), (2, .c (.pvar (1000, 0) 0)), (4, .c (.pvar (1001, 0) 0)), (7, .c (.v (.int .i64 v1.1))), (8, .c (.pvar (5009, 0) 0)), (9, .c (.v (.int .i64 y3.2))), (26, .c (.v (.bool (y3.2 != 0))))], [((1000, 0), [.lst 2 v1.2.1.length (encF e_Place d_Place v1.2.1), .lst 10 v1.2.2.length (encF e_Road d_Road v1.2.2)]), ((1001, 0), [.nil 2, .nil 10]), ((5009, 0), [.ref (5005, 0) y3.1.Places.length, .ref (5005, 4) y3.1.Roads.length])], [((5005, 0), some ⟨false, 2, y3.1.Places.length, encF e_Place d_Place y3.1.Places⟩), ((5005, 4), some ⟨false, 10, y3.1.Roads.length, encF e_Road d_Road y3.1.Roads⟩)]⟩ [True] (by kernel_rfl) ⟨trivial, trivial⟩ ?_
      refine tri_cond (y3.2 != 0) (by kernel_rfl) (fun e5 => ?_) (fun e5 => ?_)
      · replace h := cnd_t h e5
        refine tri_reg env [] 7 1024 [.keep [4, 5, 6] [(1001, 0)] []] ⟨34, [(4, .c (.pvar (1001, 0) 0)), (5, .c (.v (.int .i64 v1.1))), (6, .c (.v (.int .i64 y3.2)))], [((1001, 0), [.lst 2 v1.2.1.length (encF e_Place d_Place v1.2.1), .lst 10 v1.2.2.length (encF e_Road d_Road v1.2.2)])], []⟩ [] (by kernel_rfl) trivial ?_
        refine tri_ret ?_
        refine thenR ?_
        refine inBR ?_
        refine thenR ?_
        refine thenR ?_
        refine inBR ?_
        refine thenR ?_
        rw [some_inv h]
        exact ⟨[], by kernel_rfl, trivial⟩
      · replace h := cnd_f h e5
        refine tri_skip ?_
        refine thenN ?_
        refine tri_reg_end env [] 8 1024 [.keep [1, 2, 4, 7] [(1000, 0), (1001, 0)] [(5005, 0), (5005, 4)]] ⟨34, [(1, .c (.lst 16 a1.length (encF e_Edit d_Edit a1))), (2, .c (.pvar (1000, 0) 0)), (4, .c (.pvar (1001, 0) 0)), (7, .c (.v (.int .i64 v1.1)))], [((1000, 0), [.ref (5005, 0) y3.1.Places.length, .ref (5005, 4) y3.1.Roads.length]), ((1001, 0), [.nil 2, .nil 10])], [((5005, 0), some ⟨false, 2, y3.1.Places.length, encF e_Place d_Place y3.1.Places⟩), ((5005, 4), some ⟨false, 10, y3.1.Roads.length, encF e_Road d_Road y3.1.Roads⟩)]⟩ [] (by kernel_rfl) trivial ?_
        refine inBN ?_
        refine thenN ?_
        refine tri_reg_end env [] 4 1024 [.keep [1, 2, 4, 7] [(1000, 0), (1001, 0)] [(5005, 0), (5005, 4)], .immV (1000, 0) 0, .immV (1000, 0) 1, .keep [1, 2, 4, 7] [(1000, 0), (1001, 0)] []] ⟨34, [(1, .c (.lst 16 a1.length (encF e_Edit d_Edit a1))), (2, .c (.pvar (1000, 0) 0)), (4, .c (.pvar (1001, 0) 0)), (7, .c (.v (.int .i64 (IntKind.wrap .i64 (v1.1 + 1)))))], [((1000, 0), [.lst 2 y3.1.Places.length (encF e_Place d_Place y3.1.Places), .lst 10 y3.1.Roads.length (encF e_Road d_Road y3.1.Roads)]), ((1001, 0), [.nil 2, .nil 10])], []⟩ [True] (by kernel_rfl) ⟨trivial, trivial⟩ ?_
        exact thenJ ((IntKind.wrap .i64 (v1.1 + 1)), y3.1.Places, y3.1.Roads) h (by kernel_rfl)
    · replace h := cnd_f h e1
      refine tri_tell [.keep [1, 2, 4] [(1000, 0), (1001, 0)] []] ⟨34, [(1, .c (.lst 16 a1.length (encF e_Edit d_Edit a1))), (2, .c (.pvar (1000, 0) 0)), (4, .c (.pvar (1001, 0) 0))], [((1000, 0), [.lst 2 v1.2.1.length (encF e_Place d_Place v1.2.1), .lst 10 v1.2.2.length (encF e_Road d_Road v1.2.2)]), ((1001, 0), [.nil 2, .nil 10])], []⟩ [] (by kernel_rfl) trivial ?_
      refine tri_exit ?_
      refine thenE ?_
      refine thenE ?_
      refine inBX ?_
      exact thenJ (v1.2.1, v1.2.2) h (by kernel_rfl)
end Go.Proofs.Ytmkhmonbfikbpaa
