/- What the code of a function does. -/
import Derived.Test.YtmkhmonbfikbpaaGB
namespace Go.Proofs.Ytmkhmonbfikbpaa
open Go Go.RowKit Go.Ev Go.Proofs
set_option linter.unusedVariables false

set_option maxRecDepth 100000
theorem ok_ref01_Same (K : Nat) (a0 : T_Mine) (a1 : T_Mine) (r : Bool) (h : ref01_Same K a0 a1 = some r) : FnOk Try.prog 26 (ax_ref01_Same a0 a1) (rx_ref01_Same r) (px_ref01_Same r) := by
  refine ⟨⟨Try.f26, Try.func26, by kernel_rfl, by kernel_rfl⟩, ?_⟩
  unfold ref01_Same at h
  refine fn_ok env Try.func26 rfl ⟨59, [(0, .agg [.lst 2 a0.Places.length (encF e_Place d_Place a0.Places), .lst 10 a0.Roads.length (encF e_Road d_Road a0.Roads)]), (1, .agg [.lst 2 a1.Places.length (encF e_Place d_Place a1.Places), .lst 10 a1.Roads.length (encF e_Road d_Road a1.Roads)])], [], []⟩ [] (by kernel_rfl) fun X => ?_
  refine tri_reg env [] 1 1024 [.keep [2, 3] [(1000, 0), (1001, 0)] []] ⟨59, [(2, .c (.pvar (1000, 0) 0)), (3, .c (.pvar (1001, 0) 0))], [((1000, 0), [.lst 2 a0.Places.length (encF e_Place d_Place a0.Places), .lst 10 a0.Roads.length (encF e_Road d_Road a0.Roads)]), ((1001, 0), [.lst 2 a1.Places.length (encF e_Place d_Place a1.Places), .lst 10 a1.Roads.length (encF e_Road d_Road a1.Roads)])], []⟩ [] (by kernel_rfl) trivial ?_
  refine tri_seq ?_
  refine cnd_split h (fun e1 h => ?_) (fun e1 h => ?_)
  · refine tri_reg env [(7, .b true), (15, .b true)] 2 1024 [.keep [2, 3, 22] [(1000, 0), (1001, 0)] []] ⟨59, [(2, .c (.pvar (1000, 0) 0)), (3, .c (.pvar (1001, 0) 0)), (22, .c (.v (.bool true)))], [((1000, 0), [.lst 2 a0.Places.length (encF e_Place d_Place a0.Places), .lst 10 a0.Roads.length (encF e_Road d_Road a0.Roads)]), ((1001, 0), [.lst 2 a1.Places.length (encF e_Place d_Place a1.Places), .lst 10 a1.Roads.length (encF e_Road d_Road a1.Roads)])], []⟩ [True, ((((a0.Places.length : Nat) : Int) != ((a1.Places.length : Nat) : Int)) = true), ((((a0.Places.length : Nat) : Int) != ((a1.Places.length : Nat) : Int)) = true), ((((a0.Places.length : Nat) : Int) != ((a1.Places.length : Nat) : Int)) = true), ((((a0.Places.length : Nat) : Int) != ((a1.Places.length : Nat) : Int)) = true), ((((a0.Places.length : Nat) : Int) != ((a1.Places.length : Nat) : Int)) = true), ((((a0.Places.length : Nat) : Int) != ((a1.Places.length : Nat) : Int)) = true), ((((a0.Places.length : Nat) : Int) != ((a1.Places.length : Nat) : Int)) = true), ((((a0.Places.length : Nat) : Int) != ((a1.Places.length : Nat) : Int)) = true)] (by kernel_rfl) ⟨trivial, e1, e1, e1, e1, e1, e1, e1, e1, trivial⟩ ?_
    refine tri_cond true (by kernel_rfl) (fun _ => ?_) (fun e => by cases e)
    refine tri_reg env [] 3 1024 [.keep [4] [] []] ⟨59, [(4, .c (.v (.bool false)))], [], []⟩ [] (by kernel_rfl) trivial ?_
    refine tri_ret ?_
    refine thenR ?_
    rw [some_inv h]
    exact ⟨[], by kernel_rfl, trivial⟩
  · refine tri_reg env [(7, .b false), (15, .b false)] 2 1024 [.keep [2, 3, 22] [(1000, 0), (1001, 0)] []] ⟨59, [(2, .c (.pvar (1000, 0) 0)), (3, .c (.pvar (1001, 0) 0)), (22, .c (.v (.bool (((a0.Roads.length : Nat) : Int) != ((a1.Roads.length : Nat) : Int)))))], [((1000, 0), [.lst 2 a0.Places.length (encF e_Place d_Place a0.Places), .lst 10 a0.Roads.length (encF e_Road d_Road a0.Roads)]), ((1001, 0), [.lst 2 a1.Places.length (encF e_Place d_Place a1.Places), .lst 10 a1.Roads.length (encF e_Road d_Road a1.Roads)])], []⟩ [True, ((((a0.Places.length : Nat) : Int) != ((a1.Places.length : Nat) : Int)) = false), ((((a0.Places.length : Nat) : Int) != ((a1.Places.length : Nat) : Int)) = false), ((((a0.Places.length : Nat) : Int) != ((a1.Places.length : Nat) : Int)) = false), ((((a0.Places.length : Nat) : Int) != ((a1.Places.length : Nat) : Int)) = false), ((((a0.Places.length : Nat) : Int) != ((a1.Places.length : Nat) : Int)) = false), ((((a0.Places.length : Nat) : Int) != ((a1.Places.length : Nat) : Int)) = false), ((((a0.Places.length : Nat) : Int) != ((a1.Places.length : Nat) : Int)) = false), True, ((((a0.Places.length : Nat) : Int) != ((a1.Places.length : Nat) : Int)) = false)] (by kernel_rfl) ⟨trivial, e1, e1, e1, e1, e1, e1, e1, trivial, e1, trivial⟩ ?_
    refine tri_cond (((a0.Roads.length : Nat) : Int) != ((a1.Roads.length : Nat) : Int)) (by kernel_rfl) (fun e3 => ?_) (fun e3 => ?_)
    · replace h := cnd_t h e3
      refine tri_reg env [] 3 1024 [.keep [4] [] []] ⟨59, [(4, .c (.v (.bool false)))], [], []⟩ [] (by kernel_rfl) trivial ?_
      refine tri_ret ?_
      refine thenR ?_
      rw [some_inv h]
      exact ⟨[], by kernel_rfl, trivial⟩
    · replace h := cnd_f h e3
      refine tri_skip ?_
      refine thenN ?_
      refine tri_joinC (fun (v2 : Unit) => ⟨59, [(2, .c (.pvar (1000, 0) 0)), (3, .c (.pvar (1001, 0) 0))], [((1000, 0), [.lst 2 a0.Places.length (encF e_Place d_Place a0.Places), .lst 10 a0.Roads.length (encF e_Road d_Road a0.Roads)]), ((1001, 0), [.lst 2 a1.Places.length (encF e_Place d_Place a1.Places), .lst 10 a1.Roads.length (encF e_Road d_Road a1.Roads)])], []⟩) h (fun v2 h => ?_) (fun j2 h => ?_)
      · refine tri_joinC (fun (v4 : Unit) => ⟨59, [], [], []⟩) h (fun v4 h => ?_) (fun j4 h => ?_)
        · refine tri_reg env [] 14 1024 [.keep [4] [] []] ⟨59, [(4, .c (.v (.bool true)))], [], []⟩ [] (by kernel_rfl) trivial ?_
          refine tri_ret ?_
          rw [some_inv h]
          exact ⟨[], by kernel_rfl, trivial⟩
        · refine tri_reg env [] 9 1024 [.keep [2, 3, 6] [(1000, 0), (1001, 0)] []] ⟨59, [(2, .c (.pvar (1000, 0) 0)), (3, .c (.pvar (1001, 0) 0)), (6, .c (.v (.int .i64 0)))], [((1000, 0), [.lst 2 a0.Places.length (encF e_Place d_Place a0.Places), .lst 10 a0.Roads.length (encF e_Road d_Road a0.Roads)]), ((1001, 0), [.lst 2 a1.Places.length (encF e_Place d_Place a1.Places), .lst 10 a1.Roads.length (encF e_Road d_Road a1.Roads)])], []⟩ [] (by kernel_rfl) trivial ?_
          refine tri_block ?_
          refine tri_loopK (fun (v3 : Int) => ⟨59, [(2, .c (.pvar (1000, 0) 0)), (3, .c (.pvar (1001, 0) 0)), (6, .c (.v (.int .i64 v3)))], [((1000, 0), [.lst 2 a0.Places.length (encF e_Place d_Place a0.Places), .lst 10 a0.Roads.length (encF e_Road d_Road a0.Roads)]), ((1001, 0), [.lst 2 a1.Places.length (encF e_Place d_Place a1.Places), .lst 10 a1.Roads.length (encF e_Road d_Road a1.Roads)])], []⟩) (v := 0) h (fun self3 v3 h => ?_) (by kernel_rfl)
          unfold ref01_Same_b3 at h
          refine tri_seq ?_
          refine tri_reg env [] 10 1024 [.keep [2, 3, 6, 45] [(1000, 0), (1001, 0)] []] ⟨59, [(2, .c (.pvar (1000, 0) 0)), (3, .c (.pvar (1001, 0) 0)), (6, .c (.v (.int .i64 v3))), (45, .c (.v (.bool (decide (v3 < ((a0.Roads.length : Nat) : Int))))))], [((1000, 0), [.lst 2 a0.Places.length (encF e_Place d_Place a0.Places), .lst 10 a0.Roads.length (encF e_Road d_Road a0.Roads)]), ((1001, 0), [.lst 2 a1.Places.length (encF e_Place d_Place a1.Places), .lst 10 a1.Roads.length (encF e_Road d_Road a1.Roads)])], []⟩ [True] (by kernel_rfl) ⟨trivial, trivial⟩ ?_
          refine tri_cond (decide (v3 < ((a0.Roads.length : Nat) : Int))) (by kernel_rfl) (fun e4 => ?_) (fun e4 => ?_)
          · replace h := cnd_t h e4
            refine tri_skip ?_
            refine thenN ?_
            refine tri_seq ?_
            refine tri_block ?_
            obtain ⟨q5, h⟩ := ck_inv h
            obtain ⟨q6, h⟩ := ck_inv h
            refine tri_reg env [] 12 1024 [.keep [2, 3, 6, 58] [(1000, 0), (1001, 0)] []] ⟨59, [(2, .c (.pvar (1000, 0) 0)), (3, .c (.pvar (1001, 0) 0)), (6, .c (.v (.int .i64 v3))), (58, .c (.v (.bool (!(((a0.Roads.getD v3.toNat d_Road).From == (a1.Roads.getD v3.toNat d_Road).From) && (((a0.Roads.getD v3.toNat d_Road).To == (a1.Roads.getD v3.toNat d_Road).To) && (((a0.Roads.getD v3.toNat d_Road).Length == (a1.Roads.getD v3.toNat d_Road).Length) && (((a0.Roads.getD v3.toNat d_Road).Area == (a1.Roads.getD v3.toNat d_Road).Area) && (((a0.Roads.getD v3.toNat d_Road).Walk == (a1.Roads.getD v3.toNat d_Road).Walk) && (((a0.Roads.getD v3.toNat d_Road).Closed == (a1.Roads.getD v3.toNat d_Road).Closed) && (((a0.Roads.getD v3.toNat d_Road).Rest_Low == (a1.Roads.getD v3.toNat d_Road).Rest_Low) && (((a0.Roads.getD v3.toNat d_Road).Rest_High == (a1.Roads.getD v3.toNat d_Road).Rest_High) && (((a0.Roads.getD v3.toNat d_Road).Lift_Low == (a1.Roads.getD v3.toNat d_Road).Lift_Low) && ((a0.Roads.getD v3.toNat d_Road).Lift_High == (a1.Roads.getD v3.toNat d_Road).Lift_High))))))))))))))], [((1000, 0), [.lst 2 a0.Places.length (encF e_Place d_Place a0.Places), .lst 10 a0.Roads.length (encF e_Road d_Road a0.Roads)]), ((1001, 0), [.lst 2 a1.Places.length (encF e_Place d_Place a1.Places), .lst 10 a1.Roads.length (encF e_Road d_Road a1.Roads)])], []⟩ [(0 ≤ v3 ∧ v3 < ((a0.Roads.length : Nat) : Int)), (0 ≤ v3 ∧ v3 < ((a1.Roads.length : Nat) : Int)), (EqFact Try.prog 41 (.tmp 52) (.tmp 57) (List.map cval (e_Road (a0.Roads.getD v3.toNat d_Road))) (List.map cval (e_Road (a1.Roads.getD v3.toNat d_Road))) (((a0.Roads.getD v3.toNat d_Road).From == (a1.Roads.getD v3.toNat d_Road).From) && (((a0.Roads.getD v3.toNat d_Road).To == (a1.Roads.getD v3.toNat d_Road).To) && (((a0.Roads.getD v3.toNat d_Road).Length == (a1.Roads.getD v3.toNat d_Road).Length) && (((a0.Roads.getD v3.toNat d_Road).Area == (a1.Roads.getD v3.toNat d_Road).Area) && (((a0.Roads.getD v3.toNat d_Road).Walk == (a1.Roads.getD v3.toNat d_Road).Walk) && (((a0.Roads.getD v3.toNat d_Road).Closed == (a1.Roads.getD v3.toNat d_Road).Closed) && (((a0.Roads.getD v3.toNat d_Road).Rest_Low == (a1.Roads.getD v3.toNat d_Road).Rest_Low) && (((a0.Roads.getD v3.toNat d_Road).Rest_High == (a1.Roads.getD v3.toNat d_Road).Rest_High) && (((a0.Roads.getD v3.toNat d_Road).Lift_Low == (a1.Roads.getD v3.toNat d_Road).Lift_Low) && ((a0.Roads.getD v3.toNat d_Road).Lift_High == (a1.Roads.getD v3.toNat d_Road).Lift_High)))))))))))] (by kernel_rfl) ⟨q5, q6, (eqfact_of (fun w => by kernel_rfl) (eqst41 ((a0.Roads.getD v3.toNat d_Road).From) ((a0.Roads.getD v3.toNat d_Road).To) ((a0.Roads.getD v3.toNat d_Road).Length) ((a0.Roads.getD v3.toNat d_Road).Area) ((a0.Roads.getD v3.toNat d_Road).Walk) ((a0.Roads.getD v3.toNat d_Road).Closed) ((a0.Roads.getD v3.toNat d_Road).Rest_Low) ((a0.Roads.getD v3.toNat d_Road).Rest_High) ((a0.Roads.getD v3.toNat d_Road).Lift_Low) ((a0.Roads.getD v3.toNat d_Road).Lift_High) ((a1.Roads.getD v3.toNat d_Road).From) ((a1.Roads.getD v3.toNat d_Road).To) ((a1.Roads.getD v3.toNat d_Road).Length) ((a1.Roads.getD v3.toNat d_Road).Area) ((a1.Roads.getD v3.toNat d_Road).Walk) ((a1.Roads.getD v3.toNat d_Road).Closed) ((a1.Roads.getD v3.toNat d_Road).Rest_Low) ((a1.Roads.getD v3.toNat d_Road).Rest_High) ((a1.Roads.getD v3.toNat d_Road).Lift_Low) ((a1.Roads.getD v3.toNat d_Road).Lift_High))), trivial⟩ ?_
            refine tri_cond (!(((a0.Roads.getD v3.toNat d_Road).From == (a1.Roads.getD v3.toNat d_Road).From) && (((a0.Roads.getD v3.toNat d_Road).To == (a1.Roads.getD v3.toNat d_Road).To) && (((a0.Roads.getD v3.toNat d_Road).Length == (a1.Roads.getD v3.toNat d_Road).Length) && (((a0.Roads.getD v3.toNat d_Road).Area == (a1.Roads.getD v3.toNat d_Road).Area) && (((a0.Roads.getD v3.toNat d_Road).Walk == (a1.Roads.getD v3.toNat d_Road).Walk) && (((a0.Roads.getD v3.toNat d_Road).Closed == (a1.Roads.getD v3.toNat d_Road).Closed) && (((a0.Roads.getD v3.toNat d_Road).Rest_Low == (a1.Roads.getD v3.toNat d_Road).Rest_Low) && (((a0.Roads.getD v3.toNat d_Road).Rest_High == (a1.Roads.getD v3.toNat d_Road).Rest_High) && (((a0.Roads.getD v3.toNat d_Road).Lift_Low == (a1.Roads.getD v3.toNat d_Road).Lift_Low) && ((a0.Roads.getD v3.toNat d_Road).Lift_High == (a1.Roads.getD v3.toNat d_Road).Lift_High))))))))))) (by kernel_rfl) (fun e7 => ?_) (fun e7 => ?_)
            · replace h := cnd_t h e7
              refine tri_reg env [] 13 1024 [.keep [4] [] []] ⟨59, [(4, .c (.v (.bool false)))], [], []⟩ [] (by kernel_rfl) trivial ?_
              refine tri_ret ?_
              refine inBR ?_
              refine thenR ?_
              refine thenR ?_
              refine inBR ?_
              refine thenR ?_
              rw [some_inv h]
              exact ⟨[], by kernel_rfl, trivial⟩
            · replace h := cnd_f h e7
              refine tri_skip ?_
              refine inBN ?_
              refine thenN ?_
              refine tri_reg_end env [] 11 1024 [.keep [2, 3, 6] [(1000, 0), (1001, 0)] []] ⟨59, [(2, .c (.pvar (1000, 0) 0)), (3, .c (.pvar (1001, 0) 0)), (6, .c (.v (.int .i64 (IntKind.wrap .i64 (v3 + 1)))))], [((1000, 0), [.lst 2 a0.Places.length (encF e_Place d_Place a0.Places), .lst 10 a0.Roads.length (encF e_Road d_Road a0.Roads)]), ((1001, 0), [.lst 2 a1.Places.length (encF e_Place d_Place a1.Places), .lst 10 a1.Roads.length (encF e_Road d_Road a1.Roads)])], []⟩ [True] (by kernel_rfl) ⟨trivial, trivial⟩ ?_
              exact thenJ (IntKind.wrap .i64 (v3 + 1)) h (by kernel_rfl)
          · replace h := cnd_f h e4
            refine tri_tell [.keep [] [] []] ⟨59, [], [], []⟩ [] (by kernel_rfl) trivial ?_
            refine tri_exit ?_
            refine thenE ?_
            refine thenE ?_
            refine inBX ?_
            exact thenJ () h (by kernel_rfl)
      · refine tri_reg env [] 4 1024 [.keep [2, 3, 5] [(1000, 0), (1001, 0)] []] ⟨59, [(2, .c (.pvar (1000, 0) 0)), (3, .c (.pvar (1001, 0) 0)), (5, .c (.v (.int .i64 0)))], [((1000, 0), [.lst 2 a0.Places.length (encF e_Place d_Place a0.Places), .lst 10 a0.Roads.length (encF e_Road d_Road a0.Roads)]), ((1001, 0), [.lst 2 a1.Places.length (encF e_Place d_Place a1.Places), .lst 10 a1.Roads.length (encF e_Road d_Road a1.Roads)])], []⟩ [] (by kernel_rfl) trivial ?_
        refine tri_block ?_
        refine tri_loopK (fun (v1 : Int) => ⟨59, [(2, .c (.pvar (1000, 0) 0)), (3, .c (.pvar (1001, 0) 0)), (5, .c (.v (.int .i64 v1)))], [((1000, 0), [.lst 2 a0.Places.length (encF e_Place d_Place a0.Places), .lst 10 a0.Roads.length (encF e_Road d_Road a0.Roads)]), ((1001, 0), [.lst 2 a1.Places.length (encF e_Place d_Place a1.Places), .lst 10 a1.Roads.length (encF e_Road d_Road a1.Roads)])], []⟩) (v := 0) h (fun self1 v1 h => ?_) (by kernel_rfl)
        unfold ref01_Same_b1 at h
        refine tri_seq ?_
        refine tri_reg env [] 5 1024 [.keep [2, 3, 5, 27] [(1000, 0), (1001, 0)] []] ⟨59, [(2, .c (.pvar (1000, 0) 0)), (3, .c (.pvar (1001, 0) 0)), (5, .c (.v (.int .i64 v1))), (27, .c (.v (.bool (decide (v1 < ((a0.Places.length : Nat) : Int))))))], [((1000, 0), [.lst 2 a0.Places.length (encF e_Place d_Place a0.Places), .lst 10 a0.Roads.length (encF e_Road d_Road a0.Roads)]), ((1001, 0), [.lst 2 a1.Places.length (encF e_Place d_Place a1.Places), .lst 10 a1.Roads.length (encF e_Road d_Road a1.Roads)])], []⟩ [True] (by kernel_rfl) ⟨trivial, trivial⟩ ?_
        refine tri_cond (decide (v1 < ((a0.Places.length : Nat) : Int))) (by kernel_rfl) (fun e8 => ?_) (fun e8 => ?_)
        · replace h := cnd_t h e8
          refine tri_skip ?_
          refine thenN ?_
          refine tri_seq ?_
          refine tri_block ?_
          obtain ⟨q9, h⟩ := ck_inv h
          obtain ⟨q10, h⟩ := ck_inv h
          refine tri_reg env [] 7 1024 [.keep [2, 3, 5, 40] [(1000, 0), (1001, 0)] []] ⟨59, [(2, .c (.pvar (1000, 0) 0)), (3, .c (.pvar (1001, 0) 0)), (5, .c (.v (.int .i64 v1))), (40, .c (.v (.bool (!(((a0.Places.getD v1.toNat d_Place).Height == (a1.Places.getD v1.toNat d_Place).Height) && ((a0.Places.getD v1.toNat d_Place).Surface == (a1.Places.getD v1.toNat d_Place).Surface))))))], [((1000, 0), [.lst 2 a0.Places.length (encF e_Place d_Place a0.Places), .lst 10 a0.Roads.length (encF e_Road d_Road a0.Roads)]), ((1001, 0), [.lst 2 a1.Places.length (encF e_Place d_Place a1.Places), .lst 10 a1.Roads.length (encF e_Road d_Road a1.Roads)])], []⟩ [(0 ≤ v1 ∧ v1 < ((a0.Places.length : Nat) : Int)), (0 ≤ v1 ∧ v1 < ((a1.Places.length : Nat) : Int)), (EqFact Try.prog 37 (.tmp 34) (.tmp 39) (List.map cval [.v (.int .i64 (a0.Places.getD v1.toNat d_Place).Height), .v (.bool (a0.Places.getD v1.toNat d_Place).Surface)]) (List.map cval [.v (.int .i64 (a1.Places.getD v1.toNat d_Place).Height), .v (.bool (a1.Places.getD v1.toNat d_Place).Surface)]) (((a0.Places.getD v1.toNat d_Place).Height == (a1.Places.getD v1.toNat d_Place).Height) && ((a0.Places.getD v1.toNat d_Place).Surface == (a1.Places.getD v1.toNat d_Place).Surface)))] (by kernel_rfl) ⟨q9, q10, (eqfact_of (fun w => by kernel_rfl) (eqst37 ((a0.Places.getD v1.toNat d_Place).Height) ((a0.Places.getD v1.toNat d_Place).Surface) ((a1.Places.getD v1.toNat d_Place).Height) ((a1.Places.getD v1.toNat d_Place).Surface))), trivial⟩ ?_
          refine tri_cond (!(((a0.Places.getD v1.toNat d_Place).Height == (a1.Places.getD v1.toNat d_Place).Height) && ((a0.Places.getD v1.toNat d_Place).Surface == (a1.Places.getD v1.toNat d_Place).Surface))) (by kernel_rfl) (fun e11 => ?_) (fun e11 => ?_)
          · replace h := cnd_t h e11
            refine tri_reg env [] 8 1024 [.keep [4] [] []] ⟨59, [(4, .c (.v (.bool false)))], [], []⟩ [] (by kernel_rfl) trivial ?_
            refine tri_ret ?_
            refine inBR ?_
            refine thenR ?_
            refine thenR ?_
            refine inBR ?_
            refine thenR ?_
            rw [some_inv h]
            exact ⟨[], by kernel_rfl, trivial⟩
          · replace h := cnd_f h e11
            refine tri_skip ?_
            refine inBN ?_
            refine thenN ?_
            refine tri_reg_end env [] 6 1024 [.keep [2, 3, 5] [(1000, 0), (1001, 0)] []] ⟨59, [(2, .c (.pvar (1000, 0) 0)), (3, .c (.pvar (1001, 0) 0)), (5, .c (.v (.int .i64 (IntKind.wrap .i64 (v1 + 1)))))], [((1000, 0), [.lst 2 a0.Places.length (encF e_Place d_Place a0.Places), .lst 10 a0.Roads.length (encF e_Road d_Road a0.Roads)]), ((1001, 0), [.lst 2 a1.Places.length (encF e_Place d_Place a1.Places), .lst 10 a1.Roads.length (encF e_Road d_Road a1.Roads)])], []⟩ [True] (by kernel_rfl) ⟨trivial, trivial⟩ ?_
            exact thenJ (IntKind.wrap .i64 (v1 + 1)) h (by kernel_rfl)
        · replace h := cnd_f h e8
          refine tri_tell [.keep [2, 3] [(1000, 0), (1001, 0)] []] ⟨59, [(2, .c (.pvar (1000, 0) 0)), (3, .c (.pvar (1001, 0) 0))], [((1000, 0), [.lst 2 a0.Places.length (encF e_Place d_Place a0.Places), .lst 10 a0.Roads.length (encF e_Road d_Road a0.Roads)]), ((1001, 0), [.lst 2 a1.Places.length (encF e_Place d_Place a1.Places), .lst 10 a1.Roads.length (encF e_Road d_Road a1.Roads)])], []⟩ [] (by kernel_rfl) trivial ?_
          refine tri_exit ?_
          refine thenE ?_
          refine thenE ?_
          refine inBX ?_
          exact thenJ () h (by kernel_rfl)
end Go.Proofs.Ytmkhmonbfikbpaa
