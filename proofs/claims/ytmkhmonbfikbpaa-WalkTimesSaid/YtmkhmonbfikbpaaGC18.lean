/- What the code of a function does. -/
import Derived.Test.YtmkhmonbfikbpaaGB
import Derived.Test.YtmkhmonbfikbpaaGC58
namespace Go.Proofs.Ytmkhmonbfikbpaa
open Go Go.RowKit Go.Ev Go.Proofs
set_option linter.unusedVariables false

set_option maxRecDepth 100000
theorem ok_plan_Check (K : Nat) (a0 : T_Mine) (r : Int) (h : plan_Check K a0 = some r) : FnOk Try.prog 18 (ax_plan_Check a0) (rx_plan_Check r) (px_plan_Check r) := by
  refine ⟨⟨Try.f18, Try.func18, by kernel_rfl, by kernel_rfl⟩, ?_⟩
  unfold plan_Check at h
  refine fn_ok env Try.func18 rfl ⟨100, [(0, .agg [.lst 2 a0.Places.length (encF e_Place d_Place a0.Places), .lst 10 a0.Roads.length (encF e_Road d_Road a0.Roads)])], [], []⟩ [] (by kernel_rfl) fun X => ?_
  refine tri_reg env [] 1 1024 [.keep [1] [(1000, 0)] []] ⟨100, [(1, .c (.pvar (1000, 0) 0))], [((1000, 0), [.lst 2 a0.Places.length (encF e_Place d_Place a0.Places), .lst 10 a0.Roads.length (encF e_Road d_Road a0.Roads)])], []⟩ [] (by kernel_rfl) trivial ?_
  refine tri_seq ?_
  refine cnd_split h (fun e1 h => ?_) (fun e1 h => ?_)
  · refine tri_reg env [(4, .b true), (9, .b true)] 2 1024 [.keep [1, 17] [(1000, 0)] []] ⟨100, [(1, .c (.pvar (1000, 0) 0)), (17, .c (.v (.bool true)))], [((1000, 0), [.lst 2 a0.Places.length (encF e_Place d_Place a0.Places), .lst 10 a0.Roads.length (encF e_Road d_Road a0.Roads)])], []⟩ [True, ((decide (((a0.Places.length : Nat) : Int) > 64)) = true), ((decide (((a0.Places.length : Nat) : Int) > 64)) = true), ((decide (((a0.Places.length : Nat) : Int) > 64)) = true), ((decide (((a0.Places.length : Nat) : Int) > 64)) = true), ((decide (((a0.Places.length : Nat) : Int) > 64)) = true)] (by kernel_rfl) ⟨trivial, e1, e1, e1, e1, e1, trivial⟩ ?_
    refine tri_cond true (by kernel_rfl) (fun _ => ?_) (fun e => by cases e)
    refine tri_reg env [] 3 1024 [.keep [2] [] []] ⟨100, [(2, .c (.v (.int .i64 2)))], [], []⟩ [] (by kernel_rfl) trivial ?_
    refine tri_ret ?_
    refine thenR ?_
    rw [some_inv h]
    exact ⟨[], by kernel_rfl, trivial⟩
  · refine tri_reg env [(4, .b false), (9, .b false)] 2 1024 [.keep [1, 17] [(1000, 0)] []] ⟨100, [(1, .c (.pvar (1000, 0) 0)), (17, .c (.v (.bool (decide (((a0.Roads.length : Nat) : Int) > 128)))))], [((1000, 0), [.lst 2 a0.Places.length (encF e_Place d_Place a0.Places), .lst 10 a0.Roads.length (encF e_Road d_Road a0.Roads)])], []⟩ [True, ((decide (((a0.Places.length : Nat) : Int) > 64)) = false), ((decide (((a0.Places.length : Nat) : Int) > 64)) = false), ((decide (((a0.Places.length : Nat) : Int) > 64)) = false), ((decide (((a0.Places.length : Nat) : Int) > 64)) = false), True, ((decide (((a0.Places.length : Nat) : Int) > 64)) = false)] (by kernel_rfl) ⟨trivial, e1, e1, e1, e1, trivial, e1, trivial⟩ ?_
    refine tri_cond (decide (((a0.Roads.length : Nat) : Int) > 128)) (by kernel_rfl) (fun e3 => ?_) (fun e3 => ?_)
    · replace h := cnd_t h e3
      refine tri_reg env [] 3 1024 [.keep [2] [] []] ⟨100, [(2, .c (.v (.int .i64 2)))], [], []⟩ [] (by kernel_rfl) trivial ?_
      refine tri_ret ?_
      refine thenR ?_
      rw [some_inv h]
      exact ⟨[], by kernel_rfl, trivial⟩
    · replace h := cnd_f h e3
      refine tri_skip ?_
      refine thenN ?_
      refine tri_joinC (fun (v2 : Unit) => ⟨100, [(1, .c (.pvar (1000, 0) 0))], [((1000, 0), [.lst 2 a0.Places.length (encF e_Place d_Place a0.Places), .lst 10 a0.Roads.length (encF e_Road d_Road a0.Roads)])], []⟩) h (fun v2 h => ?_) (fun j2 h => ?_)
      · refine tri_reg env [] 10 1024 [.keep [1, 5] [(1000, 0)] []] ⟨100, [(1, .c (.pvar (1000, 0) 0)), (5, .c (.v (.int .i64 ((a0.Places.length : Nat) : Int))))], [((1000, 0), [.lst 2 a0.Places.length (encF e_Place d_Place a0.Places), .lst 10 a0.Roads.length (encF e_Road d_Road a0.Roads)])], []⟩ [] (by kernel_rfl) trivial ?_
        refine tri_joinC (fun (v4 : Unit) => ⟨100, [], [], []⟩) h (fun v4 h => ?_) (fun j4 h => ?_)
        · refine tri_reg env [] 21 1024 [.keep [2] [] []] ⟨100, [(2, .c (.v (.int .i64 0)))], [], []⟩ [] (by kernel_rfl) trivial ?_
          refine tri_ret ?_
          rw [some_inv h]
          exact ⟨[], by kernel_rfl, trivial⟩
        · refine tri_reg env [] 11 1024 [.keep [5, 38, 39, 40] [] []] ⟨100, [(5, .c (.v (.int .i64 ((a0.Places.length : Nat) : Int)))), (38, .c (.lst 10 a0.Roads.length (encF e_Road d_Road a0.Roads))), (39, .c (.v (.int .i64 ((a0.Roads.length : Nat) : Int)))), (40, .c (.v (.int .i64 0)))], [], []⟩ [] (by kernel_rfl) trivial ?_
          refine tri_block ?_
          refine tri_loopK (fun (v3 : Int) => ⟨100, [(5, .c (.v (.int .i64 ((a0.Places.length : Nat) : Int)))), (38, .c (.lst 10 a0.Roads.length (encF e_Road d_Road a0.Roads))), (39, .c (.v (.int .i64 ((a0.Roads.length : Nat) : Int)))), (40, .c (.v (.int .i64 v3)))], [], []⟩) (v := 0) h (fun self3 v3 h => ?_) (by kernel_rfl)
          unfold plan_Check_b3 at h
          refine tri_reg env [] 12 1024 [.keep [5, 38, 39, 40, 41] [] []] ⟨100, [(5, .c (.v (.int .i64 ((a0.Places.length : Nat) : Int)))), (38, .c (.lst 10 a0.Roads.length (encF e_Road d_Road a0.Roads))), (39, .c (.v (.int .i64 ((a0.Roads.length : Nat) : Int)))), (40, .c (.v (.int .i64 v3))), (41, .c (.v (.bool (decide (v3 < ((a0.Roads.length : Nat) : Int))))))], [], []⟩ [True] (by kernel_rfl) ⟨trivial, trivial⟩ ?_
          refine tri_seq ?_
          refine tri_cond (decide (v3 < ((a0.Roads.length : Nat) : Int))) (by kernel_rfl) (fun e4 => ?_) (fun e4 => ?_)
          · replace h := cnd_t h e4
            refine tri_skip ?_
            refine thenN ?_
            refine tri_seq ?_
            refine tri_block ?_
            obtain ⟨q5, h⟩ := ck_inv h
            refine tri_reg env [] 13 1024 [.keep [5, 7, 38, 39, 40] [(13002, 0)] []] ⟨100, [(5, .c (.v (.int .i64 ((a0.Places.length : Nat) : Int)))), (7, .c (.pvar (13002, 0) 0)), (38, .c (.lst 10 a0.Roads.length (encF e_Road d_Road a0.Roads))), (39, .c (.v (.int .i64 ((a0.Roads.length : Nat) : Int)))), (40, .c (.v (.int .i64 v3)))], [((13002, 0), (e_Road (a0.Roads.getD v3.toNat d_Road)))], []⟩ [(0 ≤ v3 ∧ v3 < ((a0.Roads.length : Nat) : Int))] (by kernel_rfl) ⟨q5, trivial⟩ ?_
            refine tri_seq ?_
            refine cnd_split h (fun e6 h => ?_) (fun e6 h => ?_)
            · refine tri_reg env [(3, .b true), (8, .b true), (9, .b true), (13, .b true), (14, .b true), (19, .b true), (20, .b true), (26, .b true)] 14 1024 [.keep [5, 7, 38, 39, 40, 70] [(13002, 0)] []] ⟨100, [(5, .c (.v (.int .i64 ((a0.Places.length : Nat) : Int)))), (7, .c (.pvar (13002, 0) 0)), (38, .c (.lst 10 a0.Roads.length (encF e_Road d_Road a0.Roads))), (39, .c (.v (.int .i64 ((a0.Roads.length : Nat) : Int)))), (40, .c (.v (.int .i64 v3))), (70, .c (.v (.bool true)))], [((13002, 0), (e_Road (a0.Roads.getD v3.toNat d_Road)))], []⟩ [True, ((decide ((a0.Roads.getD v3.toNat d_Road).From < 0)) = true), ((decide ((a0.Roads.getD v3.toNat d_Road).From < 0)) = true), ((decide ((a0.Roads.getD v3.toNat d_Road).From < 0)) = true), ((decide ((a0.Roads.getD v3.toNat d_Road).From < 0)) = true), ((decide ((a0.Roads.getD v3.toNat d_Road).From < 0)) = true), (true = true), (true = true), (true = true), (true = true), (true = true), (true = true), (true = true), (true = true), (true = true), (true = true), (true = true), (true = true), (true = true), (true = true), (true = true)] (by kernel_rfl) ⟨trivial, e6, e6, e6, e6, e6, rfl, rfl, rfl, rfl, rfl, rfl, rfl, rfl, rfl, rfl, rfl, rfl, rfl, rfl, rfl, trivial⟩ ?_
              refine tri_cond true (by kernel_rfl) (fun _ => ?_) (fun e => by cases e)
              refine tri_reg env [] 15 1024 [.keep [2] [] []] ⟨100, [(2, .c (.v (.int .i64 4)))], [], []⟩ [] (by kernel_rfl) trivial ?_
              refine tri_ret ?_
              refine thenR ?_
              refine inBR ?_
              refine thenR ?_
              refine thenR ?_
              refine inBR ?_
              refine thenR ?_
              rw [some_inv h]
              exact ⟨[], by kernel_rfl, trivial⟩
            · refine cnd_split h (fun e8 h => ?_) (fun e8 h => ?_)
              · refine tri_reg env [(3, .b false), (8, .b false), (9, .b true), (13, .b true), (14, .b true), (19, .b true), (20, .b true), (26, .b true)] 14 1024 [.keep [5, 7, 38, 39, 40, 70] [(13002, 0)] []] ⟨100, [(5, .c (.v (.int .i64 ((a0.Places.length : Nat) : Int)))), (7, .c (.pvar (13002, 0) 0)), (38, .c (.lst 10 a0.Roads.length (encF e_Road d_Road a0.Roads))), (39, .c (.v (.int .i64 ((a0.Roads.length : Nat) : Int)))), (40, .c (.v (.int .i64 v3))), (70, .c (.v (.bool true)))], [((13002, 0), (e_Road (a0.Roads.getD v3.toNat d_Road)))], []⟩ [True, ((decide ((a0.Roads.getD v3.toNat d_Road).From < 0)) = false), ((decide ((a0.Roads.getD v3.toNat d_Road).From < 0)) = false), ((decide ((a0.Roads.getD v3.toNat d_Road).From < 0)) = false), ((decide ((a0.Roads.getD v3.toNat d_Road).From < 0)) = false), True, ((decide ((a0.Roads.getD v3.toNat d_Road).From < 0)) = false), ((decide ((a0.Roads.getD v3.toNat d_Road).From ≥ ((a0.Places.length : Nat) : Int))) = true), ((decide ((a0.Roads.getD v3.toNat d_Road).From ≥ ((a0.Places.length : Nat) : Int))) = true), ((decide ((a0.Roads.getD v3.toNat d_Road).From ≥ ((a0.Places.length : Nat) : Int))) = true), ((decide ((a0.Roads.getD v3.toNat d_Road).From ≥ ((a0.Places.length : Nat) : Int))) = true), (true = true), (true = true), (true = true), (true = true), (true = true), (true = true), (true = true), (true = true), (true = true), (true = true), (true = true)] (by kernel_rfl) ⟨trivial, e6, e6, e6, e6, trivial, e6, e8, e8, e8, e8, rfl, rfl, rfl, rfl, rfl, rfl, rfl, rfl, rfl, rfl, rfl, trivial⟩ ?_
                refine tri_cond true (by kernel_rfl) (fun _ => ?_) (fun e => by cases e)
                refine tri_reg env [] 15 1024 [.keep [2] [] []] ⟨100, [(2, .c (.v (.int .i64 4)))], [], []⟩ [] (by kernel_rfl) trivial ?_
                refine tri_ret ?_
                refine thenR ?_
                refine inBR ?_
                refine thenR ?_
                refine thenR ?_
                refine inBR ?_
                refine thenR ?_
                rw [some_inv h]
                exact ⟨[], by kernel_rfl, trivial⟩
              · refine cnd_split h (fun e10 h => ?_) (fun e10 h => ?_)
                · refine tri_reg env [(3, .b false), (8, .b false), (9, .b false), (13, .b false), (14, .b true), (19, .b true), (20, .b true), (26, .b true)] 14 1024 [.keep [5, 7, 38, 39, 40, 70] [(13002, 0)] []] ⟨100, [(5, .c (.v (.int .i64 ((a0.Places.length : Nat) : Int)))), (7, .c (.pvar (13002, 0) 0)), (38, .c (.lst 10 a0.Roads.length (encF e_Road d_Road a0.Roads))), (39, .c (.v (.int .i64 ((a0.Roads.length : Nat) : Int)))), (40, .c (.v (.int .i64 v3))), (70, .c (.v (.bool true)))], [((13002, 0), (e_Road (a0.Roads.getD v3.toNat d_Road)))], []⟩ [True, ((decide ((a0.Roads.getD v3.toNat d_Road).From < 0)) = false), ((decide ((a0.Roads.getD v3.toNat d_Road).From < 0)) = false), ((decide ((a0.Roads.getD v3.toNat d_Road).From < 0)) = false), ((decide ((a0.Roads.getD v3.toNat d_Road).From < 0)) = false), True, ((decide ((a0.Roads.getD v3.toNat d_Road).From < 0)) = false), ((decide ((a0.Roads.getD v3.toNat d_Road).From ≥ ((a0.Places.length : Nat) : Int))) = false), ((decide ((a0.Roads.getD v3.toNat d_Road).From ≥ ((a0.Places.length : Nat) : Int))) = false), ((decide ((a0.Roads.getD v3.toNat d_Road).From ≥ ((a0.Places.length : Nat) : Int))) = false), True, ((decide ((a0.Roads.getD v3.toNat d_Road).From ≥ ((a0.Places.length : Nat) : Int))) = false), ((decide ((a0.Roads.getD v3.toNat d_Road).To < 0)) = true), ((decide ((a0.Roads.getD v3.toNat d_Road).To < 0)) = true), ((decide ((a0.Roads.getD v3.toNat d_Road).To < 0)) = true), ((decide ((a0.Roads.getD v3.toNat d_Road).To < 0)) = true), ((decide ((a0.Roads.getD v3.toNat d_Road).To < 0)) = true), (true = true), (true = true), (true = true), (true = true), (true = true), (true = true)] (by kernel_rfl) ⟨trivial, e6, e6, e6, e6, trivial, e6, e8, e8, e8, trivial, e8, e10, e10, e10, e10, e10, rfl, rfl, rfl, rfl, rfl, rfl, trivial⟩ ?_
                  refine tri_cond true (by kernel_rfl) (fun _ => ?_) (fun e => by cases e)
                  refine tri_reg env [] 15 1024 [.keep [2] [] []] ⟨100, [(2, .c (.v (.int .i64 4)))], [], []⟩ [] (by kernel_rfl) trivial ?_
                  refine tri_ret ?_
                  refine thenR ?_
                  refine inBR ?_
                  refine thenR ?_
                  refine thenR ?_
                  refine inBR ?_
                  refine thenR ?_
                  rw [some_inv h]
                  exact ⟨[], by kernel_rfl, trivial⟩
                · refine cnd_split h (fun e12 h => ?_) (fun e12 h => ?_)
                  · refine tri_reg env [(3, .b false), (8, .b false), (9, .b false), (13, .b false), (14, .b false), (19, .b false), (20, .b true), (26, .b true)] 14 1024 [.keep [5, 7, 38, 39, 40, 70] [(13002, 0)] []] ⟨100, [(5, .c (.v (.int .i64 ((a0.Places.length : Nat) : Int)))), (7, .c (.pvar (13002, 0) 0)), (38, .c (.lst 10 a0.Roads.length (encF e_Road d_Road a0.Roads))), (39, .c (.v (.int .i64 ((a0.Roads.length : Nat) : Int)))), (40, .c (.v (.int .i64 v3))), (70, .c (.v (.bool true)))], [((13002, 0), (e_Road (a0.Roads.getD v3.toNat d_Road)))], []⟩ [True, ((decide ((a0.Roads.getD v3.toNat d_Road).From < 0)) = false), ((decide ((a0.Roads.getD v3.toNat d_Road).From < 0)) = false), ((decide ((a0.Roads.getD v3.toNat d_Road).From < 0)) = false), ((decide ((a0.Roads.getD v3.toNat d_Road).From < 0)) = false), True, ((decide ((a0.Roads.getD v3.toNat d_Road).From < 0)) = false), ((decide ((a0.Roads.getD v3.toNat d_Road).From ≥ ((a0.Places.length : Nat) : Int))) = false), ((decide ((a0.Roads.getD v3.toNat d_Road).From ≥ ((a0.Places.length : Nat) : Int))) = false), ((decide ((a0.Roads.getD v3.toNat d_Road).From ≥ ((a0.Places.length : Nat) : Int))) = false), True, ((decide ((a0.Roads.getD v3.toNat d_Road).From ≥ ((a0.Places.length : Nat) : Int))) = false), ((decide ((a0.Roads.getD v3.toNat d_Road).To < 0)) = false), ((decide ((a0.Roads.getD v3.toNat d_Road).To < 0)) = false), ((decide ((a0.Roads.getD v3.toNat d_Road).To < 0)) = false), ((decide ((a0.Roads.getD v3.toNat d_Road).To < 0)) = false), True, ((decide ((a0.Roads.getD v3.toNat d_Road).To < 0)) = false), ((decide ((a0.Roads.getD v3.toNat d_Road).To ≥ ((a0.Places.length : Nat) : Int))) = true), ((decide ((a0.Roads.getD v3.toNat d_Road).To ≥ ((a0.Places.length : Nat) : Int))) = true), ((decide ((a0.Roads.getD v3.toNat d_Road).To ≥ ((a0.Places.length : Nat) : Int))) = true), ((decide ((a0.Roads.getD v3.toNat d_Road).To ≥ ((a0.Places.length : Nat) : Int))) = true), ((decide ((a0.Roads.getD v3.toNat d_Road).To ≥ ((a0.Places.length : Nat) : Int))) = true), ((decide ((a0.Roads.getD v3.toNat d_Road).To ≥ ((a0.Places.length : Nat) : Int))) = true)] (by kernel_rfl) ⟨trivial, e6, e6, e6, e6, trivial, e6, e8, e8, e8, trivial, e8, e10, e10, e10, e10, trivial, e10, e12, e12, e12, e12, e12, e12, trivial⟩ ?_
                    refine tri_cond true (by kernel_rfl) (fun _ => ?_) (fun e => by cases e)
                    refine tri_reg env [] 15 1024 [.keep [2] [] []] ⟨100, [(2, .c (.v (.int .i64 4)))], [], []⟩ [] (by kernel_rfl) trivial ?_
                    refine tri_ret ?_
                    refine thenR ?_
                    refine inBR ?_
                    refine thenR ?_
                    refine thenR ?_
                    refine inBR ?_
                    refine thenR ?_
                    rw [some_inv h]
                    exact ⟨[], by kernel_rfl, trivial⟩
                  · refine tri_reg env [(3, .b false), (8, .b false), (9, .b false), (13, .b false), (14, .b false), (19, .b false), (20, .b false), (26, .b false)] 14 1024 [.keep [5, 7, 38, 39, 40, 70] [(13002, 0)] []] ⟨100, [(5, .c (.v (.int .i64 ((a0.Places.length : Nat) : Int)))), (7, .c (.pvar (13002, 0) 0)), (38, .c (.lst 10 a0.Roads.length (encF e_Road d_Road a0.Roads))), (39, .c (.v (.int .i64 ((a0.Roads.length : Nat) : Int)))), (40, .c (.v (.int .i64 v3))), (70, .c (.v (.bool ((a0.Roads.getD v3.toNat d_Road).From == (a0.Roads.getD v3.toNat d_Road).To))))], [((13002, 0), (e_Road (a0.Roads.getD v3.toNat d_Road)))], []⟩ [True, ((decide ((a0.Roads.getD v3.toNat d_Road).From < 0)) = false), ((decide ((a0.Roads.getD v3.toNat d_Road).From < 0)) = false), ((decide ((a0.Roads.getD v3.toNat d_Road).From < 0)) = false), ((decide ((a0.Roads.getD v3.toNat d_Road).From < 0)) = false), True, ((decide ((a0.Roads.getD v3.toNat d_Road).From < 0)) = false), ((decide ((a0.Roads.getD v3.toNat d_Road).From ≥ ((a0.Places.length : Nat) : Int))) = false), ((decide ((a0.Roads.getD v3.toNat d_Road).From ≥ ((a0.Places.length : Nat) : Int))) = false), ((decide ((a0.Roads.getD v3.toNat d_Road).From ≥ ((a0.Places.length : Nat) : Int))) = false), True, ((decide ((a0.Roads.getD v3.toNat d_Road).From ≥ ((a0.Places.length : Nat) : Int))) = false), ((decide ((a0.Roads.getD v3.toNat d_Road).To < 0)) = false), ((decide ((a0.Roads.getD v3.toNat d_Road).To < 0)) = false), ((decide ((a0.Roads.getD v3.toNat d_Road).To < 0)) = false), ((decide ((a0.Roads.getD v3.toNat d_Road).To < 0)) = false), True, ((decide ((a0.Roads.getD v3.toNat d_Road).To < 0)) = false), ((decide ((a0.Roads.getD v3.toNat d_Road).To ≥ ((a0.Places.length : Nat) : Int))) = false), ((decide ((a0.Roads.getD v3.toNat d_Road).To ≥ ((a0.Places.length : Nat) : Int))) = false), ((decide ((a0.Roads.getD v3.toNat d_Road).To ≥ ((a0.Places.length : Nat) : Int))) = false), ((decide ((a0.Roads.getD v3.toNat d_Road).To ≥ ((a0.Places.length : Nat) : Int))) = false), ((decide ((a0.Roads.getD v3.toNat d_Road).To ≥ ((a0.Places.length : Nat) : Int))) = false), True, ((decide ((a0.Roads.getD v3.toNat d_Road).To ≥ ((a0.Places.length : Nat) : Int))) = false)] (by kernel_rfl) ⟨trivial, e6, e6, e6, e6, trivial, e6, e8, e8, e8, trivial, e8, e10, e10, e10, e10, trivial, e10, e12, e12, e12, e12, e12, trivial, e12, trivial⟩ ?_
                    refine tri_cond ((a0.Roads.getD v3.toNat d_Road).From == (a0.Roads.getD v3.toNat d_Road).To) (by kernel_rfl) (fun e14 => ?_) (fun e14 => ?_)
                    · replace h := cnd_t h e14
                      refine tri_reg env [] 15 1024 [.keep [2] [] []] ⟨100, [(2, .c (.v (.int .i64 4)))], [], []⟩ [] (by kernel_rfl) trivial ?_
                      refine tri_ret ?_
                      refine thenR ?_
                      refine inBR ?_
                      refine thenR ?_
                      refine thenR ?_
                      refine inBR ?_
                      refine thenR ?_
                      rw [some_inv h]
                      exact ⟨[], by kernel_rfl, trivial⟩
                    · replace h := cnd_f h e14
                      refine tri_skip ?_
                      refine thenN ?_
                      refine tri_seq ?_
                      refine cnd_split h (fun e15 h => ?_) (fun e15 h => ?_)
                      · refine tri_reg env [(3, .b true), (7, .b true), (8, .b true), (12, .b true), (13, .b true), (17, .b true)] 16 1024 [.keep [5, 7, 38, 39, 40, 88] [(13002, 0)] []] ⟨100, [(5, .c (.v (.int .i64 ((a0.Places.length : Nat) : Int)))), (7, .c (.pvar (13002, 0) 0)), (38, .c (.lst 10 a0.Roads.length (encF e_Road d_Road a0.Roads))), (39, .c (.v (.int .i64 ((a0.Roads.length : Nat) : Int)))), (40, .c (.v (.int .i64 v3))), (88, .c (.v (.bool true)))], [((13002, 0), (e_Road (a0.Roads.getD v3.toNat d_Road)))], []⟩ [True, ((decide ((a0.Roads.getD v3.toNat d_Road).Length < 1)) = true), ((decide ((a0.Roads.getD v3.toNat d_Road).Length < 1)) = true), ((decide ((a0.Roads.getD v3.toNat d_Road).Length < 1)) = true), ((decide ((a0.Roads.getD v3.toNat d_Road).Length < 1)) = true), (true = true), (true = true), (true = true), (true = true), (true = true), (true = true), (true = true), (true = true)] (by kernel_rfl) ⟨trivial, e15, e15, e15, e15, rfl, rfl, rfl, rfl, rfl, rfl, rfl, rfl, trivial⟩ ?_
                        refine tri_cond true (by kernel_rfl) (fun _ => ?_) (fun e => by cases e)
                        refine tri_reg env [] 17 1024 [.keep [2] [] []] ⟨100, [(2, .c (.v (.int .i64 1)))], [], []⟩ [] (by kernel_rfl) trivial ?_
                        refine tri_ret ?_
                        refine thenR ?_
                        refine inBR ?_
                        refine thenR ?_
                        refine thenR ?_
                        refine inBR ?_
                        refine thenR ?_
                        rw [some_inv h]
                        exact ⟨[], by kernel_rfl, trivial⟩
                      · refine cnd_split h (fun e17 h => ?_) (fun e17 h => ?_)
                        · refine tri_reg env [(3, .b false), (7, .b false), (8, .b true), (12, .b true), (13, .b true), (17, .b true)] 16 1024 [.keep [5, 7, 38, 39, 40, 88] [(13002, 0)] []] ⟨100, [(5, .c (.v (.int .i64 ((a0.Places.length : Nat) : Int)))), (7, .c (.pvar (13002, 0) 0)), (38, .c (.lst 10 a0.Roads.length (encF e_Road d_Road a0.Roads))), (39, .c (.v (.int .i64 ((a0.Roads.length : Nat) : Int)))), (40, .c (.v (.int .i64 v3))), (88, .c (.v (.bool true)))], [((13002, 0), (e_Road (a0.Roads.getD v3.toNat d_Road)))], []⟩ [True, ((decide ((a0.Roads.getD v3.toNat d_Road).Length < 1)) = false), ((decide ((a0.Roads.getD v3.toNat d_Road).Length < 1)) = false), ((decide ((a0.Roads.getD v3.toNat d_Road).Length < 1)) = false), True, ((decide ((a0.Roads.getD v3.toNat d_Road).Length < 1)) = false), ((decide ((a0.Roads.getD v3.toNat d_Road).Length > 100000)) = true), ((decide ((a0.Roads.getD v3.toNat d_Road).Length > 100000)) = true), ((decide ((a0.Roads.getD v3.toNat d_Road).Length > 100000)) = true), ((decide ((a0.Roads.getD v3.toNat d_Road).Length > 100000)) = true), (true = true), (true = true), (true = true), (true = true)] (by kernel_rfl) ⟨trivial, e15, e15, e15, trivial, e15, e17, e17, e17, e17, rfl, rfl, rfl, rfl, trivial⟩ ?_
                          refine tri_cond true (by kernel_rfl) (fun _ => ?_) (fun e => by cases e)
                          refine tri_reg env [] 17 1024 [.keep [2] [] []] ⟨100, [(2, .c (.v (.int .i64 1)))], [], []⟩ [] (by kernel_rfl) trivial ?_
                          refine tri_ret ?_
                          refine thenR ?_
                          refine inBR ?_
                          refine thenR ?_
                          refine thenR ?_
                          refine inBR ?_
                          refine thenR ?_
                          rw [some_inv h]
                          exact ⟨[], by kernel_rfl, trivial⟩
                        · refine cnd_split h (fun e19 h => ?_) (fun e19 h => ?_)
                          · refine tri_reg env [(3, .b false), (7, .b false), (8, .b false), (12, .b false), (13, .b true), (17, .b true)] 16 1024 [.keep [5, 7, 38, 39, 40, 88] [(13002, 0)] []] ⟨100, [(5, .c (.v (.int .i64 ((a0.Places.length : Nat) : Int)))), (7, .c (.pvar (13002, 0) 0)), (38, .c (.lst 10 a0.Roads.length (encF e_Road d_Road a0.Roads))), (39, .c (.v (.int .i64 ((a0.Roads.length : Nat) : Int)))), (40, .c (.v (.int .i64 v3))), (88, .c (.v (.bool true)))], [((13002, 0), (e_Road (a0.Roads.getD v3.toNat d_Road)))], []⟩ [True, ((decide ((a0.Roads.getD v3.toNat d_Road).Length < 1)) = false), ((decide ((a0.Roads.getD v3.toNat d_Road).Length < 1)) = false), ((decide ((a0.Roads.getD v3.toNat d_Road).Length < 1)) = false), True, ((decide ((a0.Roads.getD v3.toNat d_Road).Length < 1)) = false), ((decide ((a0.Roads.getD v3.toNat d_Road).Length > 100000)) = false), ((decide ((a0.Roads.getD v3.toNat d_Road).Length > 100000)) = false), ((decide ((a0.Roads.getD v3.toNat d_Road).Length > 100000)) = false), True, ((decide ((a0.Roads.getD v3.toNat d_Road).Length > 100000)) = false), ((decide ((a0.Roads.getD v3.toNat d_Road).Area < 1)) = true), ((decide ((a0.Roads.getD v3.toNat d_Road).Area < 1)) = true), ((decide ((a0.Roads.getD v3.toNat d_Road).Area < 1)) = true), ((decide ((a0.Roads.getD v3.toNat d_Road).Area < 1)) = true)] (by kernel_rfl) ⟨trivial, e15, e15, e15, trivial, e15, e17, e17, e17, trivial, e17, e19, e19, e19, e19, trivial⟩ ?_
                            refine tri_cond true (by kernel_rfl) (fun _ => ?_) (fun e => by cases e)
                            refine tri_reg env [] 17 1024 [.keep [2] [] []] ⟨100, [(2, .c (.v (.int .i64 1)))], [], []⟩ [] (by kernel_rfl) trivial ?_
                            refine tri_ret ?_
                            refine thenR ?_
                            refine inBR ?_
                            refine thenR ?_
                            refine thenR ?_
                            refine inBR ?_
                            refine thenR ?_
                            rw [some_inv h]
                            exact ⟨[], by kernel_rfl, trivial⟩
                          · refine tri_reg env [(3, .b false), (7, .b false), (8, .b false), (12, .b false), (13, .b false), (17, .b false)] 16 1024 [.keep [5, 7, 38, 39, 40, 88] [(13002, 0)] []] ⟨100, [(5, .c (.v (.int .i64 ((a0.Places.length : Nat) : Int)))), (7, .c (.pvar (13002, 0) 0)), (38, .c (.lst 10 a0.Roads.length (encF e_Road d_Road a0.Roads))), (39, .c (.v (.int .i64 ((a0.Roads.length : Nat) : Int)))), (40, .c (.v (.int .i64 v3))), (88, .c (.v (.bool (decide ((a0.Roads.getD v3.toNat d_Road).Area > 1000)))))], [((13002, 0), (e_Road (a0.Roads.getD v3.toNat d_Road)))], []⟩ [True, ((decide ((a0.Roads.getD v3.toNat d_Road).Length < 1)) = false), ((decide ((a0.Roads.getD v3.toNat d_Road).Length < 1)) = false), ((decide ((a0.Roads.getD v3.toNat d_Road).Length < 1)) = false), True, ((decide ((a0.Roads.getD v3.toNat d_Road).Length < 1)) = false), ((decide ((a0.Roads.getD v3.toNat d_Road).Length > 100000)) = false), ((decide ((a0.Roads.getD v3.toNat d_Road).Length > 100000)) = false), ((decide ((a0.Roads.getD v3.toNat d_Road).Length > 100000)) = false), True, ((decide ((a0.Roads.getD v3.toNat d_Road).Length > 100000)) = false), ((decide ((a0.Roads.getD v3.toNat d_Road).Area < 1)) = false), ((decide ((a0.Roads.getD v3.toNat d_Road).Area < 1)) = false), ((decide ((a0.Roads.getD v3.toNat d_Road).Area < 1)) = false), True, ((decide ((a0.Roads.getD v3.toNat d_Road).Area < 1)) = false)] (by kernel_rfl) ⟨trivial, e15, e15, e15, trivial, e15, e17, e17, e17, trivial, e17, e19, e19, e19, trivial, e19, trivial⟩ ?_
                            refine tri_cond (decide ((a0.Roads.getD v3.toNat d_Road).Area > 1000)) (by kernel_rfl) (fun e21 => ?_) (fun e21 => ?_)
                            · replace h := cnd_t h e21
                              refine tri_reg env [] 17 1024 [.keep [2] [] []] ⟨100, [(2, .c (.v (.int .i64 1)))], [], []⟩ [] (by kernel_rfl) trivial ?_
                              refine tri_ret ?_
                              refine thenR ?_
                              refine inBR ?_
                              refine thenR ?_
                              refine thenR ?_
                              refine inBR ?_
                              refine thenR ?_
                              rw [some_inv h]
                              exact ⟨[], by kernel_rfl, trivial⟩
                            · replace h := cnd_f h e21
                              refine tri_skip ?_
                              refine thenN ?_
                              obtain ⟨y22, c23, h⟩ := bnd_inv h
                              refine cnd_split h (fun e24 h => ?_) (fun e24 h => ?_)
                              · refine tri_reg env [(2, .call ⟨(ax_plan_spanIn (⟨(a0.Roads.getD v3.toNat d_Road).Rest_Low, (a0.Roads.getD v3.toNat d_Road).Rest_High⟩ : T_Span) 1 262144), [false, false, false], rx_plan_spanIn y22, px_plan_spanIn y22, true⟩), (4, .b true), (9, .b true)] 18 1024 [.keep [5, 38, 39, 40, 98] [] []] ⟨100, [(5, .c (.v (.int .i64 ((a0.Places.length : Nat) : Int)))), (38, .c (.lst 10 a0.Roads.length (encF e_Road d_Road a0.Roads))), (39, .c (.v (.int .i64 ((a0.Roads.length : Nat) : Int)))), (40, .c (.v (.int .i64 v3))), (98, .c (.v (.bool true)))], [], []⟩ [(EqXs (ax_plan_spanIn (⟨(a0.Roads.getD v3.toNat d_Road).Rest_Low, (a0.Roads.getD v3.toNat d_Road).Rest_High⟩ : T_Span) 1 262144) (ax_plan_spanIn (⟨(a0.Roads.getD v3.toNat d_Road).Rest_Low, (a0.Roads.getD v3.toNat d_Road).Rest_High⟩ : T_Span) 1 262144)), (FnOk Try.prog 58 (ax_plan_spanIn (⟨(a0.Roads.getD v3.toNat d_Road).Rest_Low, (a0.Roads.getD v3.toNat d_Road).Rest_High⟩ : T_Span) 1 262144) (rx_plan_spanIn y22) (px_plan_spanIn y22)), ((!y22) = true), ((!y22) = true), ((!y22) = true), ((!y22) = true), ((!y22) = true)] (by kernel_rfl) ⟨(eqs (eqa (eqr _) (eqa (eqr _) eqa0)) (eqs (eqr _) (eqs (eqr _) eqs0))), (ok_plan_spanIn K (⟨(a0.Roads.getD v3.toNat d_Road).Rest_Low, (a0.Roads.getD v3.toNat d_Road).Rest_High⟩ : T_Span) 1 262144 y22 c23), e24, e24, e24, e24, e24, trivial⟩ ?_
                                refine tri_cond true (by kernel_rfl) (fun _ => ?_) (fun e => by cases e)
                                refine tri_reg env [] 19 1024 [.keep [2] [] []] ⟨100, [(2, .c (.v (.int .i64 1)))], [], []⟩ [] (by kernel_rfl) trivial ?_
                                refine tri_ret ?_
                                refine inBR ?_
                                refine thenR ?_
                                refine thenR ?_
                                refine inBR ?_
                                refine thenR ?_
                                rw [some_inv h]
                                exact ⟨[], by kernel_rfl, trivial⟩
                              · obtain ⟨y26, c27, h⟩ := bnd_inv h
                                refine tri_reg env [(2, .call ⟨(ax_plan_spanIn (⟨(a0.Roads.getD v3.toNat d_Road).Rest_Low, (a0.Roads.getD v3.toNat d_Road).Rest_High⟩ : T_Span) 1 262144), [false, false, false], rx_plan_spanIn y22, px_plan_spanIn y22, true⟩), (4, .b false), (7, .call ⟨(ax_plan_spanIn (⟨(a0.Roads.getD v3.toNat d_Road).Lift_Low, (a0.Roads.getD v3.toNat d_Road).Lift_High⟩ : T_Span) (-2199023255552) 2199023255552), [false, false, false], rx_plan_spanIn y26, px_plan_spanIn y26, true⟩), (9, .b false)] 18 1024 [.keep [5, 38, 39, 40, 98] [] []] ⟨100, [(5, .c (.v (.int .i64 ((a0.Places.length : Nat) : Int)))), (38, .c (.lst 10 a0.Roads.length (encF e_Road d_Road a0.Roads))), (39, .c (.v (.int .i64 ((a0.Roads.length : Nat) : Int)))), (40, .c (.v (.int .i64 v3))), (98, .c (.v (.bool (!y26))))], [], []⟩ [(EqXs (ax_plan_spanIn (⟨(a0.Roads.getD v3.toNat d_Road).Rest_Low, (a0.Roads.getD v3.toNat d_Road).Rest_High⟩ : T_Span) 1 262144) (ax_plan_spanIn (⟨(a0.Roads.getD v3.toNat d_Road).Rest_Low, (a0.Roads.getD v3.toNat d_Road).Rest_High⟩ : T_Span) 1 262144)), (FnOk Try.prog 58 (ax_plan_spanIn (⟨(a0.Roads.getD v3.toNat d_Road).Rest_Low, (a0.Roads.getD v3.toNat d_Road).Rest_High⟩ : T_Span) 1 262144) (rx_plan_spanIn y22) (px_plan_spanIn y22)), ((!y22) = false), ((!y22) = false), ((!y22) = false), (EqXs (ax_plan_spanIn (⟨(a0.Roads.getD v3.toNat d_Road).Lift_Low, (a0.Roads.getD v3.toNat d_Road).Lift_High⟩ : T_Span) (-2199023255552) 2199023255552) (ax_plan_spanIn (⟨(a0.Roads.getD v3.toNat d_Road).Lift_Low, (a0.Roads.getD v3.toNat d_Road).Lift_High⟩ : T_Span) (-2199023255552) 2199023255552)), (FnOk Try.prog 58 (ax_plan_spanIn (⟨(a0.Roads.getD v3.toNat d_Road).Lift_Low, (a0.Roads.getD v3.toNat d_Road).Lift_High⟩ : T_Span) (-2199023255552) 2199023255552) (rx_plan_spanIn y26) (px_plan_spanIn y26)), ((!y22) = false), ((!y22) = false)] (by kernel_rfl) ⟨(eqs (eqa (eqr _) (eqa (eqr _) eqa0)) (eqs (eqr _) (eqs (eqr _) eqs0))), (ok_plan_spanIn K (⟨(a0.Roads.getD v3.toNat d_Road).Rest_Low, (a0.Roads.getD v3.toNat d_Road).Rest_High⟩ : T_Span) 1 262144 y22 c23), e24, e24, e24, (eqs (eqa (eqr _) (eqa (eqr _) eqa0)) (eqs (eqr _) (eqs (eqr _) eqs0))), (ok_plan_spanIn K (⟨(a0.Roads.getD v3.toNat d_Road).Lift_Low, (a0.Roads.getD v3.toNat d_Road).Lift_High⟩ : T_Span) (-2199023255552) 2199023255552 y26 c27), e24, e24, trivial⟩ ?_
                                refine tri_cond (!y26) (by kernel_rfl) (fun e28 => ?_) (fun e28 => ?_)
                                · replace h := cnd_t h e28
                                  refine tri_reg env [] 19 1024 [.keep [2] [] []] ⟨100, [(2, .c (.v (.int .i64 1)))], [], []⟩ [] (by kernel_rfl) trivial ?_
                                  refine tri_ret ?_
                                  refine inBR ?_
                                  refine thenR ?_
                                  refine thenR ?_
                                  refine inBR ?_
                                  refine thenR ?_
                                  rw [some_inv h]
                                  exact ⟨[], by kernel_rfl, trivial⟩
                                · replace h := cnd_f h e28
                                  refine tri_skip ?_
                                  refine inBN ?_
                                  refine thenN ?_
                                  refine tri_reg_end env [] 20 1024 [.keep [5, 38, 39, 40] [] []] ⟨100, [(5, .c (.v (.int .i64 ((a0.Places.length : Nat) : Int)))), (38, .c (.lst 10 a0.Roads.length (encF e_Road d_Road a0.Roads))), (39, .c (.v (.int .i64 ((a0.Roads.length : Nat) : Int)))), (40, .c (.v (.int .i64 (IntKind.wrap .i64 (v3 + 1)))))], [], []⟩ [True] (by kernel_rfl) ⟨trivial, trivial⟩ ?_
                                  exact thenJ (IntKind.wrap .i64 (v3 + 1)) h (by kernel_rfl)
          · replace h := cnd_f h e4
            refine tri_tell [.keep [] [] []] ⟨100, [], [], []⟩ [] (by kernel_rfl) trivial ?_
            refine tri_exit ?_
            refine thenE ?_
            refine thenE ?_
            refine inBX ?_
            exact thenJ () h (by kernel_rfl)
      · refine tri_reg env [] 4 1024 [.keep [1, 19, 20, 21] [(1000, 0)] []] ⟨100, [(1, .c (.pvar (1000, 0) 0)), (19, .c (.lst 2 a0.Places.length (encF e_Place d_Place a0.Places))), (20, .c (.v (.int .i64 ((a0.Places.length : Nat) : Int)))), (21, .c (.v (.int .i64 0)))], [((1000, 0), [.lst 2 a0.Places.length (encF e_Place d_Place a0.Places), .lst 10 a0.Roads.length (encF e_Road d_Road a0.Roads)])], []⟩ [] (by kernel_rfl) trivial ?_
        refine tri_block ?_
        refine tri_loopK (fun (v1 : Int) => ⟨100, [(1, .c (.pvar (1000, 0) 0)), (19, .c (.lst 2 a0.Places.length (encF e_Place d_Place a0.Places))), (20, .c (.v (.int .i64 ((a0.Places.length : Nat) : Int)))), (21, .c (.v (.int .i64 v1)))], [((1000, 0), [.lst 2 a0.Places.length (encF e_Place d_Place a0.Places), .lst 10 a0.Roads.length (encF e_Road d_Road a0.Roads)])], []⟩) (v := 0) h (fun self1 v1 h => ?_) (by kernel_rfl)
        unfold plan_Check_b1 at h
        refine tri_reg env [] 5 1024 [.keep [1, 19, 20, 21, 22] [(1000, 0)] []] ⟨100, [(1, .c (.pvar (1000, 0) 0)), (19, .c (.lst 2 a0.Places.length (encF e_Place d_Place a0.Places))), (20, .c (.v (.int .i64 ((a0.Places.length : Nat) : Int)))), (21, .c (.v (.int .i64 v1))), (22, .c (.v (.bool (decide (v1 < ((a0.Places.length : Nat) : Int))))))], [((1000, 0), [.lst 2 a0.Places.length (encF e_Place d_Place a0.Places), .lst 10 a0.Roads.length (encF e_Road d_Road a0.Roads)])], []⟩ [True] (by kernel_rfl) ⟨trivial, trivial⟩ ?_
        refine tri_seq ?_
        refine tri_cond (decide (v1 < ((a0.Places.length : Nat) : Int))) (by kernel_rfl) (fun e29 => ?_) (fun e29 => ?_)
        · replace h := cnd_t h e29
          refine tri_skip ?_
          refine thenN ?_
          refine tri_seq ?_
          refine tri_block ?_
          obtain ⟨q30, h⟩ := ck_inv h
          refine tri_reg env [] 6 1024 [.keep [1, 4, 19, 20, 21] [(1000, 0), (6002, 0)] []] ⟨100, [(1, .c (.pvar (1000, 0) 0)), (4, .c (.pvar (6002, 0) 0)), (19, .c (.lst 2 a0.Places.length (encF e_Place d_Place a0.Places))), (20, .c (.v (.int .i64 ((a0.Places.length : Nat) : Int)))), (21, .c (.v (.int .i64 v1)))], [((1000, 0), [.lst 2 a0.Places.length (encF e_Place d_Place a0.Places), .lst 10 a0.Roads.length (encF e_Road d_Road a0.Roads)]), ((6002, 0), [.v (.int .i64 (a0.Places.getD v1.toNat d_Place).Height), .v (.bool (a0.Places.getD v1.toNat d_Place).Surface)])], []⟩ [(0 ≤ v1 ∧ v1 < ((a0.Places.length : Nat) : Int))] (by kernel_rfl) ⟨q30, trivial⟩ ?_
          refine cnd_split h (fun e31 h => ?_) (fun e31 h => ?_)
          · refine tri_reg env [(3, .b true), (7, .b true)] 7 1024 [.keep [1, 19, 20, 21, 32] [(1000, 0)] []] ⟨100, [(1, .c (.pvar (1000, 0) 0)), (19, .c (.lst 2 a0.Places.length (encF e_Place d_Place a0.Places))), (20, .c (.v (.int .i64 ((a0.Places.length : Nat) : Int)))), (21, .c (.v (.int .i64 v1))), (32, .c (.v (.bool true)))], [((1000, 0), [.lst 2 a0.Places.length (encF e_Place d_Place a0.Places), .lst 10 a0.Roads.length (encF e_Road d_Road a0.Roads)])], []⟩ [True, ((decide ((a0.Places.getD v1.toNat d_Place).Height < (-10000))) = true), ((decide ((a0.Places.getD v1.toNat d_Place).Height < (-10000))) = true), ((decide ((a0.Places.getD v1.toNat d_Place).Height < (-10000))) = true), ((decide ((a0.Places.getD v1.toNat d_Place).Height < (-10000))) = true)] (by kernel_rfl) ⟨trivial, e31, e31, e31, e31, trivial⟩ ?_
            refine tri_cond true (by kernel_rfl) (fun _ => ?_) (fun e => by cases e)
            refine tri_reg env [] 8 1024 [.keep [2] [] []] ⟨100, [(2, .c (.v (.int .i64 1)))], [], []⟩ [] (by kernel_rfl) trivial ?_
            refine tri_ret ?_
            refine inBR ?_
            refine thenR ?_
            refine thenR ?_
            refine inBR ?_
            refine thenR ?_
            rw [some_inv h]
            exact ⟨[], by kernel_rfl, trivial⟩
          · refine tri_reg env [(3, .b false), (7, .b false)] 7 1024 [.keep [1, 19, 20, 21, 32] [(1000, 0)] []] ⟨100, [(1, .c (.pvar (1000, 0) 0)), (19, .c (.lst 2 a0.Places.length (encF e_Place d_Place a0.Places))), (20, .c (.v (.int .i64 ((a0.Places.length : Nat) : Int)))), (21, .c (.v (.int .i64 v1))), (32, .c (.v (.bool (decide ((a0.Places.getD v1.toNat d_Place).Height > 10000)))))], [((1000, 0), [.lst 2 a0.Places.length (encF e_Place d_Place a0.Places), .lst 10 a0.Roads.length (encF e_Road d_Road a0.Roads)])], []⟩ [True, ((decide ((a0.Places.getD v1.toNat d_Place).Height < (-10000))) = false), ((decide ((a0.Places.getD v1.toNat d_Place).Height < (-10000))) = false), ((decide ((a0.Places.getD v1.toNat d_Place).Height < (-10000))) = false), True, ((decide ((a0.Places.getD v1.toNat d_Place).Height < (-10000))) = false)] (by kernel_rfl) ⟨trivial, e31, e31, e31, trivial, e31, trivial⟩ ?_
            refine tri_cond (decide ((a0.Places.getD v1.toNat d_Place).Height > 10000)) (by kernel_rfl) (fun e33 => ?_) (fun e33 => ?_)
            · replace h := cnd_t h e33
              refine tri_reg env [] 8 1024 [.keep [2] [] []] ⟨100, [(2, .c (.v (.int .i64 1)))], [], []⟩ [] (by kernel_rfl) trivial ?_
              refine tri_ret ?_
              refine inBR ?_
              refine thenR ?_
              refine thenR ?_
              refine inBR ?_
              refine thenR ?_
              rw [some_inv h]
              exact ⟨[], by kernel_rfl, trivial⟩
            · replace h := cnd_f h e33
              refine tri_skip ?_
              refine inBN ?_
              refine thenN ?_
              refine tri_reg_end env [] 9 1024 [.keep [1, 19, 20, 21] [(1000, 0)] []] ⟨100, [(1, .c (.pvar (1000, 0) 0)), (19, .c (.lst 2 a0.Places.length (encF e_Place d_Place a0.Places))), (20, .c (.v (.int .i64 ((a0.Places.length : Nat) : Int)))), (21, .c (.v (.int .i64 (IntKind.wrap .i64 (v1 + 1)))))], [((1000, 0), [.lst 2 a0.Places.length (encF e_Place d_Place a0.Places), .lst 10 a0.Roads.length (encF e_Road d_Road a0.Roads)])], []⟩ [True] (by kernel_rfl) ⟨trivial, trivial⟩ ?_
              exact thenJ (IntKind.wrap .i64 (v1 + 1)) h (by kernel_rfl)
        · replace h := cnd_f h e29
          refine tri_tell [.keep [1] [(1000, 0)] []] ⟨100, [(1, .c (.pvar (1000, 0) 0))], [((1000, 0), [.lst 2 a0.Places.length (encF e_Place d_Place a0.Places), .lst 10 a0.Roads.length (encF e_Road d_Road a0.Roads)])], []⟩ [] (by kernel_rfl) trivial ?_
          refine tri_exit ?_
          refine thenE ?_
          refine thenE ?_
          refine inBX ?_
          exact thenJ () h (by kernel_rfl)
end Go.Proofs.Ytmkhmonbfikbpaa
