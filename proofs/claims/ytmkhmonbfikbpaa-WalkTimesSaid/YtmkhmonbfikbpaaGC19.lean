/- What the code of a function does. -/
import Derived.Test.YtmkhmonbfikbpaaGB
import Derived.Test.YtmkhmonbfikbpaaGC59
namespace Go.Proofs.Ytmkhmonbfikbpaa
open Go Go.RowKit Go.Ev Go.Proofs
set_option linter.unusedVariables false

set_option maxRecDepth 100000
theorem ok_ref01_Check (K : Nat) (a0 : T_Mine) (r : Int) (h : ref01_Check K a0 = some r) : FnOk Try.prog 19 (ax_ref01_Check a0) (rx_ref01_Check r) (px_ref01_Check r) := by
  refine ⟨⟨Try.f19, Try.func19, by kernel_rfl, by kernel_rfl⟩, ?_⟩
  unfold ref01_Check at h
  refine fn_ok env Try.func19 rfl ⟨109, [(0, .agg [.lst 2 a0.Places.length (encF e_Place d_Place a0.Places), .lst 10 a0.Roads.length (encF e_Road d_Road a0.Roads)])], [], []⟩ [] (by kernel_rfl) fun X => ?_
  refine tri_reg env [] 1 1024 [.keep [1] [(1000, 0)] []] ⟨109, [(1, .c (.pvar (1000, 0) 0))], [((1000, 0), [.lst 2 a0.Places.length (encF e_Place d_Place a0.Places), .lst 10 a0.Roads.length (encF e_Road d_Road a0.Roads)])], []⟩ [] (by kernel_rfl) trivial ?_
  refine tri_seq ?_
  refine cnd_split h (fun e1 h => ?_) (fun e1 h => ?_)
  · refine tri_reg env [(4, .b true), (9, .b true)] 2 1024 [.keep [1, 16] [(1000, 0)] []] ⟨109, [(1, .c (.pvar (1000, 0) 0)), (16, .c (.v (.bool true)))], [((1000, 0), [.lst 2 a0.Places.length (encF e_Place d_Place a0.Places), .lst 10 a0.Roads.length (encF e_Road d_Road a0.Roads)])], []⟩ [True, ((decide (((a0.Places.length : Nat) : Int) > 64)) = true), ((decide (((a0.Places.length : Nat) : Int) > 64)) = true), ((decide (((a0.Places.length : Nat) : Int) > 64)) = true), ((decide (((a0.Places.length : Nat) : Int) > 64)) = true), ((decide (((a0.Places.length : Nat) : Int) > 64)) = true)] (by kernel_rfl) ⟨trivial, e1, e1, e1, e1, e1, trivial⟩ ?_
    refine tri_cond true (by kernel_rfl) (fun _ => ?_) (fun e => by cases e)
    refine tri_reg env [] 3 1024 [.keep [2] [] []] ⟨109, [(2, .c (.v (.int .i64 2)))], [], []⟩ [] (by kernel_rfl) trivial ?_
    refine tri_ret ?_
    refine thenR ?_
    rw [some_inv h]
    exact ⟨[], by kernel_rfl, trivial⟩
  · refine tri_reg env [(4, .b false), (9, .b false)] 2 1024 [.keep [1, 16] [(1000, 0)] []] ⟨109, [(1, .c (.pvar (1000, 0) 0)), (16, .c (.v (.bool (decide (((a0.Roads.length : Nat) : Int) > 128)))))], [((1000, 0), [.lst 2 a0.Places.length (encF e_Place d_Place a0.Places), .lst 10 a0.Roads.length (encF e_Road d_Road a0.Roads)])], []⟩ [True, ((decide (((a0.Places.length : Nat) : Int) > 64)) = false), ((decide (((a0.Places.length : Nat) : Int) > 64)) = false), ((decide (((a0.Places.length : Nat) : Int) > 64)) = false), ((decide (((a0.Places.length : Nat) : Int) > 64)) = false), True, ((decide (((a0.Places.length : Nat) : Int) > 64)) = false)] (by kernel_rfl) ⟨trivial, e1, e1, e1, e1, trivial, e1, trivial⟩ ?_
    refine tri_cond (decide (((a0.Roads.length : Nat) : Int) > 128)) (by kernel_rfl) (fun e3 => ?_) (fun e3 => ?_)
    · replace h := cnd_t h e3
      refine tri_reg env [] 3 1024 [.keep [2] [] []] ⟨109, [(2, .c (.v (.int .i64 2)))], [], []⟩ [] (by kernel_rfl) trivial ?_
      refine tri_ret ?_
      refine thenR ?_
      rw [some_inv h]
      exact ⟨[], by kernel_rfl, trivial⟩
    · replace h := cnd_f h e3
      refine tri_skip ?_
      refine thenN ?_
      refine tri_joinC (fun (v2 : Unit) => ⟨109, [(1, .c (.pvar (1000, 0) 0))], [((1000, 0), [.lst 2 a0.Places.length (encF e_Place d_Place a0.Places), .lst 10 a0.Roads.length (encF e_Road d_Road a0.Roads)])], []⟩) h (fun v2 h => ?_) (fun j2 h => ?_)
      · refine tri_joinC (fun (v4 : Unit) => ⟨109, [], [], []⟩) h (fun v4 h => ?_) (fun j4 h => ?_)
        · refine tri_reg env [] 18 1024 [.keep [2] [] []] ⟨109, [(2, .c (.v (.int .i64 0)))], [], []⟩ [] (by kernel_rfl) trivial ?_
          refine tri_ret ?_
          rw [some_inv h]
          exact ⟨[], by kernel_rfl, trivial⟩
        · refine tri_reg env [] 10 1024 [.keep [1, 5] [(1000, 0)] []] ⟨109, [(1, .c (.pvar (1000, 0) 0)), (5, .c (.v (.int .i64 0)))], [((1000, 0), [.lst 2 a0.Places.length (encF e_Place d_Place a0.Places), .lst 10 a0.Roads.length (encF e_Road d_Road a0.Roads)])], []⟩ [] (by kernel_rfl) trivial ?_
          refine tri_block ?_
          refine tri_loopK (fun (v3 : Int) => ⟨109, [(1, .c (.pvar (1000, 0) 0)), (5, .c (.v (.int .i64 v3)))], [((1000, 0), [.lst 2 a0.Places.length (encF e_Place d_Place a0.Places), .lst 10 a0.Roads.length (encF e_Road d_Road a0.Roads)])], []⟩) (v := 0) h (fun self3 v3 h => ?_) (by kernel_rfl)
          unfold ref01_Check_b3 at h
          refine tri_seq ?_
          refine tri_reg env [] 11 1024 [.keep [1, 5, 40] [(1000, 0)] []] ⟨109, [(1, .c (.pvar (1000, 0) 0)), (5, .c (.v (.int .i64 v3))), (40, .c (.v (.bool (decide (v3 < ((a0.Roads.length : Nat) : Int))))))], [((1000, 0), [.lst 2 a0.Places.length (encF e_Place d_Place a0.Places), .lst 10 a0.Roads.length (encF e_Road d_Road a0.Roads)])], []⟩ [True] (by kernel_rfl) ⟨trivial, trivial⟩ ?_
          refine tri_cond (decide (v3 < ((a0.Roads.length : Nat) : Int))) (by kernel_rfl) (fun e4 => ?_) (fun e4 => ?_)
          · replace h := cnd_t h e4
            refine tri_skip ?_
            refine thenN ?_
            refine tri_seq ?_
            refine tri_block ?_
            obtain ⟨q5, h⟩ := ck_inv h
            refine tri_reg env [] 13 1024 [.keep [1, 5, 6] [(1000, 0), (13005, 0)] []] ⟨109, [(1, .c (.pvar (1000, 0) 0)), (5, .c (.v (.int .i64 v3))), (6, .c (.pvar (13005, 0) 0))], [((1000, 0), [.lst 2 a0.Places.length (encF e_Place d_Place a0.Places), .lst 10 a0.Roads.length (encF e_Road d_Road a0.Roads)]), ((13005, 0), (e_Road (a0.Roads.getD v3.toNat d_Road)))], []⟩ [(0 ≤ v3 ∧ v3 < ((a0.Roads.length : Nat) : Int))] (by kernel_rfl) ⟨q5, trivial⟩ ?_
            refine tri_seq ?_
            refine cnd_split h (fun e6 h => ?_) (fun e6 h => ?_)
            · refine tri_reg env [(3, .b true), (10, .b true), (11, .b true), (15, .b true), (16, .b true), (23, .b true), (24, .b true), (30, .b true)] 14 1024 [.keep [1, 5, 6, 78] [(1000, 0), (13005, 0)] []] ⟨109, [(1, .c (.pvar (1000, 0) 0)), (5, .c (.v (.int .i64 v3))), (6, .c (.pvar (13005, 0) 0)), (78, .c (.v (.bool true)))], [((1000, 0), [.lst 2 a0.Places.length (encF e_Place d_Place a0.Places), .lst 10 a0.Roads.length (encF e_Road d_Road a0.Roads)]), ((13005, 0), (e_Road (a0.Roads.getD v3.toNat d_Road)))], []⟩ [True, ((decide ((a0.Roads.getD v3.toNat d_Road).From < 0)) = true), ((decide ((a0.Roads.getD v3.toNat d_Road).From < 0)) = true), ((decide ((a0.Roads.getD v3.toNat d_Road).From < 0)) = true), ((decide ((a0.Roads.getD v3.toNat d_Road).From < 0)) = true), ((decide ((a0.Roads.getD v3.toNat d_Road).From < 0)) = true), ((decide ((a0.Roads.getD v3.toNat d_Road).From < 0)) = true), ((decide ((a0.Roads.getD v3.toNat d_Road).From < 0)) = true), (true = true), (true = true), (true = true), (true = true), (true = true), (true = true), (true = true), (true = true), (true = true), (true = true), (true = true), (true = true), (true = true), (true = true), (true = true), (true = true), (true = true)] (by kernel_rfl) ⟨trivial, e6, e6, e6, e6, e6, e6, e6, rfl, rfl, rfl, rfl, rfl, rfl, rfl, rfl, rfl, rfl, rfl, rfl, rfl, rfl, rfl, rfl, rfl, trivial⟩ ?_
              refine tri_cond true (by kernel_rfl) (fun _ => ?_) (fun e => by cases e)
              refine tri_reg env [] 15 1024 [.keep [2] [] []] ⟨109, [(2, .c (.v (.int .i64 4)))], [], []⟩ [] (by kernel_rfl) trivial ?_
              refine tri_ret ?_
              refine thenR ?_
              refine inBR ?_
              refine thenR ?_
              refine thenR ?_
              refine inBR ?_
              refine thenR ?_
              rw [some_inv h]
              exact ⟨[], by kernel_rfl, trivial⟩
            · refine cnd_split h (fun e8 h => ?_) (fun e8 h => ?_)
              · refine tri_reg env [(3, .b false), (10, .b false), (11, .b true), (15, .b true), (16, .b true), (23, .b true), (24, .b true), (30, .b true)] 14 1024 [.keep [1, 5, 6, 78] [(1000, 0), (13005, 0)] []] ⟨109, [(1, .c (.pvar (1000, 0) 0)), (5, .c (.v (.int .i64 v3))), (6, .c (.pvar (13005, 0) 0)), (78, .c (.v (.bool true)))], [((1000, 0), [.lst 2 a0.Places.length (encF e_Place d_Place a0.Places), .lst 10 a0.Roads.length (encF e_Road d_Road a0.Roads)]), ((13005, 0), (e_Road (a0.Roads.getD v3.toNat d_Road)))], []⟩ [True, ((decide ((a0.Roads.getD v3.toNat d_Road).From < 0)) = false), ((decide ((a0.Roads.getD v3.toNat d_Road).From < 0)) = false), ((decide ((a0.Roads.getD v3.toNat d_Road).From < 0)) = false), ((decide ((a0.Roads.getD v3.toNat d_Road).From < 0)) = false), ((decide ((a0.Roads.getD v3.toNat d_Road).From < 0)) = false), ((decide ((a0.Roads.getD v3.toNat d_Road).From < 0)) = false), True, ((decide ((a0.Roads.getD v3.toNat d_Road).From < 0)) = false), ((decide ((a0.Roads.getD v3.toNat d_Road).From ≥ ((a0.Places.length : Nat) : Int))) = true), ((decide ((a0.Roads.getD v3.toNat d_Road).From ≥ ((a0.Places.length : Nat) : Int))) = true), ((decide ((a0.Roads.getD v3.toNat d_Road).From ≥ ((a0.Places.length : Nat) : Int))) = true), ((decide ((a0.Roads.getD v3.toNat d_Road).From ≥ ((a0.Places.length : Nat) : Int))) = true), (true = true), (true = true), (true = true), (true = true), (true = true), (true = true), (true = true), (true = true), (true = true), (true = true), (true = true), (true = true), (true = true)] (by kernel_rfl) ⟨trivial, e6, e6, e6, e6, e6, e6, trivial, e6, e8, e8, e8, e8, rfl, rfl, rfl, rfl, rfl, rfl, rfl, rfl, rfl, rfl, rfl, rfl, rfl, trivial⟩ ?_
                refine tri_cond true (by kernel_rfl) (fun _ => ?_) (fun e => by cases e)
                refine tri_reg env [] 15 1024 [.keep [2] [] []] ⟨109, [(2, .c (.v (.int .i64 4)))], [], []⟩ [] (by kernel_rfl) trivial ?_
                refine tri_ret ?_
                refine thenR ?_
                refine inBR ?_
                refine thenR ?_
                refine thenR ?_
                refine inBR ?_
                refine thenR ?_
                rw [some_inv h]
                exact ⟨[], by kernel_rfl, trivial⟩
              · refine cnd_split h (fun e10 h => ?_) (fun e10 h => ?_)
                · refine tri_reg env [(3, .b false), (10, .b false), (11, .b false), (15, .b false), (16, .b true), (23, .b true), (24, .b true), (30, .b true)] 14 1024 [.keep [1, 5, 6, 78] [(1000, 0), (13005, 0)] []] ⟨109, [(1, .c (.pvar (1000, 0) 0)), (5, .c (.v (.int .i64 v3))), (6, .c (.pvar (13005, 0) 0)), (78, .c (.v (.bool true)))], [((1000, 0), [.lst 2 a0.Places.length (encF e_Place d_Place a0.Places), .lst 10 a0.Roads.length (encF e_Road d_Road a0.Roads)]), ((13005, 0), (e_Road (a0.Roads.getD v3.toNat d_Road)))], []⟩ [True, ((decide ((a0.Roads.getD v3.toNat d_Road).From < 0)) = false), ((decide ((a0.Roads.getD v3.toNat d_Road).From < 0)) = false), ((decide ((a0.Roads.getD v3.toNat d_Road).From < 0)) = false), ((decide ((a0.Roads.getD v3.toNat d_Road).From < 0)) = false), ((decide ((a0.Roads.getD v3.toNat d_Road).From < 0)) = false), ((decide ((a0.Roads.getD v3.toNat d_Road).From < 0)) = false), True, ((decide ((a0.Roads.getD v3.toNat d_Road).From < 0)) = false), ((decide ((a0.Roads.getD v3.toNat d_Road).From ≥ ((a0.Places.length : Nat) : Int))) = false), ((decide ((a0.Roads.getD v3.toNat d_Road).From ≥ ((a0.Places.length : Nat) : Int))) = false), ((decide ((a0.Roads.getD v3.toNat d_Road).From ≥ ((a0.Places.length : Nat) : Int))) = false), True, ((decide ((a0.Roads.getD v3.toNat d_Road).From ≥ ((a0.Places.length : Nat) : Int))) = false), ((decide ((a0.Roads.getD v3.toNat d_Road).To < 0)) = true), ((decide ((a0.Roads.getD v3.toNat d_Road).To < 0)) = true), ((decide ((a0.Roads.getD v3.toNat d_Road).To < 0)) = true), ((decide ((a0.Roads.getD v3.toNat d_Road).To < 0)) = true), ((decide ((a0.Roads.getD v3.toNat d_Road).To < 0)) = true), ((decide ((a0.Roads.getD v3.toNat d_Road).To < 0)) = true), ((decide ((a0.Roads.getD v3.toNat d_Road).To < 0)) = true), (true = true), (true = true), (true = true), (true = true), (true = true), (true = true)] (by kernel_rfl) ⟨trivial, e6, e6, e6, e6, e6, e6, trivial, e6, e8, e8, e8, trivial, e8, e10, e10, e10, e10, e10, e10, e10, rfl, rfl, rfl, rfl, rfl, rfl, trivial⟩ ?_
                  refine tri_cond true (by kernel_rfl) (fun _ => ?_) (fun e => by cases e)
                  refine tri_reg env [] 15 1024 [.keep [2] [] []] ⟨109, [(2, .c (.v (.int .i64 4)))], [], []⟩ [] (by kernel_rfl) trivial ?_
                  refine tri_ret ?_
                  refine thenR ?_
                  refine inBR ?_
                  refine thenR ?_
                  refine thenR ?_
                  refine inBR ?_
                  refine thenR ?_
                  rw [some_inv h]
                  exact ⟨[], by kernel_rfl, trivial⟩
                · refine cnd_split h (fun e12 h => ?_) (fun e12 h => ?_)
                  · refine tri_reg env [(3, .b false), (10, .b false), (11, .b false), (15, .b false), (16, .b false), (23, .b false), (24, .b true), (30, .b true)] 14 1024 [.keep [1, 5, 6, 78] [(1000, 0), (13005, 0)] []] ⟨109, [(1, .c (.pvar (1000, 0) 0)), (5, .c (.v (.int .i64 v3))), (6, .c (.pvar (13005, 0) 0)), (78, .c (.v (.bool true)))], [((1000, 0), [.lst 2 a0.Places.length (encF e_Place d_Place a0.Places), .lst 10 a0.Roads.length (encF e_Road d_Road a0.Roads)]), ((13005, 0), (e_Road (a0.Roads.getD v3.toNat d_Road)))], []⟩ [True, ((decide ((a0.Roads.getD v3.toNat d_Road).From < 0)) = false), ((decide ((a0.Roads.getD v3.toNat d_Road).From < 0)) = false), ((decide ((a0.Roads.getD v3.toNat d_Road).From < 0)) = false), ((decide ((a0.Roads.getD v3.toNat d_Road).From < 0)) = false), ((decide ((a0.Roads.getD v3.toNat d_Road).From < 0)) = false), ((decide ((a0.Roads.getD v3.toNat d_Road).From < 0)) = false), True, ((decide ((a0.Roads.getD v3.toNat d_Road).From < 0)) = false), ((decide ((a0.Roads.getD v3.toNat d_Road).From ≥ ((a0.Places.length : Nat) : Int))) = false), ((decide ((a0.Roads.getD v3.toNat d_Road).From ≥ ((a0.Places.length : Nat) : Int))) = false), ((decide ((a0.Roads.getD v3.toNat d_Road).From ≥ ((a0.Places.length : Nat) : Int))) = false), True, ((decide ((a0.Roads.getD v3.toNat d_Road).From ≥ ((a0.Places.length : Nat) : Int))) = false), ((decide ((a0.Roads.getD v3.toNat d_Road).To < 0)) = false), ((decide ((a0.Roads.getD v3.toNat d_Road).To < 0)) = false), ((decide ((a0.Roads.getD v3.toNat d_Road).To < 0)) = false), ((decide ((a0.Roads.getD v3.toNat d_Road).To < 0)) = false), ((decide ((a0.Roads.getD v3.toNat d_Road).To < 0)) = false), ((decide ((a0.Roads.getD v3.toNat d_Road).To < 0)) = false), True, ((decide ((a0.Roads.getD v3.toNat d_Road).To < 0)) = false), ((decide ((a0.Roads.getD v3.toNat d_Road).To ≥ ((a0.Places.length : Nat) : Int))) = true), ((decide ((a0.Roads.getD v3.toNat d_Road).To ≥ ((a0.Places.length : Nat) : Int))) = true), ((decide ((a0.Roads.getD v3.toNat d_Road).To ≥ ((a0.Places.length : Nat) : Int))) = true), ((decide ((a0.Roads.getD v3.toNat d_Road).To ≥ ((a0.Places.length : Nat) : Int))) = true), ((decide ((a0.Roads.getD v3.toNat d_Road).To ≥ ((a0.Places.length : Nat) : Int))) = true), ((decide ((a0.Roads.getD v3.toNat d_Road).To ≥ ((a0.Places.length : Nat) : Int))) = true)] (by kernel_rfl) ⟨trivial, e6, e6, e6, e6, e6, e6, trivial, e6, e8, e8, e8, trivial, e8, e10, e10, e10, e10, e10, e10, trivial, e10, e12, e12, e12, e12, e12, e12, trivial⟩ ?_
                    refine tri_cond true (by kernel_rfl) (fun _ => ?_) (fun e => by cases e)
                    refine tri_reg env [] 15 1024 [.keep [2] [] []] ⟨109, [(2, .c (.v (.int .i64 4)))], [], []⟩ [] (by kernel_rfl) trivial ?_
                    refine tri_ret ?_
                    refine thenR ?_
                    refine inBR ?_
                    refine thenR ?_
                    refine thenR ?_
                    refine inBR ?_
                    refine thenR ?_
                    rw [some_inv h]
                    exact ⟨[], by kernel_rfl, trivial⟩
                  · refine tri_reg env [(3, .b false), (10, .b false), (11, .b false), (15, .b false), (16, .b false), (23, .b false), (24, .b false), (30, .b false)] 14 1024 [.keep [1, 5, 6, 78] [(1000, 0), (13005, 0)] []] ⟨109, [(1, .c (.pvar (1000, 0) 0)), (5, .c (.v (.int .i64 v3))), (6, .c (.pvar (13005, 0) 0)), (78, .c (.v (.bool ((a0.Roads.getD v3.toNat d_Road).From == (a0.Roads.getD v3.toNat d_Road).To))))], [((1000, 0), [.lst 2 a0.Places.length (encF e_Place d_Place a0.Places), .lst 10 a0.Roads.length (encF e_Road d_Road a0.Roads)]), ((13005, 0), (e_Road (a0.Roads.getD v3.toNat d_Road)))], []⟩ [True, ((decide ((a0.Roads.getD v3.toNat d_Road).From < 0)) = false), ((decide ((a0.Roads.getD v3.toNat d_Road).From < 0)) = false), ((decide ((a0.Roads.getD v3.toNat d_Road).From < 0)) = false), ((decide ((a0.Roads.getD v3.toNat d_Road).From < 0)) = false), ((decide ((a0.Roads.getD v3.toNat d_Road).From < 0)) = false), ((decide ((a0.Roads.getD v3.toNat d_Road).From < 0)) = false), True, ((decide ((a0.Roads.getD v3.toNat d_Road).From < 0)) = false), ((decide ((a0.Roads.getD v3.toNat d_Road).From ≥ ((a0.Places.length : Nat) : Int))) = false), ((decide ((a0.Roads.getD v3.toNat d_Road).From ≥ ((a0.Places.length : Nat) : Int))) = false), ((decide ((a0.Roads.getD v3.toNat d_Road).From ≥ ((a0.Places.length : Nat) : Int))) = false), True, ((decide ((a0.Roads.getD v3.toNat d_Road).From ≥ ((a0.Places.length : Nat) : Int))) = false), ((decide ((a0.Roads.getD v3.toNat d_Road).To < 0)) = false), ((decide ((a0.Roads.getD v3.toNat d_Road).To < 0)) = false), ((decide ((a0.Roads.getD v3.toNat d_Road).To < 0)) = false), ((decide ((a0.Roads.getD v3.toNat d_Road).To < 0)) = false), ((decide ((a0.Roads.getD v3.toNat d_Road).To < 0)) = false), ((decide ((a0.Roads.getD v3.toNat d_Road).To < 0)) = false), True, ((decide ((a0.Roads.getD v3.toNat d_Road).To < 0)) = false), ((decide ((a0.Roads.getD v3.toNat d_Road).To ≥ ((a0.Places.length : Nat) : Int))) = false), ((decide ((a0.Roads.getD v3.toNat d_Road).To ≥ ((a0.Places.length : Nat) : Int))) = false), ((decide ((a0.Roads.getD v3.toNat d_Road).To ≥ ((a0.Places.length : Nat) : Int))) = false), ((decide ((a0.Roads.getD v3.toNat d_Road).To ≥ ((a0.Places.length : Nat) : Int))) = false), ((decide ((a0.Roads.getD v3.toNat d_Road).To ≥ ((a0.Places.length : Nat) : Int))) = false), True, ((decide ((a0.Roads.getD v3.toNat d_Road).To ≥ ((a0.Places.length : Nat) : Int))) = false)] (by kernel_rfl) ⟨trivial, e6, e6, e6, e6, e6, e6, trivial, e6, e8, e8, e8, trivial, e8, e10, e10, e10, e10, e10, e10, trivial, e10, e12, e12, e12, e12, e12, trivial, e12, trivial⟩ ?_
                    refine tri_cond ((a0.Roads.getD v3.toNat d_Road).From == (a0.Roads.getD v3.toNat d_Road).To) (by kernel_rfl) (fun e14 => ?_) (fun e14 => ?_)
                    · replace h := cnd_t h e14
                      refine tri_reg env [] 15 1024 [.keep [2] [] []] ⟨109, [(2, .c (.v (.int .i64 4)))], [], []⟩ [] (by kernel_rfl) trivial ?_
                      refine tri_ret ?_
                      refine thenR ?_
                      refine inBR ?_
                      refine thenR ?_
                      refine thenR ?_
                      refine inBR ?_
                      refine thenR ?_
                      rw [some_inv h]
                      exact ⟨[], by kernel_rfl, trivial⟩
                    · replace h := cnd_f h e14
                      refine tri_skip ?_
                      refine thenN ?_
                      refine cnd_split h (fun e15 h => ?_) (fun e15 h => ?_)
                      · refine tri_reg env [(3, .b true), (7, .b true), (8, .b true), (12, .b true), (13, .b true), (17, .b true), (18, .b true), (23, .b true), (24, .b true), (29, .b true)] 16 1024 [.keep [1, 5, 108] [(1000, 0)] []] ⟨109, [(1, .c (.pvar (1000, 0) 0)), (5, .c (.v (.int .i64 v3))), (108, .c (.v (.bool true)))], [((1000, 0), [.lst 2 a0.Places.length (encF e_Place d_Place a0.Places), .lst 10 a0.Roads.length (encF e_Road d_Road a0.Roads)])], []⟩ [True, ((decide ((a0.Roads.getD v3.toNat d_Road).Length < 1)) = true), ((decide ((a0.Roads.getD v3.toNat d_Road).Length < 1)) = true), ((decide ((a0.Roads.getD v3.toNat d_Road).Length < 1)) = true), ((decide ((a0.Roads.getD v3.toNat d_Road).Length < 1)) = true), (true = true), (true = true), (true = true), (true = true), (true = true), (true = true), (true = true), (true = true), (true = true), (true = true), (true = true), (true = true), (true = true), (true = true), (true = true), (true = true), (true = true), (true = true)] (by kernel_rfl) ⟨trivial, e15, e15, e15, e15, rfl, rfl, rfl, rfl, rfl, rfl, rfl, rfl, rfl, rfl, rfl, rfl, rfl, rfl, rfl, rfl, rfl, rfl, trivial⟩ ?_
                        refine tri_cond true (by kernel_rfl) (fun _ => ?_) (fun e => by cases e)
                        refine tri_reg env [] 17 1024 [.keep [2] [] []] ⟨109, [(2, .c (.v (.int .i64 1)))], [], []⟩ [] (by kernel_rfl) trivial ?_
                        refine tri_ret ?_
                        refine inBR ?_
                        refine thenR ?_
                        refine thenR ?_
                        refine inBR ?_
                        refine thenR ?_
                        rw [some_inv h]
                        exact ⟨[], by kernel_rfl, trivial⟩
                      · refine cnd_split h (fun e17 h => ?_) (fun e17 h => ?_)
                        · refine tri_reg env [(3, .b false), (7, .b false), (8, .b true), (12, .b true), (13, .b true), (17, .b true), (18, .b true), (23, .b true), (24, .b true), (29, .b true)] 16 1024 [.keep [1, 5, 108] [(1000, 0)] []] ⟨109, [(1, .c (.pvar (1000, 0) 0)), (5, .c (.v (.int .i64 v3))), (108, .c (.v (.bool true)))], [((1000, 0), [.lst 2 a0.Places.length (encF e_Place d_Place a0.Places), .lst 10 a0.Roads.length (encF e_Road d_Road a0.Roads)])], []⟩ [True, ((decide ((a0.Roads.getD v3.toNat d_Road).Length < 1)) = false), ((decide ((a0.Roads.getD v3.toNat d_Road).Length < 1)) = false), ((decide ((a0.Roads.getD v3.toNat d_Road).Length < 1)) = false), True, ((decide ((a0.Roads.getD v3.toNat d_Road).Length < 1)) = false), ((decide ((a0.Roads.getD v3.toNat d_Road).Length > 100000)) = true), ((decide ((a0.Roads.getD v3.toNat d_Road).Length > 100000)) = true), ((decide ((a0.Roads.getD v3.toNat d_Road).Length > 100000)) = true), ((decide ((a0.Roads.getD v3.toNat d_Road).Length > 100000)) = true), (true = true), (true = true), (true = true), (true = true), (true = true), (true = true), (true = true), (true = true), (true = true), (true = true), (true = true), (true = true), (true = true), (true = true)] (by kernel_rfl) ⟨trivial, e15, e15, e15, trivial, e15, e17, e17, e17, e17, rfl, rfl, rfl, rfl, rfl, rfl, rfl, rfl, rfl, rfl, rfl, rfl, rfl, rfl, trivial⟩ ?_
                          refine tri_cond true (by kernel_rfl) (fun _ => ?_) (fun e => by cases e)
                          refine tri_reg env [] 17 1024 [.keep [2] [] []] ⟨109, [(2, .c (.v (.int .i64 1)))], [], []⟩ [] (by kernel_rfl) trivial ?_
                          refine tri_ret ?_
                          refine inBR ?_
                          refine thenR ?_
                          refine thenR ?_
                          refine inBR ?_
                          refine thenR ?_
                          rw [some_inv h]
                          exact ⟨[], by kernel_rfl, trivial⟩
                        · refine cnd_split h (fun e19 h => ?_) (fun e19 h => ?_)
                          · refine tri_reg env [(3, .b false), (7, .b false), (8, .b false), (12, .b false), (13, .b true), (17, .b true), (18, .b true), (23, .b true), (24, .b true), (29, .b true)] 16 1024 [.keep [1, 5, 108] [(1000, 0)] []] ⟨109, [(1, .c (.pvar (1000, 0) 0)), (5, .c (.v (.int .i64 v3))), (108, .c (.v (.bool true)))], [((1000, 0), [.lst 2 a0.Places.length (encF e_Place d_Place a0.Places), .lst 10 a0.Roads.length (encF e_Road d_Road a0.Roads)])], []⟩ [True, ((decide ((a0.Roads.getD v3.toNat d_Road).Length < 1)) = false), ((decide ((a0.Roads.getD v3.toNat d_Road).Length < 1)) = false), ((decide ((a0.Roads.getD v3.toNat d_Road).Length < 1)) = false), True, ((decide ((a0.Roads.getD v3.toNat d_Road).Length < 1)) = false), ((decide ((a0.Roads.getD v3.toNat d_Road).Length > 100000)) = false), ((decide ((a0.Roads.getD v3.toNat d_Road).Length > 100000)) = false), ((decide ((a0.Roads.getD v3.toNat d_Road).Length > 100000)) = false), True, ((decide ((a0.Roads.getD v3.toNat d_Road).Length > 100000)) = false), ((decide ((a0.Roads.getD v3.toNat d_Road).Area < 1)) = true), ((decide ((a0.Roads.getD v3.toNat d_Road).Area < 1)) = true), ((decide ((a0.Roads.getD v3.toNat d_Road).Area < 1)) = true), ((decide ((a0.Roads.getD v3.toNat d_Road).Area < 1)) = true), (true = true), (true = true), (true = true), (true = true), (true = true), (true = true), (true = true), (true = true), (true = true), (true = true)] (by kernel_rfl) ⟨trivial, e15, e15, e15, trivial, e15, e17, e17, e17, trivial, e17, e19, e19, e19, e19, rfl, rfl, rfl, rfl, rfl, rfl, rfl, rfl, rfl, rfl, trivial⟩ ?_
                            refine tri_cond true (by kernel_rfl) (fun _ => ?_) (fun e => by cases e)
                            refine tri_reg env [] 17 1024 [.keep [2] [] []] ⟨109, [(2, .c (.v (.int .i64 1)))], [], []⟩ [] (by kernel_rfl) trivial ?_
                            refine tri_ret ?_
                            refine inBR ?_
                            refine thenR ?_
                            refine thenR ?_
                            refine inBR ?_
                            refine thenR ?_
                            rw [some_inv h]
                            exact ⟨[], by kernel_rfl, trivial⟩
                          · refine cnd_split h (fun e21 h => ?_) (fun e21 h => ?_)
                            · refine tri_reg env [(3, .b false), (7, .b false), (8, .b false), (12, .b false), (13, .b false), (17, .b false), (18, .b true), (23, .b true), (24, .b true), (29, .b true)] 16 1024 [.keep [1, 5, 108] [(1000, 0)] []] ⟨109, [(1, .c (.pvar (1000, 0) 0)), (5, .c (.v (.int .i64 v3))), (108, .c (.v (.bool true)))], [((1000, 0), [.lst 2 a0.Places.length (encF e_Place d_Place a0.Places), .lst 10 a0.Roads.length (encF e_Road d_Road a0.Roads)])], []⟩ [True, ((decide ((a0.Roads.getD v3.toNat d_Road).Length < 1)) = false), ((decide ((a0.Roads.getD v3.toNat d_Road).Length < 1)) = false), ((decide ((a0.Roads.getD v3.toNat d_Road).Length < 1)) = false), True, ((decide ((a0.Roads.getD v3.toNat d_Road).Length < 1)) = false), ((decide ((a0.Roads.getD v3.toNat d_Road).Length > 100000)) = false), ((decide ((a0.Roads.getD v3.toNat d_Road).Length > 100000)) = false), ((decide ((a0.Roads.getD v3.toNat d_Road).Length > 100000)) = false), True, ((decide ((a0.Roads.getD v3.toNat d_Road).Length > 100000)) = false), ((decide ((a0.Roads.getD v3.toNat d_Road).Area < 1)) = false), ((decide ((a0.Roads.getD v3.toNat d_Road).Area < 1)) = false), ((decide ((a0.Roads.getD v3.toNat d_Road).Area < 1)) = false), True, ((decide ((a0.Roads.getD v3.toNat d_Road).Area < 1)) = false), ((decide ((a0.Roads.getD v3.toNat d_Road).Area > 1000)) = true), ((decide ((a0.Roads.getD v3.toNat d_Road).Area > 1000)) = true), ((decide ((a0.Roads.getD v3.toNat d_Road).Area > 1000)) = true), ((decide ((a0.Roads.getD v3.toNat d_Road).Area > 1000)) = true), ((decide ((a0.Roads.getD v3.toNat d_Road).Area > 1000)) = true), (true = true), (true = true), (true = true), (true = true), (true = true)] (by kernel_rfl) ⟨trivial, e15, e15, e15, trivial, e15, e17, e17, e17, trivial, e17, e19, e19, e19, trivial, e19, e21, e21, e21, e21, e21, rfl, rfl, rfl, rfl, rfl, trivial⟩ ?_
                              refine tri_cond true (by kernel_rfl) (fun _ => ?_) (fun e => by cases e)
                              refine tri_reg env [] 17 1024 [.keep [2] [] []] ⟨109, [(2, .c (.v (.int .i64 1)))], [], []⟩ [] (by kernel_rfl) trivial ?_
                              refine tri_ret ?_
                              refine inBR ?_
                              refine thenR ?_
                              refine thenR ?_
                              refine inBR ?_
                              refine thenR ?_
                              rw [some_inv h]
                              exact ⟨[], by kernel_rfl, trivial⟩
                            · obtain ⟨y23, c24, h⟩ := bnd_inv h
                              refine cnd_split h (fun e25 h => ?_) (fun e25 h => ?_)
                              · refine tri_reg env [(3, .b false), (7, .b false), (8, .b false), (12, .b false), (13, .b false), (17, .b false), (18, .b false), (21, .call ⟨(ax_ref01_Span (⟨(a0.Roads.getD v3.toNat d_Road).Rest_Low, (a0.Roads.getD v3.toNat d_Road).Rest_High⟩ : T_Span) 1 262144), [false, false, false], rx_ref01_Span y23, px_ref01_Span y23, true⟩), (23, .b false), (24, .b true), (29, .b true)] 16 1024 [.keep [1, 5, 108] [(1000, 0)] []] ⟨109, [(1, .c (.pvar (1000, 0) 0)), (5, .c (.v (.int .i64 v3))), (108, .c (.v (.bool true)))], [((1000, 0), [.lst 2 a0.Places.length (encF e_Place d_Place a0.Places), .lst 10 a0.Roads.length (encF e_Road d_Road a0.Roads)])], []⟩ [True, ((decide ((a0.Roads.getD v3.toNat d_Road).Length < 1)) = false), ((decide ((a0.Roads.getD v3.toNat d_Road).Length < 1)) = false), ((decide ((a0.Roads.getD v3.toNat d_Road).Length < 1)) = false), True, ((decide ((a0.Roads.getD v3.toNat d_Road).Length < 1)) = false), ((decide ((a0.Roads.getD v3.toNat d_Road).Length > 100000)) = false), ((decide ((a0.Roads.getD v3.toNat d_Road).Length > 100000)) = false), ((decide ((a0.Roads.getD v3.toNat d_Road).Length > 100000)) = false), True, ((decide ((a0.Roads.getD v3.toNat d_Road).Length > 100000)) = false), ((decide ((a0.Roads.getD v3.toNat d_Road).Area < 1)) = false), ((decide ((a0.Roads.getD v3.toNat d_Road).Area < 1)) = false), ((decide ((a0.Roads.getD v3.toNat d_Road).Area < 1)) = false), True, ((decide ((a0.Roads.getD v3.toNat d_Road).Area < 1)) = false), ((decide ((a0.Roads.getD v3.toNat d_Road).Area > 1000)) = false), ((decide ((a0.Roads.getD v3.toNat d_Road).Area > 1000)) = false), ((decide ((a0.Roads.getD v3.toNat d_Road).Area > 1000)) = false), (EqXs (ax_ref01_Span (⟨(a0.Roads.getD v3.toNat d_Road).Rest_Low, (a0.Roads.getD v3.toNat d_Road).Rest_High⟩ : T_Span) 1 262144) (ax_ref01_Span (⟨(a0.Roads.getD v3.toNat d_Road).Rest_Low, (a0.Roads.getD v3.toNat d_Road).Rest_High⟩ : T_Span) 1 262144)), (FnOk Try.prog 59 (ax_ref01_Span (⟨(a0.Roads.getD v3.toNat d_Road).Rest_Low, (a0.Roads.getD v3.toNat d_Road).Rest_High⟩ : T_Span) 1 262144) (rx_ref01_Span y23) (px_ref01_Span y23)), ((decide ((a0.Roads.getD v3.toNat d_Road).Area > 1000)) = false), ((decide ((a0.Roads.getD v3.toNat d_Road).Area > 1000)) = false), ((!y23) = true), ((!y23) = true), ((!y23) = true), ((!y23) = true), ((!y23) = true)] (by kernel_rfl) ⟨trivial, e15, e15, e15, trivial, e15, e17, e17, e17, trivial, e17, e19, e19, e19, trivial, e19, e21, e21, e21, (eqs (eqa (eqr _) (eqa (eqr _) eqa0)) (eqs (eqr _) (eqs (eqr _) eqs0))), (ok_ref01_Span K (⟨(a0.Roads.getD v3.toNat d_Road).Rest_Low, (a0.Roads.getD v3.toNat d_Road).Rest_High⟩ : T_Span) 1 262144 y23 c24), e21, e21, e25, e25, e25, e25, e25, trivial⟩ ?_
                                refine tri_cond true (by kernel_rfl) (fun _ => ?_) (fun e => by cases e)
                                refine tri_reg env [] 17 1024 [.keep [2] [] []] ⟨109, [(2, .c (.v (.int .i64 1)))], [], []⟩ [] (by kernel_rfl) trivial ?_
                                refine tri_ret ?_
                                refine inBR ?_
                                refine thenR ?_
                                refine thenR ?_
                                refine inBR ?_
                                refine thenR ?_
                                rw [some_inv h]
                                exact ⟨[], by kernel_rfl, trivial⟩
                              · obtain ⟨y27, c28, h⟩ := bnd_inv h
                                refine tri_reg env [(3, .b false), (7, .b false), (8, .b false), (12, .b false), (13, .b false), (17, .b false), (18, .b false), (21, .call ⟨(ax_ref01_Span (⟨(a0.Roads.getD v3.toNat d_Road).Rest_Low, (a0.Roads.getD v3.toNat d_Road).Rest_High⟩ : T_Span) 1 262144), [false, false, false], rx_ref01_Span y23, px_ref01_Span y23, true⟩), (23, .b false), (24, .b false), (27, .call ⟨(ax_ref01_Span (⟨(a0.Roads.getD v3.toNat d_Road).Lift_Low, (a0.Roads.getD v3.toNat d_Road).Lift_High⟩ : T_Span) (-2199023255552) 2199023255552), [false, false, false], rx_ref01_Span y27, px_ref01_Span y27, true⟩), (29, .b false)] 16 1024 [.keep [1, 5, 108] [(1000, 0)] []] ⟨109, [(1, .c (.pvar (1000, 0) 0)), (5, .c (.v (.int .i64 v3))), (108, .c (.v (.bool (!y27))))], [((1000, 0), [.lst 2 a0.Places.length (encF e_Place d_Place a0.Places), .lst 10 a0.Roads.length (encF e_Road d_Road a0.Roads)])], []⟩ [True, ((decide ((a0.Roads.getD v3.toNat d_Road).Length < 1)) = false), ((decide ((a0.Roads.getD v3.toNat d_Road).Length < 1)) = false), ((decide ((a0.Roads.getD v3.toNat d_Road).Length < 1)) = false), True, ((decide ((a0.Roads.getD v3.toNat d_Road).Length < 1)) = false), ((decide ((a0.Roads.getD v3.toNat d_Road).Length > 100000)) = false), ((decide ((a0.Roads.getD v3.toNat d_Road).Length > 100000)) = false), ((decide ((a0.Roads.getD v3.toNat d_Road).Length > 100000)) = false), True, ((decide ((a0.Roads.getD v3.toNat d_Road).Length > 100000)) = false), ((decide ((a0.Roads.getD v3.toNat d_Road).Area < 1)) = false), ((decide ((a0.Roads.getD v3.toNat d_Road).Area < 1)) = false), ((decide ((a0.Roads.getD v3.toNat d_Road).Area < 1)) = false), True, ((decide ((a0.Roads.getD v3.toNat d_Road).Area < 1)) = false), ((decide ((a0.Roads.getD v3.toNat d_Road).Area > 1000)) = false), ((decide ((a0.Roads.getD v3.toNat d_Road).Area > 1000)) = false), ((decide ((a0.Roads.getD v3.toNat d_Road).Area > 1000)) = false), (EqXs (ax_ref01_Span (⟨(a0.Roads.getD v3.toNat d_Road).Rest_Low, (a0.Roads.getD v3.toNat d_Road).Rest_High⟩ : T_Span) 1 262144) (ax_ref01_Span (⟨(a0.Roads.getD v3.toNat d_Road).Rest_Low, (a0.Roads.getD v3.toNat d_Road).Rest_High⟩ : T_Span) 1 262144)), (FnOk Try.prog 59 (ax_ref01_Span (⟨(a0.Roads.getD v3.toNat d_Road).Rest_Low, (a0.Roads.getD v3.toNat d_Road).Rest_High⟩ : T_Span) 1 262144) (rx_ref01_Span y23) (px_ref01_Span y23)), ((decide ((a0.Roads.getD v3.toNat d_Road).Area > 1000)) = false), ((decide ((a0.Roads.getD v3.toNat d_Road).Area > 1000)) = false), ((!y23) = false), ((!y23) = false), ((!y23) = false), (EqXs (ax_ref01_Span (⟨(a0.Roads.getD v3.toNat d_Road).Lift_Low, (a0.Roads.getD v3.toNat d_Road).Lift_High⟩ : T_Span) (-2199023255552) 2199023255552) (ax_ref01_Span (⟨(a0.Roads.getD v3.toNat d_Road).Lift_Low, (a0.Roads.getD v3.toNat d_Road).Lift_High⟩ : T_Span) (-2199023255552) 2199023255552)), (FnOk Try.prog 59 (ax_ref01_Span (⟨(a0.Roads.getD v3.toNat d_Road).Lift_Low, (a0.Roads.getD v3.toNat d_Road).Lift_High⟩ : T_Span) (-2199023255552) 2199023255552) (rx_ref01_Span y27) (px_ref01_Span y27)), ((!y23) = false), ((!y23) = false)] (by kernel_rfl) ⟨trivial, e15, e15, e15, trivial, e15, e17, e17, e17, trivial, e17, e19, e19, e19, trivial, e19, e21, e21, e21, (eqs (eqa (eqr _) (eqa (eqr _) eqa0)) (eqs (eqr _) (eqs (eqr _) eqs0))), (ok_ref01_Span K (⟨(a0.Roads.getD v3.toNat d_Road).Rest_Low, (a0.Roads.getD v3.toNat d_Road).Rest_High⟩ : T_Span) 1 262144 y23 c24), e21, e21, e25, e25, e25, (eqs (eqa (eqr _) (eqa (eqr _) eqa0)) (eqs (eqr _) (eqs (eqr _) eqs0))), (ok_ref01_Span K (⟨(a0.Roads.getD v3.toNat d_Road).Lift_Low, (a0.Roads.getD v3.toNat d_Road).Lift_High⟩ : T_Span) (-2199023255552) 2199023255552 y27 c28), e25, e25, trivial⟩ ?_
                                refine tri_cond (!y27) (by kernel_rfl) (fun e29 => ?_) (fun e29 => ?_)
                                · replace h := cnd_t h e29
                                  refine tri_reg env [] 17 1024 [.keep [2] [] []] ⟨109, [(2, .c (.v (.int .i64 1)))], [], []⟩ [] (by kernel_rfl) trivial ?_
                                  refine tri_ret ?_
                                  refine inBR ?_
                                  refine thenR ?_
                                  refine thenR ?_
                                  refine inBR ?_
                                  refine thenR ?_
                                  rw [some_inv h]
                                  exact ⟨[], by kernel_rfl, trivial⟩
                                · replace h := cnd_f h e29
                                  refine tri_skip ?_
                                  refine inBN ?_
                                  refine thenN ?_
                                  refine tri_reg_end env [] 12 1024 [.keep [1, 5] [(1000, 0)] []] ⟨109, [(1, .c (.pvar (1000, 0) 0)), (5, .c (.v (.int .i64 (IntKind.wrap .i64 (v3 + 1)))))], [((1000, 0), [.lst 2 a0.Places.length (encF e_Place d_Place a0.Places), .lst 10 a0.Roads.length (encF e_Road d_Road a0.Roads)])], []⟩ [True] (by kernel_rfl) ⟨trivial, trivial⟩ ?_
                                  exact thenJ (IntKind.wrap .i64 (v3 + 1)) h (by kernel_rfl)
          · replace h := cnd_f h e4
            refine tri_tell [.keep [] [] []] ⟨109, [], [], []⟩ [] (by kernel_rfl) trivial ?_
            refine tri_exit ?_
            refine thenE ?_
            refine thenE ?_
            refine inBX ?_
            exact thenJ () h (by kernel_rfl)
      · refine tri_reg env [] 4 1024 [.keep [1, 3] [(1000, 0)] []] ⟨109, [(1, .c (.pvar (1000, 0) 0)), (3, .c (.v (.int .i64 0)))], [((1000, 0), [.lst 2 a0.Places.length (encF e_Place d_Place a0.Places), .lst 10 a0.Roads.length (encF e_Road d_Road a0.Roads)])], []⟩ [] (by kernel_rfl) trivial ?_
        refine tri_block ?_
        refine tri_loopK (fun (v1 : Int) => ⟨109, [(1, .c (.pvar (1000, 0) 0)), (3, .c (.v (.int .i64 v1)))], [((1000, 0), [.lst 2 a0.Places.length (encF e_Place d_Place a0.Places), .lst 10 a0.Roads.length (encF e_Road d_Road a0.Roads)])], []⟩) (v := 0) h (fun self1 v1 h => ?_) (by kernel_rfl)
        unfold ref01_Check_b1 at h
        refine tri_seq ?_
        refine tri_reg env [] 5 1024 [.keep [1, 3, 21] [(1000, 0)] []] ⟨109, [(1, .c (.pvar (1000, 0) 0)), (3, .c (.v (.int .i64 v1))), (21, .c (.v (.bool (decide (v1 < ((a0.Places.length : Nat) : Int))))))], [((1000, 0), [.lst 2 a0.Places.length (encF e_Place d_Place a0.Places), .lst 10 a0.Roads.length (encF e_Road d_Road a0.Roads)])], []⟩ [True] (by kernel_rfl) ⟨trivial, trivial⟩ ?_
        refine tri_cond (decide (v1 < ((a0.Places.length : Nat) : Int))) (by kernel_rfl) (fun e30 => ?_) (fun e30 => ?_)
        · replace h := cnd_t h e30
          refine tri_skip ?_
          refine thenN ?_
          refine tri_seq ?_
          refine tri_block ?_
          obtain ⟨q31, h⟩ := ck_inv h
          refine tri_reg env [] 7 1024 [.keep [1, 3, 4] [(1000, 0)] []] ⟨109, [(1, .c (.pvar (1000, 0) 0)), (3, .c (.v (.int .i64 v1))), (4, .c (.v (.int .i64 (a0.Places.getD v1.toNat d_Place).Height)))], [((1000, 0), [.lst 2 a0.Places.length (encF e_Place d_Place a0.Places), .lst 10 a0.Roads.length (encF e_Road d_Road a0.Roads)])], []⟩ [(0 ≤ v1 ∧ v1 < ((a0.Places.length : Nat) : Int))] (by kernel_rfl) ⟨q31, trivial⟩ ?_
          refine cnd_split h (fun e32 h => ?_) (fun e32 h => ?_)
          · refine tri_reg env [(2, .b true), (5, .b true)] 8 1024 [.keep [1, 3, 35] [(1000, 0)] []] ⟨109, [(1, .c (.pvar (1000, 0) 0)), (3, .c (.v (.int .i64 v1))), (35, .c (.v (.bool true)))], [((1000, 0), [.lst 2 a0.Places.length (encF e_Place d_Place a0.Places), .lst 10 a0.Roads.length (encF e_Road d_Road a0.Roads)])], []⟩ [True, ((decide ((a0.Places.getD v1.toNat d_Place).Height < (-10000))) = true), ((decide ((a0.Places.getD v1.toNat d_Place).Height < (-10000))) = true), ((decide ((a0.Places.getD v1.toNat d_Place).Height < (-10000))) = true)] (by kernel_rfl) ⟨trivial, e32, e32, e32, trivial⟩ ?_
            refine tri_cond true (by kernel_rfl) (fun _ => ?_) (fun e => by cases e)
            refine tri_reg env [] 9 1024 [.keep [2] [] []] ⟨109, [(2, .c (.v (.int .i64 1)))], [], []⟩ [] (by kernel_rfl) trivial ?_
            refine tri_ret ?_
            refine inBR ?_
            refine thenR ?_
            refine thenR ?_
            refine inBR ?_
            refine thenR ?_
            rw [some_inv h]
            exact ⟨[], by kernel_rfl, trivial⟩
          · refine tri_reg env [(2, .b false), (5, .b false)] 8 1024 [.keep [1, 3, 35] [(1000, 0)] []] ⟨109, [(1, .c (.pvar (1000, 0) 0)), (3, .c (.v (.int .i64 v1))), (35, .c (.v (.bool (decide ((a0.Places.getD v1.toNat d_Place).Height > 10000)))))], [((1000, 0), [.lst 2 a0.Places.length (encF e_Place d_Place a0.Places), .lst 10 a0.Roads.length (encF e_Road d_Road a0.Roads)])], []⟩ [True, ((decide ((a0.Places.getD v1.toNat d_Place).Height < (-10000))) = false), ((decide ((a0.Places.getD v1.toNat d_Place).Height < (-10000))) = false), True, ((decide ((a0.Places.getD v1.toNat d_Place).Height < (-10000))) = false)] (by kernel_rfl) ⟨trivial, e32, e32, trivial, e32, trivial⟩ ?_
            refine tri_cond (decide ((a0.Places.getD v1.toNat d_Place).Height > 10000)) (by kernel_rfl) (fun e34 => ?_) (fun e34 => ?_)
            · replace h := cnd_t h e34
              refine tri_reg env [] 9 1024 [.keep [2] [] []] ⟨109, [(2, .c (.v (.int .i64 1)))], [], []⟩ [] (by kernel_rfl) trivial ?_
              refine tri_ret ?_
              refine inBR ?_
              refine thenR ?_
              refine thenR ?_
              refine inBR ?_
              refine thenR ?_
              rw [some_inv h]
              exact ⟨[], by kernel_rfl, trivial⟩
            · replace h := cnd_f h e34
              refine tri_skip ?_
              refine inBN ?_
              refine thenN ?_
              refine tri_reg_end env [] 6 1024 [.keep [1, 3] [(1000, 0)] []] ⟨109, [(1, .c (.pvar (1000, 0) 0)), (3, .c (.v (.int .i64 (IntKind.wrap .i64 (v1 + 1)))))], [((1000, 0), [.lst 2 a0.Places.length (encF e_Place d_Place a0.Places), .lst 10 a0.Roads.length (encF e_Road d_Road a0.Roads)])], []⟩ [True] (by kernel_rfl) ⟨trivial, trivial⟩ ?_
              exact thenJ (IntKind.wrap .i64 (v1 + 1)) h (by kernel_rfl)
        · replace h := cnd_f h e30
          refine tri_tell [.keep [1] [(1000, 0)] []] ⟨109, [(1, .c (.pvar (1000, 0) 0))], [((1000, 0), [.lst 2 a0.Places.length (encF e_Place d_Place a0.Places), .lst 10 a0.Roads.length (encF e_Road d_Road a0.Roads)])], []⟩ [] (by kernel_rfl) trivial ?_
          refine tri_exit ?_
          refine thenE ?_
          refine thenE ?_
          refine inBX ?_
          exact thenJ () h (by kernel_rfl)
end Go.Proofs.Ytmkhmonbfikbpaa
