/- What the code of a function does. -/
import Derived.Test.YtmkhmonbfikbpaaGB
namespace Go.Proofs.Ytmkhmonbfikbpaa
open Go Go.RowKit Go.Ev Go.Proofs
set_option linter.unusedVariables false

set_option maxRecDepth 100000
theorem ok_walk_with (K : Nat) (a0 : T_Mine) (a1 : Int) (a2 : Bool) (a3 : T_pace) (r : Int) (h : walk_with K a0 a1 a2 a3 = some r) : FnOk Try.prog 66 (ax_walk_with a0 a1 a2 a3) (rx_walk_with r) (px_walk_with r) := by
  refine ⟨⟨Try.f66, Try.func66, by kernel_rfl, by kernel_rfl⟩, ?_⟩
  unfold walk_with at h
  refine fn_ok env Try.func66 rfl ⟨68, [(0, .agg [.lst 2 a0.Places.length (encF e_Place d_Place a0.Places), .lst 10 a0.Roads.length (encF e_Road d_Road a0.Roads)]), (1, .c (.v (.int .i64 a1))), (2, .c (.v (.bool a2))), (3, .agg (e_pace a3))], [], []⟩ [] (by kernel_rfl) fun X => ?_
  refine tri_reg env [] 1 1024 [.keep [1, 2, 4, 7] [(1000, 0), (1001, 0)] []] ⟨68, [(1, .c (.v (.int .i64 a1))), (2, .c (.v (.bool a2))), (4, .c (.pvar (1000, 0) 0)), (7, .c (.pvar (1001, 0) 0))], [((1000, 0), [.lst 2 a0.Places.length (encF e_Place d_Place a0.Places), .lst 10 a0.Roads.length (encF e_Road d_Road a0.Roads)]), ((1001, 0), (e_pace a3))], []⟩ [] (by kernel_rfl) trivial ?_
  obtain ⟨q1, h⟩ := ck_inv h
  refine tri_reg env [] 2 1024 [.keep [2, 4, 7, 9] [(1000, 0), (1001, 0), (2005, 0)] []] ⟨68, [(2, .c (.v (.bool a2))), (4, .c (.pvar (1000, 0) 0)), (7, .c (.pvar (1001, 0) 0)), (9, .c (.pvar (2005, 0) 0))], [((1000, 0), [.lst 2 a0.Places.length (encF e_Place d_Place a0.Places), .lst 10 a0.Roads.length (encF e_Road d_Road a0.Roads)]), ((1001, 0), (e_pace a3)), ((2005, 0), (e_Road (a0.Roads.getD a1.toNat d_Road)))], []⟩ [(0 ≤ a1 ∧ a1 < ((a0.Roads.length : Nat) : Int))] (by kernel_rfl) ⟨q1, trivial⟩ ?_
  refine tri_seq ?_
  refine cnd_split h (fun e2 h => ?_) (fun e2 h => ?_)
  · refine tri_reg env [(2, .b true), (6, .b true)] 3 1024 [.keep [2, 4, 7, 9, 23] [(1000, 0), (1001, 0), (2005, 0)] []] ⟨68, [(2, .c (.v (.bool a2))), (4, .c (.pvar (1000, 0) 0)), (7, .c (.pvar (1001, 0) 0)), (9, .c (.pvar (2005, 0) 0)), (23, .c (.v (.bool true)))], [((1000, 0), [.lst 2 a0.Places.length (encF e_Place d_Place a0.Places), .lst 10 a0.Roads.length (encF e_Road d_Road a0.Roads)]), ((1001, 0), (e_pace a3)), ((2005, 0), (e_Road (a0.Roads.getD a1.toNat d_Road)))], []⟩ [((a0.Roads.getD a1.toNat d_Road).Closed = true), ((a0.Roads.getD a1.toNat d_Road).Closed = true), ((a0.Roads.getD a1.toNat d_Road).Closed = true), ((a0.Roads.getD a1.toNat d_Road).Closed = true)] (by kernel_rfl) ⟨e2, e2, e2, e2, trivial⟩ ?_
    refine tri_cond true (by kernel_rfl) (fun _ => ?_) (fun e => by cases e)
    refine tri_reg env [] 4 1024 [.keep [8] [] []] ⟨68, [(8, .c (.v (.int .i64 (-1))))], [], []⟩ [] (by kernel_rfl) trivial ?_
    refine tri_ret ?_
    refine thenR ?_
    rw [some_inv h]
    exact ⟨[], by kernel_rfl, trivial⟩
  · refine tri_reg env [(2, .b false), (6, .b false)] 3 1024 [.keep [2, 4, 7, 9, 23] [(1000, 0), (1001, 0), (2005, 0)] []] ⟨68, [(2, .c (.v (.bool a2))), (4, .c (.pvar (1000, 0) 0)), (7, .c (.pvar (1001, 0) 0)), (9, .c (.pvar (2005, 0) 0)), (23, .c (.v (.bool (!(a0.Roads.getD a1.toNat d_Road).Walk))))], [((1000, 0), [.lst 2 a0.Places.length (encF e_Place d_Place a0.Places), .lst 10 a0.Roads.length (encF e_Road d_Road a0.Roads)]), ((1001, 0), (e_pace a3)), ((2005, 0), (e_Road (a0.Roads.getD a1.toNat d_Road)))], []⟩ [((a0.Roads.getD a1.toNat d_Road).Closed = false), ((a0.Roads.getD a1.toNat d_Road).Closed = false), ((a0.Roads.getD a1.toNat d_Road).Closed = false), ((a0.Roads.getD a1.toNat d_Road).Closed = false)] (by kernel_rfl) ⟨e2, e2, e2, e2, trivial⟩ ?_
    refine tri_cond (!(a0.Roads.getD a1.toNat d_Road).Walk) (by kernel_rfl) (fun e4 => ?_) (fun e4 => ?_)
    · replace h := cnd_t h e4
      refine tri_reg env [] 4 1024 [.keep [8] [] []] ⟨68, [(8, .c (.v (.int .i64 (-1))))], [], []⟩ [] (by kernel_rfl) trivial ?_
      refine tri_ret ?_
      refine thenR ?_
      rw [some_inv h]
      exact ⟨[], by kernel_rfl, trivial⟩
    · replace h := cnd_f h e4
      refine tri_skip ?_
      refine thenN ?_
      obtain ⟨q5, h⟩ := ck_inv h
      obtain ⟨q6, h⟩ := ck_inv h
      refine tri_reg env [] 5 1024 [.keep [2, 7, 9, 10] [(1001, 0), (2005, 0)] []] ⟨68, [(2, .c (.v (.bool a2))), (7, .c (.pvar (1001, 0) 0)), (9, .c (.pvar (2005, 0) 0)), (10, .c (.v (.int .i64 (IntKind.wrap .i64 ((a0.Places.getD (((a0.Roads.getD a1.toNat d_Road).To).toNat) d_Place).Height - (a0.Places.getD (((a0.Roads.getD a1.toNat d_Road).From).toNat) d_Place).Height)))))], [((1001, 0), (e_pace a3)), ((2005, 0), (e_Road (a0.Roads.getD a1.toNat d_Road)))], []⟩ [(0 ≤ (a0.Roads.getD a1.toNat d_Road).To ∧ (a0.Roads.getD a1.toNat d_Road).To < ((a0.Places.length : Nat) : Int)), (0 ≤ (a0.Roads.getD a1.toNat d_Road).From ∧ (a0.Roads.getD a1.toNat d_Road).From < ((a0.Places.length : Nat) : Int)), True] (by kernel_rfl) ⟨q5, q6, trivial, trivial⟩ ?_
      refine tri_joinC (fun (v1 : Int) => ⟨68, [(7, .c (.pvar (1001, 0) 0)), (9, .c (.pvar (2005, 0) 0)), (10, .c (.v (.int .i64 v1)))], [((1001, 0), (e_pace a3)), ((2005, 0), (e_Road (a0.Roads.getD a1.toNat d_Road)))], []⟩) h (fun v1 h => ?_) (fun j1 h => ?_)
      · refine tri_reg env [] 8 1024 [.keep [7, 9, 10, 11] [(1001, 0), (2005, 0)] []] ⟨68, [(7, .c (.pvar (1001, 0) 0)), (9, .c (.pvar (2005, 0) 0)), (10, .c (.v (.int .i64 v1))), (11, .c (.v (.int .i64 a3.level_)))], [((1001, 0), (e_pace a3)), ((2005, 0), (e_Road (a0.Roads.getD a1.toNat d_Road)))], []⟩ [] (by kernel_rfl) trivial ?_
        refine tri_joinC (fun (v2 : Int) => ⟨68, [(9, .c (.pvar (2005, 0) 0)), (11, .c (.v (.int .i64 v2)))], [((2005, 0), (e_Road (a0.Roads.getD a1.toNat d_Road)))], []⟩) h (fun v2 h => ?_) (fun j2 h => ?_)
        · obtain ⟨q7, h⟩ := ck_inv h
          refine tri_reg env [] 13 1024 [.keep [8] [] []] ⟨68, [(8, .c (.v (.int .i64 (IntKind.wrap .i64 (Int.tdiv (IntKind.wrap .i64 ((IntKind.wrap .i64 ((IntKind.wrap .i64 (10 * (a0.Roads.getD a1.toNat d_Road).Length)) + v2)) - 1)) v2)))))], [], []⟩ [True, True, True, (v2 ≠ 0)] (by kernel_rfl) ⟨trivial, trivial, trivial, q7, trivial⟩ ?_
          refine tri_ret ?_
          rw [some_inv h]
          exact ⟨[], by kernel_rfl, trivial⟩
        · refine tri_block ?_
          refine tri_reg env [] 9 1024 [.keep [7, 9, 10, 11, 44] [(1001, 0), (2005, 0)] []] ⟨68, [(7, .c (.pvar (1001, 0) 0)), (9, .c (.pvar (2005, 0) 0)), (10, .c (.v (.int .i64 v1))), (11, .c (.v (.int .i64 a3.level_))), (44, .c (.v (.bool (decide ((IntKind.wrap .i64 (10 * v1)) > (a0.Roads.getD a1.toNat d_Road).Length)))))], [((1001, 0), (e_pace a3)), ((2005, 0), (e_Road (a0.Roads.getD a1.toNat d_Road)))], []⟩ [True, True] (by kernel_rfl) ⟨trivial, trivial, trivial⟩ ?_
          refine tri_cond (decide ((IntKind.wrap .i64 (10 * v1)) > (a0.Roads.getD a1.toNat d_Road).Length)) (by kernel_rfl) (fun e8 => ?_) (fun e8 => ?_)
          · replace h := cnd_t h e8
            refine tri_reg_end env [] 10 1024 [.keep [9, 11] [(2005, 0)] []] ⟨68, [(9, .c (.pvar (2005, 0) 0)), (11, .c (.v (.int .i64 a3.up_)))], [((2005, 0), (e_Road (a0.Roads.getD a1.toNat d_Road)))], []⟩ [] (by kernel_rfl) trivial ?_
            refine inBN ?_
            exact thenJ a3.up_ h (by kernel_rfl)
          · replace h := cnd_f h e8
            refine tri_reg env [] 11 1024 [.keep [7, 9, 11, 52] [(1001, 0), (2005, 0)] []] ⟨68, [(7, .c (.pvar (1001, 0) 0)), (9, .c (.pvar (2005, 0) 0)), (11, .c (.v (.int .i64 a3.level_))), (52, .c (.v (.bool (decide ((IntKind.wrap .i64 ((-10) * v1)) > (a0.Roads.getD a1.toNat d_Road).Length)))))], [((1001, 0), (e_pace a3)), ((2005, 0), (e_Road (a0.Roads.getD a1.toNat d_Road)))], []⟩ [True, True] (by kernel_rfl) ⟨trivial, trivial, trivial⟩ ?_
            refine tri_cond (decide ((IntKind.wrap .i64 ((-10) * v1)) > (a0.Roads.getD a1.toNat d_Road).Length)) (by kernel_rfl) (fun e9 => ?_) (fun e9 => ?_)
            · replace h := cnd_t h e9
              refine tri_reg_end env [] 12 1024 [.keep [9, 11] [(2005, 0)] []] ⟨68, [(9, .c (.pvar (2005, 0) 0)), (11, .c (.v (.int .i64 a3.down_)))], [((2005, 0), (e_Road (a0.Roads.getD a1.toNat d_Road)))], []⟩ [] (by kernel_rfl) trivial ?_
              refine inBN ?_
              exact thenJ a3.down_ h (by kernel_rfl)
            · replace h := cnd_f h e9
              refine tri_tell [.keep [9, 11] [(2005, 0)] []] ⟨68, [(9, .c (.pvar (2005, 0) 0)), (11, .c (.v (.int .i64 a3.level_)))], [((2005, 0), (e_Road (a0.Roads.getD a1.toNat d_Road)))], []⟩ [] (by kernel_rfl) trivial ?_
              refine tri_skip ?_
              refine inBN ?_
              exact thenJ a3.level_ h (by kernel_rfl)
      · refine tri_reg env [] 6 1024 [.keep [7, 9, 10, 39] [(1001, 0), (2005, 0)] []] ⟨68, [(7, .c (.pvar (1001, 0) 0)), (9, .c (.pvar (2005, 0) 0)), (10, .c (.v (.int .i64 (IntKind.wrap .i64 ((a0.Places.getD (((a0.Roads.getD a1.toNat d_Road).To).toNat) d_Place).Height - (a0.Places.getD (((a0.Roads.getD a1.toNat d_Road).From).toNat) d_Place).Height))))), (39, .c (.v (.bool a2)))], [((1001, 0), (e_pace a3)), ((2005, 0), (e_Road (a0.Roads.getD a1.toNat d_Road)))], []⟩ [] (by kernel_rfl) trivial ?_
        refine tri_cond a2 (by kernel_rfl) (fun e10 => ?_) (fun e10 => ?_)
        · replace h := cnd_t h e10
          refine tri_reg_end env [] 7 1024 [.keep [7, 9, 10] [(1001, 0), (2005, 0)] []] ⟨68, [(7, .c (.pvar (1001, 0) 0)), (9, .c (.pvar (2005, 0) 0)), (10, .c (.v (.int .i64 (IntKind.wrap .i64 (0 - (IntKind.wrap .i64 ((a0.Places.getD (((a0.Roads.getD a1.toNat d_Road).To).toNat) d_Place).Height - (a0.Places.getD (((a0.Roads.getD a1.toNat d_Road).From).toNat) d_Place).Height)))))))], [((1001, 0), (e_pace a3)), ((2005, 0), (e_Road (a0.Roads.getD a1.toNat d_Road)))], []⟩ [] (by kernel_rfl) trivial ?_
          exact thenJ (IntKind.wrap .i64 (0 - (IntKind.wrap .i64 ((a0.Places.getD (((a0.Roads.getD a1.toNat d_Road).To).toNat) d_Place).Height - (a0.Places.getD (((a0.Roads.getD a1.toNat d_Road).From).toNat) d_Place).Height)))) h (by kernel_rfl)
        · replace h := cnd_f h e10
          refine tri_tell [.keep [7, 9, 10] [(1001, 0), (2005, 0)] []] ⟨68, [(7, .c (.pvar (1001, 0) 0)), (9, .c (.pvar (2005, 0) 0)), (10, .c (.v (.int .i64 (IntKind.wrap .i64 ((a0.Places.getD (((a0.Roads.getD a1.toNat d_Road).To).toNat) d_Place).Height - (a0.Places.getD (((a0.Roads.getD a1.toNat d_Road).From).toNat) d_Place).Height)))))], [((1001, 0), (e_pace a3)), ((2005, 0), (e_Road (a0.Roads.getD a1.toNat d_Road)))], []⟩ [] (by kernel_rfl) trivial ?_
          refine tri_skip ?_
          exact thenJ (IntKind.wrap .i64 ((a0.Places.getD (((a0.Roads.getD a1.toNat d_Road).To).toNat) d_Place).Height - (a0.Places.getD (((a0.Roads.getD a1.toNat d_Road).From).toNat) d_Place).Height)) h (by kernel_rfl)
end Go.Proofs.Ytmkhmonbfikbpaa
