/- What the code of a function does. -/
import Derived.Test.YtmkhmonbfikbpaaGB
namespace Go.Proofs.Ytmkhmonbfikbpaa
open Go Go.RowKit Go.Ev Go.Proofs
set_option linter.unusedVariables false

set_option maxRecDepth 100000
theorem ok_draw_Codes_Next (K : Nat) (a0 : T_Codes) (a1 : Int) (r : (Int × T_Codes)) (h : draw_Codes_Next K a0 a1 = some r) : FnOk Try.prog 55 (ax_draw_Codes_Next a0 a1) (rx_draw_Codes_Next r) (px_draw_Codes_Next r) := by
  refine ⟨⟨Try.f55, Try.func55, by kernel_rfl, by kernel_rfl⟩, ?_⟩
  unfold draw_Codes_Next at h
  refine fn_ok env Try.func55 rfl ⟨77, [(0, .c (.pvar (0, 0) 0)), (1, .c (.v (.int .i64 a1)))], [((0, 0), [.lst 1 a0.l_.length (encF (eI .u8) 0 a0.l_), .v (.int .i64 a0.at_)])], []⟩ [(0, 0)] (by kernel_rfl) fun X => ?_
  refine tri_reg env [] 1 1024 [.keep [0, 1] [(0, 0)] []] ⟨77, [(0, .c (.pvar (0, 0) 0)), (1, .c (.v (.int .i64 a1)))], [((0, 0), [.lst 1 a0.l_.length (encF (eI .u8) 0 a0.l_), .v (.int .i64 a0.at_)])], []⟩ [] (by kernel_rfl) trivial ?_
  refine tri_seq ?_
  refine cnd_split h (fun e1 h => ?_) (fun e1 h => ?_)
  · refine tri_reg env [(2, .b true), (13, .b true)] 2 1024 [.keep [0, 1, 19] [(0, 0)] []] ⟨77, [(0, .c (.pvar (0, 0) 0)), (1, .c (.v (.int .i64 a1))), (19, .c (.v (.bool true)))], [((0, 0), [.lst 1 a0.l_.length (encF (eI .u8) 0 a0.l_), .v (.int .i64 a0.at_)])], []⟩ [True, ((decide (a1 < 1)) = true), ((decide (a1 < 1)) = true), ((decide (a1 < 1)) = true), ((decide (a1 < 1)) = true), ((decide (a1 < 1)) = true), ((decide (a1 < 1)) = true), ((decide (a1 < 1)) = true), ((decide (a1 < 1)) = true), ((decide (a1 < 1)) = true), ((decide (a1 < 1)) = true), ((decide (a1 < 1)) = true)] (by kernel_rfl) ⟨trivial, e1, e1, e1, e1, e1, e1, e1, e1, e1, e1, e1, trivial⟩ ?_
    refine tri_cond true (by kernel_rfl) (fun _ => ?_) (fun e => by cases e)
    refine tri_reg env [] 3 1024 [.keep [4] [(0, 0)] []] ⟨77, [(4, .c (.v (.int .i64 0)))], [((0, 0), [.lst 1 a0.l_.length (encF (eI .u8) 0 a0.l_), .v (.int .i64 a0.at_)])], []⟩ [] (by kernel_rfl) trivial ?_
    refine tri_ret ?_
    refine thenR ?_
    rw [some_inv h]
    exact ⟨[], by kernel_rfl, trivial⟩
  · refine tri_reg env [(2, .b false), (13, .b false)] 2 1024 [.keep [0, 1, 19] [(0, 0)] []] ⟨77, [(0, .c (.pvar (0, 0) 0)), (1, .c (.v (.int .i64 a1))), (19, .c (.v (.bool (decide (a0.at_ ≥ ((a0.l_.length : Nat) : Int))))))], [((0, 0), [.lst 1 a0.l_.length (encF (eI .u8) 0 a0.l_), .v (.int .i64 a0.at_)])], []⟩ [True, ((decide (a1 < 1)) = false), ((decide (a1 < 1)) = false), ((decide (a1 < 1)) = false), ((decide (a1 < 1)) = false), ((decide (a1 < 1)) = false), ((decide (a1 < 1)) = false), ((decide (a1 < 1)) = false), ((decide (a1 < 1)) = false), ((decide (a1 < 1)) = false), ((decide (a1 < 1)) = false), True, ((decide (a1 < 1)) = false)] (by kernel_rfl) ⟨trivial, e1, e1, e1, e1, e1, e1, e1, e1, e1, e1, trivial, e1, trivial⟩ ?_
    refine tri_cond (decide (a0.at_ ≥ ((a0.l_.length : Nat) : Int))) (by kernel_rfl) (fun e3 => ?_) (fun e3 => ?_)
    · replace h := cnd_t h e3
      refine tri_reg env [] 3 1024 [.keep [4] [(0, 0)] []] ⟨77, [(4, .c (.v (.int .i64 0)))], [((0, 0), [.lst 1 a0.l_.length (encF (eI .u8) 0 a0.l_), .v (.int .i64 a0.at_)])], []⟩ [] (by kernel_rfl) trivial ?_
      refine tri_ret ?_
      refine thenR ?_
      rw [some_inv h]
      exact ⟨[], by kernel_rfl, trivial⟩
    · replace h := cnd_f h e3
      refine tri_skip ?_
      refine thenN ?_
      refine tri_reg env [] 4 1024 [.keep [0, 1] [(0, 0)] []] ⟨77, [(0, .c (.pvar (0, 0) 0)), (1, .c (.v (.int .i64 a1)))], [((0, 0), [.lst 1 a0.l_.length (encF (eI .u8) 0 a0.l_), .v (.int .i64 (IntKind.wrap .i64 (a0.at_ + 1)))])], []⟩ [True] (by kernel_rfl) ⟨trivial, trivial⟩ ?_
      obtain ⟨q4, h⟩ := ck_inv h
      refine tri_reg env [] 5 1024 [.keep [0, 1, 5] [(0, 0)] []] ⟨77, [(0, .c (.pvar (0, 0) 0)), (1, .c (.v (.int .i64 a1))), (5, .c (.v (.int .i64 (IntKind.wrap .i64 (a0.l_.getD ((IntKind.wrap .i64 ((IntKind.wrap .i64 (a0.at_ + 1)) - 1)).toNat) 0)))))], [((0, 0), [.lst 1 a0.l_.length (encF (eI .u8) 0 a0.l_), .v (.int .i64 (IntKind.wrap .i64 (a0.at_ + 1)))])], []⟩ [True, (0 ≤ (IntKind.wrap .i64 ((IntKind.wrap .i64 (a0.at_ + 1)) - 1)) ∧ (IntKind.wrap .i64 ((IntKind.wrap .i64 (a0.at_ + 1)) - 1)) < ((a0.l_.length : Nat) : Int))] (by kernel_rfl) ⟨trivial, q4, trivial⟩ ?_
      refine tri_joinC (fun (v1 : (Int × Int)) => ⟨77, [(1, .c (.v (.int .i64 a1))), (5, .c (.v (.int .i64 v1.1)))], [((0, 0), [.lst 1 a0.l_.length (encF (eI .u8) 0 a0.l_), .v (.int .i64 v1.2)])], []⟩) h (fun v1 h => ?_) (fun j1 h => ?_)
      · obtain ⟨q5, h⟩ := ck_inv h
        refine tri_reg env [] 9 1024 [.keep [4] [(0, 0)] []] ⟨77, [(4, .c (.v (.int .i64 (Int.tmod v1.1 a1))))], [((0, 0), [.lst 1 a0.l_.length (encF (eI .u8) 0 a0.l_), .v (.int .i64 v1.2)])], []⟩ [(a1 ≠ 0)] (by kernel_rfl) ⟨q5, trivial⟩ ?_
        refine tri_ret ?_
        rw [some_inv h]
        exact ⟨[], by kernel_rfl, trivial⟩
      · refine cnd_split h (fun e6 h => ?_) (fun e6 h => ?_)
        · refine tri_reg env [(2, .b true), (13, .b true)] 6 1024 [.keep [0, 1, 5, 52] [(0, 0)] []] ⟨77, [(0, .c (.pvar (0, 0) 0)), (1, .c (.v (.int .i64 a1))), (5, .c (.v (.int .i64 (IntKind.wrap .i64 (a0.l_.getD ((IntKind.wrap .i64 ((IntKind.wrap .i64 (a0.at_ + 1)) - 1)).toNat) 0))))), (52, .c (.v (.bool (decide ((IntKind.wrap .i64 (a0.at_ + 1)) < ((a0.l_.length : Nat) : Int))))))], [((0, 0), [.lst 1 a0.l_.length (encF (eI .u8) 0 a0.l_), .v (.int .i64 (IntKind.wrap .i64 (a0.at_ + 1)))])], []⟩ [True, ((decide (a1 > 256)) = true), ((decide (a1 > 256)) = true), ((decide (a1 > 256)) = true), ((decide (a1 > 256)) = true), ((decide (a1 > 256)) = true), ((decide (a1 > 256)) = true), ((decide (a1 > 256)) = true), ((decide (a1 > 256)) = true), ((decide (a1 > 256)) = true), ((decide (a1 > 256)) = true), True, ((decide (a1 > 256)) = true)] (by kernel_rfl) ⟨trivial, e6, e6, e6, e6, e6, e6, e6, e6, e6, e6, trivial, e6, trivial⟩ ?_
          refine tri_cond (decide ((IntKind.wrap .i64 (a0.at_ + 1)) < ((a0.l_.length : Nat) : Int))) (by kernel_rfl) (fun e7 => ?_) (fun e7 => ?_)
          · replace h := cnd_t h e7
            obtain ⟨q8, h⟩ := ck_inv h
            refine tri_reg env [] 7 1024 [.keep [0, 1, 5] [(0, 0)] []] ⟨77, [(0, .c (.pvar (0, 0) 0)), (1, .c (.v (.int .i64 a1))), (5, .c (.v (.int .i64 (IntKind.wrap .i64 ((IntKind.wrap .i64 ((IntKind.wrap .i64 (a0.l_.getD ((IntKind.wrap .i64 ((IntKind.wrap .i64 (a0.at_ + 1)) - 1)).toNat) 0)) * 256)) + (IntKind.wrap .i64 (a0.l_.getD ((IntKind.wrap .i64 (a0.at_ + 1)).toNat) 0)))))))], [((0, 0), [.lst 1 a0.l_.length (encF (eI .u8) 0 a0.l_), .v (.int .i64 (IntKind.wrap .i64 (a0.at_ + 1)))])], []⟩ [True, (0 ≤ (IntKind.wrap .i64 (a0.at_ + 1)) ∧ (IntKind.wrap .i64 (a0.at_ + 1)) < ((a0.l_.length : Nat) : Int)), True] (by kernel_rfl) ⟨trivial, q8, trivial, trivial⟩ ?_
            refine tri_reg_end env [] 8 1024 [.keep [1, 5] [(0, 0)] []] ⟨77, [(1, .c (.v (.int .i64 a1))), (5, .c (.v (.int .i64 (IntKind.wrap .i64 ((IntKind.wrap .i64 ((IntKind.wrap .i64 (a0.l_.getD ((IntKind.wrap .i64 ((IntKind.wrap .i64 (a0.at_ + 1)) - 1)).toNat) 0)) * 256)) + (IntKind.wrap .i64 (a0.l_.getD ((IntKind.wrap .i64 (a0.at_ + 1)).toNat) 0)))))))], [((0, 0), [.lst 1 a0.l_.length (encF (eI .u8) 0 a0.l_), .v (.int .i64 (IntKind.wrap .i64 ((IntKind.wrap .i64 (a0.at_ + 1)) + 1)))])], []⟩ [True] (by kernel_rfl) ⟨trivial, trivial⟩ ?_
            exact thenJ ((IntKind.wrap .i64 ((IntKind.wrap .i64 ((IntKind.wrap .i64 (a0.l_.getD ((IntKind.wrap .i64 ((IntKind.wrap .i64 (a0.at_ + 1)) - 1)).toNat) 0)) * 256)) + (IntKind.wrap .i64 (a0.l_.getD ((IntKind.wrap .i64 (a0.at_ + 1)).toNat) 0)))), (IntKind.wrap .i64 ((IntKind.wrap .i64 (a0.at_ + 1)) + 1))) h (by kernel_rfl)
          · replace h := cnd_f h e7
            refine tri_tell [.keep [1, 5] [(0, 0)] []] ⟨77, [(1, .c (.v (.int .i64 a1))), (5, .c (.v (.int .i64 (IntKind.wrap .i64 (a0.l_.getD ((IntKind.wrap .i64 ((IntKind.wrap .i64 (a0.at_ + 1)) - 1)).toNat) 0)))))], [((0, 0), [.lst 1 a0.l_.length (encF (eI .u8) 0 a0.l_), .v (.int .i64 (IntKind.wrap .i64 (a0.at_ + 1)))])], []⟩ [] (by kernel_rfl) trivial ?_
            refine tri_skip ?_
            exact thenJ ((IntKind.wrap .i64 (a0.l_.getD ((IntKind.wrap .i64 ((IntKind.wrap .i64 (a0.at_ + 1)) - 1)).toNat) 0)), (IntKind.wrap .i64 (a0.at_ + 1))) h (by kernel_rfl)
        · refine tri_reg env [(2, .b false), (13, .b false)] 6 1024 [.keep [0, 1, 5, 52] [(0, 0)] []] ⟨77, [(0, .c (.pvar (0, 0) 0)), (1, .c (.v (.int .i64 a1))), (5, .c (.v (.int .i64 (IntKind.wrap .i64 (a0.l_.getD ((IntKind.wrap .i64 ((IntKind.wrap .i64 (a0.at_ + 1)) - 1)).toNat) 0))))), (52, .c (.v (.bool false)))], [((0, 0), [.lst 1 a0.l_.length (encF (eI .u8) 0 a0.l_), .v (.int .i64 (IntKind.wrap .i64 (a0.at_ + 1)))])], []⟩ [True, ((decide (a1 > 256)) = false), ((decide (a1 > 256)) = false), ((decide (a1 > 256)) = false), ((decide (a1 > 256)) = false), ((decide (a1 > 256)) = false), ((decide (a1 > 256)) = false), ((decide (a1 > 256)) = false), ((decide (a1 > 256)) = false), ((decide (a1 > 256)) = false), ((decide (a1 > 256)) = false), ((decide (a1 > 256)) = false)] (by kernel_rfl) ⟨trivial, e6, e6, e6, e6, e6, e6, e6, e6, e6, e6, e6, trivial⟩ ?_
          refine tri_cond false (by kernel_rfl) (fun e => by cases e) (fun _ => ?_)
          refine tri_tell [.keep [1, 5] [(0, 0)] []] ⟨77, [(1, .c (.v (.int .i64 a1))), (5, .c (.v (.int .i64 (IntKind.wrap .i64 (a0.l_.getD ((IntKind.wrap .i64 ((IntKind.wrap .i64 (a0.at_ + 1)) - 1)).toNat) 0)))))], [((0, 0), [.lst 1 a0.l_.length (encF (eI .u8) 0 a0.l_), .v (.int .i64 (IntKind.wrap .i64 (a0.at_ + 1)))])], []⟩ [] (by kernel_rfl) trivial ?_
          refine tri_skip ?_
          exact thenJ ((IntKind.wrap .i64 (a0.l_.getD ((IntKind.wrap .i64 ((IntKind.wrap .i64 (a0.at_ + 1)) - 1)).toNat) 0)), (IntKind.wrap .i64 (a0.at_ + 1))) h (by kernel_rfl)
end Go.Proofs.Ytmkhmonbfikbpaa
