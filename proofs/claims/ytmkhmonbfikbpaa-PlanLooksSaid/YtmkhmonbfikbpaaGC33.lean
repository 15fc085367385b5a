/- What the code of a function does. -/
import Derived.Test.YtmkhmonbfikbpaaGB
import Derived.Test.YtmkhmonbfikbpaaGC20
import Derived.Test.YtmkhmonbfikbpaaGC61
namespace Go.Proofs.Ytmkhmonbfikbpaa
open Go Go.RowKit Go.Ev Go.Proofs
set_option linter.unusedVariables false

set_option maxRecDepth 100000
theorem ok_plan_Parts (K : Nat) (a0 : T_Mine) (r : (List (List Int))) (h : plan_Parts K a0 = some r) : FnOk Try.prog 33 (ax_plan_Parts a0) (rx_plan_Parts r) (px_plan_Parts r) := by
  refine ⟨⟨Try.f33, Try.func33, by kernel_rfl, by kernel_rfl⟩, ?_⟩
  unfold plan_Parts at h
  refine fn_ok env Try.func33 rfl ⟨37, [(0, .agg [.lst 2 a0.Places.length (encF e_Place d_Place a0.Places), .lst 10 a0.Roads.length (encF e_Road d_Road a0.Roads)])], [], []⟩ [] (by kernel_rfl) fun X => ?_
  refine tri_reg env [] 1 1024 [.keep [1] [(1000, 0)] []] ⟨37, [(1, .c (.pvar (1000, 0) 0))], [((1000, 0), [.lst 2 a0.Places.length (encF e_Place d_Place a0.Places), .lst 10 a0.Roads.length (encF e_Road d_Road a0.Roads)])], []⟩ [] (by kernel_rfl) trivial ?_
  refine tri_seq ?_
  obtain ⟨y1, c2, h⟩ := bnd_inv h
  refine tri_reg env [(1, .call ⟨(ax_plan_Valid a0), [false], rx_plan_Valid y1, px_plan_Valid y1, true⟩)] 2 1024 [.keep [1, 10] [(1000, 0)] []] ⟨37, [(1, .c (.pvar (1000, 0) 0)), (10, .c (.v (.bool (!y1))))], [((1000, 0), [.lst 2 a0.Places.length (encF e_Place d_Place a0.Places), .lst 10 a0.Roads.length (encF e_Road d_Road a0.Roads)])], []⟩ [(EqXs (ax_plan_Valid a0) (ax_plan_Valid a0)), (FnOk Try.prog 20 (ax_plan_Valid a0) (rx_plan_Valid y1) (px_plan_Valid y1))] (by kernel_rfl) ⟨(eqs (eqa (eqr _) (eqa (eqr _) eqa0)) eqs0), (ok_plan_Valid K a0 y1 c2), trivial⟩ ?_
  refine tri_cond (!y1) (by kernel_rfl) (fun e3 => ?_) (fun e3 => ?_)
  · replace h := cnd_t h e3
    refine tri_reg env [] 3 1024 [.keep [2] [] []] ⟨37, [(2, .c (.nil 1))], [], []⟩ [] (by kernel_rfl) trivial ?_
    refine tri_tell [.slot 2 (.c (.lst 1 (([] : List (List Int)).length) (encF (eL 1 (eI .i64) 0) [] ([] : List (List Int))))), .keep [2] [] []] ⟨37, [(2, .c (.lst 1 (([] : List (List Int)).length) (encF (eL 1 (eI .i64) 0) [] ([] : List (List Int)))))], [], []⟩ [(TellS (.c (.nil 1)) (.c (.lst 1 (([] : List (List Int)).length) (encF (eL 1 (eI .i64) 0) [] ([] : List (List Int))))))] (by kernel_rfl) ⟨(tnl (s := 1) (s' := 1) (g := encF (eL 1 (eI .i64) 0) [] ([] : List (List Int)))), trivial⟩ ?_
    refine tri_ret ?_
    refine thenR ?_
    rw [some_inv h]
    exact ⟨[], by kernel_rfl, trivial⟩
  · replace h := cnd_f h e3
    refine tri_skip ?_
    refine thenN ?_
    obtain ⟨y4, c5, h⟩ := bnd_inv h
    refine tri_reg env [(1, .call ⟨(ax_plan_part a0), [false], rx_plan_part y4, px_plan_part y4, true⟩)] 4 1024 [.keep [3, 4] [] [(4001, 0)]] ⟨37, [(3, .c (.ref (4001, 0) y4.1.length)), (4, .c (.v (.int .i64 y4.2)))], [], [((4001, 0), some ⟨false, 1, y4.1.length, encF (eI .i64) 0 y4.1⟩)]⟩ [(EqXs (ax_plan_part a0) (ax_plan_part a0)), (FnOk Try.prog 61 (ax_plan_part a0) (rx_plan_part y4) (px_plan_part y4))] (by kernel_rfl) ⟨(eqs (eqa (eqr _) (eqa (eqr _) eqa0)) eqs0), (ok_plan_part K a0 y4 c5), trivial⟩ ?_
    obtain ⟨q6, h⟩ := ck_inv h
    obtain ⟨q7, h⟩ := ck_inv h
    refine tri_reg env [(1, .fam .mk), (2, .fam .mv)] 5 1024 [.famT ((List.replicate y4.2.toNat ([] : List Int)).length) (famR (Value.int .i64) (List.replicate y4.2.toNat ([] : List Int))), .keep [3, 5, 37] [] [(4001, 0)]] ⟨37, [(3, .c (.ref (4001, 0) y4.1.length)), (5, .sp .hd), (37, .sp (.fam ((List.replicate y4.2.toNat ([] : List Int)).length) (famR (Value.int .i64) (List.replicate y4.2.toNat ([] : List Int))) .none))], [], [((4001, 0), some ⟨false, 1, y4.1.length, encF (eI .i64) 0 y4.1⟩)]⟩ [(0 ≤ y4.2), (0 ≤ y4.2), (y4.2.toNat = y4.2.toNat), (y4.2.toNat * 24 ≤ LIMIT ∧ y4.2.toNat < 2 ^ 63), (y4.2.toNat = y4.2.toNat ∧ ∀ i, (fun _ => [.nil 1] : Nat → List C) i = [.nil 1]), (y4.2.toNat = (List.replicate y4.2.toNat ([] : List Int)).length ∧ ∀ i, i < (List.replicate y4.2.toNat ([] : List Int)).length → (fun _ => []) i = (famR (Value.int .i64) (List.replicate y4.2.toNat ([] : List Int))) i)] (by kernel_rfl) ⟨q6, q6, rfl, q7, ⟨rfl, fun _ => rfl⟩, (fam_new (Value.int .i64) y4.2.toNat), trivial⟩ ?_
    refine tri_joinC (fun (v2 : (List (List Int))) => ⟨37, [(5, .sp .hd), (37, .sp (.fam v2.length (famR (Value.int .i64) v2) .none))], [], []⟩) h (fun v2 h => ?_) (fun j2 h => ?_)
    · refine tri_tell [.famF 5 (encF (eL 1 (eI .i64) 0) [] v2), .keep [5] [] []] ⟨37, [(5, .c (.lst 1 v2.length (encF (eL 1 (eI .i64) 0) [] v2)))], [], []⟩ [(∀ k, k < v2.length → RowTold ((famR (Value.int .i64) v2) k) ((encF (eL 1 (eI .i64) 0) [] v2) k))] (by kernel_rfl) ⟨(rows_told (Value.int .i64) (eI .i64) 0 (fun _ => rfl) v2), trivial⟩ ?_
      refine tri_reg env [] 11 1024 [.keep [2] [] []] ⟨37, [(2, .c (.lst 1 v2.length (encF (eL 1 (eI .i64) 0) [] v2)))], [], []⟩ [] (by kernel_rfl) trivial ?_
      refine tri_ret ?_
      rw [some_inv h]
      exact ⟨[], by kernel_rfl, trivial⟩
    · refine tri_reg env [] 6 1024 [.keep [5, 18, 19, 20, 37] [] [(4001, 0)]] ⟨37, [(5, .sp .hd), (18, .c (.ref (4001, 0) y4.1.length)), (19, .c (.v (.int .i64 ((y4.1.length : Nat) : Int)))), (20, .c (.v (.int .i64 0))), (37, .sp (.fam ((List.replicate y4.2.toNat ([] : List Int)).length) (famR (Value.int .i64) (List.replicate y4.2.toNat ([] : List Int))) .none))], [], [((4001, 0), some ⟨false, 1, y4.1.length, encF (eI .i64) 0 y4.1⟩)]⟩ [] (by kernel_rfl) trivial ?_
      refine tri_block ?_
      refine tri_tell [.keep [5, 18, 19, 20, 37] [] [(4001, 0)], .ren (4001, 0) (700001, 0)] ⟨37, [(5, .sp .hd), (18, .c (.ref (700001, 0) y4.1.length)), (19, .c (.v (.int .i64 ((y4.1.length : Nat) : Int)))), (20, .c (.v (.int .i64 0))), (37, .sp (.fam ((List.replicate y4.2.toNat ([] : List Int)).length) (famR (Value.int .i64) (List.replicate y4.2.toNat ([] : List Int))) .none))], [], [((700001, 0), some ⟨false, 1, y4.1.length, encF (eI .i64) 0 y4.1⟩)]⟩ [] (by kernel_rfl) trivial ?_
      refine tri_loopK (fun (v1 : (Int × (List (List Int)))) => ⟨37, [(5, .sp .hd), (18, .c (.ref (700001, 0) y4.1.length)), (19, .c (.v (.int .i64 ((y4.1.length : Nat) : Int)))), (20, .c (.v (.int .i64 v1.1))), (37, .sp (.fam v1.2.length (famR (Value.int .i64) v1.2) .none))], [], [((700001, 0), some ⟨false, 1, y4.1.length, encF (eI .i64) 0 y4.1⟩)]⟩) (v := (0, (List.replicate y4.2.toNat ([] : List Int)))) h (fun self1 v1 h => ?_) (by kernel_rfl)
      unfold plan_Parts_b1 at h
      refine tri_reg env [] 7 1024 [.keep [5, 18, 19, 20, 21, 37] [] [(700001, 0)]] ⟨37, [(5, .sp .hd), (18, .c (.ref (700001, 0) y4.1.length)), (19, .c (.v (.int .i64 ((y4.1.length : Nat) : Int)))), (20, .c (.v (.int .i64 v1.1))), (21, .c (.v (.bool (decide (v1.1 < ((y4.1.length : Nat) : Int)))))), (37, .sp (.fam v1.2.length (famR (Value.int .i64) v1.2) .none))], [], [((700001, 0), some ⟨false, 1, y4.1.length, encF (eI .i64) 0 y4.1⟩)]⟩ [True] (by kernel_rfl) ⟨trivial, trivial⟩ ?_
      refine tri_seq ?_
      refine tri_cond (decide (v1.1 < ((y4.1.length : Nat) : Int))) (by kernel_rfl) (fun e8 => ?_) (fun e8 => ?_)
      · replace h := cnd_t h e8
        refine tri_skip ?_
        refine thenN ?_
        refine tri_seq ?_
        refine tri_block ?_
        obtain ⟨q9, h⟩ := ck_inv h
        refine tri_reg env [] 8 1024 [.keep [5, 6, 7, 18, 19, 20, 37] [] [(700001, 0)]] ⟨37, [(5, .sp .hd), (6, .c (.v (.int .i64 v1.1))), (7, .c (.v (.int .i64 (y4.1.getD v1.1.toNat 0)))), (18, .c (.ref (700001, 0) y4.1.length)), (19, .c (.v (.int .i64 ((y4.1.length : Nat) : Int)))), (20, .c (.v (.int .i64 v1.1))), (37, .sp (.fam v1.2.length (famR (Value.int .i64) v1.2) .none))], [], [((700001, 0), some ⟨false, 1, y4.1.length, encF (eI .i64) 0 y4.1⟩)]⟩ [(0 ≤ v1.1 ∧ v1.1 < ((y4.1.length : Nat) : Int)), (v1.1.toNat < y4.1.length)] (by kernel_rfl) ⟨q9, (inr' q9), trivial⟩ ?_
        obtain ⟨q10, h⟩ := ck_inv h
        obtain ⟨q11, h⟩ := ck_inv h
        refine tri_reg_end env [(0, .fam .mv), (2, .fam .mv), (4, .fam .ix), (5, .fam .ld), (8, .fam (.ap ((famR (Value.int .i64) v1.2 ((y4.1.getD v1.1.toNat 0).toNat)) ++ [(Value.int .i64 v1.1)]))), (9, .fam .ix), (10, .fam .st)] 9 1024 [.famT ((v1.2.set ((y4.1.getD v1.1.toNat 0).toNat) (v1.2.getD ((y4.1.getD v1.1.toNat 0).toNat) [] ++ [v1.1])).length) (famR (Value.int .i64) (v1.2.set ((y4.1.getD v1.1.toNat 0).toNat) (v1.2.getD ((y4.1.getD v1.1.toNat 0).toNat) [] ++ [v1.1]))), .keep [5, 18, 19, 20, 37] [] [(700001, 0)]] ⟨37, [(5, .sp .hd), (18, .c (.ref (700001, 0) y4.1.length)), (19, .c (.v (.int .i64 ((y4.1.length : Nat) : Int)))), (20, .c (.v (.int .i64 v1.1))), (37, .sp (.fam ((v1.2.set ((y4.1.getD v1.1.toNat 0).toNat) (v1.2.getD ((y4.1.getD v1.1.toNat 0).toNat) [] ++ [v1.1])).length) (famR (Value.int .i64) (v1.2.set ((y4.1.getD v1.1.toNat 0).toNat) (v1.2.getD ((y4.1.getD v1.1.toNat 0).toNat) [] ++ [v1.1]))) .none))], [], [((700001, 0), some ⟨false, 1, y4.1.length, encF (eI .i64) 0 y4.1⟩)]⟩ [(0 ≤ (y4.1.getD v1.1.toNat 0) ∧ (y4.1.getD v1.1.toNat 0) < ((v1.2.length : Nat) : Int)), ((y4.1.getD v1.1.toNat 0).toNat < v1.2.length), (1 = 0 ∨ 1 = 1), (((famR (Value.int .i64) v1.2 ((y4.1.getD v1.1.toNat 0).toNat)).length + 1) * 8 ≤ LIMIT), ((famR (Value.int .i64) v1.2 ((y4.1.getD v1.1.toNat 0).toNat)).length + 1 = ((famR (Value.int .i64) v1.2 ((y4.1.getD v1.1.toNat 0).toNat)) ++ [(Value.int .i64 v1.1)]).length ∧ (famR (Value.int .i64) v1.2 ((y4.1.getD v1.1.toNat 0).toNat)).length + 1 = ((famR (Value.int .i64) v1.2 ((y4.1.getD v1.1.toNat 0).toNat)) ++ [(Value.int .i64 v1.1)]).length ∧ ∀ i, i < ((famR (Value.int .i64) v1.2 ((y4.1.getD v1.1.toNat 0).toNat)) ++ [(Value.int .i64 v1.1)]).length → appG (famR (Value.int .i64) v1.2 ((y4.1.getD v1.1.toNat 0).toNat)).length (rowG (famR (Value.int .i64) v1.2 ((y4.1.getD v1.1.toNat 0).toNat))) (fun i => window [.v (.int .i64 v1.1)] (i * 1) 1) i = rowG ((famR (Value.int .i64) v1.2 ((y4.1.getD v1.1.toNat 0).toNat)) ++ [(Value.int .i64 v1.1)]) i), (0 ≤ (y4.1.getD v1.1.toNat 0) ∧ (y4.1.getD v1.1.toNat 0) < ((v1.2.length : Nat) : Int)), ((y4.1.getD v1.1.toNat 0).toNat = (y4.1.getD v1.1.toNat 0).toNat), (v1.2.length = (v1.2.set ((y4.1.getD v1.1.toNat 0).toNat) (v1.2.getD ((y4.1.getD v1.1.toNat 0).toNat) [] ++ [v1.1])).length ∧ ∀ i, i < (v1.2.set ((y4.1.getD v1.1.toNat 0).toNat) (v1.2.getD ((y4.1.getD v1.1.toNat 0).toNat) [] ++ [v1.1])).length → (updR (famR (Value.int .i64) v1.2) ((y4.1.getD v1.1.toNat 0).toNat) ((famR (Value.int .i64) v1.2 ((y4.1.getD v1.1.toNat 0).toNat)) ++ [(Value.int .i64 v1.1)])) i = (famR (Value.int .i64) (v1.2.set ((y4.1.getD v1.1.toNat 0).toNat) (v1.2.getD ((y4.1.getD v1.1.toNat 0).toNat) [] ++ [v1.1]))) i)] (by kernel_rfl) ⟨q10, (inr' q10), (.inr rfl), q11, (row_app (famR (Value.int .i64) v1.2 ((y4.1.getD v1.1.toNat 0).toNat)) ((Value.int .i64 v1.1)) (fun i => window [.v (.int .i64 v1.1)] (i * 1) 1) rfl), q10, rfl, (fam_upd (Value.int .i64) v1.2 ((y4.1.getD v1.1.toNat 0).toNat) v1.1 ((Value.int .i64 v1.1)) rfl (inr' q10)), trivial⟩ ?_
        refine inBN ?_
        refine thenN ?_
        refine tri_reg_end env [] 10 1024 [.keep [5, 18, 19, 20, 37] [] [(700001, 0)]] ⟨37, [(5, .sp .hd), (18, .c (.ref (700001, 0) y4.1.length)), (19, .c (.v (.int .i64 ((y4.1.length : Nat) : Int)))), (20, .c (.v (.int .i64 (IntKind.wrap .i64 (v1.1 + 1))))), (37, .sp (.fam ((v1.2.set ((y4.1.getD v1.1.toNat 0).toNat) (v1.2.getD ((y4.1.getD v1.1.toNat 0).toNat) [] ++ [v1.1])).length) (famR (Value.int .i64) (v1.2.set ((y4.1.getD v1.1.toNat 0).toNat) (v1.2.getD ((y4.1.getD v1.1.toNat 0).toNat) [] ++ [v1.1]))) .none))], [], [((700001, 0), some ⟨false, 1, y4.1.length, encF (eI .i64) 0 y4.1⟩)]⟩ [True] (by kernel_rfl) ⟨trivial, trivial⟩ ?_
        exact thenJ ((IntKind.wrap .i64 (v1.1 + 1)), (v1.2.set ((y4.1.getD v1.1.toNat 0).toNat) (v1.2.getD ((y4.1.getD v1.1.toNat 0).toNat) [] ++ [v1.1]))) h (by kernel_rfl)
      · replace h := cnd_f h e8
        refine tri_tell [.keep [5, 37] [] []] ⟨37, [(5, .sp .hd), (37, .sp (.fam v1.2.length (famR (Value.int .i64) v1.2) .none))], [], []⟩ [] (by kernel_rfl) trivial ?_
        refine tri_exit ?_
        refine thenE ?_
        refine thenE ?_
        refine inBX ?_
        exact thenJ v1.2 h (by kernel_rfl)
end Go.Proofs.Ytmkhmonbfikbpaa
