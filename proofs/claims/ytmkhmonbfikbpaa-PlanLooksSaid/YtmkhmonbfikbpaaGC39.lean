/- What the code of a function does. -/
import Derived.Test.YtmkhmonbfikbpaaGB
import Derived.Test.YtmkhmonbfikbpaaGC19
import Derived.Test.YtmkhmonbfikbpaaGC62
namespace Go.Proofs.Ytmkhmonbfikbpaa
open Go Go.RowKit Go.Ev Go.Proofs
set_option linter.unusedVariables false

set_option maxRecDepth 100000
theorem ok_ref01_CutOff (K : Nat) (a0 : T_Mine) (r : (List Int)) (h : ref01_CutOff K a0 = some r) : FnOk Try.prog 39 (ax_ref01_CutOff a0) (rx_ref01_CutOff r) (px_ref01_CutOff r) := by
  refine ⟨⟨Try.f39, Try.func39, by kernel_rfl, by kernel_rfl⟩, ?_⟩
  unfold ref01_CutOff at h
  refine fn_ok env Try.func39 rfl ⟨27, [(0, .agg [.lst 2 a0.Places.length (encF e_Place d_Place a0.Places), .lst 10 a0.Roads.length (encF e_Road d_Road a0.Roads)])], [], []⟩ [] (by kernel_rfl) fun X => ?_
  refine tri_reg env [] 1 1024 [.keep [1] [(1000, 0)] []] ⟨27, [(1, .c (.pvar (1000, 0) 0))], [((1000, 0), [.lst 2 a0.Places.length (encF e_Place d_Place a0.Places), .lst 10 a0.Roads.length (encF e_Road d_Road a0.Roads)])], []⟩ [] (by kernel_rfl) trivial ?_
  refine tri_seq ?_
  obtain ⟨y1, c2, h⟩ := bnd_inv h
  refine tri_reg env [(1, .call ⟨(ax_ref01_Check a0), [false], rx_ref01_Check y1, px_ref01_Check y1, true⟩)] 2 1024 [.keep [1, 8] [(1000, 0)] []] ⟨27, [(1, .c (.pvar (1000, 0) 0)), (8, .c (.v (.bool (y1 != 0))))], [((1000, 0), [.lst 2 a0.Places.length (encF e_Place d_Place a0.Places), .lst 10 a0.Roads.length (encF e_Road d_Road a0.Roads)])], []⟩ [(EqXs (ax_ref01_Check a0) (ax_ref01_Check a0)), (FnOk Try.prog 19 (ax_ref01_Check a0) (rx_ref01_Check y1) (px_ref01_Check y1)), True] (by kernel_rfl) ⟨(eqs (eqa (eqr _) (eqa (eqr _) eqa0)) eqs0), (ok_ref01_Check K a0 y1 c2), trivial, trivial⟩ ?_
  refine tri_cond (y1 != 0) (by kernel_rfl) (fun e3 => ?_) (fun e3 => ?_)
  · replace h := cnd_t h e3
    refine tri_reg env [] 3 1024 [.keep [2] [] []] ⟨27, [(2, .c (.nil 1))], [], []⟩ [] (by kernel_rfl) trivial ?_
    refine tri_tell [.nilS 2 (900000, 0) 1, .arr (900000, 0) (([] : List Int).length) (encF (eI .i64) 0 ([] : List Int)), .slot 2 (.c (.ref (900000, 0) (([] : List Int).length))), .keep [2] [] [(900000, 0)]] ⟨27, [(2, .c (.ref (900000, 0) (([] : List Int).length)))], [], [((900000, 0), some ⟨false, 1, (([] : List Int).length), encF (eI .i64) 0 ([] : List Int)⟩)]⟩ [(0 = ([] : List Int).length ∧ ∀ i, i < ([] : List Int).length → (fun _ => []) i = (encF (eI .i64) 0 ([] : List Int)) i), (TellS (.c (.ref (900000, 0) 0)) (.c (.ref (900000, 0) (([] : List Int).length))))] (by kernel_rfl) ⟨(Tells.arr (Tells.nil (e := (eI .i64)) (d := 0) (g := fun _ => []))), (TellC.ref (Tells.len (e := (eI .i64)) (d := 0) (n := 0) (g := (fun _ => [])) (L := ([] : List Int)) (Tells.nil (e := (eI .i64)) (d := 0) (g := fun _ => [])))), trivial⟩ ?_
    refine tri_ret ?_
    refine thenR ?_
    rw [some_inv h]
    exact ⟨[(([] : List Int).length = ([] : List Int).length)], by kernel_rfl, ⟨rfl, trivial⟩⟩
  · replace h := cnd_f h e3
    refine tri_skip ?_
    refine thenN ?_
    refine tri_reg env [] 4 1024 [.keep [1, 3] [(1000, 0)] []] ⟨27, [(1, .c (.pvar (1000, 0) 0)), (3, .c (.nil 1))], [((1000, 0), [.lst 2 a0.Places.length (encF e_Place d_Place a0.Places), .lst 10 a0.Roads.length (encF e_Road d_Road a0.Roads)])], []⟩ [] (by kernel_rfl) trivial ?_
    obtain ⟨y4, c5, h⟩ := bnd_inv h
    refine tri_reg env [(1, .call ⟨(ax_ref01_Airy a0), [false], rx_ref01_Airy y4, px_ref01_Airy y4, true⟩)] 5 1024 [.keep [3, 4] [] [(5001, 0)]] ⟨27, [(3, .c (.nil 1)), (4, .c (.ref (5001, 0) y4.length))], [], [((5001, 0), some ⟨false, 1, y4.length, encF eB false y4⟩)]⟩ [(EqXs (ax_ref01_Airy a0) (ax_ref01_Airy a0)), (FnOk Try.prog 62 (ax_ref01_Airy a0) (rx_ref01_Airy y4) (px_ref01_Airy y4))] (by kernel_rfl) ⟨(eqs (eqa (eqr _) (eqa (eqr _) eqa0)) eqs0), (ok_ref01_Airy K a0 y4 c5), trivial⟩ ?_
    refine tri_joinC (fun (v3 : (List Int)) => ⟨27, [(3, .c (.ref (700003, 0) v3.length))], [], [((700003, 0), some ⟨false, 1, v3.length, encF (eI .i64) 0 v3⟩)]⟩) h (fun v3 h => ?_) (fun j3 h => ?_)
    · refine tri_reg env [] 11 1024 [.keep [2] [] [(700003, 0)]] ⟨27, [(2, .c (.ref (700003, 0) v3.length))], [], [((700003, 0), some ⟨false, 1, v3.length, encF (eI .i64) 0 v3⟩)]⟩ [] (by kernel_rfl) trivial ?_
      refine tri_ret ?_
      rw [some_inv h]
      exact ⟨[(v3.length = v3.length)], by kernel_rfl, ⟨rfl, trivial⟩⟩
    · refine tri_reg env [] 6 1024 [.keep [3, 4, 5] [] [(5001, 0)]] ⟨27, [(3, .c (.nil 1)), (4, .c (.ref (5001, 0) y4.length)), (5, .c (.v (.int .i64 0)))], [], [((5001, 0), some ⟨false, 1, y4.length, encF eB false y4⟩)]⟩ [] (by kernel_rfl) trivial ?_
      refine tri_block ?_
      refine tri_tell [.keep [3, 4, 5] [] [(5001, 0)], .ren (5001, 0) (700001, 1), .nilS 3 (700001, 0) 1, .arr (700001, 0) (([] : List Int).length) (encF (eI .i64) 0 ([] : List Int)), .slot 3 (.c (.ref (700001, 0) (([] : List Int).length))), .keep [3, 4, 5] [] [(700001, 0), (700001, 1)]] ⟨27, [(3, .c (.ref (700001, 0) (([] : List Int).length))), (4, .c (.ref (700001, 1) y4.length)), (5, .c (.v (.int .i64 0)))], [], [((700001, 0), some ⟨false, 1, (([] : List Int).length), encF (eI .i64) 0 ([] : List Int)⟩), ((700001, 1), some ⟨false, 1, y4.length, encF eB false y4⟩)]⟩ [(0 = ([] : List Int).length ∧ ∀ i, i < ([] : List Int).length → (fun _ => []) i = (encF (eI .i64) 0 ([] : List Int)) i), (TellS (.c (.ref (700001, 0) 0)) (.c (.ref (700001, 0) (([] : List Int).length))))] (by kernel_rfl) ⟨(Tells.arr (Tells.nil (e := (eI .i64)) (d := 0) (g := fun _ => []))), (TellC.ref (Tells.len (e := (eI .i64)) (d := 0) (n := 0) (g := (fun _ => [])) (L := ([] : List Int)) (Tells.nil (e := (eI .i64)) (d := 0) (g := fun _ => [])))), trivial⟩ ?_
      refine tri_loopK (fun (v1 : (Int × (List Int))) => ⟨27, [(3, .c (.ref (700001, 0) v1.2.length)), (4, .c (.ref (700001, 1) y4.length)), (5, .c (.v (.int .i64 v1.1)))], [], [((700001, 0), some ⟨false, 1, v1.2.length, encF (eI .i64) 0 v1.2⟩), ((700001, 1), some ⟨false, 1, y4.length, encF eB false y4⟩)]⟩) (v := (0, ([] : List Int))) h (fun self1 v1 h => ?_) (by kernel_rfl)
      unfold ref01_CutOff_b1 at h
      refine tri_seq ?_
      refine tri_reg env [] 7 1024 [.keep [3, 4, 5, 14] [] [(700001, 0), (700001, 1)]] ⟨27, [(3, .c (.ref (700001, 0) v1.2.length)), (4, .c (.ref (700001, 1) y4.length)), (5, .c (.v (.int .i64 v1.1))), (14, .c (.v (.bool (decide (v1.1 < ((y4.length : Nat) : Int))))))], [], [((700001, 0), some ⟨false, 1, v1.2.length, encF (eI .i64) 0 v1.2⟩), ((700001, 1), some ⟨false, 1, y4.length, encF eB false y4⟩)]⟩ [True] (by kernel_rfl) ⟨trivial, trivial⟩ ?_
      refine tri_cond (decide (v1.1 < ((y4.length : Nat) : Int))) (by kernel_rfl) (fun e6 => ?_) (fun e6 => ?_)
      · replace h := cnd_t h e6
        refine tri_skip ?_
        refine thenN ?_
        refine tri_joinC (fun (v2 : (List Int)) => ⟨27, [(3, .c (.ref (700002, 0) v2.length)), (4, .c (.ref (700002, 1) y4.length)), (5, .c (.v (.int .i64 v1.1)))], [], [((700002, 0), some ⟨false, 1, v2.length, encF (eI .i64) 0 v2⟩), ((700002, 1), some ⟨false, 1, y4.length, encF eB false y4⟩)]⟩) h (fun v2 h => ?_) (fun j2 h => ?_)
        · refine tri_reg_end env [] 8 1024 [.keep [3, 4, 5] [] [(700002, 0), (700002, 1)], .keep [3, 4, 5] [] [(700002, 0), (700002, 1)], .ren (700002, 0) (700001, 0), .ren (700002, 1) (700001, 1)] ⟨27, [(3, .c (.ref (700001, 0) v2.length)), (4, .c (.ref (700001, 1) y4.length)), (5, .c (.v (.int .i64 (IntKind.wrap .i64 (v1.1 + 1)))))], [], [((700001, 0), some ⟨false, 1, v2.length, encF (eI .i64) 0 v2⟩), ((700001, 1), some ⟨false, 1, y4.length, encF eB false y4⟩)]⟩ [True] (by kernel_rfl) ⟨trivial, trivial⟩ ?_
          exact thenJ ((IntKind.wrap .i64 (v1.1 + 1)), v2) h (by kernel_rfl)
        · refine tri_block ?_
          obtain ⟨q7, h⟩ := ck_inv h
          refine tri_reg env [] 9 1024 [.keep [3, 4, 5, 21] [] [(700001, 0), (700001, 1)]] ⟨27, [(3, .c (.ref (700001, 0) v1.2.length)), (4, .c (.ref (700001, 1) y4.length)), (5, .c (.v (.int .i64 v1.1))), (21, .c (.v (.bool (!(y4.getD v1.1.toNat false)))))], [], [((700001, 0), some ⟨false, 1, v1.2.length, encF (eI .i64) 0 v1.2⟩), ((700001, 1), some ⟨false, 1, y4.length, encF eB false y4⟩)]⟩ [(0 ≤ v1.1 ∧ v1.1 < ((y4.length : Nat) : Int)), (v1.1.toNat < y4.length)] (by kernel_rfl) ⟨q7, (inr' q7), trivial⟩ ?_
          refine tri_cond (!(y4.getD v1.1.toNat false)) (by kernel_rfl) (fun e8 => ?_) (fun e8 => ?_)
          · replace h := cnd_t h e8
            obtain ⟨q9, h⟩ := ck_inv h
            refine tri_reg_end env [] 10 1024 [.arr (10003, 0) ((v1.2 ++ ([v1.1] : List Int)).length) (encF (eI .i64) 0 (v1.2 ++ ([v1.1] : List Int))), .slot 3 (.c (.ref (10003, 0) ((v1.2 ++ ([v1.1] : List Int)).length))), .keep [3, 4, 5] [] [(10003, 0), (700001, 1)], .keep [3, 4, 5] [] [(10003, 0), (700001, 1)], .ren (10003, 0) (700002, 0), .ren (700001, 1) (700002, 1)] ⟨27, [(3, .c (.ref (700002, 0) ((v1.2 ++ ([v1.1] : List Int)).length))), (4, .c (.ref (700002, 1) y4.length)), (5, .c (.v (.int .i64 v1.1)))], [], [((700002, 0), some ⟨false, 1, ((v1.2 ++ ([v1.1] : List Int)).length), encF (eI .i64) 0 (v1.2 ++ ([v1.1] : List Int))⟩), ((700002, 1), some ⟨false, 1, y4.length, encF eB false y4⟩)]⟩ [(1 = 0 ∨ 1 = 1), ((v1.2.length + 1) * 8 ≤ LIMIT), ((v1.2.length + 1) = (v1.2 ++ ([v1.1] : List Int)).length ∧ ∀ i, i < (v1.2 ++ ([v1.1] : List Int)).length → (appG v1.2.length (encF (eI .i64) 0 v1.2) (fun i => window [.v (.int .i64 v1.1)] (i * 1) 1)) i = (encF (eI .i64) 0 (v1.2 ++ ([v1.1] : List Int))) i), (TellS (.c (.ref (10003, 0) (v1.2.length + 1))) (.c (.ref (10003, 0) ((v1.2 ++ ([v1.1] : List Int)).length))))] (by kernel_rfl) ⟨(.inr rfl), q9, (Tells.arr (Tells.app (Tells.rfl' (e := (eI .i64)) (d := 0) (L := v1.2)) (Tells.items (e := (eI .i64)) (d := 0) (k := 1) (g := (fun i => window [.v (.int .i64 v1.1)] (i * 1) 1)) (L := ([v1.1] : List Int)) rfl (belowS rfl below0)))), (TellC.ref (Tells.len (e := (eI .i64)) (d := 0) (n := (v1.2.length + 1)) (g := (appG v1.2.length (encF (eI .i64) 0 v1.2) (fun i => window [.v (.int .i64 v1.1)] (i * 1) 1))) (L := (v1.2 ++ ([v1.1] : List Int))) (Tells.app (Tells.rfl' (e := (eI .i64)) (d := 0) (L := v1.2)) (Tells.items (e := (eI .i64)) (d := 0) (k := 1) (g := (fun i => window [.v (.int .i64 v1.1)] (i * 1) 1)) (L := ([v1.1] : List Int)) rfl (belowS rfl below0))))), trivial⟩ ?_
            refine inBN ?_
            exact thenJ (v1.2 ++ ([v1.1] : List Int)) h (by kernel_rfl)
          · replace h := cnd_f h e8
            refine tri_tell [.keep [3, 4, 5] [] [(700001, 0), (700001, 1)], .ren (700001, 0) (700002, 0), .ren (700001, 1) (700002, 1)] ⟨27, [(3, .c (.ref (700002, 0) v1.2.length)), (4, .c (.ref (700002, 1) y4.length)), (5, .c (.v (.int .i64 v1.1)))], [], [((700002, 0), some ⟨false, 1, v1.2.length, encF (eI .i64) 0 v1.2⟩), ((700002, 1), some ⟨false, 1, y4.length, encF eB false y4⟩)]⟩ [] (by kernel_rfl) trivial ?_
            refine tri_skip ?_
            refine inBN ?_
            exact thenJ v1.2 h (by kernel_rfl)
      · replace h := cnd_f h e6
        refine tri_tell [.keep [3] [] [(700001, 0)], .ren (700001, 0) (700003, 0)] ⟨27, [(3, .c (.ref (700003, 0) v1.2.length))], [], [((700003, 0), some ⟨false, 1, v1.2.length, encF (eI .i64) 0 v1.2⟩)]⟩ [] (by kernel_rfl) trivial ?_
        refine tri_exit ?_
        refine thenE ?_
        refine thenE ?_
        refine inBX ?_
        exact thenJ v1.2 h (by kernel_rfl)
end Go.Proofs.Ytmkhmonbfikbpaa
