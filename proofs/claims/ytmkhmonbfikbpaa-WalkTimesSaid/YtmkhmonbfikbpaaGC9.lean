/- What the code of a function does. -/
import Derived.Test.YtmkhmonbfikbpaaGB
import Derived.Test.YtmkhmonbfikbpaaGC16
import Derived.Test.YtmkhmonbfikbpaaGC17
import Derived.Test.YtmkhmonbfikbpaaGC24
import Derived.Test.YtmkhmonbfikbpaaGC42
import Derived.Test.YtmkhmonbfikbpaaGC43
import Derived.Test.YtmkhmonbfikbpaaGC44
import Derived.Test.YtmkhmonbfikbpaaGC45
import Derived.Test.YtmkhmonbfikbpaaGC46
namespace Go.Proofs.Ytmkhmonbfikbpaa
open Go Go.RowKit Go.Ev Go.Proofs
set_option linter.unusedVariables false

set_option maxRecDepth 100000
theorem ok_law03_WalkTimes (K : Nat) (a0 : (List Int)) (a1 : Int) (a2 : Bool) (r : Bool) (h : law03_WalkTimes K a0 a1 a2 = some r) : FnOk Try.prog 9 (ax_law03_WalkTimes a0 a1 a2) (rx_law03_WalkTimes r) (px_law03_WalkTimes r) := by
  refine ⟨⟨Try.f9, Try.func9, by kernel_rfl, by kernel_rfl⟩, ?_⟩
  unfold law03_WalkTimes at h
  refine fn_ok env Try.func9 rfl ⟨48, [(0, .c (.lst 1 a0.length (encF (eI .u8) 0 a0))), (1, .c (.v (.int .i64 a1))), (2, .c (.v (.bool a2)))], [], []⟩ [] (by kernel_rfl) fun X => ?_
  refine tri_reg env [] 1 1024 [.keep [0, 1, 2] [] []] ⟨48, [(0, .c (.lst 1 a0.length (encF (eI .u8) 0 a0))), (1, .c (.v (.int .i64 a1))), (2, .c (.v (.bool a2)))], [], []⟩ [] (by kernel_rfl) trivial ?_
  obtain ⟨y1, c2, h⟩ := bnd_inv h
  obtain ⟨y3, c4, h⟩ := bnd_inv h
  refine tri_reg env [(1, .call ⟨(ax_draw_New a0), [false], rx_draw_New y1, px_draw_New y1, true⟩), (2, .call ⟨(ax_draw_Codes_Mine y1), [false], rx_draw_Codes_Mine y3, px_draw_Codes_Mine y3, true⟩)] 2 1024 [.keep [1, 2, 7] [(2003, 0)] [(2002, 0), (2002, 4)]] ⟨48, [(1, .c (.v (.int .i64 a1))), (2, .c (.v (.bool a2))), (7, .c (.pvar (2003, 0) 0))], [((2003, 0), [.ref (2002, 0) y3.1.Places.length, .ref (2002, 4) y3.1.Roads.length])], [((2002, 0), some ⟨false, 2, y3.1.Places.length, encF e_Place d_Place y3.1.Places⟩), ((2002, 4), some ⟨false, 10, y3.1.Roads.length, encF e_Road d_Road y3.1.Roads⟩)]⟩ [(EqXs (ax_draw_New a0) (ax_draw_New a0)), (FnOk Try.prog 16 (ax_draw_New a0) (rx_draw_New y1) (px_draw_New y1)), (EqXs (ax_draw_Codes_Mine y1) (ax_draw_Codes_Mine y1)), (FnOk Try.prog 17 (ax_draw_Codes_Mine y1) (rx_draw_Codes_Mine y3) (px_draw_Codes_Mine y3))] (by kernel_rfl) ⟨(eqs (eqr _) eqs0), (ok_draw_New K a0 y1 c2), (eqs (eqp (eqr _) (eqp (eqr _) eqp0)) eqs0), (ok_draw_Codes_Mine K y1 y3 c4), trivial⟩ ?_
  refine tri_joinC (fun (v2 : Unit) => ⟨48, [], [], []⟩) h (fun v2 h => ?_) (fun j2 h => ?_)
  · obtain ⟨y5, c6, h⟩ := bnd_inv h
    refine tri_reg env [(0, .call ⟨[], [], rx_law03_awake y5, px_law03_awake y5, true⟩)] 9 1024 [.keep [6] [] []] ⟨48, [(6, .c (.v (.bool y5)))], [], []⟩ [(EqXs [] []), (FnOk Try.prog 46 [] (rx_law03_awake y5) (px_law03_awake y5))] (by kernel_rfl) ⟨eqs0, (ok_law03_awake K  y5 c6), trivial⟩ ?_
    refine tri_ret ?_
    rw [some_inv h]
    exact ⟨[], by kernel_rfl, trivial⟩
  · obtain ⟨y7, c8, h⟩ := bnd_inv h
    refine tri_reg env [(6, .call ⟨(ax_draw_Mod a1 (IntKind.wrap .i64 (((y3.1.Roads.length : Nat) : Int) + 1))), [false, false], rx_draw_Mod y7, px_draw_Mod y7, true⟩)] 3 1024 [.arr (3007, 0) (([a1, y7] : List Int).length) (encF (eI .i64) 0 ([a1, y7] : List Int)), .slot 20 (.c (.ref (3007, 0) (([a1, y7] : List Int).length))), .keep [2, 7, 20, 21, 22] [(2003, 0)] [(2002, 0), (2002, 4), (3007, 0)]] ⟨48, [(2, .c (.v (.bool a2))), (7, .c (.pvar (2003, 0) 0)), (20, .c (.ref (3007, 0) (([a1, y7] : List Int).length))), (21, .c (.v (.int .i64 2))), (22, .c (.v (.int .i64 0)))], [((2003, 0), [.ref (2002, 0) y3.1.Places.length, .ref (2002, 4) y3.1.Roads.length])], [((2002, 0), some ⟨false, 2, y3.1.Places.length, encF e_Place d_Place y3.1.Places⟩), ((2002, 4), some ⟨false, 10, y3.1.Roads.length, encF e_Road d_Road y3.1.Roads⟩), ((3007, 0), some ⟨false, 1, (([a1, y7] : List Int).length), encF (eI .i64) 0 ([a1, y7] : List Int)⟩)]⟩ [True, (EqXs (ax_draw_Mod a1 (IntKind.wrap .i64 (((y3.1.Roads.length : Nat) : Int) + 1))) (ax_draw_Mod a1 (IntKind.wrap .i64 (((y3.1.Roads.length : Nat) : Int) + 1)))), (FnOk Try.prog 24 (ax_draw_Mod a1 (IntKind.wrap .i64 (((y3.1.Roads.length : Nat) : Int) + 1))) (rx_draw_Mod y7) (px_draw_Mod y7)), (2 = ([a1, y7] : List Int).length ∧ ∀ i, i < ([a1, y7] : List Int).length → (fun i => window [.v (.int .i64 a1), .v (.int .i64 y7)] (i * 1) 1) i = (encF (eI .i64) 0 ([a1, y7] : List Int)) i), (TellS (.c (.ref (3007, 0) 2)) (.c (.ref (3007, 0) (([a1, y7] : List Int).length))))] (by kernel_rfl) ⟨trivial, (eqs (eqr _) (eqs (eqr _) eqs0)), (ok_draw_Mod K a1 (IntKind.wrap .i64 (((y3.1.Roads.length : Nat) : Int) + 1)) y7 c8), (Tells.arr (Tells.items (e := (eI .i64)) (d := 0) (k := 2) (g := (fun i => window [.v (.int .i64 a1), .v (.int .i64 y7)] (i * 1) 1)) (L := ([a1, y7] : List Int)) rfl (belowS rfl (belowS rfl below0)))), (TellC.ref (Tells.len (e := (eI .i64)) (d := 0) (n := 2) (g := (fun i => window [.v (.int .i64 a1), .v (.int .i64 y7)] (i * 1) 1)) (L := ([a1, y7] : List Int)) (Tells.items (e := (eI .i64)) (d := 0) (k := 2) (g := (fun i => window [.v (.int .i64 a1), .v (.int .i64 y7)] (i * 1) 1)) (L := ([a1, y7] : List Int)) rfl (belowS rfl (belowS rfl below0))))), trivial⟩ ?_
    refine tri_block ?_
    refine tri_tell [.keep [2, 7, 20, 21, 22] [(2003, 0)] [(3007, 0), (2002, 0), (2002, 4)], .ren (3007, 0) (700001, 0), .ren (2002, 0) (700001, 1), .ren (2002, 4) (700001, 2)] ⟨48, [(2, .c (.v (.bool a2))), (7, .c (.pvar (2003, 0) 0)), (20, .c (.ref (700001, 0) (([a1, y7] : List Int).length))), (21, .c (.v (.int .i64 2))), (22, .c (.v (.int .i64 0)))], [((2003, 0), [.ref (700001, 1) y3.1.Places.length, .ref (700001, 2) y3.1.Roads.length])], [((700001, 0), some ⟨false, 1, (([a1, y7] : List Int).length), encF (eI .i64) 0 ([a1, y7] : List Int)⟩), ((700001, 1), some ⟨false, 2, y3.1.Places.length, encF e_Place d_Place y3.1.Places⟩), ((700001, 2), some ⟨false, 10, y3.1.Roads.length, encF e_Road d_Road y3.1.Roads⟩)]⟩ [] (by kernel_rfl) trivial ?_
    refine tri_loopK (fun (v1 : Int) => ⟨48, [(2, .c (.v (.bool a2))), (7, .c (.pvar (2003, 0) 0)), (20, .c (.ref (700001, 0) (([a1, y7] : List Int).length))), (21, .c (.v (.int .i64 2))), (22, .c (.v (.int .i64 v1)))], [((2003, 0), [.ref (700001, 1) y3.1.Places.length, .ref (700001, 2) y3.1.Roads.length])], [((700001, 0), some ⟨false, 1, (([a1, y7] : List Int).length), encF (eI .i64) 0 ([a1, y7] : List Int)⟩), ((700001, 1), some ⟨false, 2, y3.1.Places.length, encF e_Place d_Place y3.1.Places⟩), ((700001, 2), some ⟨false, 10, y3.1.Roads.length, encF e_Road d_Road y3.1.Roads⟩)]⟩) (v := 0) h (fun self1 v1 h => ?_) (by kernel_rfl)
    unfold law03_WalkTimes_b1 at h
    refine tri_reg env [] 4 1024 [.keep [2, 7, 20, 21, 22, 23] [(2003, 0)] [(700001, 0), (700001, 1), (700001, 2)]] ⟨48, [(2, .c (.v (.bool a2))), (7, .c (.pvar (2003, 0) 0)), (20, .c (.ref (700001, 0) (([a1, y7] : List Int).length))), (21, .c (.v (.int .i64 2))), (22, .c (.v (.int .i64 v1))), (23, .c (.v (.bool (decide (v1 < 2)))))], [((2003, 0), [.ref (700001, 1) y3.1.Places.length, .ref (700001, 2) y3.1.Roads.length])], [((700001, 0), some ⟨false, 1, (([a1, y7] : List Int).length), encF (eI .i64) 0 ([a1, y7] : List Int)⟩), ((700001, 1), some ⟨false, 2, y3.1.Places.length, encF e_Place d_Place y3.1.Places⟩), ((700001, 2), some ⟨false, 10, y3.1.Roads.length, encF e_Road d_Road y3.1.Roads⟩)]⟩ [True] (by kernel_rfl) ⟨trivial, trivial⟩ ?_
    refine tri_seq ?_
    refine tri_cond (decide (v1 < 2)) (by kernel_rfl) (fun e9 => ?_) (fun e9 => ?_)
    · replace h := cnd_t h e9
      refine tri_skip ?_
      refine thenN ?_
      refine tri_seq ?_
      refine tri_block ?_
      obtain ⟨q10, h⟩ := ck_inv h
      refine tri_reg env [] 5 1024 [.keep [2, 7, 9, 20, 21, 22] [(2003, 0)] [(700001, 0), (700001, 1), (700001, 2)]] ⟨48, [(2, .c (.v (.bool a2))), (7, .c (.pvar (2003, 0) 0)), (9, .c (.v (.int .i64 (([a1, y7] : List Int).getD v1.toNat 0)))), (20, .c (.ref (700001, 0) (([a1, y7] : List Int).length))), (21, .c (.v (.int .i64 2))), (22, .c (.v (.int .i64 v1)))], [((2003, 0), [.ref (700001, 1) y3.1.Places.length, .ref (700001, 2) y3.1.Roads.length])], [((700001, 0), some ⟨false, 1, (([a1, y7] : List Int).length), encF (eI .i64) 0 ([a1, y7] : List Int)⟩), ((700001, 1), some ⟨false, 2, y3.1.Places.length, encF e_Place d_Place y3.1.Places⟩), ((700001, 2), some ⟨false, 10, y3.1.Roads.length, encF e_Road d_Road y3.1.Roads⟩)]⟩ [(0 ≤ v1 ∧ v1 < ((([a1, y7] : List Int).length : Nat) : Int)), (v1.toNat < (([a1, y7] : List Int).length))] (by kernel_rfl) ⟨q10, (inr' q10), trivial⟩ ?_
      obtain ⟨y11, c12, h⟩ := bnd_inv h
      obtain ⟨y13, c14, h⟩ := bnd_inv h
      refine cnd_split h (fun e15 h => ?_) (fun e15 h => ?_)
      · refine tri_reg env [(3, .call ⟨(ax_walk_Time y3.1 (([a1, y7] : List Int).getD v1.toNat 0) a2), [false, false, false], rx_walk_Time y11, px_walk_Time y11, false⟩), (7, .call ⟨(ax_ref03_Time y3.1 (([a1, y7] : List Int).getD v1.toNat 0) a2), [false, false, false], rx_ref03_Time y13, px_ref03_Time y13, false⟩), (9, .b true), (19, .b true)] 6 1024 [.keep [2, 7, 20, 21, 22, 45] [(2003, 0)] [(700001, 0), (700001, 1), (700001, 2)]] ⟨48, [(2, .c (.v (.bool a2))), (7, .c (.pvar (2003, 0) 0)), (20, .c (.ref (700001, 0) (([a1, y7] : List Int).length))), (21, .c (.v (.int .i64 2))), (22, .c (.v (.int .i64 v1))), (45, .c (.v (.bool true)))], [((2003, 0), [.ref (700001, 1) y3.1.Places.length, .ref (700001, 2) y3.1.Roads.length])], [((700001, 0), some ⟨false, 1, (([a1, y7] : List Int).length), encF (eI .i64) 0 ([a1, y7] : List Int)⟩), ((700001, 1), some ⟨false, 2, y3.1.Places.length, encF e_Place d_Place y3.1.Places⟩), ((700001, 2), some ⟨false, 10, y3.1.Roads.length, encF e_Road d_Road y3.1.Roads⟩)]⟩ [(EqXs (ax_walk_Time y3.1 (([a1, y7] : List Int).getD v1.toNat 0) a2) (ax_walk_Time y3.1 (([a1, y7] : List Int).getD v1.toNat 0) a2)), (FnOk Try.prog 42 (ax_walk_Time y3.1 (([a1, y7] : List Int).getD v1.toNat 0) a2) (rx_walk_Time y11) (px_walk_Time y11)), (flatX (rx_walk_Time y11) ∧ flatXss (px_walk_Time y11)), (EqXs (ax_ref03_Time y3.1 (([a1, y7] : List Int).getD v1.toNat 0) a2) (ax_ref03_Time y3.1 (([a1, y7] : List Int).getD v1.toNat 0) a2)), (FnOk Try.prog 43 (ax_ref03_Time y3.1 (([a1, y7] : List Int).getD v1.toNat 0) a2) (rx_ref03_Time y13) (px_ref03_Time y13)), (flatX (rx_ref03_Time y13) ∧ flatXss (px_ref03_Time y13)), True, ((y11 != y13) = true), ((y11 != y13) = true), ((y11 != y13) = true), ((y11 != y13) = true), ((y11 != y13) = true), ((y11 != y13) = true), ((y11 != y13) = true), ((y11 != y13) = true), ((y11 != y13) = true), ((y11 != y13) = true)] (by kernel_rfl) ⟨(eqs (eqa (eqr _) (eqa (eqr _) eqa0)) (eqs (eqr _) (eqs (eqr _) eqs0))), (ok_walk_Time K y3.1 (([a1, y7] : List Int).getD v1.toNat 0) a2 y11 c12), (flat_walk_Time y11), (eqs (eqa (eqr _) (eqa (eqr _) eqa0)) (eqs (eqr _) (eqs (eqr _) eqs0))), (ok_ref03_Time K y3.1 (([a1, y7] : List Int).getD v1.toNat 0) a2 y13 c14), (flat_ref03_Time y13), trivial, e15, e15, e15, e15, e15, e15, e15, e15, e15, e15, trivial⟩ ?_
        refine tri_cond true (by kernel_rfl) (fun _ => ?_) (fun e => by cases e)
        refine tri_reg env [] 7 1024 [.keep [6] [] []] ⟨48, [(6, .c (.v (.bool false)))], [], []⟩ [] (by kernel_rfl) trivial ?_
        refine tri_ret ?_
        refine inBR ?_
        refine thenR ?_
        refine thenR ?_
        refine inBR ?_
        refine thenR ?_
        rw [some_inv h]
        exact ⟨[], by kernel_rfl, trivial⟩
      · obtain ⟨y17, c18, h⟩ := bnd_inv h
        obtain ⟨y19, c20, h⟩ := bnd_inv h
        refine tri_reg env [(3, .call ⟨(ax_walk_Time y3.1 (([a1, y7] : List Int).getD v1.toNat 0) a2), [false, false, false], rx_walk_Time y11, px_walk_Time y11, false⟩), (7, .call ⟨(ax_ref03_Time y3.1 (([a1, y7] : List Int).getD v1.toNat 0) a2), [false, false, false], rx_ref03_Time y13, px_ref03_Time y13, false⟩), (9, .b false), (13, .call ⟨(ax_walk_Slow y3.1 (([a1, y7] : List Int).getD v1.toNat 0) a2), [false, false, false], rx_walk_Slow y17, px_walk_Slow y17, false⟩), (17, .call ⟨(ax_ref03_Slow y3.1 (([a1, y7] : List Int).getD v1.toNat 0) a2), [false, false, false], rx_ref03_Slow y19, px_ref03_Slow y19, false⟩), (19, .b false)] 6 1024 [.keep [2, 7, 20, 21, 22, 45] [(2003, 0)] [(700001, 0), (700001, 1), (700001, 2)]] ⟨48, [(2, .c (.v (.bool a2))), (7, .c (.pvar (2003, 0) 0)), (20, .c (.ref (700001, 0) (([a1, y7] : List Int).length))), (21, .c (.v (.int .i64 2))), (22, .c (.v (.int .i64 v1))), (45, .c (.v (.bool (y17 != y19))))], [((2003, 0), [.ref (700001, 1) y3.1.Places.length, .ref (700001, 2) y3.1.Roads.length])], [((700001, 0), some ⟨false, 1, (([a1, y7] : List Int).length), encF (eI .i64) 0 ([a1, y7] : List Int)⟩), ((700001, 1), some ⟨false, 2, y3.1.Places.length, encF e_Place d_Place y3.1.Places⟩), ((700001, 2), some ⟨false, 10, y3.1.Roads.length, encF e_Road d_Road y3.1.Roads⟩)]⟩ [(EqXs (ax_walk_Time y3.1 (([a1, y7] : List Int).getD v1.toNat 0) a2) (ax_walk_Time y3.1 (([a1, y7] : List Int).getD v1.toNat 0) a2)), (FnOk Try.prog 42 (ax_walk_Time y3.1 (([a1, y7] : List Int).getD v1.toNat 0) a2) (rx_walk_Time y11) (px_walk_Time y11)), (flatX (rx_walk_Time y11) ∧ flatXss (px_walk_Time y11)), (EqXs (ax_ref03_Time y3.1 (([a1, y7] : List Int).getD v1.toNat 0) a2) (ax_ref03_Time y3.1 (([a1, y7] : List Int).getD v1.toNat 0) a2)), (FnOk Try.prog 43 (ax_ref03_Time y3.1 (([a1, y7] : List Int).getD v1.toNat 0) a2) (rx_ref03_Time y13) (px_ref03_Time y13)), (flatX (rx_ref03_Time y13) ∧ flatXss (px_ref03_Time y13)), True, ((y11 != y13) = false), ((y11 != y13) = false), ((y11 != y13) = false), ((y11 != y13) = false), (EqXs (ax_walk_Slow y3.1 (([a1, y7] : List Int).getD v1.toNat 0) a2) (ax_walk_Slow y3.1 (([a1, y7] : List Int).getD v1.toNat 0) a2)), (FnOk Try.prog 44 (ax_walk_Slow y3.1 (([a1, y7] : List Int).getD v1.toNat 0) a2) (rx_walk_Slow y17) (px_walk_Slow y17)), (flatX (rx_walk_Slow y17) ∧ flatXss (px_walk_Slow y17)), ((y11 != y13) = false), ((y11 != y13) = false), ((y11 != y13) = false), ((y11 != y13) = false), (EqXs (ax_ref03_Slow y3.1 (([a1, y7] : List Int).getD v1.toNat 0) a2) (ax_ref03_Slow y3.1 (([a1, y7] : List Int).getD v1.toNat 0) a2)), (FnOk Try.prog 45 (ax_ref03_Slow y3.1 (([a1, y7] : List Int).getD v1.toNat 0) a2) (rx_ref03_Slow y19) (px_ref03_Slow y19)), (flatX (rx_ref03_Slow y19) ∧ flatXss (px_ref03_Slow y19)), ((y11 != y13) = false), True, ((y11 != y13) = false)] (by kernel_rfl) ⟨(eqs (eqa (eqr _) (eqa (eqr _) eqa0)) (eqs (eqr _) (eqs (eqr _) eqs0))), (ok_walk_Time K y3.1 (([a1, y7] : List Int).getD v1.toNat 0) a2 y11 c12), (flat_walk_Time y11), (eqs (eqa (eqr _) (eqa (eqr _) eqa0)) (eqs (eqr _) (eqs (eqr _) eqs0))), (ok_ref03_Time K y3.1 (([a1, y7] : List Int).getD v1.toNat 0) a2 y13 c14), (flat_ref03_Time y13), trivial, e15, e15, e15, e15, (eqs (eqa (eqr _) (eqa (eqr _) eqa0)) (eqs (eqr _) (eqs (eqr _) eqs0))), (ok_walk_Slow K y3.1 (([a1, y7] : List Int).getD v1.toNat 0) a2 y17 c18), (flat_walk_Slow y17), e15, e15, e15, e15, (eqs (eqa (eqr _) (eqa (eqr _) eqa0)) (eqs (eqr _) (eqs (eqr _) eqs0))), (ok_ref03_Slow K y3.1 (([a1, y7] : List Int).getD v1.toNat 0) a2 y19 c20), (flat_ref03_Slow y19), e15, trivial, e15, trivial⟩ ?_
        refine tri_cond (y17 != y19) (by kernel_rfl) (fun e21 => ?_) (fun e21 => ?_)
        · replace h := cnd_t h e21
          refine tri_reg env [] 7 1024 [.keep [6] [] []] ⟨48, [(6, .c (.v (.bool false)))], [], []⟩ [] (by kernel_rfl) trivial ?_
          refine tri_ret ?_
          refine inBR ?_
          refine thenR ?_
          refine thenR ?_
          refine inBR ?_
          refine thenR ?_
          rw [some_inv h]
          exact ⟨[], by kernel_rfl, trivial⟩
        · replace h := cnd_f h e21
          refine tri_skip ?_
          refine inBN ?_
          refine thenN ?_
          refine tri_reg_end env [] 8 1024 [.keep [2, 7, 20, 21, 22] [(2003, 0)] [(700001, 0), (700001, 1), (700001, 2)]] ⟨48, [(2, .c (.v (.bool a2))), (7, .c (.pvar (2003, 0) 0)), (20, .c (.ref (700001, 0) (([a1, y7] : List Int).length))), (21, .c (.v (.int .i64 2))), (22, .c (.v (.int .i64 (IntKind.wrap .i64 (v1 + 1)))))], [((2003, 0), [.ref (700001, 1) y3.1.Places.length, .ref (700001, 2) y3.1.Roads.length])], [((700001, 0), some ⟨false, 1, (([a1, y7] : List Int).length), encF (eI .i64) 0 ([a1, y7] : List Int)⟩), ((700001, 1), some ⟨false, 2, y3.1.Places.length, encF e_Place d_Place y3.1.Places⟩), ((700001, 2), some ⟨false, 10, y3.1.Roads.length, encF e_Road d_Road y3.1.Roads⟩)]⟩ [True] (by kernel_rfl) ⟨trivial, trivial⟩ ?_
          exact thenJ (IntKind.wrap .i64 (v1 + 1)) h (by kernel_rfl)
    · replace h := cnd_f h e9
      refine tri_tell [.keep [] [] []] ⟨48, [], [], []⟩ [] (by kernel_rfl) trivial ?_
      refine tri_exit ?_
      refine thenE ?_
      refine thenE ?_
      refine inBX ?_
      exact thenJ () h (by kernel_rfl)
end Go.Proofs.Ytmkhmonbfikbpaa
