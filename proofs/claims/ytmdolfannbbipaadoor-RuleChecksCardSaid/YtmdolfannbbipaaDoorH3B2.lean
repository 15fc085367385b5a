/- How values lie in cells, what each function promises, and what its code does; by a program of this work. -/
import Derived.Test.YtmdolfannbbipaaDoorH3B1
namespace Go.Proofs.YtmdolfannbbipaaDoor
open Go Go.RowKit Go.Ev Go.Proofs
set_option linter.unusedVariables false

set_option maxRecDepth 100000
theorem ok_draw_Codes_Rule : ∀ (K : Nat) (a0 : T_Codes) (a1 : Int) (a2 : Int) (r : ((List T_RuleNode) × T_Codes)) (h : draw_Codes_Rule K a0 a1 a2 = some r), FnOk Tryd.prog 30 (ax_draw_Codes_Rule a0 a1 a2) (rx_draw_Codes_Rule r) (px_draw_Codes_Rule r) := by
  intro K
  induction K with
  | zero => intro a0 a1 a2 r h; cases h
  | succ K hrec =>
    intro a0 a1 a2 r h
    replace h : draw_Codes_Rule_F K (draw_Codes_Rule K) a0 a1 a2 = some r := h
    generalize draw_Codes_Rule K = rec_ at h hrec
    refine ⟨⟨Tryd.f30, Tryd.func30, by kernel_rfl, by kernel_rfl⟩, ?_⟩
    unfold draw_Codes_Rule_F at h
    refine fn_ok env Tryd.func30 rfl ⟨106, [(0, .c (.pvar (0, 0) 0)), (1, .c (.v (.int .i64 a1))), (2, .c (.v (.int .i64 a2)))], [((0, 0), (e_Codes a0))], []⟩ [(0, 0)] (by kernel_rfl) fun X => ?_
    refine tri_reg env [] 1 1024 [.keep [0, 1, 2] [(0, 0)] []] ⟨106, [(0, .c (.pvar (0, 0) 0)), (1, .c (.v (.int .i64 a1))), (2, .c (.v (.int .i64 a2)))], [((0, 0), (e_Codes a0))], []⟩ [] (by kernel_rfl) trivial ?_
    refine tri_seq ?_
    refine cnd_split h (fun e1 h => ?_) (fun e1 h => ?_)
    · refine tri_reg env [(2, .b true), (6, .b true)] 2 1024 [.keep [0, 1, 2, 17] [(0, 0)] []] ⟨106, [(0, .c (.pvar (0, 0) 0)), (1, .c (.v (.int .i64 a1))), (2, .c (.v (.int .i64 a2))), (17, .c (.v (.bool true)))], [((0, 0), (e_Codes a0))], []⟩ [True, ((decide (a2 < 1)) = true), ((decide (a2 < 1)) = true), ((decide (a2 < 1)) = true), ((decide (a2 < 1)) = true)] (by kernel_rfl) ⟨trivial, e1, e1, e1, e1, trivial⟩ ?_
      refine tri_cond true (by kernel_rfl) (fun _ => ?_) (fun e => by cases e)
      obtain ⟨y3, c4, h⟩ := bnd_inv h
      refine tri_reg env [(2, .call ⟨(ax_draw_Codes_Next a0 a1), [false, false], rx_draw_Codes_Next y3, px_draw_Codes_Next y3, true⟩)] 3 1024 [.arr (3004, 0) (([(⟨1, y3.1, 0, 0⟩ : T_RuleNode)] : List T_RuleNode).length) (encF e_RuleNode d_RuleNode ([(⟨1, y3.1, 0, 0⟩ : T_RuleNode)] : List T_RuleNode)), .slot 6 (.c (.ref (3004, 0) (([(⟨1, y3.1, 0, 0⟩ : T_RuleNode)] : List T_RuleNode).length))), .keep [6] [(0, 0)] [(3004, 0)]] ⟨106, [(6, .c (.ref (3004, 0) (([(⟨1, y3.1, 0, 0⟩ : T_RuleNode)] : List T_RuleNode).length)))], [((0, 0), (e_Codes y3.2))], [((3004, 0), some ⟨false, 4, (([(⟨1, y3.1, 0, 0⟩ : T_RuleNode)] : List T_RuleNode).length), encF e_RuleNode d_RuleNode ([(⟨1, y3.1, 0, 0⟩ : T_RuleNode)] : List T_RuleNode)⟩)]⟩ [(EqXs (ax_draw_Codes_Next a0 a1) (ax_draw_Codes_Next a0 a1)), (FnOk Tryd.prog 43 (ax_draw_Codes_Next a0 a1) (rx_draw_Codes_Next y3) (px_draw_Codes_Next y3)), (1 = ([(⟨1, y3.1, 0, 0⟩ : T_RuleNode)] : List T_RuleNode).length ∧ ∀ i, i < ([(⟨1, y3.1, 0, 0⟩ : T_RuleNode)] : List T_RuleNode).length → (fun i => window [.v (.int .i64 1), .v (.int .i64 y3.1), .v (.int .i64 0), .v (.int .i64 0)] (i * 4) 4) i = (encF e_RuleNode d_RuleNode ([(⟨1, y3.1, 0, 0⟩ : T_RuleNode)] : List T_RuleNode)) i), (TellS (.c (.ref (3004, 0) 1)) (.c (.ref (3004, 0) (([(⟨1, y3.1, 0, 0⟩ : T_RuleNode)] : List T_RuleNode).length))))] (by kernel_rfl) ⟨(eqs (eqp (eqr _) (eqp (eqr _) eqp0)) (eqs (eqr _) eqs0)), (ok_draw_Codes_Next K a0 a1 y3 c4), (Tells.arr (Tells.items (e := e_RuleNode) (d := d_RuleNode) (k := 1) (g := (fun i => window [.v (.int .i64 1), .v (.int .i64 y3.1), .v (.int .i64 0), .v (.int .i64 0)] (i * 4) 4)) (L := ([(⟨1, y3.1, 0, 0⟩ : T_RuleNode)] : List T_RuleNode)) rfl (belowS rfl below0))), (TellC.ref (Tells.len (e := e_RuleNode) (d := d_RuleNode) (n := 1) (g := (fun i => window [.v (.int .i64 1), .v (.int .i64 y3.1), .v (.int .i64 0), .v (.int .i64 0)] (i * 4) 4)) (L := ([(⟨1, y3.1, 0, 0⟩ : T_RuleNode)] : List T_RuleNode)) (Tells.items (e := e_RuleNode) (d := d_RuleNode) (k := 1) (g := (fun i => window [.v (.int .i64 1), .v (.int .i64 y3.1), .v (.int .i64 0), .v (.int .i64 0)] (i * 4) 4)) (L := ([(⟨1, y3.1, 0, 0⟩ : T_RuleNode)] : List T_RuleNode)) rfl (belowS rfl below0)))), trivial⟩ ?_
      refine tri_ret ?_
      refine thenR ?_
      rw [some_inv h]
      exact ⟨[(([(⟨1, y3.1, 0, 0⟩ : T_RuleNode)] : List T_RuleNode).length = ([(⟨1, y3.1, 0, 0⟩ : T_RuleNode)] : List T_RuleNode).length)], by kernel_rfl, ⟨rfl, trivial⟩⟩
    · obtain ⟨y5, c6, h⟩ := bnd_inv h
      refine tri_reg env [(2, .b false), (4, .call ⟨(ax_draw_Codes_Next a0 3), [false, false], rx_draw_Codes_Next y5, px_draw_Codes_Next y5, true⟩), (6, .b false)] 2 1024 [.keep [0, 1, 2, 17] [(0, 0)] []] ⟨106, [(0, .c (.pvar (0, 0) 0)), (1, .c (.v (.int .i64 a1))), (2, .c (.v (.int .i64 a2))), (17, .c (.v (.bool (y5.1 == 0))))], [((0, 0), (e_Codes y5.2))], []⟩ [True, ((decide (a2 < 1)) = false), ((decide (a2 < 1)) = false), (EqXs (ax_draw_Codes_Next a0 3) (ax_draw_Codes_Next a0 3)), (FnOk Tryd.prog 43 (ax_draw_Codes_Next a0 3) (rx_draw_Codes_Next y5) (px_draw_Codes_Next y5)), ((decide (a2 < 1)) = false), True, ((decide (a2 < 1)) = false)] (by kernel_rfl) ⟨trivial, e1, e1, (eqs (eqp (eqr _) (eqp (eqr _) eqp0)) (eqs (eqr _) eqs0)), (ok_draw_Codes_Next K a0 3 y5 c6), e1, trivial, e1, trivial⟩ ?_
      refine tri_cond (y5.1 == 0) (by kernel_rfl) (fun e7 => ?_) (fun e7 => ?_)
      · replace h := cnd_t h e7
        obtain ⟨y8, c9, h⟩ := bnd_inv h
        refine tri_reg env [(2, .call ⟨(ax_draw_Codes_Next y5.2 a1), [false, false], rx_draw_Codes_Next y8, px_draw_Codes_Next y8, true⟩)] 3 1024 [.arr (3004, 0) (([(⟨1, y8.1, 0, 0⟩ : T_RuleNode)] : List T_RuleNode).length) (encF e_RuleNode d_RuleNode ([(⟨1, y8.1, 0, 0⟩ : T_RuleNode)] : List T_RuleNode)), .slot 6 (.c (.ref (3004, 0) (([(⟨1, y8.1, 0, 0⟩ : T_RuleNode)] : List T_RuleNode).length))), .keep [6] [(0, 0)] [(3004, 0)]] ⟨106, [(6, .c (.ref (3004, 0) (([(⟨1, y8.1, 0, 0⟩ : T_RuleNode)] : List T_RuleNode).length)))], [((0, 0), (e_Codes y8.2))], [((3004, 0), some ⟨false, 4, (([(⟨1, y8.1, 0, 0⟩ : T_RuleNode)] : List T_RuleNode).length), encF e_RuleNode d_RuleNode ([(⟨1, y8.1, 0, 0⟩ : T_RuleNode)] : List T_RuleNode)⟩)]⟩ [(EqXs (ax_draw_Codes_Next y5.2 a1) (ax_draw_Codes_Next y5.2 a1)), (FnOk Tryd.prog 43 (ax_draw_Codes_Next y5.2 a1) (rx_draw_Codes_Next y8) (px_draw_Codes_Next y8)), (1 = ([(⟨1, y8.1, 0, 0⟩ : T_RuleNode)] : List T_RuleNode).length ∧ ∀ i, i < ([(⟨1, y8.1, 0, 0⟩ : T_RuleNode)] : List T_RuleNode).length → (fun i => window [.v (.int .i64 1), .v (.int .i64 y8.1), .v (.int .i64 0), .v (.int .i64 0)] (i * 4) 4) i = (encF e_RuleNode d_RuleNode ([(⟨1, y8.1, 0, 0⟩ : T_RuleNode)] : List T_RuleNode)) i), (TellS (.c (.ref (3004, 0) 1)) (.c (.ref (3004, 0) (([(⟨1, y8.1, 0, 0⟩ : T_RuleNode)] : List T_RuleNode).length))))] (by kernel_rfl) ⟨(eqs (eqp (eqr _) (eqp (eqr _) eqp0)) (eqs (eqr _) eqs0)), (ok_draw_Codes_Next K y5.2 a1 y8 c9), (Tells.arr (Tells.items (e := e_RuleNode) (d := d_RuleNode) (k := 1) (g := (fun i => window [.v (.int .i64 1), .v (.int .i64 y8.1), .v (.int .i64 0), .v (.int .i64 0)] (i * 4) 4)) (L := ([(⟨1, y8.1, 0, 0⟩ : T_RuleNode)] : List T_RuleNode)) rfl (belowS rfl below0))), (TellC.ref (Tells.len (e := e_RuleNode) (d := d_RuleNode) (n := 1) (g := (fun i => window [.v (.int .i64 1), .v (.int .i64 y8.1), .v (.int .i64 0), .v (.int .i64 0)] (i * 4) 4)) (L := ([(⟨1, y8.1, 0, 0⟩ : T_RuleNode)] : List T_RuleNode)) (Tells.items (e := e_RuleNode) (d := d_RuleNode) (k := 1) (g := (fun i => window [.v (.int .i64 1), .v (.int .i64 y8.1), .v (.int .i64 0), .v (.int .i64 0)] (i * 4) 4)) (L := ([(⟨1, y8.1, 0, 0⟩ : T_RuleNode)] : List T_RuleNode)) rfl (belowS rfl below0)))), trivial⟩ ?_
        refine tri_ret ?_
        refine thenR ?_
        rw [some_inv h]
        exact ⟨[(([(⟨1, y8.1, 0, 0⟩ : T_RuleNode)] : List T_RuleNode).length = ([(⟨1, y8.1, 0, 0⟩ : T_RuleNode)] : List T_RuleNode).length)], by kernel_rfl, ⟨rfl, trivial⟩⟩
      · replace h := cnd_f h e7
        refine tri_skip ?_
        refine thenN ?_
        obtain ⟨y10, c11, h⟩ := bnd_inv h
        refine tri_reg env [(4, .call ⟨(ax_draw_Codes_Rule y5.2 a1 (IntKind.wrap .i64 (a2 - 1))), [false, false, false], rx_draw_Codes_Rule y10, px_draw_Codes_Rule y10, true⟩)] 4 1024 [.keep [0, 1, 2, 7] [(0, 0)] [(4004, 0)]] ⟨106, [(0, .c (.pvar (0, 0) 0)), (1, .c (.v (.int .i64 a1))), (2, .c (.v (.int .i64 a2))), (7, .c (.ref (4004, 0) y10.1.length))], [((0, 0), (e_Codes y10.2))], [((4004, 0), some ⟨false, 4, y10.1.length, encF e_RuleNode d_RuleNode y10.1⟩)]⟩ [True, (EqXs (ax_draw_Codes_Rule y5.2 a1 (IntKind.wrap .i64 (a2 - 1))) (ax_draw_Codes_Rule y5.2 a1 (IntKind.wrap .i64 (a2 - 1)))), (FnOk Tryd.prog 30 (ax_draw_Codes_Rule y5.2 a1 (IntKind.wrap .i64 (a2 - 1))) (rx_draw_Codes_Rule y10) (px_draw_Codes_Rule y10))] (by kernel_rfl) ⟨trivial, (eqs (eqp (eqr _) (eqp (eqr _) eqp0)) (eqs (eqr _) (eqs (eqr _) eqs0))), (hrec y5.2 a1 (IntKind.wrap .i64 (a2 - 1)) y10 c11), trivial⟩ ?_
        refine tri_seq ?_
        obtain ⟨y12, c13, h⟩ := bnd_inv h
        refine tri_reg env [(1, .call ⟨(ax_draw_Codes_One y10.2 4), [false, false], rx_draw_Codes_One y12, px_draw_Codes_One y12, true⟩)] 5 1024 [.keep [0, 1, 2, 7, 29] [(0, 0)] [(4004, 0)]] ⟨106, [(0, .c (.pvar (0, 0) 0)), (1, .c (.v (.int .i64 a1))), (2, .c (.v (.int .i64 a2))), (7, .c (.ref (4004, 0) y10.1.length)), (29, .c (.v (.bool y12.1)))], [((0, 0), (e_Codes y12.2))], [((4004, 0), some ⟨false, 4, y10.1.length, encF e_RuleNode d_RuleNode y10.1⟩)]⟩ [(EqXs (ax_draw_Codes_One y10.2 4) (ax_draw_Codes_One y10.2 4)), (FnOk Tryd.prog 45 (ax_draw_Codes_One y10.2 4) (rx_draw_Codes_One y12) (px_draw_Codes_One y12))] (by kernel_rfl) ⟨(eqs (eqp (eqr _) (eqp (eqr _) eqp0)) (eqs (eqr _) eqs0)), (ok_draw_Codes_One K y10.2 4 y12 c13), trivial⟩ ?_
        refine tri_cond y12.1 (by kernel_rfl) (fun e14 => ?_) (fun e14 => ?_)
        · replace h := cnd_t h e14
          obtain ⟨q15, h⟩ := ck_inv h
          refine tri_reg env [] 6 1024 [.arr (6006, 0) ((y10.1 ++ ([(⟨2, 0, (IntKind.wrap .i64 (((y10.1.length : Nat) : Int) - 1)), 0⟩ : T_RuleNode)] : List T_RuleNode)).length) (encF e_RuleNode d_RuleNode (y10.1 ++ ([(⟨2, 0, (IntKind.wrap .i64 (((y10.1.length : Nat) : Int) - 1)), 0⟩ : T_RuleNode)] : List T_RuleNode))), .slot 6 (.c (.ref (6006, 0) ((y10.1 ++ ([(⟨2, 0, (IntKind.wrap .i64 (((y10.1.length : Nat) : Int) - 1)), 0⟩ : T_RuleNode)] : List T_RuleNode)).length))), .keep [6] [(0, 0)] [(6006, 0)]] ⟨106, [(6, .c (.ref (6006, 0) ((y10.1 ++ ([(⟨2, 0, (IntKind.wrap .i64 (((y10.1.length : Nat) : Int) - 1)), 0⟩ : T_RuleNode)] : List T_RuleNode)).length)))], [((0, 0), (e_Codes y12.2))], [((6006, 0), some ⟨false, 4, ((y10.1 ++ ([(⟨2, 0, (IntKind.wrap .i64 (((y10.1.length : Nat) : Int) - 1)), 0⟩ : T_RuleNode)] : List T_RuleNode)).length), encF e_RuleNode d_RuleNode (y10.1 ++ ([(⟨2, 0, (IntKind.wrap .i64 (((y10.1.length : Nat) : Int) - 1)), 0⟩ : T_RuleNode)] : List T_RuleNode))⟩)]⟩ [True, (1 = 0 ∨ 4 = 4), ((y10.1.length + 1) * 32 ≤ LIMIT), ((y10.1.length + 1) = (y10.1 ++ ([(⟨2, 0, (IntKind.wrap .i64 (((y10.1.length : Nat) : Int) - 1)), 0⟩ : T_RuleNode)] : List T_RuleNode)).length ∧ ∀ i, i < (y10.1 ++ ([(⟨2, 0, (IntKind.wrap .i64 (((y10.1.length : Nat) : Int) - 1)), 0⟩ : T_RuleNode)] : List T_RuleNode)).length → (appG y10.1.length (encF e_RuleNode d_RuleNode y10.1) (fun i => window [.v (.int .i64 2), .v (.int .i64 0), .v (.int .i64 (IntKind.wrap .i64 (((y10.1.length : Nat) : Int) - 1))), .v (.int .i64 0)] (i * 4) 4)) i = (encF e_RuleNode d_RuleNode (y10.1 ++ ([(⟨2, 0, (IntKind.wrap .i64 (((y10.1.length : Nat) : Int) - 1)), 0⟩ : T_RuleNode)] : List T_RuleNode))) i), (TellS (.c (.ref (6006, 0) (y10.1.length + 1))) (.c (.ref (6006, 0) ((y10.1 ++ ([(⟨2, 0, (IntKind.wrap .i64 (((y10.1.length : Nat) : Int) - 1)), 0⟩ : T_RuleNode)] : List T_RuleNode)).length))))] (by kernel_rfl) ⟨trivial, (.inr rfl), q15, (Tells.arr (Tells.app (Tells.rfl' (e := e_RuleNode) (d := d_RuleNode) (L := y10.1)) (Tells.items (e := e_RuleNode) (d := d_RuleNode) (k := 1) (g := (fun i => window [.v (.int .i64 2), .v (.int .i64 0), .v (.int .i64 (IntKind.wrap .i64 (((y10.1.length : Nat) : Int) - 1))), .v (.int .i64 0)] (i * 4) 4)) (L := ([(⟨2, 0, (IntKind.wrap .i64 (((y10.1.length : Nat) : Int) - 1)), 0⟩ : T_RuleNode)] : List T_RuleNode)) rfl (belowS rfl below0)))), (TellC.ref (Tells.len (e := e_RuleNode) (d := d_RuleNode) (n := (y10.1.length + 1)) (g := (appG y10.1.length (encF e_RuleNode d_RuleNode y10.1) (fun i => window [.v (.int .i64 2), .v (.int .i64 0), .v (.int .i64 (IntKind.wrap .i64 (((y10.1.length : Nat) : Int) - 1))), .v (.int .i64 0)] (i * 4) 4))) (L := (y10.1 ++ ([(⟨2, 0, (IntKind.wrap .i64 (((y10.1.length : Nat) : Int) - 1)), 0⟩ : T_RuleNode)] : List T_RuleNode))) (Tells.app (Tells.rfl' (e := e_RuleNode) (d := d_RuleNode) (L := y10.1)) (Tells.items (e := e_RuleNode) (d := d_RuleNode) (k := 1) (g := (fun i => window [.v (.int .i64 2), .v (.int .i64 0), .v (.int .i64 (IntKind.wrap .i64 (((y10.1.length : Nat) : Int) - 1))), .v (.int .i64 0)] (i * 4) 4)) (L := ([(⟨2, 0, (IntKind.wrap .i64 (((y10.1.length : Nat) : Int) - 1)), 0⟩ : T_RuleNode)] : List T_RuleNode)) rfl (belowS rfl below0))))), trivial⟩ ?_
          refine tri_ret ?_
          refine thenR ?_
          rw [some_inv h]
          exact ⟨[((y10.1 ++ ([(⟨2, 0, (IntKind.wrap .i64 (((y10.1.length : Nat) : Int) - 1)), 0⟩ : T_RuleNode)] : List T_RuleNode)).length = (y10.1 ++ ([(⟨2, 0, (IntKind.wrap .i64 (((y10.1.length : Nat) : Int) - 1)), 0⟩ : T_RuleNode)] : List T_RuleNode)).length)], by kernel_rfl, ⟨rfl, trivial⟩⟩
        · replace h := cnd_f h e14
          refine tri_skip ?_
          refine thenN ?_
          obtain ⟨y16, c17, h⟩ := bnd_inv h
          refine tri_reg env [(4, .call ⟨(ax_draw_Codes_Rule y12.2 a1 (IntKind.wrap .i64 (a2 - 1))), [false, false, false], rx_draw_Codes_Rule y16, px_draw_Codes_Rule y16, true⟩)] 7 1024 [.keep [0, 7, 8] [(0, 0)] [(4004, 0), (7004, 0)]] ⟨106, [(0, .c (.pvar (0, 0) 0)), (7, .c (.ref (4004, 0) y10.1.length)), (8, .c (.ref (7004, 0) y16.1.length))], [((0, 0), (e_Codes y16.2))], [((4004, 0), some ⟨false, 4, y10.1.length, encF e_RuleNode d_RuleNode y10.1⟩), ((7004, 0), some ⟨false, 4, y16.1.length, encF e_RuleNode d_RuleNode y16.1⟩)]⟩ [True, (EqXs (ax_draw_Codes_Rule y12.2 a1 (IntKind.wrap .i64 (a2 - 1))) (ax_draw_Codes_Rule y12.2 a1 (IntKind.wrap .i64 (a2 - 1)))), (FnOk Tryd.prog 30 (ax_draw_Codes_Rule y12.2 a1 (IntKind.wrap .i64 (a2 - 1))) (rx_draw_Codes_Rule y16) (px_draw_Codes_Rule y16))] (by kernel_rfl) ⟨trivial, (eqs (eqp (eqr _) (eqp (eqr _) eqp0)) (eqs (eqr _) (eqs (eqr _) eqs0))), (hrec y12.2 a1 (IntKind.wrap .i64 (a2 - 1)) y16 c17), trivial⟩ ?_
          refine tri_joinC (fun (v4 : (List T_RuleNode)) => ⟨106, [(0, .c (.pvar (0, 0) 0)), (7, .c (.ref (700004, 0) y10.1.length)), (8, .c (.ref (700004, 1) v4.length))], [((0, 0), (e_Codes y16.2))], [((700004, 0), some ⟨false, 4, y10.1.length, encF e_RuleNode d_RuleNode y10.1⟩), ((700004, 1), some ⟨false, 4, v4.length, encF e_RuleNode d_RuleNode v4⟩)]⟩) h (fun v4 h => ?_) (fun j4 h => ?_)
          · refine tri_reg env [] 15 1024 [.keep [0, 7, 8, 10] [(0, 0)] [(700004, 0), (700004, 1)]] ⟨106, [(0, .c (.pvar (0, 0) 0)), (7, .c (.ref (700004, 0) y10.1.length)), (8, .c (.ref (700004, 1) v4.length)), (10, .c (.v (.int .i64 (IntKind.wrap .i64 (((y10.1.length : Nat) : Int) + ((v4.length : Nat) : Int))))))], [((0, 0), (e_Codes y16.2))], [((700004, 0), some ⟨false, 4, y10.1.length, encF e_RuleNode d_RuleNode y10.1⟩), ((700004, 1), some ⟨false, 4, v4.length, encF e_RuleNode d_RuleNode v4⟩)]⟩ [True] (by kernel_rfl) ⟨trivial, trivial⟩ ?_
            obtain ⟨q18, h⟩ := ck_inv h
            obtain ⟨y19, c20, h⟩ := bnd_inv h
            obtain ⟨q21, h⟩ := ck_inv h
            refine tri_reg env [(4, .call ⟨(ax_draw_Codes_Range y16.2 3 4), [false, false, false], rx_draw_Codes_Range y19, px_draw_Codes_Range y19, true⟩)] 16 1024 [.arr (16012, 0) (((y10.1 ++ v4) ++ ([(⟨y19.1, 0, (IntKind.wrap .i64 (((y10.1.length : Nat) : Int) - 1)), (IntKind.wrap .i64 ((IntKind.wrap .i64 (((y10.1.length : Nat) : Int) + ((v4.length : Nat) : Int))) - 1))⟩ : T_RuleNode)] : List T_RuleNode)).length) (encF e_RuleNode d_RuleNode ((y10.1 ++ v4) ++ ([(⟨y19.1, 0, (IntKind.wrap .i64 (((y10.1.length : Nat) : Int) - 1)), (IntKind.wrap .i64 ((IntKind.wrap .i64 (((y10.1.length : Nat) : Int) + ((v4.length : Nat) : Int))) - 1))⟩ : T_RuleNode)] : List T_RuleNode))), .slot 6 (.c (.ref (16012, 0) (((y10.1 ++ v4) ++ ([(⟨y19.1, 0, (IntKind.wrap .i64 (((y10.1.length : Nat) : Int) - 1)), (IntKind.wrap .i64 ((IntKind.wrap .i64 (((y10.1.length : Nat) : Int) + ((v4.length : Nat) : Int))) - 1))⟩ : T_RuleNode)] : List T_RuleNode)).length))), .keep [6] [(0, 0)] [(16012, 0)]] ⟨106, [(6, .c (.ref (16012, 0) (((y10.1 ++ v4) ++ ([(⟨y19.1, 0, (IntKind.wrap .i64 (((y10.1.length : Nat) : Int) - 1)), (IntKind.wrap .i64 ((IntKind.wrap .i64 (((y10.1.length : Nat) : Int) + ((v4.length : Nat) : Int))) - 1))⟩ : T_RuleNode)] : List T_RuleNode)).length)))], [((0, 0), (e_Codes y19.2))], [((16012, 0), some ⟨false, 4, (((y10.1 ++ v4) ++ ([(⟨y19.1, 0, (IntKind.wrap .i64 (((y10.1.length : Nat) : Int) - 1)), (IntKind.wrap .i64 ((IntKind.wrap .i64 (((y10.1.length : Nat) : Int) + ((v4.length : Nat) : Int))) - 1))⟩ : T_RuleNode)] : List T_RuleNode)).length), encF e_RuleNode d_RuleNode ((y10.1 ++ v4) ++ ([(⟨y19.1, 0, (IntKind.wrap .i64 (((y10.1.length : Nat) : Int) - 1)), (IntKind.wrap .i64 ((IntKind.wrap .i64 (((y10.1.length : Nat) : Int) + ((v4.length : Nat) : Int))) - 1))⟩ : T_RuleNode)] : List T_RuleNode))⟩)]⟩ [(v4.length = 0 ∨ 4 = 4), ((y10.1.length + v4.length) * 32 ≤ LIMIT), (EqXs (ax_draw_Codes_Range y16.2 3 4) (ax_draw_Codes_Range y16.2 3 4)), (FnOk Tryd.prog 46 (ax_draw_Codes_Range y16.2 3 4) (rx_draw_Codes_Range y19) (px_draw_Codes_Range y19)), True, True, (1 = 0 ∨ 4 = 4), (((y10.1.length + v4.length) + 1) * 32 ≤ LIMIT), (((y10.1.length + v4.length) + 1) = ((y10.1 ++ v4) ++ ([(⟨y19.1, 0, (IntKind.wrap .i64 (((y10.1.length : Nat) : Int) - 1)), (IntKind.wrap .i64 ((IntKind.wrap .i64 (((y10.1.length : Nat) : Int) + ((v4.length : Nat) : Int))) - 1))⟩ : T_RuleNode)] : List T_RuleNode)).length ∧ ∀ i, i < ((y10.1 ++ v4) ++ ([(⟨y19.1, 0, (IntKind.wrap .i64 (((y10.1.length : Nat) : Int) - 1)), (IntKind.wrap .i64 ((IntKind.wrap .i64 (((y10.1.length : Nat) : Int) + ((v4.length : Nat) : Int))) - 1))⟩ : T_RuleNode)] : List T_RuleNode)).length → (appG (y10.1.length + v4.length) (appG y10.1.length (encF e_RuleNode d_RuleNode y10.1) (encF e_RuleNode d_RuleNode v4)) (fun i => window [.v (.int .i64 y19.1), .v (.int .i64 0), .v (.int .i64 (IntKind.wrap .i64 (((y10.1.length : Nat) : Int) - 1))), .v (.int .i64 (IntKind.wrap .i64 ((IntKind.wrap .i64 (((y10.1.length : Nat) : Int) + ((v4.length : Nat) : Int))) - 1)))] (i * 4) 4)) i = (encF e_RuleNode d_RuleNode ((y10.1 ++ v4) ++ ([(⟨y19.1, 0, (IntKind.wrap .i64 (((y10.1.length : Nat) : Int) - 1)), (IntKind.wrap .i64 ((IntKind.wrap .i64 (((y10.1.length : Nat) : Int) + ((v4.length : Nat) : Int))) - 1))⟩ : T_RuleNode)] : List T_RuleNode))) i), (TellS (.c (.ref (16012, 0) ((y10.1.length + v4.length) + 1))) (.c (.ref (16012, 0) (((y10.1 ++ v4) ++ ([(⟨y19.1, 0, (IntKind.wrap .i64 (((y10.1.length : Nat) : Int) - 1)), (IntKind.wrap .i64 ((IntKind.wrap .i64 (((y10.1.length : Nat) : Int) + ((v4.length : Nat) : Int))) - 1))⟩ : T_RuleNode)] : List T_RuleNode)).length))))] (by kernel_rfl) ⟨(.inr rfl), q18, (eqs (eqp (eqr _) (eqp (eqr _) eqp0)) (eqs (eqr _) (eqs (eqr _) eqs0))), (ok_draw_Codes_Range K y16.2 3 4 y19 c20), trivial, trivial, (.inr rfl), q21, (Tells.arr (Tells.app (Tells.app (Tells.rfl' (e := e_RuleNode) (d := d_RuleNode) (L := y10.1)) (Tells.rfl' (e := e_RuleNode) (d := d_RuleNode) (L := v4))) (Tells.items (e := e_RuleNode) (d := d_RuleNode) (k := 1) (g := (fun i => window [.v (.int .i64 y19.1), .v (.int .i64 0), .v (.int .i64 (IntKind.wrap .i64 (((y10.1.length : Nat) : Int) - 1))), .v (.int .i64 (IntKind.wrap .i64 ((IntKind.wrap .i64 (((y10.1.length : Nat) : Int) + ((v4.length : Nat) : Int))) - 1)))] (i * 4) 4)) (L := ([(⟨y19.1, 0, (IntKind.wrap .i64 (((y10.1.length : Nat) : Int) - 1)), (IntKind.wrap .i64 ((IntKind.wrap .i64 (((y10.1.length : Nat) : Int) + ((v4.length : Nat) : Int))) - 1))⟩ : T_RuleNode)] : List T_RuleNode)) rfl (belowS rfl below0)))), (TellC.ref (Tells.len (e := e_RuleNode) (d := d_RuleNode) (n := ((y10.1.length + v4.length) + 1)) (g := (appG (y10.1.length + v4.length) (appG y10.1.length (encF e_RuleNode d_RuleNode y10.1) (encF e_RuleNode d_RuleNode v4)) (fun i => window [.v (.int .i64 y19.1), .v (.int .i64 0), .v (.int .i64 (IntKind.wrap .i64 (((y10.1.length : Nat) : Int) - 1))), .v (.int .i64 (IntKind.wrap .i64 ((IntKind.wrap .i64 (((y10.1.length : Nat) : Int) + ((v4.length : Nat) : Int))) - 1)))] (i * 4) 4))) (L := ((y10.1 ++ v4) ++ ([(⟨y19.1, 0, (IntKind.wrap .i64 (((y10.1.length : Nat) : Int) - 1)), (IntKind.wrap .i64 ((IntKind.wrap .i64 (((y10.1.length : Nat) : Int) + ((v4.length : Nat) : Int))) - 1))⟩ : T_RuleNode)] : List T_RuleNode))) (Tells.app (Tells.app (Tells.rfl' (e := e_RuleNode) (d := d_RuleNode) (L := y10.1)) (Tells.rfl' (e := e_RuleNode) (d := d_RuleNode) (L := v4))) (Tells.items (e := e_RuleNode) (d := d_RuleNode) (k := 1) (g := (fun i => window [.v (.int .i64 y19.1), .v (.int .i64 0), .v (.int .i64 (IntKind.wrap .i64 (((y10.1.length : Nat) : Int) - 1))), .v (.int .i64 (IntKind.wrap .i64 ((IntKind.wrap .i64 (((y10.1.length : Nat) : Int) + ((v4.length : Nat) : Int))) - 1)))] (i * 4) 4)) (L := ([(⟨y19.1, 0, (IntKind.wrap .i64 (((y10.1.length : Nat) : Int) - 1)), (IntKind.wrap .i64 ((IntKind.wrap .i64 (((y10.1.length : Nat) : Int) + ((v4.length : Nat) : Int))) - 1))⟩ : T_RuleNode)] : List T_RuleNode)) rfl (belowS rfl below0))))), trivial⟩ ?_
            refine tri_ret ?_
            rw [some_inv h]
            exact ⟨[(((y10.1 ++ v4) ++ ([(⟨y19.1, 0, (IntKind.wrap .i64 (((y10.1.length : Nat) : Int) - 1)), (IntKind.wrap .i64 ((IntKind.wrap .i64 (((y10.1.length : Nat) : Int) + ((v4.length : Nat) : Int))) - 1))⟩ : T_RuleNode)] : List T_RuleNode)).length = ((y10.1 ++ v4) ++ ([(⟨y19.1, 0, (IntKind.wrap .i64 (((y10.1.length : Nat) : Int) - 1)), (IntKind.wrap .i64 ((IntKind.wrap .i64 (((y10.1.length : Nat) : Int) + ((v4.length : Nat) : Int))) - 1))⟩ : T_RuleNode)] : List T_RuleNode)).length)], by kernel_rfl, ⟨rfl, trivial⟩⟩
          · refine tri_reg env [] 8 1024 [.keep [0, 7, 8, 9] [(0, 0)] [(4004, 0), (7004, 0)]] ⟨106, [(0, .c (.pvar (0, 0) 0)), (7, .c (.ref (4004, 0) y10.1.length)), (8, .c (.ref (7004, 0) y16.1.length)), (9, .c (.v (.int .i64 0)))], [((0, 0), (e_Codes y16.2))], [((4004, 0), some ⟨false, 4, y10.1.length, encF e_RuleNode d_RuleNode y10.1⟩), ((7004, 0), some ⟨false, 4, y16.1.length, encF e_RuleNode d_RuleNode y16.1⟩)]⟩ [] (by kernel_rfl) trivial ?_
            refine tri_block ?_
            refine tri_tell [.keep [0, 7, 8, 9] [(0, 0)] [(4004, 0), (7004, 0)], .ren (4004, 0) (700001, 0), .ren (7004, 0) (700001, 1)] ⟨106, [(0, .c (.pvar (0, 0) 0)), (7, .c (.ref (700001, 0) y10.1.length)), (8, .c (.ref (700001, 1) y16.1.length)), (9, .c (.v (.int .i64 0)))], [((0, 0), (e_Codes y16.2))], [((700001, 0), some ⟨false, 4, y10.1.length, encF e_RuleNode d_RuleNode y10.1⟩), ((700001, 1), some ⟨false, 4, y16.1.length, encF e_RuleNode d_RuleNode y16.1⟩)]⟩ [] (by kernel_rfl) trivial ?_
            refine tri_loopK (fun (v1 : (Int × (List T_RuleNode))) => ⟨106, [(0, .c (.pvar (0, 0) 0)), (7, .c (.ref (700001, 0) y10.1.length)), (8, .c (.ref (700001, 1) v1.2.length)), (9, .c (.v (.int .i64 v1.1)))], [((0, 0), (e_Codes y16.2))], [((700001, 0), some ⟨false, 4, y10.1.length, encF e_RuleNode d_RuleNode y10.1⟩), ((700001, 1), some ⟨false, 4, v1.2.length, encF e_RuleNode d_RuleNode v1.2⟩)]⟩) (v := (0, y16.1)) h (fun self1 v1 h => ?_) (by kernel_rfl)
            unfold draw_Codes_Rule_b1 at h
            refine tri_seq ?_
            refine tri_reg env [] 9 1024 [.keep [0, 7, 8, 9, 45] [(0, 0)] [(700001, 0), (700001, 1)]] ⟨106, [(0, .c (.pvar (0, 0) 0)), (7, .c (.ref (700001, 0) y10.1.length)), (8, .c (.ref (700001, 1) v1.2.length)), (9, .c (.v (.int .i64 v1.1))), (45, .c (.v (.bool (decide (v1.1 < ((v1.2.length : Nat) : Int))))))], [((0, 0), (e_Codes y16.2))], [((700001, 0), some ⟨false, 4, y10.1.length, encF e_RuleNode d_RuleNode y10.1⟩), ((700001, 1), some ⟨false, 4, v1.2.length, encF e_RuleNode d_RuleNode v1.2⟩)]⟩ [True] (by kernel_rfl) ⟨trivial, trivial⟩ ?_
            refine tri_cond (decide (v1.1 < ((v1.2.length : Nat) : Int))) (by kernel_rfl) (fun e22 => ?_) (fun e22 => ?_)
            · replace h := cnd_t h e22
              refine tri_skip ?_
              refine thenN ?_
              refine tri_joinC (fun (v3 : (List T_RuleNode)) => ⟨106, [(0, .c (.pvar (0, 0) 0)), (7, .c (.ref (700003, 0) y10.1.length)), (8, .c (.ref (700003, 1) v3.length)), (9, .c (.v (.int .i64 v1.1)))], [((0, 0), (e_Codes y16.2))], [((700003, 0), some ⟨false, 4, y10.1.length, encF e_RuleNode d_RuleNode y10.1⟩), ((700003, 1), some ⟨false, 4, v3.length, encF e_RuleNode d_RuleNode v3⟩)]⟩) h (fun v3 h => ?_) (fun j3 h => ?_)
              · refine tri_reg_end env [] 10 1024 [.keep [0, 7, 8, 9] [(0, 0)] [(700003, 0), (700003, 1)], .keep [0, 7, 8, 9] [(0, 0)] [(700003, 0), (700003, 1)], .ren (700003, 0) (700001, 0), .ren (700003, 1) (700001, 1)] ⟨106, [(0, .c (.pvar (0, 0) 0)), (7, .c (.ref (700001, 0) y10.1.length)), (8, .c (.ref (700001, 1) v3.length)), (9, .c (.v (.int .i64 (IntKind.wrap .i64 (v1.1 + 1)))))], [((0, 0), (e_Codes y16.2))], [((700001, 0), some ⟨false, 4, y10.1.length, encF e_RuleNode d_RuleNode y10.1⟩), ((700001, 1), some ⟨false, 4, v3.length, encF e_RuleNode d_RuleNode v3⟩)]⟩ [True] (by kernel_rfl) ⟨trivial, trivial⟩ ?_
                exact thenJ ((IntKind.wrap .i64 (v1.1 + 1)), v3) h (by kernel_rfl)
              · refine tri_block ?_
                refine tri_joinC (fun (v2 : (List T_RuleNode)) => ⟨106, [(0, .c (.pvar (0, 0) 0)), (7, .c (.ref (700002, 0) y10.1.length)), (8, .c (.ref (700002, 1) v2.length)), (9, .c (.v (.int .i64 v1.1)))], [((0, 0), (e_Codes y16.2))], [((700002, 0), some ⟨false, 4, y10.1.length, encF e_RuleNode d_RuleNode y10.1⟩), ((700002, 1), some ⟨false, 4, v2.length, encF e_RuleNode d_RuleNode v2⟩)]⟩) h (fun v2 h => ?_) (fun j2 h => ?_)
                · obtain ⟨q23, h⟩ := ck_inv h
                  refine cnd_split h (fun e24 h => ?_) (fun e24 h => ?_)
                  · refine tri_reg env [(6, .b true), (13, .b true)] 13 1024 [.keep [0, 7, 8, 9, 77] [(0, 0)] [(700002, 0), (700002, 1)]] ⟨106, [(0, .c (.pvar (0, 0) 0)), (7, .c (.ref (700002, 0) y10.1.length)), (8, .c (.ref (700002, 1) v2.length)), (9, .c (.v (.int .i64 v1.1))), (77, .c (.v (.bool true)))], [((0, 0), (e_Codes y16.2))], [((700002, 0), some ⟨false, 4, y10.1.length, encF e_RuleNode d_RuleNode y10.1⟩), ((700002, 1), some ⟨false, 4, v2.length, encF e_RuleNode d_RuleNode v2⟩)]⟩ [(0 ≤ v1.1 ∧ v1.1 < ((v2.length : Nat) : Int)), (v1.1.toNat < v2.length), True, (((v2.getD v1.1.toNat d_RuleNode).Kind == 3) = true), (((v2.getD v1.1.toNat d_RuleNode).Kind == 3) = true), (((v2.getD v1.1.toNat d_RuleNode).Kind == 3) = true), (((v2.getD v1.1.toNat d_RuleNode).Kind == 3) = true), (((v2.getD v1.1.toNat d_RuleNode).Kind == 3) = true), (((v2.getD v1.1.toNat d_RuleNode).Kind == 3) = true), (((v2.getD v1.1.toNat d_RuleNode).Kind == 3) = true)] (by kernel_rfl) ⟨q23, (inr' q23), trivial, e24, e24, e24, e24, e24, e24, e24, trivial⟩ ?_
                    refine tri_cond true (by kernel_rfl) (fun _ => ?_) (fun e => by cases e)
                    refine tri_reg_end env [] 14 1024 [.arr (700002, 1) ((v2.set v1.1.toNat { (v2.getD v1.1.toNat d_RuleNode) with Right := (IntKind.wrap .i64 ((v2.getD v1.1.toNat d_RuleNode).Right + ((y10.1.length : Nat) : Int))) }).length) (encF e_RuleNode d_RuleNode (v2.set v1.1.toNat { (v2.getD v1.1.toNat d_RuleNode) with Right := (IntKind.wrap .i64 ((v2.getD v1.1.toNat d_RuleNode).Right + ((y10.1.length : Nat) : Int))) })), .slot 8 (.c (.ref (700002, 1) ((v2.set v1.1.toNat { (v2.getD v1.1.toNat d_RuleNode) with Right := (IntKind.wrap .i64 ((v2.getD v1.1.toNat d_RuleNode).Right + ((y10.1.length : Nat) : Int))) }).length))), .keep [0, 7, 8, 9] [(0, 0)] [(700002, 0), (700002, 1)], .keep [0, 7, 8, 9] [(0, 0)] [(700002, 0), (700002, 1)], .ren (700002, 0) (700003, 0), .ren (700002, 1) (700003, 1)] ⟨106, [(0, .c (.pvar (0, 0) 0)), (7, .c (.ref (700003, 0) y10.1.length)), (8, .c (.ref (700003, 1) ((v2.set v1.1.toNat { (v2.getD v1.1.toNat d_RuleNode) with Right := (IntKind.wrap .i64 ((v2.getD v1.1.toNat d_RuleNode).Right + ((y10.1.length : Nat) : Int))) }).length))), (9, .c (.v (.int .i64 v1.1)))], [((0, 0), (e_Codes y16.2))], [((700003, 0), some ⟨false, 4, y10.1.length, encF e_RuleNode d_RuleNode y10.1⟩), ((700003, 1), some ⟨false, 4, ((v2.set v1.1.toNat { (v2.getD v1.1.toNat d_RuleNode) with Right := (IntKind.wrap .i64 ((v2.getD v1.1.toNat d_RuleNode).Right + ((y10.1.length : Nat) : Int))) }).length), encF e_RuleNode d_RuleNode (v2.set v1.1.toNat { (v2.getD v1.1.toNat d_RuleNode) with Right := (IntKind.wrap .i64 ((v2.getD v1.1.toNat d_RuleNode).Right + ((y10.1.length : Nat) : Int))) })⟩)]⟩ [(0 ≤ v1.1 ∧ v1.1 < ((v2.length : Nat) : Int)), (v1.1.toNat < v2.length), True, (0 ≤ v1.1 ∧ v1.1 < ((v2.length : Nat) : Int)), (v1.1.toNat < v2.length), (v2.length = (v2.set v1.1.toNat { (v2.getD v1.1.toNat d_RuleNode) with Right := (IntKind.wrap .i64 ((v2.getD v1.1.toNat d_RuleNode).Right + ((y10.1.length : Nat) : Int))) }).length ∧ ∀ i, i < (v2.set v1.1.toNat { (v2.getD v1.1.toNat d_RuleNode) with Right := (IntKind.wrap .i64 ((v2.getD v1.1.toNat d_RuleNode).Right + ((y10.1.length : Nat) : Int))) }).length → (putG (encF e_RuleNode d_RuleNode v2) v1.1.toNat 3 [.v (.int .i64 (IntKind.wrap .i64 ((v2.getD v1.1.toNat d_RuleNode).Right + ((y10.1.length : Nat) : Int))))]) i = (encF e_RuleNode d_RuleNode (v2.set v1.1.toNat { (v2.getD v1.1.toNat d_RuleNode) with Right := (IntKind.wrap .i64 ((v2.getD v1.1.toNat d_RuleNode).Right + ((y10.1.length : Nat) : Int))) })) i), (TellS (.c (.ref (700002, 1) v2.length)) (.c (.ref (700002, 1) ((v2.set v1.1.toNat { (v2.getD v1.1.toNat d_RuleNode) with Right := (IntKind.wrap .i64 ((v2.getD v1.1.toNat d_RuleNode).Right + ((y10.1.length : Nat) : Int))) }).length))))] (by kernel_rfl) ⟨q23, (inr' q23), trivial, q23, (inr' q23), (Tells.arr (Tells.set (Tells.rfl' (e := e_RuleNode) (d := d_RuleNode) (L := v2)) v1.1.toNat 3 [.v (.int .i64 (IntKind.wrap .i64 ((v2.getD v1.1.toNat d_RuleNode).Right + ((y10.1.length : Nat) : Int))))] { (v2.getD v1.1.toNat d_RuleNode) with Right := (IntKind.wrap .i64 ((v2.getD v1.1.toNat d_RuleNode).Right + ((y10.1.length : Nat) : Int))) } (inr' q23) rfl)), (TellC.ref (Tells.len (e := e_RuleNode) (d := d_RuleNode) (n := v2.length) (g := (putG (encF e_RuleNode d_RuleNode v2) v1.1.toNat 3 [.v (.int .i64 (IntKind.wrap .i64 ((v2.getD v1.1.toNat d_RuleNode).Right + ((y10.1.length : Nat) : Int))))])) (L := (v2.set v1.1.toNat { (v2.getD v1.1.toNat d_RuleNode) with Right := (IntKind.wrap .i64 ((v2.getD v1.1.toNat d_RuleNode).Right + ((y10.1.length : Nat) : Int))) })) (Tells.set (Tells.rfl' (e := e_RuleNode) (d := d_RuleNode) (L := v2)) v1.1.toNat 3 [.v (.int .i64 (IntKind.wrap .i64 ((v2.getD v1.1.toNat d_RuleNode).Right + ((y10.1.length : Nat) : Int))))] { (v2.getD v1.1.toNat d_RuleNode) with Right := (IntKind.wrap .i64 ((v2.getD v1.1.toNat d_RuleNode).Right + ((y10.1.length : Nat) : Int))) } (inr' q23) rfl))), trivial⟩ ?_
                    refine inBN ?_
                    exact thenJ (v2.set v1.1.toNat { (v2.getD v1.1.toNat d_RuleNode) with Right := (IntKind.wrap .i64 ((v2.getD v1.1.toNat d_RuleNode).Right + ((y10.1.length : Nat) : Int))) }) h (by kernel_rfl)
                  · refine tri_reg env [(6, .b false), (13, .b false)] 13 1024 [.keep [0, 7, 8, 9, 77] [(0, 0)] [(700002, 0), (700002, 1)]] ⟨106, [(0, .c (.pvar (0, 0) 0)), (7, .c (.ref (700002, 0) y10.1.length)), (8, .c (.ref (700002, 1) v2.length)), (9, .c (.v (.int .i64 v1.1))), (77, .c (.v (.bool ((v2.getD v1.1.toNat d_RuleNode).Kind == 4))))], [((0, 0), (e_Codes y16.2))], [((700002, 0), some ⟨false, 4, y10.1.length, encF e_RuleNode d_RuleNode y10.1⟩), ((700002, 1), some ⟨false, 4, v2.length, encF e_RuleNode d_RuleNode v2⟩)]⟩ [(0 ≤ v1.1 ∧ v1.1 < ((v2.length : Nat) : Int)), (v1.1.toNat < v2.length), True, (((v2.getD v1.1.toNat d_RuleNode).Kind == 3) = false), (((v2.getD v1.1.toNat d_RuleNode).Kind == 3) = false), (((v2.getD v1.1.toNat d_RuleNode).Kind == 3) = false), (0 ≤ v1.1 ∧ v1.1 < ((v2.length : Nat) : Int)), (((v2.getD v1.1.toNat d_RuleNode).Kind == 3) = false), (((v2.getD v1.1.toNat d_RuleNode).Kind == 3) = false), (v1.1.toNat < v2.length), (((v2.getD v1.1.toNat d_RuleNode).Kind == 3) = false), True, (((v2.getD v1.1.toNat d_RuleNode).Kind == 3) = false)] (by kernel_rfl) ⟨q23, (inr' q23), trivial, e24, e24, e24, q23, e24, e24, (inr' q23), e24, trivial, e24, trivial⟩ ?_
                    refine tri_cond ((v2.getD v1.1.toNat d_RuleNode).Kind == 4) (by kernel_rfl) (fun e26 => ?_) (fun e26 => ?_)
                    · replace h := cnd_t h e26
                      refine tri_reg_end env [] 14 1024 [.arr (700002, 1) ((v2.set v1.1.toNat { (v2.getD v1.1.toNat d_RuleNode) with Right := (IntKind.wrap .i64 ((v2.getD v1.1.toNat d_RuleNode).Right + ((y10.1.length : Nat) : Int))) }).length) (encF e_RuleNode d_RuleNode (v2.set v1.1.toNat { (v2.getD v1.1.toNat d_RuleNode) with Right := (IntKind.wrap .i64 ((v2.getD v1.1.toNat d_RuleNode).Right + ((y10.1.length : Nat) : Int))) })), .slot 8 (.c (.ref (700002, 1) ((v2.set v1.1.toNat { (v2.getD v1.1.toNat d_RuleNode) with Right := (IntKind.wrap .i64 ((v2.getD v1.1.toNat d_RuleNode).Right + ((y10.1.length : Nat) : Int))) }).length))), .keep [0, 7, 8, 9] [(0, 0)] [(700002, 0), (700002, 1)], .keep [0, 7, 8, 9] [(0, 0)] [(700002, 0), (700002, 1)], .ren (700002, 0) (700003, 0), .ren (700002, 1) (700003, 1)] ⟨106, [(0, .c (.pvar (0, 0) 0)), (7, .c (.ref (700003, 0) y10.1.length)), (8, .c (.ref (700003, 1) ((v2.set v1.1.toNat { (v2.getD v1.1.toNat d_RuleNode) with Right := (IntKind.wrap .i64 ((v2.getD v1.1.toNat d_RuleNode).Right + ((y10.1.length : Nat) : Int))) }).length))), (9, .c (.v (.int .i64 v1.1)))], [((0, 0), (e_Codes y16.2))], [((700003, 0), some ⟨false, 4, y10.1.length, encF e_RuleNode d_RuleNode y10.1⟩), ((700003, 1), some ⟨false, 4, ((v2.set v1.1.toNat { (v2.getD v1.1.toNat d_RuleNode) with Right := (IntKind.wrap .i64 ((v2.getD v1.1.toNat d_RuleNode).Right + ((y10.1.length : Nat) : Int))) }).length), encF e_RuleNode d_RuleNode (v2.set v1.1.toNat { (v2.getD v1.1.toNat d_RuleNode) with Right := (IntKind.wrap .i64 ((v2.getD v1.1.toNat d_RuleNode).Right + ((y10.1.length : Nat) : Int))) })⟩)]⟩ [(0 ≤ v1.1 ∧ v1.1 < ((v2.length : Nat) : Int)), (v1.1.toNat < v2.length), True, (0 ≤ v1.1 ∧ v1.1 < ((v2.length : Nat) : Int)), (v1.1.toNat < v2.length), (v2.length = (v2.set v1.1.toNat { (v2.getD v1.1.toNat d_RuleNode) with Right := (IntKind.wrap .i64 ((v2.getD v1.1.toNat d_RuleNode).Right + ((y10.1.length : Nat) : Int))) }).length ∧ ∀ i, i < (v2.set v1.1.toNat { (v2.getD v1.1.toNat d_RuleNode) with Right := (IntKind.wrap .i64 ((v2.getD v1.1.toNat d_RuleNode).Right + ((y10.1.length : Nat) : Int))) }).length → (putG (encF e_RuleNode d_RuleNode v2) v1.1.toNat 3 [.v (.int .i64 (IntKind.wrap .i64 ((v2.getD v1.1.toNat d_RuleNode).Right + ((y10.1.length : Nat) : Int))))]) i = (encF e_RuleNode d_RuleNode (v2.set v1.1.toNat { (v2.getD v1.1.toNat d_RuleNode) with Right := (IntKind.wrap .i64 ((v2.getD v1.1.toNat d_RuleNode).Right + ((y10.1.length : Nat) : Int))) })) i), (TellS (.c (.ref (700002, 1) v2.length)) (.c (.ref (700002, 1) ((v2.set v1.1.toNat { (v2.getD v1.1.toNat d_RuleNode) with Right := (IntKind.wrap .i64 ((v2.getD v1.1.toNat d_RuleNode).Right + ((y10.1.length : Nat) : Int))) }).length))))] (by kernel_rfl) ⟨q23, (inr' q23), trivial, q23, (inr' q23), (Tells.arr (Tells.set (Tells.rfl' (e := e_RuleNode) (d := d_RuleNode) (L := v2)) v1.1.toNat 3 [.v (.int .i64 (IntKind.wrap .i64 ((v2.getD v1.1.toNat d_RuleNode).Right + ((y10.1.length : Nat) : Int))))] { (v2.getD v1.1.toNat d_RuleNode) with Right := (IntKind.wrap .i64 ((v2.getD v1.1.toNat d_RuleNode).Right + ((y10.1.length : Nat) : Int))) } (inr' q23) rfl)), (TellC.ref (Tells.len (e := e_RuleNode) (d := d_RuleNode) (n := v2.length) (g := (putG (encF e_RuleNode d_RuleNode v2) v1.1.toNat 3 [.v (.int .i64 (IntKind.wrap .i64 ((v2.getD v1.1.toNat d_RuleNode).Right + ((y10.1.length : Nat) : Int))))])) (L := (v2.set v1.1.toNat { (v2.getD v1.1.toNat d_RuleNode) with Right := (IntKind.wrap .i64 ((v2.getD v1.1.toNat d_RuleNode).Right + ((y10.1.length : Nat) : Int))) })) (Tells.set (Tells.rfl' (e := e_RuleNode) (d := d_RuleNode) (L := v2)) v1.1.toNat 3 [.v (.int .i64 (IntKind.wrap .i64 ((v2.getD v1.1.toNat d_RuleNode).Right + ((y10.1.length : Nat) : Int))))] { (v2.getD v1.1.toNat d_RuleNode) with Right := (IntKind.wrap .i64 ((v2.getD v1.1.toNat d_RuleNode).Right + ((y10.1.length : Nat) : Int))) } (inr' q23) rfl))), trivial⟩ ?_
                      refine inBN ?_
                      exact thenJ (v2.set v1.1.toNat { (v2.getD v1.1.toNat d_RuleNode) with Right := (IntKind.wrap .i64 ((v2.getD v1.1.toNat d_RuleNode).Right + ((y10.1.length : Nat) : Int))) }) h (by kernel_rfl)
                    · replace h := cnd_f h e26
                      refine tri_tell [.keep [0, 7, 8, 9] [(0, 0)] [(700002, 0), (700002, 1)], .ren (700002, 0) (700003, 0), .ren (700002, 1) (700003, 1)] ⟨106, [(0, .c (.pvar (0, 0) 0)), (7, .c (.ref (700003, 0) y10.1.length)), (8, .c (.ref (700003, 1) v2.length)), (9, .c (.v (.int .i64 v1.1)))], [((0, 0), (e_Codes y16.2))], [((700003, 0), some ⟨false, 4, y10.1.length, encF e_RuleNode d_RuleNode y10.1⟩), ((700003, 1), some ⟨false, 4, v2.length, encF e_RuleNode d_RuleNode v2⟩)]⟩ [] (by kernel_rfl) trivial ?_
                      refine tri_skip ?_
                      refine inBN ?_
                      exact thenJ v2 h (by kernel_rfl)
                · obtain ⟨q27, h⟩ := ck_inv h
                  refine tri_reg env [] 11 1024 [.keep [0, 7, 8, 9, 53] [(0, 0)] [(700001, 0), (700001, 1)]] ⟨106, [(0, .c (.pvar (0, 0) 0)), (7, .c (.ref (700001, 0) y10.1.length)), (8, .c (.ref (700001, 1) v1.2.length)), (9, .c (.v (.int .i64 v1.1))), (53, .c (.v (.bool ((v1.2.getD v1.1.toNat d_RuleNode).Kind != 1))))], [((0, 0), (e_Codes y16.2))], [((700001, 0), some ⟨false, 4, y10.1.length, encF e_RuleNode d_RuleNode y10.1⟩), ((700001, 1), some ⟨false, 4, v1.2.length, encF e_RuleNode d_RuleNode v1.2⟩)]⟩ [(0 ≤ v1.1 ∧ v1.1 < ((v1.2.length : Nat) : Int)), (v1.1.toNat < v1.2.length), True] (by kernel_rfl) ⟨q27, (inr' q27), trivial, trivial⟩ ?_
                  refine tri_cond ((v1.2.getD v1.1.toNat d_RuleNode).Kind != 1) (by kernel_rfl) (fun e28 => ?_) (fun e28 => ?_)
                  · replace h := cnd_t h e28
                    refine tri_reg_end env [] 12 1024 [.arr (700001, 1) ((v1.2.set v1.1.toNat { (v1.2.getD v1.1.toNat d_RuleNode) with Left := (IntKind.wrap .i64 ((v1.2.getD v1.1.toNat d_RuleNode).Left + ((y10.1.length : Nat) : Int))) }).length) (encF e_RuleNode d_RuleNode (v1.2.set v1.1.toNat { (v1.2.getD v1.1.toNat d_RuleNode) with Left := (IntKind.wrap .i64 ((v1.2.getD v1.1.toNat d_RuleNode).Left + ((y10.1.length : Nat) : Int))) })), .slot 8 (.c (.ref (700001, 1) ((v1.2.set v1.1.toNat { (v1.2.getD v1.1.toNat d_RuleNode) with Left := (IntKind.wrap .i64 ((v1.2.getD v1.1.toNat d_RuleNode).Left + ((y10.1.length : Nat) : Int))) }).length))), .keep [0, 7, 8, 9] [(0, 0)] [(700001, 0), (700001, 1)], .keep [0, 7, 8, 9] [(0, 0)] [(700001, 0), (700001, 1)], .ren (700001, 0) (700002, 0), .ren (700001, 1) (700002, 1)] ⟨106, [(0, .c (.pvar (0, 0) 0)), (7, .c (.ref (700002, 0) y10.1.length)), (8, .c (.ref (700002, 1) ((v1.2.set v1.1.toNat { (v1.2.getD v1.1.toNat d_RuleNode) with Left := (IntKind.wrap .i64 ((v1.2.getD v1.1.toNat d_RuleNode).Left + ((y10.1.length : Nat) : Int))) }).length))), (9, .c (.v (.int .i64 v1.1)))], [((0, 0), (e_Codes y16.2))], [((700002, 0), some ⟨false, 4, y10.1.length, encF e_RuleNode d_RuleNode y10.1⟩), ((700002, 1), some ⟨false, 4, ((v1.2.set v1.1.toNat { (v1.2.getD v1.1.toNat d_RuleNode) with Left := (IntKind.wrap .i64 ((v1.2.getD v1.1.toNat d_RuleNode).Left + ((y10.1.length : Nat) : Int))) }).length), encF e_RuleNode d_RuleNode (v1.2.set v1.1.toNat { (v1.2.getD v1.1.toNat d_RuleNode) with Left := (IntKind.wrap .i64 ((v1.2.getD v1.1.toNat d_RuleNode).Left + ((y10.1.length : Nat) : Int))) })⟩)]⟩ [(0 ≤ v1.1 ∧ v1.1 < ((v1.2.length : Nat) : Int)), (v1.1.toNat < v1.2.length), True, (0 ≤ v1.1 ∧ v1.1 < ((v1.2.length : Nat) : Int)), (v1.1.toNat < v1.2.length), (v1.2.length = (v1.2.set v1.1.toNat { (v1.2.getD v1.1.toNat d_RuleNode) with Left := (IntKind.wrap .i64 ((v1.2.getD v1.1.toNat d_RuleNode).Left + ((y10.1.length : Nat) : Int))) }).length ∧ ∀ i, i < (v1.2.set v1.1.toNat { (v1.2.getD v1.1.toNat d_RuleNode) with Left := (IntKind.wrap .i64 ((v1.2.getD v1.1.toNat d_RuleNode).Left + ((y10.1.length : Nat) : Int))) }).length → (putG (encF e_RuleNode d_RuleNode v1.2) v1.1.toNat 2 [.v (.int .i64 (IntKind.wrap .i64 ((v1.2.getD v1.1.toNat d_RuleNode).Left + ((y10.1.length : Nat) : Int))))]) i = (encF e_RuleNode d_RuleNode (v1.2.set v1.1.toNat { (v1.2.getD v1.1.toNat d_RuleNode) with Left := (IntKind.wrap .i64 ((v1.2.getD v1.1.toNat d_RuleNode).Left + ((y10.1.length : Nat) : Int))) })) i), (TellS (.c (.ref (700001, 1) v1.2.length)) (.c (.ref (700001, 1) ((v1.2.set v1.1.toNat { (v1.2.getD v1.1.toNat d_RuleNode) with Left := (IntKind.wrap .i64 ((v1.2.getD v1.1.toNat d_RuleNode).Left + ((y10.1.length : Nat) : Int))) }).length))))] (by kernel_rfl) ⟨q27, (inr' q27), trivial, q27, (inr' q27), (Tells.arr (Tells.set (Tells.rfl' (e := e_RuleNode) (d := d_RuleNode) (L := v1.2)) v1.1.toNat 2 [.v (.int .i64 (IntKind.wrap .i64 ((v1.2.getD v1.1.toNat d_RuleNode).Left + ((y10.1.length : Nat) : Int))))] { (v1.2.getD v1.1.toNat d_RuleNode) with Left := (IntKind.wrap .i64 ((v1.2.getD v1.1.toNat d_RuleNode).Left + ((y10.1.length : Nat) : Int))) } (inr' q27) rfl)), (TellC.ref (Tells.len (e := e_RuleNode) (d := d_RuleNode) (n := v1.2.length) (g := (putG (encF e_RuleNode d_RuleNode v1.2) v1.1.toNat 2 [.v (.int .i64 (IntKind.wrap .i64 ((v1.2.getD v1.1.toNat d_RuleNode).Left + ((y10.1.length : Nat) : Int))))])) (L := (v1.2.set v1.1.toNat { (v1.2.getD v1.1.toNat d_RuleNode) with Left := (IntKind.wrap .i64 ((v1.2.getD v1.1.toNat d_RuleNode).Left + ((y10.1.length : Nat) : Int))) })) (Tells.set (Tells.rfl' (e := e_RuleNode) (d := d_RuleNode) (L := v1.2)) v1.1.toNat 2 [.v (.int .i64 (IntKind.wrap .i64 ((v1.2.getD v1.1.toNat d_RuleNode).Left + ((y10.1.length : Nat) : Int))))] { (v1.2.getD v1.1.toNat d_RuleNode) with Left := (IntKind.wrap .i64 ((v1.2.getD v1.1.toNat d_RuleNode).Left + ((y10.1.length : Nat) : Int))) } (inr' q27) rfl))), trivial⟩ ?_
                    exact thenJ (v1.2.set v1.1.toNat { (v1.2.getD v1.1.toNat d_RuleNode) with Left := (IntKind.wrap .i64 ((v1.2.getD v1.1.toNat d_RuleNode).Left + ((y10.1.length : Nat) : Int))) }) h (by kernel_rfl)
                  · replace h := cnd_f h e28
                    refine tri_tell [.keep [0, 7, 8, 9] [(0, 0)] [(700001, 0), (700001, 1)], .ren (700001, 0) (700002, 0), .ren (700001, 1) (700002, 1)] ⟨106, [(0, .c (.pvar (0, 0) 0)), (7, .c (.ref (700002, 0) y10.1.length)), (8, .c (.ref (700002, 1) v1.2.length)), (9, .c (.v (.int .i64 v1.1)))], [((0, 0), (e_Codes y16.2))], [((700002, 0), some ⟨false, 4, y10.1.length, encF e_RuleNode d_RuleNode y10.1⟩), ((700002, 1), some ⟨false, 4, v1.2.length, encF e_RuleNode d_RuleNode v1.2⟩)]⟩ [] (by kernel_rfl) trivial ?_
                    refine tri_skip ?_
                    exact thenJ v1.2 h (by kernel_rfl)
            · replace h := cnd_f h e22
              refine tri_tell [.keep [0, 7, 8] [(0, 0)] [(700001, 0), (700001, 1)], .ren (700001, 0) (700004, 0), .ren (700001, 1) (700004, 1)] ⟨106, [(0, .c (.pvar (0, 0) 0)), (7, .c (.ref (700004, 0) y10.1.length)), (8, .c (.ref (700004, 1) v1.2.length))], [((0, 0), (e_Codes y16.2))], [((700004, 0), some ⟨false, 4, y10.1.length, encF e_RuleNode d_RuleNode y10.1⟩), ((700004, 1), some ⟨false, 4, v1.2.length, encF e_RuleNode d_RuleNode v1.2⟩)]⟩ [] (by kernel_rfl) trivial ?_
              refine tri_exit ?_
              refine thenE ?_
              refine thenE ?_
              refine inBX ?_
              exact thenJ v1.2 h (by kernel_rfl)
end Go.Proofs.YtmdolfannbbipaaDoor
namespace Go.Proofs.YtmdolfannbbipaaDoor
open Go Go.RowKit Go.Ev Go.Proofs
set_option linter.unusedVariables false

set_option maxRecDepth 100000
theorem ok_draw_Mod (K : Nat) (a0 : Int) (a1 : Int) (r : Int) (h : draw_Mod K a0 a1 = some r) : FnOk Tryd.prog 25 (ax_draw_Mod a0 a1) (rx_draw_Mod r) (px_draw_Mod r) := by
  refine ⟨⟨Tryd.f25, Tryd.func25, by kernel_rfl, by kernel_rfl⟩, ?_⟩
  unfold draw_Mod at h
  refine fn_ok env Tryd.func25 rfl ⟨16, [(0, .c (.v (.int .i64 a0))), (1, .c (.v (.int .i64 a1)))], [], []⟩ [] (by kernel_rfl) fun X => ?_
  refine tri_reg env [] 1 1024 [.keep [0, 1] [] []] ⟨16, [(0, .c (.v (.int .i64 a0))), (1, .c (.v (.int .i64 a1)))], [], []⟩ [] (by kernel_rfl) trivial ?_
  refine tri_seq ?_
  refine tri_reg env [] 2 1024 [.keep [0, 1, 6] [] []] ⟨16, [(0, .c (.v (.int .i64 a0))), (1, .c (.v (.int .i64 a1))), (6, .c (.v (.bool (decide (a1 < 1)))))], [], []⟩ [True] (by kernel_rfl) ⟨trivial, trivial⟩ ?_
  refine tri_cond (decide (a1 < 1)) (by kernel_rfl) (fun e1 => ?_) (fun e1 => ?_)
  · replace h := cnd_t h e1
    refine tri_reg env [] 3 1024 [.keep [4] [] []] ⟨16, [(4, .c (.v (.int .i64 0)))], [], []⟩ [] (by kernel_rfl) trivial ?_
    refine tri_ret ?_
    refine thenR ?_
    rw [some_inv h]
    exact ⟨[], by kernel_rfl, trivial⟩
  · replace h := cnd_f h e1
    refine tri_skip ?_
    refine thenN ?_
    obtain ⟨q2, h⟩ := ck_inv h
    refine tri_reg env [] 4 1024 [.keep [0, 1] [] []] ⟨16, [(0, .c (.v (.int .i64 (Int.tmod a0 a1)))), (1, .c (.v (.int .i64 a1)))], [], []⟩ [(a1 ≠ 0)] (by kernel_rfl) ⟨q2, trivial⟩ ?_
    refine tri_joinC (fun (v1 : Int) => ⟨16, [(0, .c (.v (.int .i64 v1)))], [], []⟩) h (fun v1 h => ?_) (fun j1 h => ?_)
    · refine tri_reg env [] 7 1024 [.keep [4] [] []] ⟨16, [(4, .c (.v (.int .i64 v1)))], [], []⟩ [] (by kernel_rfl) trivial ?_
      refine tri_ret ?_
      rw [some_inv h]
      exact ⟨[], by kernel_rfl, trivial⟩
    · refine tri_reg env [] 5 1024 [.keep [0, 1, 11] [] []] ⟨16, [(0, .c (.v (.int .i64 (Int.tmod a0 a1)))), (1, .c (.v (.int .i64 a1))), (11, .c (.v (.bool (decide ((Int.tmod a0 a1) < 0)))))], [], []⟩ [True] (by kernel_rfl) ⟨trivial, trivial⟩ ?_
      refine tri_cond (decide ((Int.tmod a0 a1) < 0)) (by kernel_rfl) (fun e3 => ?_) (fun e3 => ?_)
      · replace h := cnd_t h e3
        refine tri_reg_end env [] 6 1024 [.keep [0] [] []] ⟨16, [(0, .c (.v (.int .i64 (IntKind.wrap .i64 ((Int.tmod a0 a1) + a1)))))], [], []⟩ [True] (by kernel_rfl) ⟨trivial, trivial⟩ ?_
        exact thenJ (IntKind.wrap .i64 ((Int.tmod a0 a1) + a1)) h (by kernel_rfl)
      · replace h := cnd_f h e3
        refine tri_tell [.keep [0] [] []] ⟨16, [(0, .c (.v (.int .i64 (Int.tmod a0 a1))))], [], []⟩ [] (by kernel_rfl) trivial ?_
        refine tri_skip ?_
        exact thenJ (Int.tmod a0 a1) h (by kernel_rfl)
end Go.Proofs.YtmdolfannbbipaaDoor
namespace Go.Proofs.YtmdolfannbbipaaDoor
open Go Go.RowKit Go.Ev Go.Proofs
set_option linter.unusedVariables false

set_option maxRecDepth 100000
theorem ok_law19_made (K : Nat) (a0 : (List Int)) (a1 : Int) (a2 : Int) (r : (List T_RuleNode)) (h : law19_made K a0 a1 a2 = some r) : FnOk Tryd.prog 15 (ax_law19_made a0 a1 a2) (rx_law19_made r) (px_law19_made r) := by
  refine ⟨⟨Tryd.f15, Tryd.func15, by kernel_rfl, by kernel_rfl⟩, ?_⟩
  unfold law19_made at h
  refine fn_ok env Tryd.func15 rfl ⟨54, [(0, .c (.lst 1 a0.length (encF (eI .u8) 0 a0))), (1, .c (.v (.int .i64 a1))), (2, .c (.v (.int .i64 a2)))], [], []⟩ [] (by kernel_rfl) fun X => ?_
  refine tri_reg env [] 1 1024 [.keep [0, 1, 2] [] []] ⟨54, [(0, .c (.lst 1 a0.length (encF (eI .u8) 0 a0))), (1, .c (.v (.int .i64 a1))), (2, .c (.v (.int .i64 a2)))], [], []⟩ [] (by kernel_rfl) trivial ?_
  obtain ⟨y1, c2, h⟩ := bnd_inv h
  refine tri_reg env [(1, .call ⟨(ax_draw_New a0), [false], rx_draw_New y1, px_draw_New y1, true⟩)] 2 1024 [.keep [1, 2, 7] [(2001, 0)] []] ⟨54, [(1, .c (.v (.int .i64 a1))), (2, .c (.v (.int .i64 a2))), (7, .c (.pvar (2001, 0) 0))], [((2001, 0), (e_Codes y1))], []⟩ [(EqXs (ax_draw_New a0) (ax_draw_New a0)), (FnOk Tryd.prog 29 (ax_draw_New a0) (rx_draw_New y1) (px_draw_New y1))] (by kernel_rfl) ⟨(eqs (eqr _) eqs0), (ok_draw_New K a0 y1 c2), trivial⟩ ?_
  obtain ⟨y3, c4, h⟩ := bnd_inv h
  refine tri_reg env [(1, .call ⟨(ax_draw_Codes_Rule y1 6 4), [false, false, false], rx_draw_Codes_Rule y3, px_draw_Codes_Rule y3, true⟩)] 3 1024 [.keep [1, 2, 7, 8] [(2001, 0)] [(3001, 0)]] ⟨54, [(1, .c (.v (.int .i64 a1))), (2, .c (.v (.int .i64 a2))), (7, .c (.pvar (2001, 0) 0)), (8, .c (.ref (3001, 0) y3.1.length))], [((2001, 0), (e_Codes y3.2))], [((3001, 0), some ⟨false, 4, y3.1.length, encF e_RuleNode d_RuleNode y3.1⟩)]⟩ [(EqXs (ax_draw_Codes_Rule y1 6 4) (ax_draw_Codes_Rule y1 6 4)), (FnOk Tryd.prog 30 (ax_draw_Codes_Rule y1 6 4) (rx_draw_Codes_Rule y3) (px_draw_Codes_Rule y3))] (by kernel_rfl) ⟨(eqs (eqp (eqr _) (eqp (eqr _) eqp0)) (eqs (eqr _) (eqs (eqr _) eqs0))), (ok_draw_Codes_Rule K y1 6 4 y3 c4), trivial⟩ ?_
  obtain ⟨y5, c6, h⟩ := bnd_inv h
  obtain ⟨q7, h⟩ := ck_inv h
  refine tri_reg env [(4, .call ⟨(ax_draw_Mod a1 ((y3.1.length : Nat) : Int)), [false, false], rx_draw_Mod y5, px_draw_Mod y5, true⟩)] 4 1024 [.keep [2, 7, 8, 9] [(2001, 0)] [(3001, 0)]] ⟨54, [(2, .c (.v (.int .i64 a2))), (7, .c (.pvar (2001, 0) 0)), (8, .c (.ref (3001, 0) y3.1.length)), (9, .c (.pelem (3001, 0) y5.toNat 0))], [((2001, 0), (e_Codes y3.2))], [((3001, 0), some ⟨false, 4, y3.1.length, encF e_RuleNode d_RuleNode y3.1⟩)]⟩ [(EqXs (ax_draw_Mod a1 ((y3.1.length : Nat) : Int)) (ax_draw_Mod a1 ((y3.1.length : Nat) : Int))), (FnOk Tryd.prog 25 (ax_draw_Mod a1 ((y3.1.length : Nat) : Int)) (rx_draw_Mod y5) (px_draw_Mod y5)), (0 ≤ y5 ∧ y5 < ((y3.1.length : Nat) : Int))] (by kernel_rfl) ⟨(eqs (eqr _) (eqs (eqr _) eqs0)), (ok_draw_Mod K a1 ((y3.1.length : Nat) : Int) y5 c6), q7, trivial⟩ ?_
  refine tri_joinC (fun (v1 : (List T_RuleNode)) => ⟨54, [(8, .c (.ref (700001, 0) v1.length))], [], [((700001, 0), some ⟨false, 4, v1.length, encF e_RuleNode d_RuleNode v1⟩)]⟩) h (fun v1 h => ?_) (fun j1 h => ?_)
  · refine tri_reg env [] 16 1024 [.keep [6] [] [(700001, 0)]] ⟨54, [(6, .c (.ref (700001, 0) v1.length))], [], [((700001, 0), some ⟨false, 4, v1.length, encF e_RuleNode d_RuleNode v1⟩)]⟩ [] (by kernel_rfl) trivial ?_
    refine tri_ret ?_
    rw [some_inv h]
    exact ⟨[(v1.length = v1.length)], by kernel_rfl, ⟨rfl, trivial⟩⟩
  · obtain ⟨y8, c9, h⟩ := bnd_inv h
    refine tri_reg env [(1, .call ⟨(ax_draw_Codes_Next y3.2 9), [false, false], rx_draw_Codes_Next y8, px_draw_Codes_Next y8, true⟩)] 5 1024 [.keep [2, 8, 9, 21] [] [(3001, 0)]] ⟨54, [(2, .c (.v (.int .i64 a2))), (8, .c (.ref (3001, 0) y3.1.length)), (9, .c (.pelem (3001, 0) y5.toNat 0)), (21, .c (.v (.int .i64 y8.1)))], [], [((3001, 0), some ⟨false, 4, y3.1.length, encF e_RuleNode d_RuleNode y3.1⟩)]⟩ [(EqXs (ax_draw_Codes_Next y3.2 9) (ax_draw_Codes_Next y3.2 9)), (FnOk Tryd.prog 43 (ax_draw_Codes_Next y3.2 9) (rx_draw_Codes_Next y8) (px_draw_Codes_Next y8))] (by kernel_rfl) ⟨(eqs (eqp (eqr _) (eqp (eqr _) eqp0)) (eqs (eqr _) eqs0)), (ok_draw_Codes_Next K y3.2 9 y8 c9), trivial⟩ ?_
    refine tri_block ?_
    refine tri_reg env [] 6 1024 [.keep [2, 8, 9, 21, 22] [] [(3001, 0)]] ⟨54, [(2, .c (.v (.int .i64 a2))), (8, .c (.ref (3001, 0) y3.1.length)), (9, .c (.pelem (3001, 0) y5.toNat 0)), (21, .c (.v (.int .i64 y8.1))), (22, .c (.v (.bool (y8.1 == 1))))], [], [((3001, 0), some ⟨false, 4, y3.1.length, encF e_RuleNode d_RuleNode y3.1⟩)]⟩ [True] (by kernel_rfl) ⟨trivial, trivial⟩ ?_
    refine tri_cond (y8.1 == 1) (by kernel_rfl) (fun e10 => ?_) (fun e10 => ?_)
    · replace h := cnd_t h e10
      refine tri_reg_end env [] 7 1024 [.arr (3001, 0) ((y3.1.set y5.toNat { (y3.1.getD y5.toNat d_RuleNode) with Kind := a2 }).length) (encF e_RuleNode d_RuleNode (y3.1.set y5.toNat { (y3.1.getD y5.toNat d_RuleNode) with Kind := a2 })), .slot 8 (.c (.ref (3001, 0) ((y3.1.set y5.toNat { (y3.1.getD y5.toNat d_RuleNode) with Kind := a2 }).length))), .keep [8] [] [(3001, 0)], .keep [8] [] [(3001, 0)], .ren (3001, 0) (700001, 0)] ⟨54, [(8, .c (.ref (700001, 0) ((y3.1.set y5.toNat { (y3.1.getD y5.toNat d_RuleNode) with Kind := a2 }).length)))], [], [((700001, 0), some ⟨false, 4, ((y3.1.set y5.toNat { (y3.1.getD y5.toNat d_RuleNode) with Kind := a2 }).length), encF e_RuleNode d_RuleNode (y3.1.set y5.toNat { (y3.1.getD y5.toNat d_RuleNode) with Kind := a2 })⟩)]⟩ [(y5.toNat < y3.1.length), (y3.1.length = (y3.1.set y5.toNat { (y3.1.getD y5.toNat d_RuleNode) with Kind := a2 }).length ∧ ∀ i, i < (y3.1.set y5.toNat { (y3.1.getD y5.toNat d_RuleNode) with Kind := a2 }).length → (putG (encF e_RuleNode d_RuleNode y3.1) y5.toNat 0 [.v (.int .i64 a2)]) i = (encF e_RuleNode d_RuleNode (y3.1.set y5.toNat { (y3.1.getD y5.toNat d_RuleNode) with Kind := a2 })) i), (TellS (.c (.ref (3001, 0) y3.1.length)) (.c (.ref (3001, 0) ((y3.1.set y5.toNat { (y3.1.getD y5.toNat d_RuleNode) with Kind := a2 }).length))))] (by kernel_rfl) ⟨(inr' q7), (Tells.arr (Tells.set (Tells.rfl' (e := e_RuleNode) (d := d_RuleNode) (L := y3.1)) y5.toNat 0 [.v (.int .i64 a2)] { (y3.1.getD y5.toNat d_RuleNode) with Kind := a2 } (inr' q7) rfl)), (TellC.ref (Tells.len (e := e_RuleNode) (d := d_RuleNode) (n := y3.1.length) (g := (putG (encF e_RuleNode d_RuleNode y3.1) y5.toNat 0 [.v (.int .i64 a2)])) (L := (y3.1.set y5.toNat { (y3.1.getD y5.toNat d_RuleNode) with Kind := a2 })) (Tells.set (Tells.rfl' (e := e_RuleNode) (d := d_RuleNode) (L := y3.1)) y5.toNat 0 [.v (.int .i64 a2)] { (y3.1.getD y5.toNat d_RuleNode) with Kind := a2 } (inr' q7) rfl))), trivial⟩ ?_
      refine inBN ?_
      exact thenJ (y3.1.set y5.toNat { (y3.1.getD y5.toNat d_RuleNode) with Kind := a2 }) h (by kernel_rfl)
    · replace h := cnd_f h e10
      refine tri_reg env [] 8 1024 [.keep [2, 8, 9, 21, 28] [] [(3001, 0)]] ⟨54, [(2, .c (.v (.int .i64 a2))), (8, .c (.ref (3001, 0) y3.1.length)), (9, .c (.pelem (3001, 0) y5.toNat 0)), (21, .c (.v (.int .i64 y8.1))), (28, .c (.v (.bool (y8.1 == 2))))], [], [((3001, 0), some ⟨false, 4, y3.1.length, encF e_RuleNode d_RuleNode y3.1⟩)]⟩ [True] (by kernel_rfl) ⟨trivial, trivial⟩ ?_
      refine tri_cond (y8.1 == 2) (by kernel_rfl) (fun e11 => ?_) (fun e11 => ?_)
      · replace h := cnd_t h e11
        refine tri_reg_end env [] 9 1024 [.arr (3001, 0) ((y3.1.set y5.toNat { (y3.1.getD y5.toNat d_RuleNode) with Cond := a2 }).length) (encF e_RuleNode d_RuleNode (y3.1.set y5.toNat { (y3.1.getD y5.toNat d_RuleNode) with Cond := a2 })), .slot 8 (.c (.ref (3001, 0) ((y3.1.set y5.toNat { (y3.1.getD y5.toNat d_RuleNode) with Cond := a2 }).length))), .keep [8] [] [(3001, 0)], .keep [8] [] [(3001, 0)], .ren (3001, 0) (700001, 0)] ⟨54, [(8, .c (.ref (700001, 0) ((y3.1.set y5.toNat { (y3.1.getD y5.toNat d_RuleNode) with Cond := a2 }).length)))], [], [((700001, 0), some ⟨false, 4, ((y3.1.set y5.toNat { (y3.1.getD y5.toNat d_RuleNode) with Cond := a2 }).length), encF e_RuleNode d_RuleNode (y3.1.set y5.toNat { (y3.1.getD y5.toNat d_RuleNode) with Cond := a2 })⟩)]⟩ [(y5.toNat < y3.1.length), (y3.1.length = (y3.1.set y5.toNat { (y3.1.getD y5.toNat d_RuleNode) with Cond := a2 }).length ∧ ∀ i, i < (y3.1.set y5.toNat { (y3.1.getD y5.toNat d_RuleNode) with Cond := a2 }).length → (putG (encF e_RuleNode d_RuleNode y3.1) y5.toNat 1 [.v (.int .i64 a2)]) i = (encF e_RuleNode d_RuleNode (y3.1.set y5.toNat { (y3.1.getD y5.toNat d_RuleNode) with Cond := a2 })) i), (TellS (.c (.ref (3001, 0) y3.1.length)) (.c (.ref (3001, 0) ((y3.1.set y5.toNat { (y3.1.getD y5.toNat d_RuleNode) with Cond := a2 }).length))))] (by kernel_rfl) ⟨(inr' q7), (Tells.arr (Tells.set (Tells.rfl' (e := e_RuleNode) (d := d_RuleNode) (L := y3.1)) y5.toNat 1 [.v (.int .i64 a2)] { (y3.1.getD y5.toNat d_RuleNode) with Cond := a2 } (inr' q7) rfl)), (TellC.ref (Tells.len (e := e_RuleNode) (d := d_RuleNode) (n := y3.1.length) (g := (putG (encF e_RuleNode d_RuleNode y3.1) y5.toNat 1 [.v (.int .i64 a2)])) (L := (y3.1.set y5.toNat { (y3.1.getD y5.toNat d_RuleNode) with Cond := a2 })) (Tells.set (Tells.rfl' (e := e_RuleNode) (d := d_RuleNode) (L := y3.1)) y5.toNat 1 [.v (.int .i64 a2)] { (y3.1.getD y5.toNat d_RuleNode) with Cond := a2 } (inr' q7) rfl))), trivial⟩ ?_
        refine inBN ?_
        exact thenJ (y3.1.set y5.toNat { (y3.1.getD y5.toNat d_RuleNode) with Cond := a2 }) h (by kernel_rfl)
      · replace h := cnd_f h e11
        refine tri_reg env [] 10 1024 [.keep [2, 8, 9, 21, 34] [] [(3001, 0)]] ⟨54, [(2, .c (.v (.int .i64 a2))), (8, .c (.ref (3001, 0) y3.1.length)), (9, .c (.pelem (3001, 0) y5.toNat 0)), (21, .c (.v (.int .i64 y8.1))), (34, .c (.v (.bool (y8.1 == 3))))], [], [((3001, 0), some ⟨false, 4, y3.1.length, encF e_RuleNode d_RuleNode y3.1⟩)]⟩ [True] (by kernel_rfl) ⟨trivial, trivial⟩ ?_
        refine tri_cond (y8.1 == 3) (by kernel_rfl) (fun e12 => ?_) (fun e12 => ?_)
        · replace h := cnd_t h e12
          refine tri_reg_end env [] 11 1024 [.arr (3001, 0) ((y3.1.set y5.toNat { (y3.1.getD y5.toNat d_RuleNode) with Left := a2 }).length) (encF e_RuleNode d_RuleNode (y3.1.set y5.toNat { (y3.1.getD y5.toNat d_RuleNode) with Left := a2 })), .slot 8 (.c (.ref (3001, 0) ((y3.1.set y5.toNat { (y3.1.getD y5.toNat d_RuleNode) with Left := a2 }).length))), .keep [8] [] [(3001, 0)], .keep [8] [] [(3001, 0)], .ren (3001, 0) (700001, 0)] ⟨54, [(8, .c (.ref (700001, 0) ((y3.1.set y5.toNat { (y3.1.getD y5.toNat d_RuleNode) with Left := a2 }).length)))], [], [((700001, 0), some ⟨false, 4, ((y3.1.set y5.toNat { (y3.1.getD y5.toNat d_RuleNode) with Left := a2 }).length), encF e_RuleNode d_RuleNode (y3.1.set y5.toNat { (y3.1.getD y5.toNat d_RuleNode) with Left := a2 })⟩)]⟩ [(y5.toNat < y3.1.length), (y3.1.length = (y3.1.set y5.toNat { (y3.1.getD y5.toNat d_RuleNode) with Left := a2 }).length ∧ ∀ i, i < (y3.1.set y5.toNat { (y3.1.getD y5.toNat d_RuleNode) with Left := a2 }).length → (putG (encF e_RuleNode d_RuleNode y3.1) y5.toNat 2 [.v (.int .i64 a2)]) i = (encF e_RuleNode d_RuleNode (y3.1.set y5.toNat { (y3.1.getD y5.toNat d_RuleNode) with Left := a2 })) i), (TellS (.c (.ref (3001, 0) y3.1.length)) (.c (.ref (3001, 0) ((y3.1.set y5.toNat { (y3.1.getD y5.toNat d_RuleNode) with Left := a2 }).length))))] (by kernel_rfl) ⟨(inr' q7), (Tells.arr (Tells.set (Tells.rfl' (e := e_RuleNode) (d := d_RuleNode) (L := y3.1)) y5.toNat 2 [.v (.int .i64 a2)] { (y3.1.getD y5.toNat d_RuleNode) with Left := a2 } (inr' q7) rfl)), (TellC.ref (Tells.len (e := e_RuleNode) (d := d_RuleNode) (n := y3.1.length) (g := (putG (encF e_RuleNode d_RuleNode y3.1) y5.toNat 2 [.v (.int .i64 a2)])) (L := (y3.1.set y5.toNat { (y3.1.getD y5.toNat d_RuleNode) with Left := a2 })) (Tells.set (Tells.rfl' (e := e_RuleNode) (d := d_RuleNode) (L := y3.1)) y5.toNat 2 [.v (.int .i64 a2)] { (y3.1.getD y5.toNat d_RuleNode) with Left := a2 } (inr' q7) rfl))), trivial⟩ ?_
          refine inBN ?_
          exact thenJ (y3.1.set y5.toNat { (y3.1.getD y5.toNat d_RuleNode) with Left := a2 }) h (by kernel_rfl)
        · replace h := cnd_f h e12
          refine tri_reg env [] 12 1024 [.keep [2, 8, 9, 21, 40] [] [(3001, 0)]] ⟨54, [(2, .c (.v (.int .i64 a2))), (8, .c (.ref (3001, 0) y3.1.length)), (9, .c (.pelem (3001, 0) y5.toNat 0)), (21, .c (.v (.int .i64 y8.1))), (40, .c (.v (.bool (y8.1 == 4))))], [], [((3001, 0), some ⟨false, 4, y3.1.length, encF e_RuleNode d_RuleNode y3.1⟩)]⟩ [True] (by kernel_rfl) ⟨trivial, trivial⟩ ?_
          refine tri_cond (y8.1 == 4) (by kernel_rfl) (fun e13 => ?_) (fun e13 => ?_)
          · replace h := cnd_t h e13
            refine tri_reg_end env [] 13 1024 [.arr (3001, 0) ((y3.1.set y5.toNat { (y3.1.getD y5.toNat d_RuleNode) with Right := a2 }).length) (encF e_RuleNode d_RuleNode (y3.1.set y5.toNat { (y3.1.getD y5.toNat d_RuleNode) with Right := a2 })), .slot 8 (.c (.ref (3001, 0) ((y3.1.set y5.toNat { (y3.1.getD y5.toNat d_RuleNode) with Right := a2 }).length))), .keep [8] [] [(3001, 0)], .keep [8] [] [(3001, 0)], .ren (3001, 0) (700001, 0)] ⟨54, [(8, .c (.ref (700001, 0) ((y3.1.set y5.toNat { (y3.1.getD y5.toNat d_RuleNode) with Right := a2 }).length)))], [], [((700001, 0), some ⟨false, 4, ((y3.1.set y5.toNat { (y3.1.getD y5.toNat d_RuleNode) with Right := a2 }).length), encF e_RuleNode d_RuleNode (y3.1.set y5.toNat { (y3.1.getD y5.toNat d_RuleNode) with Right := a2 })⟩)]⟩ [(y5.toNat < y3.1.length), (y3.1.length = (y3.1.set y5.toNat { (y3.1.getD y5.toNat d_RuleNode) with Right := a2 }).length ∧ ∀ i, i < (y3.1.set y5.toNat { (y3.1.getD y5.toNat d_RuleNode) with Right := a2 }).length → (putG (encF e_RuleNode d_RuleNode y3.1) y5.toNat 3 [.v (.int .i64 a2)]) i = (encF e_RuleNode d_RuleNode (y3.1.set y5.toNat { (y3.1.getD y5.toNat d_RuleNode) with Right := a2 })) i), (TellS (.c (.ref (3001, 0) y3.1.length)) (.c (.ref (3001, 0) ((y3.1.set y5.toNat { (y3.1.getD y5.toNat d_RuleNode) with Right := a2 }).length))))] (by kernel_rfl) ⟨(inr' q7), (Tells.arr (Tells.set (Tells.rfl' (e := e_RuleNode) (d := d_RuleNode) (L := y3.1)) y5.toNat 3 [.v (.int .i64 a2)] { (y3.1.getD y5.toNat d_RuleNode) with Right := a2 } (inr' q7) rfl)), (TellC.ref (Tells.len (e := e_RuleNode) (d := d_RuleNode) (n := y3.1.length) (g := (putG (encF e_RuleNode d_RuleNode y3.1) y5.toNat 3 [.v (.int .i64 a2)])) (L := (y3.1.set y5.toNat { (y3.1.getD y5.toNat d_RuleNode) with Right := a2 })) (Tells.set (Tells.rfl' (e := e_RuleNode) (d := d_RuleNode) (L := y3.1)) y5.toNat 3 [.v (.int .i64 a2)] { (y3.1.getD y5.toNat d_RuleNode) with Right := a2 } (inr' q7) rfl))), trivial⟩ ?_
            refine inBN ?_
            exact thenJ (y3.1.set y5.toNat { (y3.1.getD y5.toNat d_RuleNode) with Right := a2 }) h (by kernel_rfl)
          · replace h := cnd_f h e13
            refine tri_reg env [] 14 1024 [.keep [8, 46] [] [(3001, 0)]] ⟨54, [(8, .c (.ref (3001, 0) y3.1.length)), (46, .c (.v (.bool (y8.1 == 5))))], [], [((3001, 0), some ⟨false, 4, y3.1.length, encF e_RuleNode d_RuleNode y3.1⟩)]⟩ [True] (by kernel_rfl) ⟨trivial, trivial⟩ ?_
            refine tri_cond (y8.1 == 5) (by kernel_rfl) (fun e14 => ?_) (fun e14 => ?_)
            · replace h := cnd_t h e14
              obtain ⟨q15, h⟩ := ck_inv h
              obtain ⟨q16, h⟩ := ck_inv h
              refine tri_reg_end env [] 15 1024 [.keep [8] [] [(3001, 0)], .cutS 8, .arr (3001, 0) ((y3.1.take ((IntKind.wrap .i64 (((y3.1.length : Nat) : Int) - 1)).toNat)).length) (encF e_RuleNode d_RuleNode (y3.1.take ((IntKind.wrap .i64 (((y3.1.length : Nat) : Int) - 1)).toNat))), .slot 8 (.c (.ref (3001, 0) ((y3.1.take ((IntKind.wrap .i64 (((y3.1.length : Nat) : Int) - 1)).toNat)).length))), .keep [8] [] [(3001, 0)], .keep [8] [] [(3001, 0)], .ren (3001, 0) (700001, 0)] ⟨54, [(8, .c (.ref (700001, 0) ((y3.1.take ((IntKind.wrap .i64 (((y3.1.length : Nat) : Int) - 1)).toNat)).length)))], [], [((700001, 0), some ⟨false, 4, ((y3.1.take ((IntKind.wrap .i64 (((y3.1.length : Nat) : Int) - 1)).toNat)).length), encF e_RuleNode d_RuleNode (y3.1.take ((IntKind.wrap .i64 (((y3.1.length : Nat) : Int) - 1)).toNat))⟩)]⟩ [True, (0 ≤ (IntKind.wrap .i64 (((y3.1.length : Nat) : Int) - 1))), (0 ≤ (IntKind.wrap .i64 (((y3.1.length : Nat) : Int) - 1)).toNat ∧ (IntKind.wrap .i64 (((y3.1.length : Nat) : Int) - 1)).toNat ≤ y3.1.length), (0 = 0), ((IntKind.wrap .i64 (((y3.1.length : Nat) : Int) - 1)).toNat = (y3.1.take ((IntKind.wrap .i64 (((y3.1.length : Nat) : Int) - 1)).toNat)).length ∧ ∀ i, i < (y3.1.take ((IntKind.wrap .i64 (((y3.1.length : Nat) : Int) - 1)).toNat)).length → (encF e_RuleNode d_RuleNode y3.1) i = (encF e_RuleNode d_RuleNode (y3.1.take ((IntKind.wrap .i64 (((y3.1.length : Nat) : Int) - 1)).toNat))) i), (TellS (.c (.ref (3001, 0) ((IntKind.wrap .i64 (((y3.1.length : Nat) : Int) - 1)).toNat))) (.c (.ref (3001, 0) ((y3.1.take ((IntKind.wrap .i64 (((y3.1.length : Nat) : Int) - 1)).toNat)).length))))] (by kernel_rfl) ⟨trivial, q15, q16, rfl, (Tells.arr (Tells.take (Tells.rfl' (e := e_RuleNode) (d := d_RuleNode) (L := y3.1)) q16.2)), (TellC.ref (Tells.len (e := e_RuleNode) (d := d_RuleNode) (n := (IntKind.wrap .i64 (((y3.1.length : Nat) : Int) - 1)).toNat) (g := encF e_RuleNode d_RuleNode y3.1) (L := (y3.1.take ((IntKind.wrap .i64 (((y3.1.length : Nat) : Int) - 1)).toNat))) (Tells.take (Tells.rfl' (e := e_RuleNode) (d := d_RuleNode) (L := y3.1)) q16.2))), trivial⟩ ?_
              refine inBN ?_
              exact thenJ (y3.1.take ((IntKind.wrap .i64 (((y3.1.length : Nat) : Int) - 1)).toNat)) h (by kernel_rfl)
            · replace h := cnd_f h e14
              refine tri_tell [.keep [8] [] [(3001, 0)], .ren (3001, 0) (700001, 0)] ⟨54, [(8, .c (.ref (700001, 0) y3.1.length))], [], [((700001, 0), some ⟨false, 4, y3.1.length, encF e_RuleNode d_RuleNode y3.1⟩)]⟩ [] (by kernel_rfl) trivial ?_
              refine tri_skip ?_
              refine inBN ?_
              exact thenJ y3.1 h (by kernel_rfl)
end Go.Proofs.YtmdolfannbbipaaDoor
namespace Go.Proofs.YtmdolfannbbipaaDoor
open Go Go.RowKit Go.Ev Go.Proofs
set_option linter.unusedVariables false

set_option maxRecDepth 100000
theorem ok_ref19_part : ∀ (K : Nat) (a0 : (List T_RuleNode)) (a1 : Int) (r : (Int × Int)) (h : ref19_part K a0 a1 = some r), FnOk Tryd.prog 74 (ax_ref19_part a0 a1) (rx_ref19_part r) (px_ref19_part r) := by
  intro K
  induction K with
  | zero => intro a0 a1 r h; cases h
  | succ K hrec =>
    intro a0 a1 r h
    replace h : ref19_part_F K (ref19_part K) a0 a1 = some r := h
    generalize ref19_part K = rec_ at h hrec
    refine ⟨⟨Tryd.f74, Tryd.func74, by kernel_rfl, by kernel_rfl⟩, ?_⟩
    unfold ref19_part_F at h
    refine fn_ok env Tryd.func74 rfl ⟨116, [(0, .c (.lst 4 a0.length (encF e_RuleNode d_RuleNode a0))), (1, .c (.v (.int .i64 a1)))], [], []⟩ [] (by kernel_rfl) fun X => ?_
    refine tri_reg env [] 1 1024 [.keep [0, 1] [] []] ⟨116, [(0, .c (.lst 4 a0.length (encF e_RuleNode d_RuleNode a0))), (1, .c (.v (.int .i64 a1)))], [], []⟩ [] (by kernel_rfl) trivial ?_
    refine tri_seq ?_
    refine cnd_split h (fun e1 h => ?_) (fun e1 h => ?_)
    · refine tri_reg env [(2, .b true), (7, .b true)] 2 1024 [.keep [0, 1, 20] [] []] ⟨116, [(0, .c (.lst 4 a0.length (encF e_RuleNode d_RuleNode a0))), (1, .c (.v (.int .i64 a1))), (20, .c (.v (.bool true)))], [], []⟩ [True, ((decide (a1 < 0)) = true), ((decide (a1 < 0)) = true), ((decide (a1 < 0)) = true), ((decide (a1 < 0)) = true), ((decide (a1 < 0)) = true)] (by kernel_rfl) ⟨trivial, e1, e1, e1, e1, e1, trivial⟩ ?_
      refine tri_cond true (by kernel_rfl) (fun _ => ?_) (fun e => by cases e)
      refine tri_reg env [] 3 1024 [.keep [4, 5] [] []] ⟨116, [(4, .c (.v (.int .i64 (-1)))), (5, .c (.v (.int .i64 0)))], [], []⟩ [] (by kernel_rfl) trivial ?_
      refine tri_ret ?_
      refine thenR ?_
      rw [some_inv h]
      exact ⟨[], by kernel_rfl, trivial⟩
    · refine tri_reg env [(2, .b false), (7, .b false)] 2 1024 [.keep [0, 1, 20] [] []] ⟨116, [(0, .c (.lst 4 a0.length (encF e_RuleNode d_RuleNode a0))), (1, .c (.v (.int .i64 a1))), (20, .c (.v (.bool (decide (a1 ≥ ((a0.length : Nat) : Int))))))], [], []⟩ [True, ((decide (a1 < 0)) = false), ((decide (a1 < 0)) = false), ((decide (a1 < 0)) = false), ((decide (a1 < 0)) = false), True, ((decide (a1 < 0)) = false)] (by kernel_rfl) ⟨trivial, e1, e1, e1, e1, trivial, e1, trivial⟩ ?_
      refine tri_cond (decide (a1 ≥ ((a0.length : Nat) : Int))) (by kernel_rfl) (fun e3 => ?_) (fun e3 => ?_)
      · replace h := cnd_t h e3
        refine tri_reg env [] 3 1024 [.keep [4, 5] [] []] ⟨116, [(4, .c (.v (.int .i64 (-1)))), (5, .c (.v (.int .i64 0)))], [], []⟩ [] (by kernel_rfl) trivial ?_
        refine tri_ret ?_
        refine thenR ?_
        rw [some_inv h]
        exact ⟨[], by kernel_rfl, trivial⟩
      · replace h := cnd_f h e3
        refine tri_skip ?_
        refine thenN ?_
        obtain ⟨q4, h⟩ := ck_inv h
        refine tri_reg env [] 4 1024 [.keep [0, 1, 6] [(4004, 0)] []] ⟨116, [(0, .c (.lst 4 a0.length (encF e_RuleNode d_RuleNode a0))), (1, .c (.v (.int .i64 a1))), (6, .c (.pvar (4004, 0) 0))], [((4004, 0), (e_RuleNode (a0.getD a1.toNat d_RuleNode)))], []⟩ [(0 ≤ a1 ∧ a1 < ((a0.length : Nat) : Int))] (by kernel_rfl) ⟨q4, trivial⟩ ?_
        refine tri_seq ?_
        refine tri_reg env [] 5 1024 [.keep [0, 1, 6, 26] [(4004, 0)] []] ⟨116, [(0, .c (.lst 4 a0.length (encF e_RuleNode d_RuleNode a0))), (1, .c (.v (.int .i64 a1))), (6, .c (.pvar (4004, 0) 0)), (26, .c (.v (.int .i64 (a0.getD a1.toNat d_RuleNode).Kind)))], [((4004, 0), (e_RuleNode (a0.getD a1.toNat d_RuleNode)))], []⟩ [] (by kernel_rfl) trivial ?_
        refine tri_block ?_
        refine tri_reg env [] 6 1024 [.keep [0, 1, 6, 26, 27] [(4004, 0)] []] ⟨116, [(0, .c (.lst 4 a0.length (encF e_RuleNode d_RuleNode a0))), (1, .c (.v (.int .i64 a1))), (6, .c (.pvar (4004, 0) 0)), (26, .c (.v (.int .i64 (a0.getD a1.toNat d_RuleNode).Kind))), (27, .c (.v (.bool ((a0.getD a1.toNat d_RuleNode).Kind == 1))))], [((4004, 0), (e_RuleNode (a0.getD a1.toNat d_RuleNode)))], []⟩ [True] (by kernel_rfl) ⟨trivial, trivial⟩ ?_
        refine tri_cond ((a0.getD a1.toNat d_RuleNode).Kind == 1) (by kernel_rfl) (fun e5 => ?_) (fun e5 => ?_)
        · replace h := cnd_t h e5
          refine tri_seq ?_
          refine cnd_split h (fun e6 h => ?_) (fun e6 h => ?_)
          · refine tri_reg env [(3, .b true), (7, .b true), (8, .b true), (12, .b true), (13, .b true), (17, .b true)] 7 1024 [.keep [1, 46] [] []] ⟨116, [(1, .c (.v (.int .i64 a1))), (46, .c (.v (.bool true)))], [], []⟩ [True, ((decide ((a0.getD a1.toNat d_RuleNode).Cond < 0)) = true), ((decide ((a0.getD a1.toNat d_RuleNode).Cond < 0)) = true), ((decide ((a0.getD a1.toNat d_RuleNode).Cond < 0)) = true), ((decide ((a0.getD a1.toNat d_RuleNode).Cond < 0)) = true), (true = true), (true = true), (true = true), (true = true), (true = true), (true = true), (true = true), (true = true)] (by kernel_rfl) ⟨trivial, e6, e6, e6, e6, rfl, rfl, rfl, rfl, rfl, rfl, rfl, rfl, trivial⟩ ?_
            refine tri_cond true (by kernel_rfl) (fun _ => ?_) (fun e => by cases e)
            refine tri_reg env [] 8 1024 [.keep [4, 5] [] []] ⟨116, [(4, .c (.v (.int .i64 (-1)))), (5, .c (.v (.int .i64 0)))], [], []⟩ [] (by kernel_rfl) trivial ?_
            refine tri_ret ?_
            refine thenR ?_
            refine inBR ?_
            refine thenR ?_
            rw [some_inv h]
            exact ⟨[], by kernel_rfl, trivial⟩
          · refine cnd_split h (fun e8 h => ?_) (fun e8 h => ?_)
            · refine tri_reg env [(3, .b false), (7, .b false), (8, .b true), (12, .b true), (13, .b true), (17, .b true)] 7 1024 [.keep [1, 46] [] []] ⟨116, [(1, .c (.v (.int .i64 a1))), (46, .c (.v (.bool true)))], [], []⟩ [True, ((decide ((a0.getD a1.toNat d_RuleNode).Cond < 0)) = false), ((decide ((a0.getD a1.toNat d_RuleNode).Cond < 0)) = false), ((decide ((a0.getD a1.toNat d_RuleNode).Cond < 0)) = false), True, ((decide ((a0.getD a1.toNat d_RuleNode).Cond < 0)) = false), ((decide ((a0.getD a1.toNat d_RuleNode).Cond ≥ 64)) = true), ((decide ((a0.getD a1.toNat d_RuleNode).Cond ≥ 64)) = true), ((decide ((a0.getD a1.toNat d_RuleNode).Cond ≥ 64)) = true), ((decide ((a0.getD a1.toNat d_RuleNode).Cond ≥ 64)) = true), (true = true), (true = true), (true = true), (true = true)] (by kernel_rfl) ⟨trivial, e6, e6, e6, trivial, e6, e8, e8, e8, e8, rfl, rfl, rfl, rfl, trivial⟩ ?_
              refine tri_cond true (by kernel_rfl) (fun _ => ?_) (fun e => by cases e)
              refine tri_reg env [] 8 1024 [.keep [4, 5] [] []] ⟨116, [(4, .c (.v (.int .i64 (-1)))), (5, .c (.v (.int .i64 0)))], [], []⟩ [] (by kernel_rfl) trivial ?_
              refine tri_ret ?_
              refine thenR ?_
              refine inBR ?_
              refine thenR ?_
              rw [some_inv h]
              exact ⟨[], by kernel_rfl, trivial⟩
            · refine cnd_split h (fun e10 h => ?_) (fun e10 h => ?_)
              · refine tri_reg env [(3, .b false), (7, .b false), (8, .b false), (12, .b false), (13, .b true), (17, .b true)] 7 1024 [.keep [1, 46] [] []] ⟨116, [(1, .c (.v (.int .i64 a1))), (46, .c (.v (.bool true)))], [], []⟩ [True, ((decide ((a0.getD a1.toNat d_RuleNode).Cond < 0)) = false), ((decide ((a0.getD a1.toNat d_RuleNode).Cond < 0)) = false), ((decide ((a0.getD a1.toNat d_RuleNode).Cond < 0)) = false), True, ((decide ((a0.getD a1.toNat d_RuleNode).Cond < 0)) = false), ((decide ((a0.getD a1.toNat d_RuleNode).Cond ≥ 64)) = false), ((decide ((a0.getD a1.toNat d_RuleNode).Cond ≥ 64)) = false), ((decide ((a0.getD a1.toNat d_RuleNode).Cond ≥ 64)) = false), True, ((decide ((a0.getD a1.toNat d_RuleNode).Cond ≥ 64)) = false), (((a0.getD a1.toNat d_RuleNode).Left != 0) = true), (((a0.getD a1.toNat d_RuleNode).Left != 0) = true), (((a0.getD a1.toNat d_RuleNode).Left != 0) = true), (((a0.getD a1.toNat d_RuleNode).Left != 0) = true)] (by kernel_rfl) ⟨trivial, e6, e6, e6, trivial, e6, e8, e8, e8, trivial, e8, e10, e10, e10, e10, trivial⟩ ?_
                refine tri_cond true (by kernel_rfl) (fun _ => ?_) (fun e => by cases e)
                refine tri_reg env [] 8 1024 [.keep [4, 5] [] []] ⟨116, [(4, .c (.v (.int .i64 (-1)))), (5, .c (.v (.int .i64 0)))], [], []⟩ [] (by kernel_rfl) trivial ?_
                refine tri_ret ?_
                refine thenR ?_
                refine inBR ?_
                refine thenR ?_
                rw [some_inv h]
                exact ⟨[], by kernel_rfl, trivial⟩
              · refine tri_reg env [(3, .b false), (7, .b false), (8, .b false), (12, .b false), (13, .b false), (17, .b false)] 7 1024 [.keep [1, 46] [] []] ⟨116, [(1, .c (.v (.int .i64 a1))), (46, .c (.v (.bool ((a0.getD a1.toNat d_RuleNode).Right != 0))))], [], []⟩ [True, ((decide ((a0.getD a1.toNat d_RuleNode).Cond < 0)) = false), ((decide ((a0.getD a1.toNat d_RuleNode).Cond < 0)) = false), ((decide ((a0.getD a1.toNat d_RuleNode).Cond < 0)) = false), True, ((decide ((a0.getD a1.toNat d_RuleNode).Cond < 0)) = false), ((decide ((a0.getD a1.toNat d_RuleNode).Cond ≥ 64)) = false), ((decide ((a0.getD a1.toNat d_RuleNode).Cond ≥ 64)) = false), ((decide ((a0.getD a1.toNat d_RuleNode).Cond ≥ 64)) = false), True, ((decide ((a0.getD a1.toNat d_RuleNode).Cond ≥ 64)) = false), (((a0.getD a1.toNat d_RuleNode).Left != 0) = false), (((a0.getD a1.toNat d_RuleNode).Left != 0) = false), (((a0.getD a1.toNat d_RuleNode).Left != 0) = false), True, (((a0.getD a1.toNat d_RuleNode).Left != 0) = false)] (by kernel_rfl) ⟨trivial, e6, e6, e6, trivial, e6, e8, e8, e8, trivial, e8, e10, e10, e10, trivial, e10, trivial⟩ ?_
                refine tri_cond ((a0.getD a1.toNat d_RuleNode).Right != 0) (by kernel_rfl) (fun e12 => ?_) (fun e12 => ?_)
                · replace h := cnd_t h e12
                  refine tri_reg env [] 8 1024 [.keep [4, 5] [] []] ⟨116, [(4, .c (.v (.int .i64 (-1)))), (5, .c (.v (.int .i64 0)))], [], []⟩ [] (by kernel_rfl) trivial ?_
                  refine tri_ret ?_
                  refine thenR ?_
                  refine inBR ?_
                  refine thenR ?_
                  rw [some_inv h]
                  exact ⟨[], by kernel_rfl, trivial⟩
                · replace h := cnd_f h e12
                  refine tri_skip ?_
                  refine thenN ?_
                  refine tri_reg env [] 9 1024 [.keep [4, 5] [] []] ⟨116, [(4, .c (.v (.int .i64 a1))), (5, .c (.v (.int .i64 1)))], [], []⟩ [] (by kernel_rfl) trivial ?_
                  refine tri_ret ?_
                  refine inBR ?_
                  refine thenR ?_
                  rw [some_inv h]
                  exact ⟨[], by kernel_rfl, trivial⟩
        · replace h := cnd_f h e5
          refine tri_reg env [] 10 1024 [.keep [0, 1, 6, 26, 48] [(4004, 0)] []] ⟨116, [(0, .c (.lst 4 a0.length (encF e_RuleNode d_RuleNode a0))), (1, .c (.v (.int .i64 a1))), (6, .c (.pvar (4004, 0) 0)), (26, .c (.v (.int .i64 (a0.getD a1.toNat d_RuleNode).Kind))), (48, .c (.v (.bool ((a0.getD a1.toNat d_RuleNode).Kind == 2))))], [((4004, 0), (e_RuleNode (a0.getD a1.toNat d_RuleNode)))], []⟩ [True] (by kernel_rfl) ⟨trivial, trivial⟩ ?_
          refine tri_cond ((a0.getD a1.toNat d_RuleNode).Kind == 2) (by kernel_rfl) (fun e13 => ?_) (fun e13 => ?_)
          · replace h := cnd_t h e13
            refine tri_seq ?_
            refine cnd_split h (fun e14 h => ?_) (fun e14 h => ?_)
            · refine tri_reg env [(3, .b true), (7, .b true), (8, .b true), (14, .b true)] 11 1024 [.keep [0, 1, 64] [] []] ⟨116, [(0, .c (.lst 4 a0.length (encF e_RuleNode d_RuleNode a0))), (1, .c (.v (.int .i64 a1))), (64, .c (.v (.bool true)))], [], []⟩ [True, (((a0.getD a1.toNat d_RuleNode).Cond != 0) = true), (((a0.getD a1.toNat d_RuleNode).Cond != 0) = true), (((a0.getD a1.toNat d_RuleNode).Cond != 0) = true), (((a0.getD a1.toNat d_RuleNode).Cond != 0) = true), (true = true), (true = true), (true = true), (true = true), (true = true), (true = true)] (by kernel_rfl) ⟨trivial, e14, e14, e14, e14, rfl, rfl, rfl, rfl, rfl, rfl, trivial⟩ ?_
              refine tri_cond true (by kernel_rfl) (fun _ => ?_) (fun e => by cases e)
              refine tri_reg env [] 12 1024 [.keep [4, 5] [] []] ⟨116, [(4, .c (.v (.int .i64 (-1)))), (5, .c (.v (.int .i64 0)))], [], []⟩ [] (by kernel_rfl) trivial ?_
              refine tri_ret ?_
              refine thenR ?_
              refine inBR ?_
              refine thenR ?_
              rw [some_inv h]
              exact ⟨[], by kernel_rfl, trivial⟩
            · refine cnd_split h (fun e16 h => ?_) (fun e16 h => ?_)
              · refine tri_reg env [(3, .b false), (7, .b false), (8, .b true), (14, .b true)] 11 1024 [.keep [0, 1, 64] [] []] ⟨116, [(0, .c (.lst 4 a0.length (encF e_RuleNode d_RuleNode a0))), (1, .c (.v (.int .i64 a1))), (64, .c (.v (.bool true)))], [], []⟩ [True, (((a0.getD a1.toNat d_RuleNode).Cond != 0) = false), (((a0.getD a1.toNat d_RuleNode).Cond != 0) = false), (((a0.getD a1.toNat d_RuleNode).Cond != 0) = false), True, (((a0.getD a1.toNat d_RuleNode).Cond != 0) = false), (((a0.getD a1.toNat d_RuleNode).Right != 0) = true), (((a0.getD a1.toNat d_RuleNode).Right != 0) = true), (((a0.getD a1.toNat d_RuleNode).Right != 0) = true), (((a0.getD a1.toNat d_RuleNode).Right != 0) = true), (((a0.getD a1.toNat d_RuleNode).Right != 0) = true), (((a0.getD a1.toNat d_RuleNode).Right != 0) = true)] (by kernel_rfl) ⟨trivial, e14, e14, e14, trivial, e14, e16, e16, e16, e16, e16, e16, trivial⟩ ?_
                refine tri_cond true (by kernel_rfl) (fun _ => ?_) (fun e => by cases e)
                refine tri_reg env [] 12 1024 [.keep [4, 5] [] []] ⟨116, [(4, .c (.v (.int .i64 (-1)))), (5, .c (.v (.int .i64 0)))], [], []⟩ [] (by kernel_rfl) trivial ?_
                refine tri_ret ?_
                refine thenR ?_
                refine inBR ?_
                refine thenR ?_
                rw [some_inv h]
                exact ⟨[], by kernel_rfl, trivial⟩
              · refine tri_reg env [(3, .b false), (7, .b false), (8, .b false), (14, .b false)] 11 1024 [.keep [0, 1, 64] [] []] ⟨116, [(0, .c (.lst 4 a0.length (encF e_RuleNode d_RuleNode a0))), (1, .c (.v (.int .i64 a1))), (64, .c (.v (.bool ((a0.getD a1.toNat d_RuleNode).Left != (IntKind.wrap .i64 (a1 - 1))))))], [], []⟩ [True, (((a0.getD a1.toNat d_RuleNode).Cond != 0) = false), (((a0.getD a1.toNat d_RuleNode).Cond != 0) = false), (((a0.getD a1.toNat d_RuleNode).Cond != 0) = false), True, (((a0.getD a1.toNat d_RuleNode).Cond != 0) = false), (((a0.getD a1.toNat d_RuleNode).Right != 0) = false), (((a0.getD a1.toNat d_RuleNode).Right != 0) = false), (((a0.getD a1.toNat d_RuleNode).Right != 0) = false), (((a0.getD a1.toNat d_RuleNode).Right != 0) = false), True, (((a0.getD a1.toNat d_RuleNode).Right != 0) = false), True, (((a0.getD a1.toNat d_RuleNode).Right != 0) = false)] (by kernel_rfl) ⟨trivial, e14, e14, e14, trivial, e14, e16, e16, e16, e16, trivial, e16, trivial, e16, trivial⟩ ?_
                refine tri_cond ((a0.getD a1.toNat d_RuleNode).Left != (IntKind.wrap .i64 (a1 - 1))) (by kernel_rfl) (fun e18 => ?_) (fun e18 => ?_)
                · replace h := cnd_t h e18
                  refine tri_reg env [] 12 1024 [.keep [4, 5] [] []] ⟨116, [(4, .c (.v (.int .i64 (-1)))), (5, .c (.v (.int .i64 0)))], [], []⟩ [] (by kernel_rfl) trivial ?_
                  refine tri_ret ?_
                  refine thenR ?_
                  refine inBR ?_
                  refine thenR ?_
                  rw [some_inv h]
                  exact ⟨[], by kernel_rfl, trivial⟩
                · replace h := cnd_f h e18
                  refine tri_skip ?_
                  refine thenN ?_
                  obtain ⟨y19, c20, h⟩ := bnd_inv h
                  refine tri_reg env [(3, .call ⟨(ax_ref19_part a0 (IntKind.wrap .i64 (a1 - 1))), [false, false], rx_ref19_part y19, px_ref19_part y19, true⟩)] 13 1024 [.keep [7, 8] [] []] ⟨116, [(7, .c (.v (.int .i64 y19.1))), (8, .c (.v (.int .i64 y19.2)))], [], []⟩ [True, (EqXs (ax_ref19_part a0 (IntKind.wrap .i64 (a1 - 1))) (ax_ref19_part a0 (IntKind.wrap .i64 (a1 - 1)))), (FnOk Tryd.prog 74 (ax_ref19_part a0 (IntKind.wrap .i64 (a1 - 1))) (rx_ref19_part y19) (px_ref19_part y19))] (by kernel_rfl) ⟨trivial, (eqs (eqr _) (eqs (eqr _) eqs0)), (hrec a0 (IntKind.wrap .i64 (a1 - 1)) y19 c20), trivial⟩ ?_
                  refine tri_reg env [] 14 1024 [.keep [4, 5] [] []] ⟨116, [(4, .c (.v (.int .i64 y19.1))), (5, .c (.v (.int .i64 (IntKind.wrap .i64 (y19.2 + 1)))))], [], []⟩ [True] (by kernel_rfl) ⟨trivial, trivial⟩ ?_
                  refine tri_ret ?_
                  refine inBR ?_
                  refine thenR ?_
                  rw [some_inv h]
                  exact ⟨[], by kernel_rfl, trivial⟩
          · replace h := cnd_f h e13
            refine tri_joinC (fun (v1 : Bool) => ⟨116, [(0, .c (.lst 4 a0.length (encF e_RuleNode d_RuleNode a0))), (1, .c (.v (.int .i64 a1))), (6, .c (.pvar (4004, 0) 0)), (75, .c (.v (.bool v1)))], [((4004, 0), (e_RuleNode (a0.getD a1.toNat d_RuleNode)))], []⟩) h (fun v1 h => ?_) (fun j1 h => ?_)
            · refine tri_cond v1 (by kernel_rfl) (fun e21 => ?_) (fun e21 => ?_)
              · replace h := cnd_t h e21
                refine tri_seq ?_
                refine cnd_split h (fun e22 h => ?_) (fun e22 h => ?_)
                · refine tri_reg env [(3, .b true), (9, .b true)] 17 1024 [.keep [0, 1, 6, 87] [(4004, 0)] []] ⟨116, [(0, .c (.lst 4 a0.length (encF e_RuleNode d_RuleNode a0))), (1, .c (.v (.int .i64 a1))), (6, .c (.pvar (4004, 0) 0)), (87, .c (.v (.bool true)))], [((4004, 0), (e_RuleNode (a0.getD a1.toNat d_RuleNode)))], []⟩ [True, (((a0.getD a1.toNat d_RuleNode).Cond != 0) = true), (((a0.getD a1.toNat d_RuleNode).Cond != 0) = true), (((a0.getD a1.toNat d_RuleNode).Cond != 0) = true), (((a0.getD a1.toNat d_RuleNode).Cond != 0) = true), (((a0.getD a1.toNat d_RuleNode).Cond != 0) = true), (((a0.getD a1.toNat d_RuleNode).Cond != 0) = true)] (by kernel_rfl) ⟨trivial, e22, e22, e22, e22, e22, e22, trivial⟩ ?_
                  refine tri_cond true (by kernel_rfl) (fun _ => ?_) (fun e => by cases e)
                  refine tri_reg env [] 18 1024 [.keep [4, 5] [] []] ⟨116, [(4, .c (.v (.int .i64 (-1)))), (5, .c (.v (.int .i64 0)))], [], []⟩ [] (by kernel_rfl) trivial ?_
                  refine tri_ret ?_
                  refine thenR ?_
                  refine inBR ?_
                  refine thenR ?_
                  rw [some_inv h]
                  exact ⟨[], by kernel_rfl, trivial⟩
                · refine tri_reg env [(3, .b false), (9, .b false)] 17 1024 [.keep [0, 1, 6, 87] [(4004, 0)] []] ⟨116, [(0, .c (.lst 4 a0.length (encF e_RuleNode d_RuleNode a0))), (1, .c (.v (.int .i64 a1))), (6, .c (.pvar (4004, 0) 0)), (87, .c (.v (.bool ((a0.getD a1.toNat d_RuleNode).Right != (IntKind.wrap .i64 (a1 - 1))))))], [((4004, 0), (e_RuleNode (a0.getD a1.toNat d_RuleNode)))], []⟩ [True, (((a0.getD a1.toNat d_RuleNode).Cond != 0) = false), (((a0.getD a1.toNat d_RuleNode).Cond != 0) = false), (((a0.getD a1.toNat d_RuleNode).Cond != 0) = false), (((a0.getD a1.toNat d_RuleNode).Cond != 0) = false), True, (((a0.getD a1.toNat d_RuleNode).Cond != 0) = false), True, (((a0.getD a1.toNat d_RuleNode).Cond != 0) = false)] (by kernel_rfl) ⟨trivial, e22, e22, e22, e22, trivial, e22, trivial, e22, trivial⟩ ?_
                  refine tri_cond ((a0.getD a1.toNat d_RuleNode).Right != (IntKind.wrap .i64 (a1 - 1))) (by kernel_rfl) (fun e24 => ?_) (fun e24 => ?_)
                  · replace h := cnd_t h e24
                    refine tri_reg env [] 18 1024 [.keep [4, 5] [] []] ⟨116, [(4, .c (.v (.int .i64 (-1)))), (5, .c (.v (.int .i64 0)))], [], []⟩ [] (by kernel_rfl) trivial ?_
                    refine tri_ret ?_
                    refine thenR ?_
                    refine inBR ?_
                    refine thenR ?_
                    rw [some_inv h]
                    exact ⟨[], by kernel_rfl, trivial⟩
                  · replace h := cnd_f h e24
                    refine tri_skip ?_
                    refine thenN ?_
                    obtain ⟨y25, c26, h⟩ := bnd_inv h
                    refine tri_reg env [(3, .call ⟨(ax_ref19_part a0 (IntKind.wrap .i64 (a1 - 1))), [false, false], rx_ref19_part y25, px_ref19_part y25, true⟩)] 19 1024 [.keep [0, 6, 9, 10] [(4004, 0)] []] ⟨116, [(0, .c (.lst 4 a0.length (encF e_RuleNode d_RuleNode a0))), (6, .c (.pvar (4004, 0) 0)), (9, .c (.v (.int .i64 y25.1))), (10, .c (.v (.int .i64 y25.2)))], [((4004, 0), (e_RuleNode (a0.getD a1.toNat d_RuleNode)))], []⟩ [True, (EqXs (ax_ref19_part a0 (IntKind.wrap .i64 (a1 - 1))) (ax_ref19_part a0 (IntKind.wrap .i64 (a1 - 1)))), (FnOk Tryd.prog 74 (ax_ref19_part a0 (IntKind.wrap .i64 (a1 - 1))) (rx_ref19_part y25) (px_ref19_part y25))] (by kernel_rfl) ⟨trivial, (eqs (eqr _) (eqs (eqr _) eqs0)), (hrec a0 (IntKind.wrap .i64 (a1 - 1)) y25 c26), trivial⟩ ?_
                    refine tri_seq ?_
                    refine cnd_split h (fun e27 h => ?_) (fun e27 h => ?_)
                    · refine tri_reg env [(2, .b true), (8, .b true)] 20 1024 [.keep [0, 9, 10, 103] [] []] ⟨116, [(0, .c (.lst 4 a0.length (encF e_RuleNode d_RuleNode a0))), (9, .c (.v (.int .i64 y25.1))), (10, .c (.v (.int .i64 y25.2))), (103, .c (.v (.bool true)))], [], []⟩ [True, ((decide (y25.1 < 1)) = true), ((decide (y25.1 < 1)) = true), ((decide (y25.1 < 1)) = true), ((decide (y25.1 < 1)) = true), ((decide (y25.1 < 1)) = true), ((decide (y25.1 < 1)) = true)] (by kernel_rfl) ⟨trivial, e27, e27, e27, e27, e27, e27, trivial⟩ ?_
                      refine tri_cond true (by kernel_rfl) (fun _ => ?_) (fun e => by cases e)
                      refine tri_reg env [] 21 1024 [.keep [4, 5] [] []] ⟨116, [(4, .c (.v (.int .i64 (-1)))), (5, .c (.v (.int .i64 0)))], [], []⟩ [] (by kernel_rfl) trivial ?_
                      refine tri_ret ?_
                      refine thenR ?_
                      refine inBR ?_
                      refine thenR ?_
                      rw [some_inv h]
                      exact ⟨[], by kernel_rfl, trivial⟩
                    · refine tri_reg env [(2, .b false), (8, .b false)] 20 1024 [.keep [0, 9, 10, 103] [] []] ⟨116, [(0, .c (.lst 4 a0.length (encF e_RuleNode d_RuleNode a0))), (9, .c (.v (.int .i64 y25.1))), (10, .c (.v (.int .i64 y25.2))), (103, .c (.v (.bool ((a0.getD a1.toNat d_RuleNode).Left != (IntKind.wrap .i64 (y25.1 - 1))))))], [], []⟩ [True, ((decide (y25.1 < 1)) = false), ((decide (y25.1 < 1)) = false), ((decide (y25.1 < 1)) = false), ((decide (y25.1 < 1)) = false), True, ((decide (y25.1 < 1)) = false), True, ((decide (y25.1 < 1)) = false)] (by kernel_rfl) ⟨trivial, e27, e27, e27, e27, trivial, e27, trivial, e27, trivial⟩ ?_
                      refine tri_cond ((a0.getD a1.toNat d_RuleNode).Left != (IntKind.wrap .i64 (y25.1 - 1))) (by kernel_rfl) (fun e29 => ?_) (fun e29 => ?_)
                      · replace h := cnd_t h e29
                        refine tri_reg env [] 21 1024 [.keep [4, 5] [] []] ⟨116, [(4, .c (.v (.int .i64 (-1)))), (5, .c (.v (.int .i64 0)))], [], []⟩ [] (by kernel_rfl) trivial ?_
                        refine tri_ret ?_
                        refine thenR ?_
                        refine inBR ?_
                        refine thenR ?_
                        rw [some_inv h]
                        exact ⟨[], by kernel_rfl, trivial⟩
                      · replace h := cnd_f h e29
                        refine tri_skip ?_
                        refine thenN ?_
                        obtain ⟨y30, c31, h⟩ := bnd_inv h
                        refine tri_reg env [(3, .call ⟨(ax_ref19_part a0 (IntKind.wrap .i64 (y25.1 - 1))), [false, false], rx_ref19_part y30, px_ref19_part y30, true⟩)] 22 1024 [.keep [10, 11, 12] [] []] ⟨116, [(10, .c (.v (.int .i64 y25.2))), (11, .c (.v (.int .i64 y30.1))), (12, .c (.v (.int .i64 y30.2)))], [], []⟩ [True, (EqXs (ax_ref19_part a0 (IntKind.wrap .i64 (y25.1 - 1))) (ax_ref19_part a0 (IntKind.wrap .i64 (y25.1 - 1)))), (FnOk Tryd.prog 74 (ax_ref19_part a0 (IntKind.wrap .i64 (y25.1 - 1))) (rx_ref19_part y30) (px_ref19_part y30))] (by kernel_rfl) ⟨trivial, (eqs (eqr _) (eqs (eqr _) eqs0)), (hrec a0 (IntKind.wrap .i64 (y25.1 - 1)) y30 c31), trivial⟩ ?_
                        refine tri_reg env [] 23 1024 [.keep [4, 5] [] []] ⟨116, [(4, .c (.v (.int .i64 y30.1))), (5, .c (.v (.int .i64 (IntKind.wrap .i64 ((if y30.2 < y25.2 then y25.2 else y30.2) + 1)))))], [], []⟩ [True] (by kernel_rfl) ⟨trivial, trivial⟩ ?_
                        refine tri_ret ?_
                        refine inBR ?_
                        refine thenR ?_
                        rw [some_inv h]
                        exact ⟨[], by kernel_rfl, trivial⟩
              · replace h := cnd_f h e21
                refine tri_skip ?_
                refine inBN ?_
                refine thenN ?_
                refine tri_reg env [] 24 1024 [.keep [4, 5] [] []] ⟨116, [(4, .c (.v (.int .i64 (-1)))), (5, .c (.v (.int .i64 0)))], [], []⟩ [] (by kernel_rfl) trivial ?_
                refine tri_ret ?_
                rw [some_inv h]
                exact ⟨[], by kernel_rfl, trivial⟩
            · refine tri_reg env [] 15 1024 [.keep [0, 1, 6, 26, 75] [(4004, 0)] []] ⟨116, [(0, .c (.lst 4 a0.length (encF e_RuleNode d_RuleNode a0))), (1, .c (.v (.int .i64 a1))), (6, .c (.pvar (4004, 0) 0)), (26, .c (.v (.int .i64 (a0.getD a1.toNat d_RuleNode).Kind))), (75, .c (.v (.bool ((a0.getD a1.toNat d_RuleNode).Kind == 3))))], [((4004, 0), (e_RuleNode (a0.getD a1.toNat d_RuleNode)))], []⟩ [True] (by kernel_rfl) ⟨trivial, trivial⟩ ?_
              refine tri_cond ((a0.getD a1.toNat d_RuleNode).Kind == 3) (by kernel_rfl) (fun e32 => ?_) (fun e32 => ?_)
              · replace h := cnd_t h e32
                refine tri_tell [.keep [0, 1, 6, 75] [(4004, 0)] []] ⟨116, [(0, .c (.lst 4 a0.length (encF e_RuleNode d_RuleNode a0))), (1, .c (.v (.int .i64 a1))), (6, .c (.pvar (4004, 0) 0)), (75, .c (.v (.bool ((a0.getD a1.toNat d_RuleNode).Kind == 3))))], [((4004, 0), (e_RuleNode (a0.getD a1.toNat d_RuleNode)))], []⟩ [] (by kernel_rfl) trivial ?_
                refine tri_skip ?_
                exact thenJ ((a0.getD a1.toNat d_RuleNode).Kind == 3) h (by kernel_rfl)
              · replace h := cnd_f h e32
                refine tri_reg_end env [] 16 1024 [.keep [0, 1, 6, 75] [(4004, 0)] []] ⟨116, [(0, .c (.lst 4 a0.length (encF e_RuleNode d_RuleNode a0))), (1, .c (.v (.int .i64 a1))), (6, .c (.pvar (4004, 0) 0)), (75, .c (.v (.bool ((a0.getD a1.toNat d_RuleNode).Kind == 4))))], [((4004, 0), (e_RuleNode (a0.getD a1.toNat d_RuleNode)))], []⟩ [True] (by kernel_rfl) ⟨trivial, trivial⟩ ?_
                exact thenJ ((a0.getD a1.toNat d_RuleNode).Kind == 4) h (by kernel_rfl)
end Go.Proofs.YtmdolfannbbipaaDoor
namespace Go.Proofs.YtmdolfannbbipaaDoor
open Go Go.RowKit Go.Ev Go.Proofs
set_option linter.unusedVariables false

set_option maxRecDepth 100000
theorem ok_ref19_Right (K : Nat) (a0 : (List T_RuleNode)) (r : Bool) (h : ref19_Right K a0 = some r) : FnOk Tryd.prog 48 (ax_ref19_Right a0) (rx_ref19_Right r) (px_ref19_Right r) := by
  refine ⟨⟨Tryd.f48, Tryd.func48, by kernel_rfl, by kernel_rfl⟩, ?_⟩
  unfold ref19_Right at h
  refine fn_ok env Tryd.func48 rfl ⟨27, [(0, .c (.lst 4 a0.length (encF e_RuleNode d_RuleNode a0)))], [], []⟩ [] (by kernel_rfl) fun X => ?_
  refine tri_reg env [] 1 1024 [.keep [0] [] []] ⟨27, [(0, .c (.lst 4 a0.length (encF e_RuleNode d_RuleNode a0)))], [], []⟩ [] (by kernel_rfl) trivial ?_
  refine tri_seq ?_
  refine cnd_split h (fun e1 h => ?_) (fun e1 h => ?_)
  · refine tri_reg env [(3, .b true), (7, .b true)] 2 1024 [.keep [0, 12] [] []] ⟨27, [(0, .c (.lst 4 a0.length (encF e_RuleNode d_RuleNode a0))), (12, .c (.v (.bool true)))], [], []⟩ [True, ((decide (((a0.length : Nat) : Int) < 1)) = true), ((decide (((a0.length : Nat) : Int) < 1)) = true), ((decide (((a0.length : Nat) : Int) < 1)) = true), ((decide (((a0.length : Nat) : Int) < 1)) = true)] (by kernel_rfl) ⟨trivial, e1, e1, e1, e1, trivial⟩ ?_
    refine tri_cond true (by kernel_rfl) (fun _ => ?_) (fun e => by cases e)
    refine tri_reg env [] 3 1024 [.keep [2] [] []] ⟨27, [(2, .c (.v (.bool false)))], [], []⟩ [] (by kernel_rfl) trivial ?_
    refine tri_ret ?_
    refine thenR ?_
    rw [some_inv h]
    exact ⟨[], by kernel_rfl, trivial⟩
  · refine tri_reg env [(3, .b false), (7, .b false)] 2 1024 [.keep [0, 12] [] []] ⟨27, [(0, .c (.lst 4 a0.length (encF e_RuleNode d_RuleNode a0))), (12, .c (.v (.bool (decide (((a0.length : Nat) : Int) > 64)))))], [], []⟩ [True, ((decide (((a0.length : Nat) : Int) < 1)) = false), ((decide (((a0.length : Nat) : Int) < 1)) = false), ((decide (((a0.length : Nat) : Int) < 1)) = false), True, ((decide (((a0.length : Nat) : Int) < 1)) = false)] (by kernel_rfl) ⟨trivial, e1, e1, e1, trivial, e1, trivial⟩ ?_
    refine tri_cond (decide (((a0.length : Nat) : Int) > 64)) (by kernel_rfl) (fun e3 => ?_) (fun e3 => ?_)
    · replace h := cnd_t h e3
      refine tri_reg env [] 3 1024 [.keep [2] [] []] ⟨27, [(2, .c (.v (.bool false)))], [], []⟩ [] (by kernel_rfl) trivial ?_
      refine tri_ret ?_
      refine thenR ?_
      rw [some_inv h]
      exact ⟨[], by kernel_rfl, trivial⟩
    · replace h := cnd_f h e3
      refine tri_skip ?_
      refine thenN ?_
      obtain ⟨y4, c5, h⟩ := bnd_inv h
      refine tri_reg env [(4, .call ⟨(ax_ref19_part a0 (IntKind.wrap .i64 (((a0.length : Nat) : Int) - 1))), [false, false], rx_ref19_part y4, px_ref19_part y4, true⟩)] 4 1024 [.keep [3, 4] [] []] ⟨27, [(3, .c (.v (.int .i64 y4.1))), (4, .c (.v (.int .i64 y4.2)))], [], []⟩ [True, (EqXs (ax_ref19_part a0 (IntKind.wrap .i64 (((a0.length : Nat) : Int) - 1))) (ax_ref19_part a0 (IntKind.wrap .i64 (((a0.length : Nat) : Int) - 1)))), (FnOk Tryd.prog 74 (ax_ref19_part a0 (IntKind.wrap .i64 (((a0.length : Nat) : Int) - 1))) (rx_ref19_part y4) (px_ref19_part y4))] (by kernel_rfl) ⟨trivial, (eqs (eqr _) (eqs (eqr _) eqs0)), (ok_ref19_part K a0 (IntKind.wrap .i64 (((a0.length : Nat) : Int) - 1)) y4 c5), trivial⟩ ?_
      refine cnd_split h (fun e6 h => ?_) (fun e6 h => ?_)
      · refine tri_reg env [(2, .b true), (5, .b true)] 5 1024 [.keep [2] [] []] ⟨27, [(2, .c (.v (.bool (decide (y4.2 ≤ 16)))))], [], []⟩ [True, ((y4.1 == 0) = true), ((y4.1 == 0) = true), True, ((y4.1 == 0) = true)] (by kernel_rfl) ⟨trivial, e6, e6, trivial, e6, trivial⟩ ?_
        refine tri_ret ?_
        rw [some_inv h]
        exact ⟨[], by kernel_rfl, trivial⟩
      · refine tri_reg env [(2, .b false), (5, .b false)] 5 1024 [.keep [2] [] []] ⟨27, [(2, .c (.v (.bool false)))], [], []⟩ [True, ((y4.1 == 0) = false), ((y4.1 == 0) = false), ((y4.1 == 0) = false)] (by kernel_rfl) ⟨trivial, e6, e6, e6, trivial⟩ ?_
        refine tri_ret ?_
        rw [some_inv h]
        exact ⟨[], by kernel_rfl, trivial⟩
end Go.Proofs.YtmdolfannbbipaaDoor
namespace Go.Proofs.YtmdolfannbbipaaDoor
open Go Go.RowKit Go.Ev Go.Proofs
set_option linter.unusedVariables false

set_option maxRecDepth 100000
theorem ok_ref19_Check (K : Nat) (a0 : (List T_RuleNode)) (a1 : Int) (r : Int) (h : ref19_Check K a0 a1 = some r) : FnOk Tryd.prog 17 (ax_ref19_Check a0 a1) (rx_ref19_Check r) (px_ref19_Check r) := by
  refine ⟨⟨Tryd.f17, Tryd.func17, by kernel_rfl, by kernel_rfl⟩, ?_⟩
  unfold ref19_Check at h
  refine fn_ok env Tryd.func17 rfl ⟨30, [(0, .c (.lst 4 a0.length (encF e_RuleNode d_RuleNode a0))), (1, .c (.v (.int .i64 a1)))], [], []⟩ [] (by kernel_rfl) fun X => ?_
  refine tri_reg env [] 1 1024 [.keep [0, 1] [] []] ⟨30, [(0, .c (.lst 4 a0.length (encF e_RuleNode d_RuleNode a0))), (1, .c (.v (.int .i64 a1)))], [], []⟩ [] (by kernel_rfl) trivial ?_
  refine tri_seq ?_
  obtain ⟨y1, c2, h⟩ := bnd_inv h
  refine tri_reg env [(1, .call ⟨(ax_ref19_Right a0), [false], rx_ref19_Right y1, px_ref19_Right y1, true⟩)] 2 1024 [.keep [0, 1, 8] [] []] ⟨30, [(0, .c (.lst 4 a0.length (encF e_RuleNode d_RuleNode a0))), (1, .c (.v (.int .i64 a1))), (8, .c (.v (.bool (!y1))))], [], []⟩ [(EqXs (ax_ref19_Right a0) (ax_ref19_Right a0)), (FnOk Tryd.prog 48 (ax_ref19_Right a0) (rx_ref19_Right y1) (px_ref19_Right y1))] (by kernel_rfl) ⟨(eqs (eqr _) eqs0), (ok_ref19_Right K a0 y1 c2), trivial⟩ ?_
  refine tri_cond (!y1) (by kernel_rfl) (fun e3 => ?_) (fun e3 => ?_)
  · replace h := cnd_t h e3
    refine tri_reg env [] 3 1024 [.keep [4] [] []] ⟨30, [(4, .c (.v (.int .i64 18)))], [], []⟩ [] (by kernel_rfl) trivial ?_
    refine tri_ret ?_
    refine thenR ?_
    rw [some_inv h]
    exact ⟨[], by kernel_rfl, trivial⟩
  · replace h := cnd_f h e3
    refine tri_skip ?_
    refine thenN ?_
    refine tri_joinC (fun (v3 : Unit) => ⟨30, [], [], []⟩) h (fun v3 h => ?_) (fun j3 h => ?_)
    · refine tri_reg env [] 9 1024 [.keep [4] [] []] ⟨30, [(4, .c (.v (.int .i64 0)))], [], []⟩ [] (by kernel_rfl) trivial ?_
      refine tri_ret ?_
      rw [some_inv h]
      exact ⟨[], by kernel_rfl, trivial⟩
    · refine tri_reg env [] 4 1024 [.keep [0, 1, 5] [] []] ⟨30, [(0, .c (.lst 4 a0.length (encF e_RuleNode d_RuleNode a0))), (1, .c (.v (.int .i64 a1))), (5, .c (.v (.int .i64 0)))], [], []⟩ [] (by kernel_rfl) trivial ?_
      refine tri_block ?_
      refine tri_loopK (fun (v1 : Int) => ⟨30, [(0, .c (.lst 4 a0.length (encF e_RuleNode d_RuleNode a0))), (1, .c (.v (.int .i64 a1))), (5, .c (.v (.int .i64 v1)))], [], []⟩) (v := 0) h (fun self1 v1 h => ?_) (by kernel_rfl)
      unfold ref19_Check_b1 at h
      refine tri_seq ?_
      refine tri_reg env [] 5 1024 [.keep [0, 1, 5, 12] [] []] ⟨30, [(0, .c (.lst 4 a0.length (encF e_RuleNode d_RuleNode a0))), (1, .c (.v (.int .i64 a1))), (5, .c (.v (.int .i64 v1))), (12, .c (.v (.bool (decide (v1 < ((a0.length : Nat) : Int))))))], [], []⟩ [True] (by kernel_rfl) ⟨trivial, trivial⟩ ?_
      refine tri_cond (decide (v1 < ((a0.length : Nat) : Int))) (by kernel_rfl) (fun e4 => ?_) (fun e4 => ?_)
      · replace h := cnd_t h e4
        refine tri_skip ?_
        refine thenN ?_
        refine tri_joinC (fun (v2 : Unit) => ⟨30, [(0, .c (.lst 4 a0.length (encF e_RuleNode d_RuleNode a0))), (1, .c (.v (.int .i64 a1))), (5, .c (.v (.int .i64 v1)))], [], []⟩) h (fun v2 h => ?_) (fun j2 h => ?_)
        · refine tri_reg_end env [] 6 1024 [.keep [0, 1, 5] [] []] ⟨30, [(0, .c (.lst 4 a0.length (encF e_RuleNode d_RuleNode a0))), (1, .c (.v (.int .i64 a1))), (5, .c (.v (.int .i64 (IntKind.wrap .i64 (v1 + 1)))))], [], []⟩ [True] (by kernel_rfl) ⟨trivial, trivial⟩ ?_
          exact thenJ (IntKind.wrap .i64 (v1 + 1)) h (by kernel_rfl)
        · refine tri_block ?_
          obtain ⟨q5, h⟩ := ck_inv h
          refine cnd_split h (fun e6 h => ?_) (fun e6 h => ?_)
          · refine tri_reg env [(6, .b true), (14, .b true)] 7 1024 [.keep [0, 1, 5, 29] [] []] ⟨30, [(0, .c (.lst 4 a0.length (encF e_RuleNode d_RuleNode a0))), (1, .c (.v (.int .i64 a1))), (5, .c (.v (.int .i64 v1))), (29, .c (.v (.bool (decide ((a0.getD v1.toNat d_RuleNode).Cond ≥ a1)))))], [], []⟩ [(0 ≤ v1 ∧ v1 < ((a0.length : Nat) : Int)), True, (((a0.getD v1.toNat d_RuleNode).Kind == 1) = true), (((a0.getD v1.toNat d_RuleNode).Kind == 1) = true), (((a0.getD v1.toNat d_RuleNode).Kind == 1) = true), (0 ≤ v1 ∧ v1 < ((a0.length : Nat) : Int)), (((a0.getD v1.toNat d_RuleNode).Kind == 1) = true), (((a0.getD v1.toNat d_RuleNode).Kind == 1) = true), (((a0.getD v1.toNat d_RuleNode).Kind == 1) = true), (((a0.getD v1.toNat d_RuleNode).Kind == 1) = true), True, (((a0.getD v1.toNat d_RuleNode).Kind == 1) = true)] (by kernel_rfl) ⟨q5, trivial, e6, e6, e6, q5, e6, e6, e6, e6, trivial, e6, trivial⟩ ?_
            refine tri_cond (decide ((a0.getD v1.toNat d_RuleNode).Cond ≥ a1)) (by kernel_rfl) (fun e7 => ?_) (fun e7 => ?_)
            · replace h := cnd_t h e7
              refine tri_reg env [] 8 1024 [.keep [4] [] []] ⟨30, [(4, .c (.v (.int .i64 1)))], [], []⟩ [] (by kernel_rfl) trivial ?_
              refine tri_ret ?_
              refine inBR ?_
              refine thenR ?_
              refine thenR ?_
              refine inBR ?_
              refine thenR ?_
              rw [some_inv h]
              exact ⟨[], by kernel_rfl, trivial⟩
            · replace h := cnd_f h e7
              refine tri_tell [.keep [0, 1, 5] [] []] ⟨30, [(0, .c (.lst 4 a0.length (encF e_RuleNode d_RuleNode a0))), (1, .c (.v (.int .i64 a1))), (5, .c (.v (.int .i64 v1)))], [], []⟩ [] (by kernel_rfl) trivial ?_
              refine tri_skip ?_
              refine inBN ?_
              exact thenJ () h (by kernel_rfl)
          · refine tri_reg env [(6, .b false), (14, .b false)] 7 1024 [.keep [0, 1, 5, 29] [] []] ⟨30, [(0, .c (.lst 4 a0.length (encF e_RuleNode d_RuleNode a0))), (1, .c (.v (.int .i64 a1))), (5, .c (.v (.int .i64 v1))), (29, .c (.v (.bool false)))], [], []⟩ [(0 ≤ v1 ∧ v1 < ((a0.length : Nat) : Int)), True, (((a0.getD v1.toNat d_RuleNode).Kind == 1) = false), (((a0.getD v1.toNat d_RuleNode).Kind == 1) = false), (((a0.getD v1.toNat d_RuleNode).Kind == 1) = false), (((a0.getD v1.toNat d_RuleNode).Kind == 1) = false), (((a0.getD v1.toNat d_RuleNode).Kind == 1) = false), (((a0.getD v1.toNat d_RuleNode).Kind == 1) = false), (((a0.getD v1.toNat d_RuleNode).Kind == 1) = false), (((a0.getD v1.toNat d_RuleNode).Kind == 1) = false)] (by kernel_rfl) ⟨q5, trivial, e6, e6, e6, e6, e6, e6, e6, e6, trivial⟩ ?_
            refine tri_cond false (by kernel_rfl) (fun e => by cases e) (fun _ => ?_)
            refine tri_tell [.keep [0, 1, 5] [] []] ⟨30, [(0, .c (.lst 4 a0.length (encF e_RuleNode d_RuleNode a0))), (1, .c (.v (.int .i64 a1))), (5, .c (.v (.int .i64 v1)))], [], []⟩ [] (by kernel_rfl) trivial ?_
            refine tri_skip ?_
            refine inBN ?_
            exact thenJ () h (by kernel_rfl)
      · replace h := cnd_f h e4
        refine tri_tell [.keep [] [] []] ⟨30, [], [], []⟩ [] (by kernel_rfl) trivial ?_
        refine tri_exit ?_
        refine thenE ?_
        refine thenE ?_
        refine inBX ?_
        exact thenJ () h (by kernel_rfl)
end Go.Proofs.YtmdolfannbbipaaDoor
namespace Go.Proofs.YtmdolfannbbipaaDoor
open Go Go.RowKit Go.Ev Go.Proofs
set_option linter.unusedVariables false

set_option maxRecDepth 100000
theorem ok_ref19_Uses (K : Nat) (a0 : (List T_RuleNode)) (r : (List Int)) (h : ref19_Uses K a0 = some r) : FnOk Tryd.prog 20 (ax_ref19_Uses a0) (rx_ref19_Uses r) (px_ref19_Uses r) := by
  refine ⟨⟨Tryd.f20, Tryd.func20, by kernel_rfl, by kernel_rfl⟩, ?_⟩
  unfold ref19_Uses at h
  refine fn_ok env Tryd.func20 rfl ⟨44, [(0, .c (.lst 4 a0.length (encF e_RuleNode d_RuleNode a0)))], [], []⟩ [] (by kernel_rfl) fun X => ?_
  refine tri_reg env [] 1 1024 [.keep [0] [] []] ⟨44, [(0, .c (.lst 4 a0.length (encF e_RuleNode d_RuleNode a0)))], [], []⟩ [] (by kernel_rfl) trivial ?_
  refine tri_seq ?_
  obtain ⟨y1, c2, h⟩ := bnd_inv h
  refine tri_reg env [(1, .call ⟨(ax_ref19_Right a0), [false], rx_ref19_Right y1, px_ref19_Right y1, true⟩)] 2 1024 [.keep [0, 9] [] []] ⟨44, [(0, .c (.lst 4 a0.length (encF e_RuleNode d_RuleNode a0))), (9, .c (.v (.bool (!y1))))], [], []⟩ [(EqXs (ax_ref19_Right a0) (ax_ref19_Right a0)), (FnOk Tryd.prog 48 (ax_ref19_Right a0) (rx_ref19_Right y1) (px_ref19_Right y1))] (by kernel_rfl) ⟨(eqs (eqr _) eqs0), (ok_ref19_Right K a0 y1 c2), trivial⟩ ?_
  refine tri_cond (!y1) (by kernel_rfl) (fun e3 => ?_) (fun e3 => ?_)
  · replace h := cnd_t h e3
    refine tri_reg env [] 3 1024 [.keep [2] [] []] ⟨44, [(2, .c (.nil 1))], [], []⟩ [] (by kernel_rfl) trivial ?_
    refine tri_tell [.nilS 2 (900000, 0) 1, .arr (900000, 0) (([] : List Int).length) (encF (eI .i64) 0 ([] : List Int)), .slot 2 (.c (.ref (900000, 0) (([] : List Int).length))), .keep [2] [] [(900000, 0)]] ⟨44, [(2, .c (.ref (900000, 0) (([] : List Int).length)))], [], [((900000, 0), some ⟨false, 1, (([] : List Int).length), encF (eI .i64) 0 ([] : List Int)⟩)]⟩ [(0 = ([] : List Int).length ∧ ∀ i, i < ([] : List Int).length → (fun _ => []) i = (encF (eI .i64) 0 ([] : List Int)) i), (TellS (.c (.ref (900000, 0) 0)) (.c (.ref (900000, 0) (([] : List Int).length))))] (by kernel_rfl) ⟨(Tells.arr (Tells.nil (e := (eI .i64)) (d := 0) (g := fun _ => []))), (TellC.ref (Tells.len (e := (eI .i64)) (d := 0) (n := 0) (g := (fun _ => [])) (L := ([] : List Int)) (Tells.nil (e := (eI .i64)) (d := 0) (g := fun _ => [])))), trivial⟩ ?_
    refine tri_ret ?_
    refine thenR ?_
    rw [some_inv h]
    exact ⟨[(([] : List Int).length = ([] : List Int).length)], by kernel_rfl, ⟨rfl, trivial⟩⟩
  · replace h := cnd_f h e3
    refine tri_skip ?_
    refine thenN ?_
    refine tri_reg env [] 4 1024 [.keep [0, 3] [] []] ⟨44, [(0, .c (.lst 4 a0.length (encF e_RuleNode d_RuleNode a0))), (3, .c (.nil 1))], [], []⟩ [] (by kernel_rfl) trivial ?_
    refine tri_joinC (fun (v6 : (List Int)) => ⟨44, [(3, .c (.ref (700006, 0) v6.length))], [], [((700006, 0), some ⟨false, 1, v6.length, encF (eI .i64) 0 v6⟩)]⟩) h (fun v6 h => ?_) (fun j6 h => ?_)
    · refine tri_reg env [] 15 1024 [.keep [2] [] [(700006, 0)]] ⟨44, [(2, .c (.ref (700006, 0) v6.length))], [], [((700006, 0), some ⟨false, 1, v6.length, encF (eI .i64) 0 v6⟩)]⟩ [] (by kernel_rfl) trivial ?_
      refine tri_ret ?_
      rw [some_inv h]
      exact ⟨[(v6.length = v6.length)], by kernel_rfl, ⟨rfl, trivial⟩⟩
    · refine tri_reg env [] 5 1024 [.keep [0, 3, 4] [] []] ⟨44, [(0, .c (.lst 4 a0.length (encF e_RuleNode d_RuleNode a0))), (3, .c (.nil 1)), (4, .c (.v (.int .i64 0)))], [], []⟩ [] (by kernel_rfl) trivial ?_
      refine tri_block ?_
      refine tri_tell [.keep [0, 3, 4] [] [], .nilS 3 (700001, 0) 1, .arr (700001, 0) (([] : List Int).length) (encF (eI .i64) 0 ([] : List Int)), .slot 3 (.c (.ref (700001, 0) (([] : List Int).length))), .keep [0, 3, 4] [] [(700001, 0)]] ⟨44, [(0, .c (.lst 4 a0.length (encF e_RuleNode d_RuleNode a0))), (3, .c (.ref (700001, 0) (([] : List Int).length))), (4, .c (.v (.int .i64 0)))], [], [((700001, 0), some ⟨false, 1, (([] : List Int).length), encF (eI .i64) 0 ([] : List Int)⟩)]⟩ [(0 = ([] : List Int).length ∧ ∀ i, i < ([] : List Int).length → (fun _ => []) i = (encF (eI .i64) 0 ([] : List Int)) i), (TellS (.c (.ref (700001, 0) 0)) (.c (.ref (700001, 0) (([] : List Int).length))))] (by kernel_rfl) ⟨(Tells.arr (Tells.nil (e := (eI .i64)) (d := 0) (g := fun _ => []))), (TellC.ref (Tells.len (e := (eI .i64)) (d := 0) (n := 0) (g := (fun _ => [])) (L := ([] : List Int)) (Tells.nil (e := (eI .i64)) (d := 0) (g := fun _ => [])))), trivial⟩ ?_
      refine tri_loopK (fun (v1 : (Int × (List Int))) => ⟨44, [(0, .c (.lst 4 a0.length (encF e_RuleNode d_RuleNode a0))), (3, .c (.ref (700001, 0) v1.2.length)), (4, .c (.v (.int .i64 v1.1)))], [], [((700001, 0), some ⟨false, 1, v1.2.length, encF (eI .i64) 0 v1.2⟩)]⟩) (v := (0, ([] : List Int))) h (fun self1 v1 h => ?_) (by kernel_rfl)
      unfold ref19_Uses_b1 at h
      refine tri_seq ?_
      refine tri_reg env [] 6 1024 [.keep [0, 3, 4, 11] [] [(700001, 0)]] ⟨44, [(0, .c (.lst 4 a0.length (encF e_RuleNode d_RuleNode a0))), (3, .c (.ref (700001, 0) v1.2.length)), (4, .c (.v (.int .i64 v1.1))), (11, .c (.v (.bool (decide (v1.1 < 64)))))], [], [((700001, 0), some ⟨false, 1, v1.2.length, encF (eI .i64) 0 v1.2⟩)]⟩ [True] (by kernel_rfl) ⟨trivial, trivial⟩ ?_
      refine tri_cond (decide (v1.1 < 64)) (by kernel_rfl) (fun e4 => ?_) (fun e4 => ?_)
      · replace h := cnd_t h e4
        refine tri_skip ?_
        refine thenN ?_
        refine tri_joinC (fun (v5 : (List Int)) => ⟨44, [(0, .c (.lst 4 a0.length (encF e_RuleNode d_RuleNode a0))), (3, .c (.ref (700005, 0) v5.length)), (4, .c (.v (.int .i64 v1.1)))], [], [((700005, 0), some ⟨false, 1, v5.length, encF (eI .i64) 0 v5⟩)]⟩) h (fun v5 h => ?_) (fun j5 h => ?_)
        · refine tri_reg_end env [] 7 1024 [.keep [0, 3, 4] [] [(700005, 0)], .keep [0, 3, 4] [] [(700005, 0)], .ren (700005, 0) (700001, 0)] ⟨44, [(0, .c (.lst 4 a0.length (encF e_RuleNode d_RuleNode a0))), (3, .c (.ref (700001, 0) v5.length)), (4, .c (.v (.int .i64 (IntKind.wrap .i64 (v1.1 + 1)))))], [], [((700001, 0), some ⟨false, 1, v5.length, encF (eI .i64) 0 v5⟩)]⟩ [True] (by kernel_rfl) ⟨trivial, trivial⟩ ?_
          exact thenJ ((IntKind.wrap .i64 (v1.1 + 1)), v5) h (by kernel_rfl)
        · refine tri_block ?_
          refine tri_reg env [] 8 1024 [.keep [0, 3, 4, 5] [] [(700001, 0)]] ⟨44, [(0, .c (.lst 4 a0.length (encF e_RuleNode d_RuleNode a0))), (3, .c (.ref (700001, 0) v1.2.length)), (4, .c (.v (.int .i64 v1.1))), (5, .c (.v (.bool false)))], [], [((700001, 0), some ⟨false, 1, v1.2.length, encF (eI .i64) 0 v1.2⟩)]⟩ [] (by kernel_rfl) trivial ?_
          refine tri_joinC (fun (v4 : Bool) => ⟨44, [(0, .c (.lst 4 a0.length (encF e_RuleNode d_RuleNode a0))), (3, .c (.ref (700004, 0) v1.2.length)), (4, .c (.v (.int .i64 v1.1))), (5, .c (.v (.bool v4)))], [], [((700004, 0), some ⟨false, 1, v1.2.length, encF (eI .i64) 0 v1.2⟩)]⟩) h (fun v4 h => ?_) (fun j4 h => ?_)
          · refine tri_reg env [] 13 1024 [.keep [0, 3, 4, 38] [] [(700004, 0)]] ⟨44, [(0, .c (.lst 4 a0.length (encF e_RuleNode d_RuleNode a0))), (3, .c (.ref (700004, 0) v1.2.length)), (4, .c (.v (.int .i64 v1.1))), (38, .c (.v (.bool v4)))], [], [((700004, 0), some ⟨false, 1, v1.2.length, encF (eI .i64) 0 v1.2⟩)]⟩ [] (by kernel_rfl) trivial ?_
            refine tri_cond v4 (by kernel_rfl) (fun e5 => ?_) (fun e5 => ?_)
            · replace h := cnd_t h e5
              obtain ⟨q6, h⟩ := ck_inv h
              refine tri_reg_end env [] 14 1024 [.arr (14003, 0) ((v1.2 ++ ([v1.1] : List Int)).length) (encF (eI .i64) 0 (v1.2 ++ ([v1.1] : List Int))), .slot 3 (.c (.ref (14003, 0) ((v1.2 ++ ([v1.1] : List Int)).length))), .keep [0, 3, 4] [] [(14003, 0)], .keep [0, 3, 4] [] [(14003, 0)], .ren (14003, 0) (700005, 0)] ⟨44, [(0, .c (.lst 4 a0.length (encF e_RuleNode d_RuleNode a0))), (3, .c (.ref (700005, 0) ((v1.2 ++ ([v1.1] : List Int)).length))), (4, .c (.v (.int .i64 v1.1)))], [], [((700005, 0), some ⟨false, 1, ((v1.2 ++ ([v1.1] : List Int)).length), encF (eI .i64) 0 (v1.2 ++ ([v1.1] : List Int))⟩)]⟩ [(1 = 0 ∨ 1 = 1), ((v1.2.length + 1) * 8 ≤ LIMIT), ((v1.2.length + 1) = (v1.2 ++ ([v1.1] : List Int)).length ∧ ∀ i, i < (v1.2 ++ ([v1.1] : List Int)).length → (appG v1.2.length (encF (eI .i64) 0 v1.2) (fun i => window [.v (.int .i64 v1.1)] (i * 1) 1)) i = (encF (eI .i64) 0 (v1.2 ++ ([v1.1] : List Int))) i), (TellS (.c (.ref (14003, 0) (v1.2.length + 1))) (.c (.ref (14003, 0) ((v1.2 ++ ([v1.1] : List Int)).length))))] (by kernel_rfl) ⟨(.inr rfl), q6, (Tells.arr (Tells.app (Tells.rfl' (e := (eI .i64)) (d := 0) (L := v1.2)) (Tells.items (e := (eI .i64)) (d := 0) (k := 1) (g := (fun i => window [.v (.int .i64 v1.1)] (i * 1) 1)) (L := ([v1.1] : List Int)) rfl (belowS rfl below0)))), (TellC.ref (Tells.len (e := (eI .i64)) (d := 0) (n := (v1.2.length + 1)) (g := (appG v1.2.length (encF (eI .i64) 0 v1.2) (fun i => window [.v (.int .i64 v1.1)] (i * 1) 1))) (L := (v1.2 ++ ([v1.1] : List Int))) (Tells.app (Tells.rfl' (e := (eI .i64)) (d := 0) (L := v1.2)) (Tells.items (e := (eI .i64)) (d := 0) (k := 1) (g := (fun i => window [.v (.int .i64 v1.1)] (i * 1) 1)) (L := ([v1.1] : List Int)) rfl (belowS rfl below0))))), trivial⟩ ?_
              refine inBN ?_
              exact thenJ (v1.2 ++ ([v1.1] : List Int)) h (by kernel_rfl)
            · replace h := cnd_f h e5
              refine tri_tell [.keep [0, 3, 4] [] [(700004, 0)], .ren (700004, 0) (700005, 0)] ⟨44, [(0, .c (.lst 4 a0.length (encF e_RuleNode d_RuleNode a0))), (3, .c (.ref (700005, 0) v1.2.length)), (4, .c (.v (.int .i64 v1.1)))], [], [((700005, 0), some ⟨false, 1, v1.2.length, encF (eI .i64) 0 v1.2⟩)]⟩ [] (by kernel_rfl) trivial ?_
              refine tri_skip ?_
              refine inBN ?_
              exact thenJ v1.2 h (by kernel_rfl)
          · refine tri_reg env [] 9 1024 [.keep [0, 3, 4, 5, 6] [] [(700001, 0)]] ⟨44, [(0, .c (.lst 4 a0.length (encF e_RuleNode d_RuleNode a0))), (3, .c (.ref (700001, 0) v1.2.length)), (4, .c (.v (.int .i64 v1.1))), (5, .c (.v (.bool false))), (6, .c (.v (.int .i64 0)))], [], [((700001, 0), some ⟨false, 1, v1.2.length, encF (eI .i64) 0 v1.2⟩)]⟩ [] (by kernel_rfl) trivial ?_
            refine tri_block ?_
            refine tri_tell [.keep [0, 3, 4, 5, 6] [] [(700001, 0)], .ren (700001, 0) (700002, 0)] ⟨44, [(0, .c (.lst 4 a0.length (encF e_RuleNode d_RuleNode a0))), (3, .c (.ref (700002, 0) v1.2.length)), (4, .c (.v (.int .i64 v1.1))), (5, .c (.v (.bool false))), (6, .c (.v (.int .i64 0)))], [], [((700002, 0), some ⟨false, 1, v1.2.length, encF (eI .i64) 0 v1.2⟩)]⟩ [] (by kernel_rfl) trivial ?_
            refine tri_loopK (fun (v2 : (Bool × Int)) => ⟨44, [(0, .c (.lst 4 a0.length (encF e_RuleNode d_RuleNode a0))), (3, .c (.ref (700002, 0) v1.2.length)), (4, .c (.v (.int .i64 v1.1))), (5, .c (.v (.bool v2.1))), (6, .c (.v (.int .i64 v2.2)))], [], [((700002, 0), some ⟨false, 1, v1.2.length, encF (eI .i64) 0 v1.2⟩)]⟩) (v := (false, 0)) h (fun self2 v2 h => ?_) (by kernel_rfl)
            unfold ref19_Uses_b2 at h
            refine tri_seq ?_
            refine tri_reg env [] 10 1024 [.keep [0, 3, 4, 5, 6, 17] [] [(700002, 0)]] ⟨44, [(0, .c (.lst 4 a0.length (encF e_RuleNode d_RuleNode a0))), (3, .c (.ref (700002, 0) v1.2.length)), (4, .c (.v (.int .i64 v1.1))), (5, .c (.v (.bool v2.1))), (6, .c (.v (.int .i64 v2.2))), (17, .c (.v (.bool (decide (v2.2 < ((a0.length : Nat) : Int))))))], [], [((700002, 0), some ⟨false, 1, v1.2.length, encF (eI .i64) 0 v1.2⟩)]⟩ [True] (by kernel_rfl) ⟨trivial, trivial⟩ ?_
            refine tri_cond (decide (v2.2 < ((a0.length : Nat) : Int))) (by kernel_rfl) (fun e7 => ?_) (fun e7 => ?_)
            · replace h := cnd_t h e7
              refine tri_skip ?_
              refine thenN ?_
              refine tri_joinC (fun (v3 : Bool) => ⟨44, [(0, .c (.lst 4 a0.length (encF e_RuleNode d_RuleNode a0))), (3, .c (.ref (700003, 0) v1.2.length)), (4, .c (.v (.int .i64 v1.1))), (5, .c (.v (.bool v3))), (6, .c (.v (.int .i64 v2.2)))], [], [((700003, 0), some ⟨false, 1, v1.2.length, encF (eI .i64) 0 v1.2⟩)]⟩) h (fun v3 h => ?_) (fun j3 h => ?_)
              · refine tri_reg_end env [] 11 1024 [.keep [0, 3, 4, 5, 6] [] [(700003, 0)], .keep [0, 3, 4, 5, 6] [] [(700003, 0)], .ren (700003, 0) (700002, 0)] ⟨44, [(0, .c (.lst 4 a0.length (encF e_RuleNode d_RuleNode a0))), (3, .c (.ref (700002, 0) v1.2.length)), (4, .c (.v (.int .i64 v1.1))), (5, .c (.v (.bool v3))), (6, .c (.v (.int .i64 (IntKind.wrap .i64 (v2.2 + 1)))))], [], [((700002, 0), some ⟨false, 1, v1.2.length, encF (eI .i64) 0 v1.2⟩)]⟩ [True] (by kernel_rfl) ⟨trivial, trivial⟩ ?_
                exact thenJ (v3, (IntKind.wrap .i64 (v2.2 + 1))) h (by kernel_rfl)
              · refine tri_block ?_
                refine cnd_split h (fun e8 h => ?_) (fun e8 h => ?_)
                · refine tri_reg_end env [(1, .b true), (17, .b true)] 12 1024 [.keep [0, 3, 4, 5, 6] [] [(700002, 0)], .keep [0, 3, 4, 5, 6] [] [(700002, 0)], .ren (700002, 0) (700003, 0)] ⟨44, [(0, .c (.lst 4 a0.length (encF e_RuleNode d_RuleNode a0))), (3, .c (.ref (700003, 0) v1.2.length)), (4, .c (.v (.int .i64 v1.1))), (5, .c (.v (.bool true))), (6, .c (.v (.int .i64 v2.2)))], [], [((700003, 0), some ⟨false, 1, v1.2.length, encF (eI .i64) 0 v1.2⟩)]⟩ [(v2.1 = true), (v2.1 = true), (v2.1 = true), (v2.1 = true), (v2.1 = true), (v2.1 = true), (v2.1 = true), (v2.1 = true), (v2.1 = true)] (by kernel_rfl) ⟨e8, e8, e8, e8, e8, e8, e8, e8, e8, trivial⟩ ?_
                  refine inBN ?_
                  exact thenJ true h (by kernel_rfl)
                · obtain ⟨q9, h⟩ := ck_inv h
                  refine cnd_split h (fun e10 h => ?_) (fun e10 h => ?_)
                  · refine tri_reg_end env [(1, .b false), (8, .b true), (16, .b true), (17, .b false)] 12 1024 [.keep [0, 3, 4, 5, 6] [] [(700002, 0)], .keep [0, 3, 4, 5, 6] [] [(700002, 0)], .ren (700002, 0) (700003, 0)] ⟨44, [(0, .c (.lst 4 a0.length (encF e_RuleNode d_RuleNode a0))), (3, .c (.ref (700003, 0) v1.2.length)), (4, .c (.v (.int .i64 v1.1))), (5, .c (.v (.bool ((a0.getD v2.2.toNat d_RuleNode).Cond == v1.1)))), (6, .c (.v (.int .i64 v2.2)))], [], [((700003, 0), some ⟨false, 1, v1.2.length, encF (eI .i64) 0 v1.2⟩)]⟩ [(v2.1 = false), (v2.1 = false), (v2.1 = false), (0 ≤ v2.2 ∧ v2.2 < ((a0.length : Nat) : Int)), (v2.1 = false), (v2.1 = false), (v2.1 = false), True, (v2.1 = false), (((a0.getD v2.2.toNat d_RuleNode).Kind == 1) = true), (((a0.getD v2.2.toNat d_RuleNode).Kind == 1) = true), (((a0.getD v2.2.toNat d_RuleNode).Kind == 1) = true), (0 ≤ v2.2 ∧ v2.2 < ((a0.length : Nat) : Int)), (((a0.getD v2.2.toNat d_RuleNode).Kind == 1) = true), (((a0.getD v2.2.toNat d_RuleNode).Kind == 1) = true), (((a0.getD v2.2.toNat d_RuleNode).Kind == 1) = true), (((a0.getD v2.2.toNat d_RuleNode).Kind == 1) = true), True, (v2.1 = false), (((a0.getD v2.2.toNat d_RuleNode).Kind == 1) = true), (v2.1 = false)] (by kernel_rfl) ⟨e8, e8, e8, q9, e8, e8, e8, trivial, e8, e10, e10, e10, q9, e10, e10, e10, e10, trivial, e8, e10, e8, trivial⟩ ?_
                    refine inBN ?_
                    exact thenJ ((a0.getD v2.2.toNat d_RuleNode).Cond == v1.1) h (by kernel_rfl)
                  · refine tri_reg_end env [(1, .b false), (8, .b false), (16, .b false), (17, .b false)] 12 1024 [.keep [0, 3, 4, 5, 6] [] [(700002, 0)], .keep [0, 3, 4, 5, 6] [] [(700002, 0)], .ren (700002, 0) (700003, 0)] ⟨44, [(0, .c (.lst 4 a0.length (encF e_RuleNode d_RuleNode a0))), (3, .c (.ref (700003, 0) v1.2.length)), (4, .c (.v (.int .i64 v1.1))), (5, .c (.v (.bool false))), (6, .c (.v (.int .i64 v2.2)))], [], [((700003, 0), some ⟨false, 1, v1.2.length, encF (eI .i64) 0 v1.2⟩)]⟩ [(v2.1 = false), (v2.1 = false), (v2.1 = false), (0 ≤ v2.2 ∧ v2.2 < ((a0.length : Nat) : Int)), (v2.1 = false), (v2.1 = false), (v2.1 = false), True, (v2.1 = false), (((a0.getD v2.2.toNat d_RuleNode).Kind == 1) = false), (((a0.getD v2.2.toNat d_RuleNode).Kind == 1) = false), (((a0.getD v2.2.toNat d_RuleNode).Kind == 1) = false), (((a0.getD v2.2.toNat d_RuleNode).Kind == 1) = false), (((a0.getD v2.2.toNat d_RuleNode).Kind == 1) = false), (((a0.getD v2.2.toNat d_RuleNode).Kind == 1) = false), (((a0.getD v2.2.toNat d_RuleNode).Kind == 1) = false), (v2.1 = false), (((a0.getD v2.2.toNat d_RuleNode).Kind == 1) = false), (v2.1 = false)] (by kernel_rfl) ⟨e8, e8, e8, q9, e8, e8, e8, trivial, e8, e10, e10, e10, e10, e10, e10, e10, e8, e10, e8, trivial⟩ ?_
                    refine inBN ?_
                    exact thenJ false h (by kernel_rfl)
            · replace h := cnd_f h e7
              refine tri_tell [.keep [0, 3, 4, 5] [] [(700002, 0)], .ren (700002, 0) (700004, 0)] ⟨44, [(0, .c (.lst 4 a0.length (encF e_RuleNode d_RuleNode a0))), (3, .c (.ref (700004, 0) v1.2.length)), (4, .c (.v (.int .i64 v1.1))), (5, .c (.v (.bool v2.1)))], [], [((700004, 0), some ⟨false, 1, v1.2.length, encF (eI .i64) 0 v1.2⟩)]⟩ [] (by kernel_rfl) trivial ?_
              refine tri_exit ?_
              refine thenE ?_
              refine thenE ?_
              refine inBX ?_
              exact thenJ v2.1 h (by kernel_rfl)
      · replace h := cnd_f h e4
        refine tri_tell [.keep [3] [] [(700001, 0)], .ren (700001, 0) (700006, 0)] ⟨44, [(3, .c (.ref (700006, 0) v1.2.length))], [], [((700006, 0), some ⟨false, 1, v1.2.length, encF (eI .i64) 0 v1.2⟩)]⟩ [] (by kernel_rfl) trivial ?_
        refine tri_exit ?_
        refine thenE ?_
        refine thenE ?_
        refine inBX ?_
        exact thenJ v1.2 h (by kernel_rfl)
end Go.Proofs.YtmdolfannbbipaaDoor
namespace Go.Proofs.YtmdolfannbbipaaDoor
open Go Go.RowKit Go.Ev Go.Proofs
set_option linter.unusedVariables false

set_option maxRecDepth 100000
theorem ok_ref19_value : ∀ (K : Nat) (a0 : (List T_RuleNode)) (a1 : (List Int)) (a2 : Int) (r : Int) (h : ref19_value K a0 a1 a2 = some r), FnOk Tryd.prog 49 (ax_ref19_value a0 a1 a2) (rx_ref19_value r) (px_ref19_value r) := by
  intro K
  induction K with
  | zero => intro a0 a1 a2 r h; cases h
  | succ K hrec =>
    intro a0 a1 a2 r h
    replace h : ref19_value_F K (ref19_value K) a0 a1 a2 = some r := h
    generalize ref19_value K = rec_ at h hrec
    refine ⟨⟨Tryd.f49, Tryd.func49, by kernel_rfl, by kernel_rfl⟩, ?_⟩
    unfold ref19_value_F at h
    refine fn_ok env Tryd.func49 rfl ⟨74, [(0, .c (.lst 4 a0.length (encF e_RuleNode d_RuleNode a0))), (1, .c (.lst 1 a1.length (encF (eI .i64) 0 a1))), (2, .c (.v (.int .i64 a2)))], [], []⟩ [] (by kernel_rfl) fun X => ?_
    refine tri_reg env [] 1 1024 [.keep [0, 1, 2] [] []] ⟨74, [(0, .c (.lst 4 a0.length (encF e_RuleNode d_RuleNode a0))), (1, .c (.lst 1 a1.length (encF (eI .i64) 0 a1))), (2, .c (.v (.int .i64 a2)))], [], []⟩ [] (by kernel_rfl) trivial ?_
    obtain ⟨q1, h⟩ := ck_inv h
    refine tri_reg env [] 2 1024 [.keep [0, 1, 7] [(2004, 0)] []] ⟨74, [(0, .c (.lst 4 a0.length (encF e_RuleNode d_RuleNode a0))), (1, .c (.lst 1 a1.length (encF (eI .i64) 0 a1))), (7, .c (.pvar (2004, 0) 0))], [((2004, 0), (e_RuleNode (a0.getD a2.toNat d_RuleNode)))], []⟩ [(0 ≤ a2 ∧ a2 < ((a0.length : Nat) : Int))] (by kernel_rfl) ⟨q1, trivial⟩ ?_
    refine tri_seq ?_
    refine tri_reg env [] 3 1024 [.keep [0, 1, 7, 13] [(2004, 0)] []] ⟨74, [(0, .c (.lst 4 a0.length (encF e_RuleNode d_RuleNode a0))), (1, .c (.lst 1 a1.length (encF (eI .i64) 0 a1))), (7, .c (.pvar (2004, 0) 0)), (13, .c (.v (.int .i64 (a0.getD a2.toNat d_RuleNode).Kind)))], [((2004, 0), (e_RuleNode (a0.getD a2.toNat d_RuleNode)))], []⟩ [] (by kernel_rfl) trivial ?_
    refine tri_block ?_
    refine tri_reg env [] 4 1024 [.keep [0, 1, 7, 13, 14] [(2004, 0)] []] ⟨74, [(0, .c (.lst 4 a0.length (encF e_RuleNode d_RuleNode a0))), (1, .c (.lst 1 a1.length (encF (eI .i64) 0 a1))), (7, .c (.pvar (2004, 0) 0)), (13, .c (.v (.int .i64 (a0.getD a2.toNat d_RuleNode).Kind))), (14, .c (.v (.bool ((a0.getD a2.toNat d_RuleNode).Kind == 1))))], [((2004, 0), (e_RuleNode (a0.getD a2.toNat d_RuleNode)))], []⟩ [True] (by kernel_rfl) ⟨trivial, trivial⟩ ?_
    refine tri_cond ((a0.getD a2.toNat d_RuleNode).Kind == 1) (by kernel_rfl) (fun e2 => ?_) (fun e2 => ?_)
    · replace h := cnd_t h e2
      refine tri_seq ?_
      refine cnd_split h (fun e3 h => ?_) (fun e3 h => ?_)
      · refine tri_reg env [(5, .b true), (12, .b true), (13, .b true), (20, .b true)] 5 1024 [.keep [1, 7, 36] [(2004, 0)] []] ⟨74, [(1, .c (.lst 1 a1.length (encF (eI .i64) 0 a1))), (7, .c (.pvar (2004, 0) 0)), (36, .c (.v (.bool true)))], [((2004, 0), (e_RuleNode (a0.getD a2.toNat d_RuleNode)))], []⟩ [True, ((decide ((a0.getD a2.toNat d_RuleNode).Cond ≥ ((a1.length : Nat) : Int))) = true), ((decide ((a0.getD a2.toNat d_RuleNode).Cond ≥ ((a1.length : Nat) : Int))) = true), ((decide ((a0.getD a2.toNat d_RuleNode).Cond ≥ ((a1.length : Nat) : Int))) = true), ((decide ((a0.getD a2.toNat d_RuleNode).Cond ≥ ((a1.length : Nat) : Int))) = true), ((decide ((a0.getD a2.toNat d_RuleNode).Cond ≥ ((a1.length : Nat) : Int))) = true), ((decide ((a0.getD a2.toNat d_RuleNode).Cond ≥ ((a1.length : Nat) : Int))) = true), ((decide ((a0.getD a2.toNat d_RuleNode).Cond ≥ ((a1.length : Nat) : Int))) = true), (true = true), (true = true), (true = true), (true = true), (true = true), (true = true), (true = true)] (by kernel_rfl) ⟨trivial, e3, e3, e3, e3, e3, e3, e3, rfl, rfl, rfl, rfl, rfl, rfl, rfl, trivial⟩ ?_
        refine tri_cond true (by kernel_rfl) (fun _ => ?_) (fun e => by cases e)
        refine tri_reg env [] 6 1024 [.keep [6] [] []] ⟨74, [(6, .c (.v (.int .i64 0)))], [], []⟩ [] (by kernel_rfl) trivial ?_
        refine tri_ret ?_
        refine thenR ?_
        refine inBR ?_
        refine thenR ?_
        rw [some_inv h]
        exact ⟨[], by kernel_rfl, trivial⟩
      · obtain ⟨q5, h⟩ := ck_inv h
        refine cnd_split h (fun e6 h => ?_) (fun e6 h => ?_)
        · refine tri_reg env [(5, .b false), (12, .b false), (13, .b true), (20, .b true)] 5 1024 [.keep [1, 7, 36] [(2004, 0)] []] ⟨74, [(1, .c (.lst 1 a1.length (encF (eI .i64) 0 a1))), (7, .c (.pvar (2004, 0) 0)), (36, .c (.v (.bool true)))], [((2004, 0), (e_RuleNode (a0.getD a2.toNat d_RuleNode)))], []⟩ [True, ((decide ((a0.getD a2.toNat d_RuleNode).Cond ≥ ((a1.length : Nat) : Int))) = false), ((decide ((a0.getD a2.toNat d_RuleNode).Cond ≥ ((a1.length : Nat) : Int))) = false), ((decide ((a0.getD a2.toNat d_RuleNode).Cond ≥ ((a1.length : Nat) : Int))) = false), ((decide ((a0.getD a2.toNat d_RuleNode).Cond ≥ ((a1.length : Nat) : Int))) = false), (0 ≤ (a0.getD a2.toNat d_RuleNode).Cond ∧ (a0.getD a2.toNat d_RuleNode).Cond < ((a1.length : Nat) : Int)), ((decide ((a0.getD a2.toNat d_RuleNode).Cond ≥ ((a1.length : Nat) : Int))) = false), ((decide ((a0.getD a2.toNat d_RuleNode).Cond ≥ ((a1.length : Nat) : Int))) = false), True, ((decide ((a0.getD a2.toNat d_RuleNode).Cond ≥ ((a1.length : Nat) : Int))) = false), ((decide ((a1.getD (((a0.getD a2.toNat d_RuleNode).Cond).toNat) 0) < (-1))) = true), ((decide ((a1.getD (((a0.getD a2.toNat d_RuleNode).Cond).toNat) 0) < (-1))) = true), ((decide ((a1.getD (((a0.getD a2.toNat d_RuleNode).Cond).toNat) 0) < (-1))) = true), ((decide ((a1.getD (((a0.getD a2.toNat d_RuleNode).Cond).toNat) 0) < (-1))) = true), ((decide ((a1.getD (((a0.getD a2.toNat d_RuleNode).Cond).toNat) 0) < (-1))) = true), ((decide ((a1.getD (((a0.getD a2.toNat d_RuleNode).Cond).toNat) 0) < (-1))) = true), ((decide ((a1.getD (((a0.getD a2.toNat d_RuleNode).Cond).toNat) 0) < (-1))) = true)] (by kernel_rfl) ⟨trivial, e3, e3, e3, e3, q5, e3, e3, trivial, e3, e6, e6, e6, e6, e6, e6, e6, trivial⟩ ?_
          refine tri_cond true (by kernel_rfl) (fun _ => ?_) (fun e => by cases e)
          refine tri_reg env [] 6 1024 [.keep [6] [] []] ⟨74, [(6, .c (.v (.int .i64 0)))], [], []⟩ [] (by kernel_rfl) trivial ?_
          refine tri_ret ?_
          refine thenR ?_
          refine inBR ?_
          refine thenR ?_
          rw [some_inv h]
          exact ⟨[], by kernel_rfl, trivial⟩
        · refine tri_reg env [(5, .b false), (12, .b false), (13, .b false), (20, .b false)] 5 1024 [.keep [1, 7, 36] [(2004, 0)] []] ⟨74, [(1, .c (.lst 1 a1.length (encF (eI .i64) 0 a1))), (7, .c (.pvar (2004, 0) 0)), (36, .c (.v (.bool (decide ((a1.getD (((a0.getD a2.toNat d_RuleNode).Cond).toNat) 0) > 1)))))], [((2004, 0), (e_RuleNode (a0.getD a2.toNat d_RuleNode)))], []⟩ [True, ((decide ((a0.getD a2.toNat d_RuleNode).Cond ≥ ((a1.length : Nat) : Int))) = false), ((decide ((a0.getD a2.toNat d_RuleNode).Cond ≥ ((a1.length : Nat) : Int))) = false), ((decide ((a0.getD a2.toNat d_RuleNode).Cond ≥ ((a1.length : Nat) : Int))) = false), ((decide ((a0.getD a2.toNat d_RuleNode).Cond ≥ ((a1.length : Nat) : Int))) = false), (0 ≤ (a0.getD a2.toNat d_RuleNode).Cond ∧ (a0.getD a2.toNat d_RuleNode).Cond < ((a1.length : Nat) : Int)), ((decide ((a0.getD a2.toNat d_RuleNode).Cond ≥ ((a1.length : Nat) : Int))) = false), ((decide ((a0.getD a2.toNat d_RuleNode).Cond ≥ ((a1.length : Nat) : Int))) = false), True, ((decide ((a0.getD a2.toNat d_RuleNode).Cond ≥ ((a1.length : Nat) : Int))) = false), ((decide ((a1.getD (((a0.getD a2.toNat d_RuleNode).Cond).toNat) 0) < (-1))) = false), ((decide ((a1.getD (((a0.getD a2.toNat d_RuleNode).Cond).toNat) 0) < (-1))) = false), ((decide ((a1.getD (((a0.getD a2.toNat d_RuleNode).Cond).toNat) 0) < (-1))) = false), ((decide ((a1.getD (((a0.getD a2.toNat d_RuleNode).Cond).toNat) 0) < (-1))) = false), (0 ≤ (a0.getD a2.toNat d_RuleNode).Cond ∧ (a0.getD a2.toNat d_RuleNode).Cond < ((a1.length : Nat) : Int)), ((decide ((a1.getD (((a0.getD a2.toNat d_RuleNode).Cond).toNat) 0) < (-1))) = false), ((decide ((a1.getD (((a0.getD a2.toNat d_RuleNode).Cond).toNat) 0) < (-1))) = false), True, ((decide ((a1.getD (((a0.getD a2.toNat d_RuleNode).Cond).toNat) 0) < (-1))) = false)] (by kernel_rfl) ⟨trivial, e3, e3, e3, e3, q5, e3, e3, trivial, e3, e6, e6, e6, e6, q5, e6, e6, trivial, e6, trivial⟩ ?_
          refine tri_cond (decide ((a1.getD (((a0.getD a2.toNat d_RuleNode).Cond).toNat) 0) > 1)) (by kernel_rfl) (fun e8 => ?_) (fun e8 => ?_)
          · replace h := cnd_t h e8
            refine tri_reg env [] 6 1024 [.keep [6] [] []] ⟨74, [(6, .c (.v (.int .i64 0)))], [], []⟩ [] (by kernel_rfl) trivial ?_
            refine tri_ret ?_
            refine thenR ?_
            refine inBR ?_
            refine thenR ?_
            rw [some_inv h]
            exact ⟨[], by kernel_rfl, trivial⟩
          · replace h := cnd_f h e8
            refine tri_skip ?_
            refine thenN ?_
            refine tri_reg env [] 7 1024 [.keep [6] [] []] ⟨74, [(6, .c (.v (.int .i64 (a1.getD (((a0.getD a2.toNat d_RuleNode).Cond).toNat) 0))))], [], []⟩ [(0 ≤ (a0.getD a2.toNat d_RuleNode).Cond ∧ (a0.getD a2.toNat d_RuleNode).Cond < ((a1.length : Nat) : Int))] (by kernel_rfl) ⟨q5, trivial⟩ ?_
            refine tri_ret ?_
            refine inBR ?_
            refine thenR ?_
            rw [some_inv h]
            exact ⟨[], by kernel_rfl, trivial⟩
    · replace h := cnd_f h e2
      refine tri_reg env [] 8 1024 [.keep [0, 1, 7, 13, 42] [(2004, 0)] []] ⟨74, [(0, .c (.lst 4 a0.length (encF e_RuleNode d_RuleNode a0))), (1, .c (.lst 1 a1.length (encF (eI .i64) 0 a1))), (7, .c (.pvar (2004, 0) 0)), (13, .c (.v (.int .i64 (a0.getD a2.toNat d_RuleNode).Kind))), (42, .c (.v (.bool ((a0.getD a2.toNat d_RuleNode).Kind == 2))))], [((2004, 0), (e_RuleNode (a0.getD a2.toNat d_RuleNode)))], []⟩ [True] (by kernel_rfl) ⟨trivial, trivial⟩ ?_
      refine tri_cond ((a0.getD a2.toNat d_RuleNode).Kind == 2) (by kernel_rfl) (fun e9 => ?_) (fun e9 => ?_)
      · replace h := cnd_t h e9
        obtain ⟨y10, c11, h⟩ := bnd_inv h
        refine tri_reg env [(4, .call ⟨(ax_ref19_value a0 a1 ((a0.getD a2.toNat d_RuleNode).Left)), [false, false, false], rx_ref19_value y10, px_ref19_value y10, true⟩)] 9 1024 [.keep [6] [] []] ⟨74, [(6, .c (.v (.int .i64 (IntKind.wrap .i64 (0 - y10)))))], [], []⟩ [(EqXs (ax_ref19_value a0 a1 ((a0.getD a2.toNat d_RuleNode).Left)) (ax_ref19_value a0 a1 ((a0.getD a2.toNat d_RuleNode).Left))), (FnOk Tryd.prog 49 (ax_ref19_value a0 a1 ((a0.getD a2.toNat d_RuleNode).Left)) (rx_ref19_value y10) (px_ref19_value y10))] (by kernel_rfl) ⟨(eqs (eqr _) (eqs (eqr _) (eqs (eqr _) eqs0))), (hrec a0 a1 ((a0.getD a2.toNat d_RuleNode).Left) y10 c11), trivial⟩ ?_
        refine tri_ret ?_
        refine inBR ?_
        refine thenR ?_
        rw [some_inv h]
        exact ⟨[], by kernel_rfl, trivial⟩
      · replace h := cnd_f h e9
        refine tri_reg env [] 10 1024 [.keep [0, 1, 7, 50] [(2004, 0)] []] ⟨74, [(0, .c (.lst 4 a0.length (encF e_RuleNode d_RuleNode a0))), (1, .c (.lst 1 a1.length (encF (eI .i64) 0 a1))), (7, .c (.pvar (2004, 0) 0)), (50, .c (.v (.bool ((a0.getD a2.toNat d_RuleNode).Kind == 3))))], [((2004, 0), (e_RuleNode (a0.getD a2.toNat d_RuleNode)))], []⟩ [True] (by kernel_rfl) ⟨trivial, trivial⟩ ?_
        refine tri_cond ((a0.getD a2.toNat d_RuleNode).Kind == 3) (by kernel_rfl) (fun e12 => ?_) (fun e12 => ?_)
        · replace h := cnd_t h e12
          obtain ⟨y13, c14, h⟩ := bnd_inv h
          obtain ⟨y15, c16, h⟩ := bnd_inv h
          refine tri_reg env [(4, .call ⟨(ax_ref19_value a0 a1 ((a0.getD a2.toNat d_RuleNode).Left)), [false, false, false], rx_ref19_value y13, px_ref19_value y13, true⟩), (9, .call ⟨(ax_ref19_value a0 a1 ((a0.getD a2.toNat d_RuleNode).Right)), [false, false, false], rx_ref19_value y15, px_ref19_value y15, true⟩)] 11 1024 [.keep [6] [] []] ⟨74, [(6, .c (.v (.int .i64 (if y15 < y13 then y15 else y13))))], [], []⟩ [(EqXs (ax_ref19_value a0 a1 ((a0.getD a2.toNat d_RuleNode).Left)) (ax_ref19_value a0 a1 ((a0.getD a2.toNat d_RuleNode).Left))), (FnOk Tryd.prog 49 (ax_ref19_value a0 a1 ((a0.getD a2.toNat d_RuleNode).Left)) (rx_ref19_value y13) (px_ref19_value y13)), (EqXs (ax_ref19_value a0 a1 ((a0.getD a2.toNat d_RuleNode).Right)) (ax_ref19_value a0 a1 ((a0.getD a2.toNat d_RuleNode).Right))), (FnOk Tryd.prog 49 (ax_ref19_value a0 a1 ((a0.getD a2.toNat d_RuleNode).Right)) (rx_ref19_value y15) (px_ref19_value y15))] (by kernel_rfl) ⟨(eqs (eqr _) (eqs (eqr _) (eqs (eqr _) eqs0))), (hrec a0 a1 ((a0.getD a2.toNat d_RuleNode).Left) y13 c14), (eqs (eqr _) (eqs (eqr _) (eqs (eqr _) eqs0))), (hrec a0 a1 ((a0.getD a2.toNat d_RuleNode).Right) y15 c16), trivial⟩ ?_
          refine tri_ret ?_
          refine inBR ?_
          refine thenR ?_
          rw [some_inv h]
          exact ⟨[], by kernel_rfl, trivial⟩
        · replace h := cnd_f h e12
          refine tri_skip ?_
          refine inBN ?_
          refine thenN ?_
          obtain ⟨y17, c18, h⟩ := bnd_inv h
          obtain ⟨y19, c20, h⟩ := bnd_inv h
          refine tri_reg env [(4, .call ⟨(ax_ref19_value a0 a1 ((a0.getD a2.toNat d_RuleNode).Left)), [false, false, false], rx_ref19_value y17, px_ref19_value y17, true⟩), (9, .call ⟨(ax_ref19_value a0 a1 ((a0.getD a2.toNat d_RuleNode).Right)), [false, false, false], rx_ref19_value y19, px_ref19_value y19, true⟩)] 12 1024 [.keep [6] [] []] ⟨74, [(6, .c (.v (.int .i64 (if y17 < y19 then y19 else y17))))], [], []⟩ [(EqXs (ax_ref19_value a0 a1 ((a0.getD a2.toNat d_RuleNode).Left)) (ax_ref19_value a0 a1 ((a0.getD a2.toNat d_RuleNode).Left))), (FnOk Tryd.prog 49 (ax_ref19_value a0 a1 ((a0.getD a2.toNat d_RuleNode).Left)) (rx_ref19_value y17) (px_ref19_value y17)), (EqXs (ax_ref19_value a0 a1 ((a0.getD a2.toNat d_RuleNode).Right)) (ax_ref19_value a0 a1 ((a0.getD a2.toNat d_RuleNode).Right))), (FnOk Tryd.prog 49 (ax_ref19_value a0 a1 ((a0.getD a2.toNat d_RuleNode).Right)) (rx_ref19_value y19) (px_ref19_value y19))] (by kernel_rfl) ⟨(eqs (eqr _) (eqs (eqr _) (eqs (eqr _) eqs0))), (hrec a0 a1 ((a0.getD a2.toNat d_RuleNode).Left) y17 c18), (eqs (eqr _) (eqs (eqr _) (eqs (eqr _) eqs0))), (hrec a0 a1 ((a0.getD a2.toNat d_RuleNode).Right) y19 c20), trivial⟩ ?_
          refine tri_ret ?_
          rw [some_inv h]
          exact ⟨[], by kernel_rfl, trivial⟩
end Go.Proofs.YtmdolfannbbipaaDoor
namespace Go.Proofs.YtmdolfannbbipaaDoor
open Go Go.RowKit Go.Ev Go.Proofs
set_option linter.unusedVariables false

set_option maxRecDepth 100000
theorem ok_ref19_Eval (K : Nat) (a0 : (List T_RuleNode)) (a1 : (List Int)) (r : Int) (h : ref19_Eval K a0 a1 = some r) : FnOk Tryd.prog 22 (ax_ref19_Eval a0 a1) (rx_ref19_Eval r) (px_ref19_Eval r) := by
  refine ⟨⟨Tryd.f22, Tryd.func22, by kernel_rfl, by kernel_rfl⟩, ?_⟩
  unfold ref19_Eval at h
  refine fn_ok env Tryd.func22 rfl ⟨14, [(0, .c (.lst 4 a0.length (encF e_RuleNode d_RuleNode a0))), (1, .c (.lst 1 a1.length (encF (eI .i64) 0 a1)))], [], []⟩ [] (by kernel_rfl) fun X => ?_
  refine tri_reg env [] 1 1024 [.keep [0, 1] [] []] ⟨14, [(0, .c (.lst 4 a0.length (encF e_RuleNode d_RuleNode a0))), (1, .c (.lst 1 a1.length (encF (eI .i64) 0 a1)))], [], []⟩ [] (by kernel_rfl) trivial ?_
  refine tri_seq ?_
  obtain ⟨y1, c2, h⟩ := bnd_inv h
  refine tri_reg env [(1, .call ⟨(ax_ref19_Right a0), [false], rx_ref19_Right y1, px_ref19_Right y1, true⟩)] 2 1024 [.keep [0, 1, 7] [] []] ⟨14, [(0, .c (.lst 4 a0.length (encF e_RuleNode d_RuleNode a0))), (1, .c (.lst 1 a1.length (encF (eI .i64) 0 a1))), (7, .c (.v (.bool (!y1))))], [], []⟩ [(EqXs (ax_ref19_Right a0) (ax_ref19_Right a0)), (FnOk Tryd.prog 48 (ax_ref19_Right a0) (rx_ref19_Right y1) (px_ref19_Right y1))] (by kernel_rfl) ⟨(eqs (eqr _) eqs0), (ok_ref19_Right K a0 y1 c2), trivial⟩ ?_
  refine tri_cond (!y1) (by kernel_rfl) (fun e3 => ?_) (fun e3 => ?_)
  · replace h := cnd_t h e3
    refine tri_reg env [] 3 1024 [.keep [4] [] []] ⟨14, [(4, .c (.v (.int .i64 0)))], [], []⟩ [] (by kernel_rfl) trivial ?_
    refine tri_ret ?_
    refine thenR ?_
    rw [some_inv h]
    exact ⟨[], by kernel_rfl, trivial⟩
  · replace h := cnd_f h e3
    refine tri_skip ?_
    refine thenN ?_
    obtain ⟨y4, c5, h⟩ := bnd_inv h
    refine tri_reg env [(5, .call ⟨(ax_ref19_value a0 a1 (IntKind.wrap .i64 (((a0.length : Nat) : Int) - 1))), [false, false, false], rx_ref19_value y4, px_ref19_value y4, true⟩)] 4 1024 [.keep [4] [] []] ⟨14, [(4, .c (.v (.int .i64 y4)))], [], []⟩ [True, (EqXs (ax_ref19_value a0 a1 (IntKind.wrap .i64 (((a0.length : Nat) : Int) - 1))) (ax_ref19_value a0 a1 (IntKind.wrap .i64 (((a0.length : Nat) : Int) - 1)))), (FnOk Tryd.prog 49 (ax_ref19_value a0 a1 (IntKind.wrap .i64 (((a0.length : Nat) : Int) - 1))) (rx_ref19_value y4) (px_ref19_value y4))] (by kernel_rfl) ⟨trivial, (eqs (eqr _) (eqs (eqr _) (eqs (eqr _) eqs0))), (ok_ref19_value K a0 a1 (IntKind.wrap .i64 (((a0.length : Nat) : Int) - 1)) y4 c5), trivial⟩ ?_
    refine tri_ret ?_
    rw [some_inv h]
    exact ⟨[], by kernel_rfl, trivial⟩
end Go.Proofs.YtmdolfannbbipaaDoor
namespace Go.Proofs.YtmdolfannbbipaaDoor
open Go Go.RowKit Go.Ev Go.Proofs
set_option linter.unusedVariables false

set_option maxRecDepth 100000
theorem ok_law19_RuleChecks (K : Nat) (a0 : (List Int)) (a1 : (List T_RuleNode)) (a2 : Int) (a3 : Int) (a4 : Int) (a5 : (List Int)) (r : Bool) (h : law19_RuleChecks K a0 a1 a2 a3 a4 a5 = some r) : FnOk Tryd.prog 3 (ax_law19_RuleChecks a0 a1 a2 a3 a4 a5) (rx_law19_RuleChecks r) (px_law19_RuleChecks r) := by
  refine ⟨⟨Tryd.f3, Tryd.func3, by kernel_rfl, by kernel_rfl⟩, ?_⟩
  unfold law19_RuleChecks at h
  refine fn_ok env Tryd.func3 rfl ⟨70, [(0, .c (.lst 1 a0.length (encF (eI .u8) 0 a0))), (1, .c (.lst 4 a1.length (encF e_RuleNode d_RuleNode a1))), (2, .c (.v (.int .i64 a2))), (3, .c (.v (.int .i64 a3))), (4, .c (.v (.int .i64 a4))), (5, .c (.lst 1 a5.length (encF (eI .u8) 0 a5)))], [], []⟩ [] (by kernel_rfl) fun X => ?_
  refine tri_reg env [] 1 1024 [.keep [0, 1, 2, 3, 4, 5] [] []] ⟨70, [(0, .c (.lst 1 a0.length (encF (eI .u8) 0 a0))), (1, .c (.lst 4 a1.length (encF e_RuleNode d_RuleNode a1))), (2, .c (.v (.int .i64 a2))), (3, .c (.v (.int .i64 a3))), (4, .c (.v (.int .i64 a4))), (5, .c (.lst 1 a5.length (encF (eI .u8) 0 a5)))], [], []⟩ [] (by kernel_rfl) trivial ?_
  refine tri_seq ?_
  refine tri_reg env [] 2 1024 [.keep [0, 1, 2, 3, 4, 5, 18] [] []] ⟨70, [(0, .c (.lst 1 a0.length (encF (eI .u8) 0 a0))), (1, .c (.lst 4 a1.length (encF e_RuleNode d_RuleNode a1))), (2, .c (.v (.int .i64 a2))), (3, .c (.v (.int .i64 a3))), (4, .c (.v (.int .i64 a4))), (5, .c (.lst 1 a5.length (encF (eI .u8) 0 a5))), (18, .c (.v (.bool (decide (((a1.length : Nat) : Int) > 80)))))], [], []⟩ [True] (by kernel_rfl) ⟨trivial, trivial⟩ ?_
  refine tri_cond (decide (((a1.length : Nat) : Int) > 80)) (by kernel_rfl) (fun e1 => ?_) (fun e1 => ?_)
  · replace h := cnd_t h e1
    obtain ⟨y2, c3, h⟩ := bnd_inv h
    refine tri_reg env [(0, .call ⟨[], [], rx_law19_awake y2, px_law19_awake y2, true⟩)] 3 1024 [.keep [12] [] []] ⟨70, [(12, .c (.v (.bool y2)))], [], []⟩ [(EqXs [] []), (FnOk Tryd.prog 13 [] (rx_law19_awake y2) (px_law19_awake y2))] (by kernel_rfl) ⟨eqs0, (ok_law19_awake K  y2 c3), trivial⟩ ?_
    refine tri_ret ?_
    refine thenR ?_
    rw [some_inv h]
    exact ⟨[], by kernel_rfl, trivial⟩
  · replace h := cnd_f h e1
    refine tri_skip ?_
    refine thenN ?_
    obtain ⟨y4, c5, h⟩ := bnd_inv h
    refine tri_reg env [(1, .call ⟨(ax_law19_values a5), [false], rx_law19_values y4, px_law19_values y4, true⟩)] 4 1024 [.keep [0, 1, 2, 3, 4, 13] [] [(4001, 0)]] ⟨70, [(0, .c (.lst 1 a0.length (encF (eI .u8) 0 a0))), (1, .c (.lst 4 a1.length (encF e_RuleNode d_RuleNode a1))), (2, .c (.v (.int .i64 a2))), (3, .c (.v (.int .i64 a3))), (4, .c (.v (.int .i64 a4))), (13, .c (.ref (4001, 0) y4.length))], [], [((4001, 0), some ⟨false, 1, y4.length, encF (eI .i64) 0 y4⟩)]⟩ [(EqXs (ax_law19_values a5) (ax_law19_values a5)), (FnOk Tryd.prog 14 (ax_law19_values a5) (rx_law19_values y4) (px_law19_values y4))] (by kernel_rfl) ⟨(eqs (eqr _) eqs0), (ok_law19_values K a5 y4 c5), trivial⟩ ?_
    refine tri_joinC (fun (v2 : Unit) => ⟨70, [], [], []⟩) h (fun v2 h => ?_) (fun j2 h => ?_)
    · obtain ⟨y6, c7, h⟩ := bnd_inv h
      refine tri_reg env [(0, .call ⟨[], [], rx_law19_awake y6, px_law19_awake y6, true⟩)] 11 1024 [.keep [12] [] []] ⟨70, [(12, .c (.v (.bool y6)))], [], []⟩ [(EqXs [] []), (FnOk Tryd.prog 13 [] (rx_law19_awake y6) (px_law19_awake y6))] (by kernel_rfl) ⟨eqs0, (ok_law19_awake K  y6 c7), trivial⟩ ?_
      refine tri_ret ?_
      rw [some_inv h]
      exact ⟨[], by kernel_rfl, trivial⟩
    · obtain ⟨y8, c9, h⟩ := bnd_inv h
      refine tri_reg env [(3, .call ⟨(ax_law19_made a0 a2 a3), [false, false, false], rx_law19_made y8, px_law19_made y8, true⟩)] 5 1024 [.arr (5005, 0) (([y8, a1] : List (List T_RuleNode)).length) (encF (eL 4 e_RuleNode d_RuleNode) [] ([y8, a1] : List (List T_RuleNode))), .slot 27 (.c (.ref (5005, 0) (([y8, a1] : List (List T_RuleNode)).length))), .keep [4, 13, 27, 28, 29] [] [(4001, 0), (5005, 0)]] ⟨70, [(4, .c (.v (.int .i64 a4))), (13, .c (.ref (4001, 0) y4.length)), (27, .c (.ref (5005, 0) (([y8, a1] : List (List T_RuleNode)).length))), (28, .c (.v (.int .i64 2))), (29, .c (.v (.int .i64 0)))], [], [((4001, 0), some ⟨false, 1, y4.length, encF (eI .i64) 0 y4⟩), ((5005, 0), some ⟨false, 1, (([y8, a1] : List (List T_RuleNode)).length), encF (eL 4 e_RuleNode d_RuleNode) [] ([y8, a1] : List (List T_RuleNode))⟩)]⟩ [(EqXs (ax_law19_made a0 a2 a3) (ax_law19_made a0 a2 a3)), (FnOk Tryd.prog 15 (ax_law19_made a0 a2 a3) (rx_law19_made y8) (px_law19_made y8)), (2 = ([y8, a1] : List (List T_RuleNode)).length ∧ ∀ i, i < ([y8, a1] : List (List T_RuleNode)).length → (fun i => window [.lst 4 y8.length (encF e_RuleNode d_RuleNode y8), .lst 4 a1.length (encF e_RuleNode d_RuleNode a1)] (i * 1) 1) i = (encF (eL 4 e_RuleNode d_RuleNode) [] ([y8, a1] : List (List T_RuleNode))) i), (TellS (.c (.ref (5005, 0) 2)) (.c (.ref (5005, 0) (([y8, a1] : List (List T_RuleNode)).length))))] (by kernel_rfl) ⟨(eqs (eqr _) (eqs (eqr _) (eqs (eqr _) eqs0))), (ok_law19_made K a0 a2 a3 y8 c9), (Tells.arr (Tells.items (e := (eL 4 e_RuleNode d_RuleNode)) (d := []) (k := 2) (g := (fun i => window [.lst 4 y8.length (encF e_RuleNode d_RuleNode y8), .lst 4 a1.length (encF e_RuleNode d_RuleNode a1)] (i * 1) 1)) (L := ([y8, a1] : List (List T_RuleNode))) rfl (belowS rfl (belowS rfl below0)))), (TellC.ref (Tells.len (e := (eL 4 e_RuleNode d_RuleNode)) (d := []) (n := 2) (g := (fun i => window [.lst 4 y8.length (encF e_RuleNode d_RuleNode y8), .lst 4 a1.length (encF e_RuleNode d_RuleNode a1)] (i * 1) 1)) (L := ([y8, a1] : List (List T_RuleNode))) (Tells.items (e := (eL 4 e_RuleNode d_RuleNode)) (d := []) (k := 2) (g := (fun i => window [.lst 4 y8.length (encF e_RuleNode d_RuleNode y8), .lst 4 a1.length (encF e_RuleNode d_RuleNode a1)] (i * 1) 1)) (L := ([y8, a1] : List (List T_RuleNode))) rfl (belowS rfl (belowS rfl below0))))), trivial⟩ ?_
      refine tri_block ?_
      refine tri_tell [.keep [4, 13, 27, 28, 29] [] [(4001, 0), (5005, 0)], .ren (4001, 0) (700001, 0), .ren (5005, 0) (700001, 1)] ⟨70, [(4, .c (.v (.int .i64 a4))), (13, .c (.ref (700001, 0) y4.length)), (27, .c (.ref (700001, 1) (([y8, a1] : List (List T_RuleNode)).length))), (28, .c (.v (.int .i64 2))), (29, .c (.v (.int .i64 0)))], [], [((700001, 0), some ⟨false, 1, y4.length, encF (eI .i64) 0 y4⟩), ((700001, 1), some ⟨false, 1, (([y8, a1] : List (List T_RuleNode)).length), encF (eL 4 e_RuleNode d_RuleNode) [] ([y8, a1] : List (List T_RuleNode))⟩)]⟩ [] (by kernel_rfl) trivial ?_
      refine tri_loopK (fun (v1 : Int) => ⟨70, [(4, .c (.v (.int .i64 a4))), (13, .c (.ref (700001, 0) y4.length)), (27, .c (.ref (700001, 1) (([y8, a1] : List (List T_RuleNode)).length))), (28, .c (.v (.int .i64 2))), (29, .c (.v (.int .i64 v1)))], [], [((700001, 0), some ⟨false, 1, y4.length, encF (eI .i64) 0 y4⟩), ((700001, 1), some ⟨false, 1, (([y8, a1] : List (List T_RuleNode)).length), encF (eL 4 e_RuleNode d_RuleNode) [] ([y8, a1] : List (List T_RuleNode))⟩)]⟩) (v := 0) h (fun self1 v1 h => ?_) (by kernel_rfl)
      unfold law19_RuleChecks_b1 at h
      refine tri_reg env [] 6 1024 [.keep [4, 13, 27, 28, 29, 30] [] [(700001, 0), (700001, 1)]] ⟨70, [(4, .c (.v (.int .i64 a4))), (13, .c (.ref (700001, 0) y4.length)), (27, .c (.ref (700001, 1) (([y8, a1] : List (List T_RuleNode)).length))), (28, .c (.v (.int .i64 2))), (29, .c (.v (.int .i64 v1))), (30, .c (.v (.bool (decide (v1 < 2)))))], [], [((700001, 0), some ⟨false, 1, y4.length, encF (eI .i64) 0 y4⟩), ((700001, 1), some ⟨false, 1, (([y8, a1] : List (List T_RuleNode)).length), encF (eL 4 e_RuleNode d_RuleNode) [] ([y8, a1] : List (List T_RuleNode))⟩)]⟩ [True] (by kernel_rfl) ⟨trivial, trivial⟩ ?_
      refine tri_seq ?_
      refine tri_cond (decide (v1 < 2)) (by kernel_rfl) (fun e10 => ?_) (fun e10 => ?_)
      · replace h := cnd_t h e10
        refine tri_skip ?_
        refine thenN ?_
        refine tri_seq ?_
        refine tri_block ?_
        obtain ⟨q11, h⟩ := ck_inv h
        refine tri_reg env [] 7 1024 [.keep [4, 13, 15, 27, 28, 29] [] [(700001, 0), (700001, 1)]] ⟨70, [(4, .c (.v (.int .i64 a4))), (13, .c (.ref (700001, 0) y4.length)), (15, .c (.lst 4 ((([y8, a1] : List (List T_RuleNode)).getD v1.toNat []).length) (encF e_RuleNode d_RuleNode (([y8, a1] : List (List T_RuleNode)).getD v1.toNat [])))), (27, .c (.ref (700001, 1) (([y8, a1] : List (List T_RuleNode)).length))), (28, .c (.v (.int .i64 2))), (29, .c (.v (.int .i64 v1)))], [], [((700001, 0), some ⟨false, 1, y4.length, encF (eI .i64) 0 y4⟩), ((700001, 1), some ⟨false, 1, (([y8, a1] : List (List T_RuleNode)).length), encF (eL 4 e_RuleNode d_RuleNode) [] ([y8, a1] : List (List T_RuleNode))⟩)]⟩ [(0 ≤ v1 ∧ v1 < ((([y8, a1] : List (List T_RuleNode)).length : Nat) : Int)), (v1.toNat < (([y8, a1] : List (List T_RuleNode)).length))] (by kernel_rfl) ⟨q11, (inr' q11), trivial⟩ ?_
        obtain ⟨y12, c13, h⟩ := bnd_inv h
        obtain ⟨y14, c15, h⟩ := bnd_inv h
        refine cnd_split h (fun e16 h => ?_) (fun e16 h => ?_)
        · refine tri_reg env [(2, .call ⟨(ax_rule_Check (([y8, a1] : List (List T_RuleNode)).getD v1.toNat []) a4), [false, false], rx_rule_Check y12, px_rule_Check y12, true⟩), (5, .call ⟨(ax_ref19_Check (([y8, a1] : List (List T_RuleNode)).getD v1.toNat []) a4), [false, false], rx_ref19_Check y14, px_ref19_Check y14, true⟩), (7, .b true), (17, .b true), (18, .b true), (25, .b true), (26, .b true), (34, .b true)] 8 1024 [.keep [4, 13, 27, 28, 29, 67] [] [(700001, 0), (700001, 1)]] ⟨70, [(4, .c (.v (.int .i64 a4))), (13, .c (.ref (700001, 0) y4.length)), (27, .c (.ref (700001, 1) (([y8, a1] : List (List T_RuleNode)).length))), (28, .c (.v (.int .i64 2))), (29, .c (.v (.int .i64 v1))), (67, .c (.v (.bool true)))], [], [((700001, 0), some ⟨false, 1, y4.length, encF (eI .i64) 0 y4⟩), ((700001, 1), some ⟨false, 1, (([y8, a1] : List (List T_RuleNode)).length), encF (eL 4 e_RuleNode d_RuleNode) [] ([y8, a1] : List (List T_RuleNode))⟩)]⟩ [(EqXs (ax_rule_Check (([y8, a1] : List (List T_RuleNode)).getD v1.toNat []) a4) (ax_rule_Check (([y8, a1] : List (List T_RuleNode)).getD v1.toNat []) a4)), (FnOk Tryd.prog 16 (ax_rule_Check (([y8, a1] : List (List T_RuleNode)).getD v1.toNat []) a4) (rx_rule_Check y12) (px_rule_Check y12)), (EqXs (ax_ref19_Check (([y8, a1] : List (List T_RuleNode)).getD v1.toNat []) a4) (ax_ref19_Check (([y8, a1] : List (List T_RuleNode)).getD v1.toNat []) a4)), (FnOk Tryd.prog 17 (ax_ref19_Check (([y8, a1] : List (List T_RuleNode)).getD v1.toNat []) a4) (rx_ref19_Check y14) (px_ref19_Check y14)), True, ((y12 != y14) = true), ((y12 != y14) = true), ((y12 != y14) = true), ((y12 != y14) = true), ((y12 != y14) = true), ((y12 != y14) = true), ((y12 != y14) = true), ((y12 != y14) = true), ((y12 != y14) = true), ((y12 != y14) = true), (true = true), (true = true), (true = true), (true = true), (true = true), (true = true), (true = true), (true = true), (true = true), (true = true), (true = true), (true = true), (true = true), (true = true), (true = true)] (by kernel_rfl) ⟨(eqs (eqr _) (eqs (eqr _) eqs0)), (ok_rule_Check K (([y8, a1] : List (List T_RuleNode)).getD v1.toNat []) a4 y12 c13), (eqs (eqr _) (eqs (eqr _) eqs0)), (ok_ref19_Check K (([y8, a1] : List (List T_RuleNode)).getD v1.toNat []) a4 y14 c15), trivial, e16, e16, e16, e16, e16, e16, e16, e16, e16, e16, rfl, rfl, rfl, rfl, rfl, rfl, rfl, rfl, rfl, rfl, rfl, rfl, rfl, rfl, rfl, trivial⟩ ?_
          refine tri_cond true (by kernel_rfl) (fun _ => ?_) (fun e => by cases e)
          refine tri_reg env [] 9 1024 [.keep [12] [] []] ⟨70, [(12, .c (.v (.bool false)))], [], []⟩ [] (by kernel_rfl) trivial ?_
          refine tri_ret ?_
          refine inBR ?_
          refine thenR ?_
          refine thenR ?_
          refine inBR ?_
          refine thenR ?_
          rw [some_inv h]
          exact ⟨[], by kernel_rfl, trivial⟩
        · obtain ⟨y18, c19, h⟩ := bnd_inv h
          obtain ⟨y20, c21, h⟩ := bnd_inv h
          refine cnd_split h (fun e22 h => ?_) (fun e22 h => ?_)
          · refine tri_reg env [(2, .call ⟨(ax_rule_Check (([y8, a1] : List (List T_RuleNode)).getD v1.toNat []) a4), [false, false], rx_rule_Check y12, px_rule_Check y12, true⟩), (5, .call ⟨(ax_ref19_Check (([y8, a1] : List (List T_RuleNode)).getD v1.toNat []) a4), [false, false], rx_ref19_Check y14, px_ref19_Check y14, true⟩), (7, .b false), (11, .call ⟨(ax_rule_Check (([y8, a1] : List (List T_RuleNode)).getD v1.toNat []) ((y4.length : Nat) : Int)), [false, false], rx_rule_Check y18, px_rule_Check y18, true⟩), (15, .call ⟨(ax_ref19_Check (([y8, a1] : List (List T_RuleNode)).getD v1.toNat []) ((y4.length : Nat) : Int)), [false, false], rx_ref19_Check y20, px_ref19_Check y20, true⟩), (17, .b false), (18, .b true), (25, .b true), (26, .b true), (34, .b true)] 8 1024 [.keep [4, 13, 27, 28, 29, 67] [] [(700001, 0), (700001, 1)]] ⟨70, [(4, .c (.v (.int .i64 a4))), (13, .c (.ref (700001, 0) y4.length)), (27, .c (.ref (700001, 1) (([y8, a1] : List (List T_RuleNode)).length))), (28, .c (.v (.int .i64 2))), (29, .c (.v (.int .i64 v1))), (67, .c (.v (.bool true)))], [], [((700001, 0), some ⟨false, 1, y4.length, encF (eI .i64) 0 y4⟩), ((700001, 1), some ⟨false, 1, (([y8, a1] : List (List T_RuleNode)).length), encF (eL 4 e_RuleNode d_RuleNode) [] ([y8, a1] : List (List T_RuleNode))⟩)]⟩ [(EqXs (ax_rule_Check (([y8, a1] : List (List T_RuleNode)).getD v1.toNat []) a4) (ax_rule_Check (([y8, a1] : List (List T_RuleNode)).getD v1.toNat []) a4)), (FnOk Tryd.prog 16 (ax_rule_Check (([y8, a1] : List (List T_RuleNode)).getD v1.toNat []) a4) (rx_rule_Check y12) (px_rule_Check y12)), (EqXs (ax_ref19_Check (([y8, a1] : List (List T_RuleNode)).getD v1.toNat []) a4) (ax_ref19_Check (([y8, a1] : List (List T_RuleNode)).getD v1.toNat []) a4)), (FnOk Tryd.prog 17 (ax_ref19_Check (([y8, a1] : List (List T_RuleNode)).getD v1.toNat []) a4) (rx_ref19_Check y14) (px_ref19_Check y14)), True, ((y12 != y14) = false), ((y12 != y14) = false), ((y12 != y14) = false), ((y12 != y14) = false), (EqXs (ax_rule_Check (([y8, a1] : List (List T_RuleNode)).getD v1.toNat []) ((y4.length : Nat) : Int)) (ax_rule_Check (([y8, a1] : List (List T_RuleNode)).getD v1.toNat []) ((y4.length : Nat) : Int))), (FnOk Tryd.prog 16 (ax_rule_Check (([y8, a1] : List (List T_RuleNode)).getD v1.toNat []) ((y4.length : Nat) : Int)) (rx_rule_Check y18) (px_rule_Check y18)), ((y12 != y14) = false), ((y12 != y14) = false), ((y12 != y14) = false), ((y12 != y14) = false), (EqXs (ax_ref19_Check (([y8, a1] : List (List T_RuleNode)).getD v1.toNat []) ((y4.length : Nat) : Int)) (ax_ref19_Check (([y8, a1] : List (List T_RuleNode)).getD v1.toNat []) ((y4.length : Nat) : Int))), (FnOk Tryd.prog 17 (ax_ref19_Check (([y8, a1] : List (List T_RuleNode)).getD v1.toNat []) ((y4.length : Nat) : Int)) (rx_ref19_Check y20) (px_ref19_Check y20)), ((y12 != y14) = false), True, ((y12 != y14) = false), ((y18 != y20) = true), ((y18 != y20) = true), ((y18 != y20) = true), ((y18 != y20) = true), ((y18 != y20) = true), ((y18 != y20) = true), ((y18 != y20) = true), (true = true), (true = true), (true = true), (true = true), (true = true), (true = true), (true = true), (true = true)] (by kernel_rfl) ⟨(eqs (eqr _) (eqs (eqr _) eqs0)), (ok_rule_Check K (([y8, a1] : List (List T_RuleNode)).getD v1.toNat []) a4 y12 c13), (eqs (eqr _) (eqs (eqr _) eqs0)), (ok_ref19_Check K (([y8, a1] : List (List T_RuleNode)).getD v1.toNat []) a4 y14 c15), trivial, e16, e16, e16, e16, (eqs (eqr _) (eqs (eqr _) eqs0)), (ok_rule_Check K (([y8, a1] : List (List T_RuleNode)).getD v1.toNat []) ((y4.length : Nat) : Int) y18 c19), e16, e16, e16, e16, (eqs (eqr _) (eqs (eqr _) eqs0)), (ok_ref19_Check K (([y8, a1] : List (List T_RuleNode)).getD v1.toNat []) ((y4.length : Nat) : Int) y20 c21), e16, trivial, e16, e22, e22, e22, e22, e22, e22, e22, rfl, rfl, rfl, rfl, rfl, rfl, rfl, rfl, trivial⟩ ?_
            refine tri_cond true (by kernel_rfl) (fun _ => ?_) (fun e => by cases e)
            refine tri_reg env [] 9 1024 [.keep [12] [] []] ⟨70, [(12, .c (.v (.bool false)))], [], []⟩ [] (by kernel_rfl) trivial ?_
            refine tri_ret ?_
            refine inBR ?_
            refine thenR ?_
            refine thenR ?_
            refine inBR ?_
            refine thenR ?_
            rw [some_inv h]
            exact ⟨[], by kernel_rfl, trivial⟩
          · obtain ⟨y24, c25, h⟩ := bnd_inv h
            obtain ⟨y26, c27, h⟩ := bnd_inv h
            obtain ⟨y28, c29, h⟩ := bnd_inv h
            refine cnd_split h (fun e30 h => ?_) (fun e30 h => ?_)
            · refine tri_reg env [(2, .call ⟨(ax_rule_Check (([y8, a1] : List (List T_RuleNode)).getD v1.toNat []) a4), [false, false], rx_rule_Check y12, px_rule_Check y12, true⟩), (5, .call ⟨(ax_ref19_Check (([y8, a1] : List (List T_RuleNode)).getD v1.toNat []) a4), [false, false], rx_ref19_Check y14, px_ref19_Check y14, true⟩), (7, .b false), (11, .call ⟨(ax_rule_Check (([y8, a1] : List (List T_RuleNode)).getD v1.toNat []) ((y4.length : Nat) : Int)), [false, false], rx_rule_Check y18, px_rule_Check y18, true⟩), (15, .call ⟨(ax_ref19_Check (([y8, a1] : List (List T_RuleNode)).getD v1.toNat []) ((y4.length : Nat) : Int)), [false, false], rx_ref19_Check y20, px_ref19_Check y20, true⟩), (17, .b false), (18, .b false), (20, .call ⟨(ax_rule_Uses (([y8, a1] : List (List T_RuleNode)).getD v1.toNat [])), [false], rx_rule_Uses y24, px_rule_Uses y24, true⟩), (22, .call ⟨(ax_ref19_Uses (([y8, a1] : List (List T_RuleNode)).getD v1.toNat [])), [false], rx_ref19_Uses y26, px_ref19_Uses y26, true⟩), (23, .call ⟨(ax_ref01_Ints y24 y26), [false, false], rx_ref01_Ints y28, px_ref01_Ints y28, false⟩), (25, .b false), (26, .b true), (34, .b true)] 8 1024 [.keep [4, 13, 27, 28, 29, 67] [] [(700001, 0), (700001, 1)]] ⟨70, [(4, .c (.v (.int .i64 a4))), (13, .c (.ref (700001, 0) y4.length)), (27, .c (.ref (700001, 1) (([y8, a1] : List (List T_RuleNode)).length))), (28, .c (.v (.int .i64 2))), (29, .c (.v (.int .i64 v1))), (67, .c (.v (.bool true)))], [], [((700001, 0), some ⟨false, 1, y4.length, encF (eI .i64) 0 y4⟩), ((700001, 1), some ⟨false, 1, (([y8, a1] : List (List T_RuleNode)).length), encF (eL 4 e_RuleNode d_RuleNode) [] ([y8, a1] : List (List T_RuleNode))⟩)]⟩ [(EqXs (ax_rule_Check (([y8, a1] : List (List T_RuleNode)).getD v1.toNat []) a4) (ax_rule_Check (([y8, a1] : List (List T_RuleNode)).getD v1.toNat []) a4)), (FnOk Tryd.prog 16 (ax_rule_Check (([y8, a1] : List (List T_RuleNode)).getD v1.toNat []) a4) (rx_rule_Check y12) (px_rule_Check y12)), (EqXs (ax_ref19_Check (([y8, a1] : List (List T_RuleNode)).getD v1.toNat []) a4) (ax_ref19_Check (([y8, a1] : List (List T_RuleNode)).getD v1.toNat []) a4)), (FnOk Tryd.prog 17 (ax_ref19_Check (([y8, a1] : List (List T_RuleNode)).getD v1.toNat []) a4) (rx_ref19_Check y14) (px_ref19_Check y14)), True, ((y12 != y14) = false), ((y12 != y14) = false), ((y12 != y14) = false), ((y12 != y14) = false), (EqXs (ax_rule_Check (([y8, a1] : List (List T_RuleNode)).getD v1.toNat []) ((y4.length : Nat) : Int)) (ax_rule_Check (([y8, a1] : List (List T_RuleNode)).getD v1.toNat []) ((y4.length : Nat) : Int))), (FnOk Tryd.prog 16 (ax_rule_Check (([y8, a1] : List (List T_RuleNode)).getD v1.toNat []) ((y4.length : Nat) : Int)) (rx_rule_Check y18) (px_rule_Check y18)), ((y12 != y14) = false), ((y12 != y14) = false), ((y12 != y14) = false), ((y12 != y14) = false), (EqXs (ax_ref19_Check (([y8, a1] : List (List T_RuleNode)).getD v1.toNat []) ((y4.length : Nat) : Int)) (ax_ref19_Check (([y8, a1] : List (List T_RuleNode)).getD v1.toNat []) ((y4.length : Nat) : Int))), (FnOk Tryd.prog 17 (ax_ref19_Check (([y8, a1] : List (List T_RuleNode)).getD v1.toNat []) ((y4.length : Nat) : Int)) (rx_ref19_Check y20) (px_ref19_Check y20)), ((y12 != y14) = false), True, ((y12 != y14) = false), ((y18 != y20) = false), ((y18 != y20) = false), (EqXs (ax_rule_Uses (([y8, a1] : List (List T_RuleNode)).getD v1.toNat [])) (ax_rule_Uses (([y8, a1] : List (List T_RuleNode)).getD v1.toNat []))), (FnOk Tryd.prog 19 (ax_rule_Uses (([y8, a1] : List (List T_RuleNode)).getD v1.toNat [])) (rx_rule_Uses y24) (px_rule_Uses y24)), ((y18 != y20) = false), ((y18 != y20) = false), (EqXs (ax_ref19_Uses (([y8, a1] : List (List T_RuleNode)).getD v1.toNat [])) (ax_ref19_Uses (([y8, a1] : List (List T_RuleNode)).getD v1.toNat []))), (FnOk Tryd.prog 20 (ax_ref19_Uses (([y8, a1] : List (List T_RuleNode)).getD v1.toNat [])) (rx_ref19_Uses y26) (px_ref19_Uses y26)), ((y18 != y20) = false), (EqXs (ax_ref01_Ints y24 y26) (ax_ref01_Ints y24 y26)), (FnOk Tryd.prog 18 (ax_ref01_Ints y24 y26) (rx_ref01_Ints y28) (px_ref01_Ints y28)), (flatX (rx_ref01_Ints y28) ∧ flatXss (px_ref01_Ints y28)), ((y18 != y20) = false), ((y18 != y20) = false), ((!y28) = true), ((!y28) = true), ((!y28) = true), ((!y28) = true), ((!y28) = true), ((!y28) = true), ((!y28) = true), ((!y28) = true)] (by kernel_rfl) ⟨(eqs (eqr _) (eqs (eqr _) eqs0)), (ok_rule_Check K (([y8, a1] : List (List T_RuleNode)).getD v1.toNat []) a4 y12 c13), (eqs (eqr _) (eqs (eqr _) eqs0)), (ok_ref19_Check K (([y8, a1] : List (List T_RuleNode)).getD v1.toNat []) a4 y14 c15), trivial, e16, e16, e16, e16, (eqs (eqr _) (eqs (eqr _) eqs0)), (ok_rule_Check K (([y8, a1] : List (List T_RuleNode)).getD v1.toNat []) ((y4.length : Nat) : Int) y18 c19), e16, e16, e16, e16, (eqs (eqr _) (eqs (eqr _) eqs0)), (ok_ref19_Check K (([y8, a1] : List (List T_RuleNode)).getD v1.toNat []) ((y4.length : Nat) : Int) y20 c21), e16, trivial, e16, e22, e22, (eqs (eqr _) eqs0), (ok_rule_Uses K (([y8, a1] : List (List T_RuleNode)).getD v1.toNat []) y24 c25), e22, e22, (eqs (eqr _) eqs0), (ok_ref19_Uses K (([y8, a1] : List (List T_RuleNode)).getD v1.toNat []) y26 c27), e22, (eqs (eqr _) (eqs (eqr _) eqs0)), (ok_ref01_Ints K y24 y26 y28 c29), (flat_ref01_Ints y28), e22, e22, e30, e30, e30, e30, e30, e30, e30, e30, trivial⟩ ?_
              refine tri_cond true (by kernel_rfl) (fun _ => ?_) (fun e => by cases e)
              refine tri_reg env [] 9 1024 [.keep [12] [] []] ⟨70, [(12, .c (.v (.bool false)))], [], []⟩ [] (by kernel_rfl) trivial ?_
              refine tri_ret ?_
              refine inBR ?_
              refine thenR ?_
              refine thenR ?_
              refine inBR ?_
              refine thenR ?_
              rw [some_inv h]
              exact ⟨[], by kernel_rfl, trivial⟩
            · obtain ⟨y32, c33, h⟩ := bnd_inv h
              obtain ⟨y34, c35, h⟩ := bnd_inv h
              refine tri_reg env [(2, .call ⟨(ax_rule_Check (([y8, a1] : List (List T_RuleNode)).getD v1.toNat []) a4), [false, false], rx_rule_Check y12, px_rule_Check y12, true⟩), (5, .call ⟨(ax_ref19_Check (([y8, a1] : List (List T_RuleNode)).getD v1.toNat []) a4), [false, false], rx_ref19_Check y14, px_ref19_Check y14, true⟩), (7, .b false), (11, .call ⟨(ax_rule_Check (([y8, a1] : List (List T_RuleNode)).getD v1.toNat []) ((y4.length : Nat) : Int)), [false, false], rx_rule_Check y18, px_rule_Check y18, true⟩), (15, .call ⟨(ax_ref19_Check (([y8, a1] : List (List T_RuleNode)).getD v1.toNat []) ((y4.length : Nat) : Int)), [false, false], rx_ref19_Check y20, px_ref19_Check y20, true⟩), (17, .b false), (18, .b false), (20, .call ⟨(ax_rule_Uses (([y8, a1] : List (List T_RuleNode)).getD v1.toNat [])), [false], rx_rule_Uses y24, px_rule_Uses y24, true⟩), (22, .call ⟨(ax_ref19_Uses (([y8, a1] : List (List T_RuleNode)).getD v1.toNat [])), [false], rx_ref19_Uses y26, px_ref19_Uses y26, true⟩), (23, .call ⟨(ax_ref01_Ints y24 y26), [false, false], rx_ref01_Ints y28, px_ref01_Ints y28, false⟩), (25, .b false), (26, .b false), (29, .call ⟨(ax_rule_Eval (([y8, a1] : List (List T_RuleNode)).getD v1.toNat []) y4), [false, false], rx_rule_Eval y32, px_rule_Eval y32, false⟩), (32, .call ⟨(ax_ref19_Eval (([y8, a1] : List (List T_RuleNode)).getD v1.toNat []) y4), [false, false], rx_ref19_Eval y34, px_ref19_Eval y34, false⟩), (34, .b false)] 8 1024 [.keep [4, 13, 27, 28, 29, 67] [] [(700001, 0), (700001, 1)]] ⟨70, [(4, .c (.v (.int .i64 a4))), (13, .c (.ref (700001, 0) y4.length)), (27, .c (.ref (700001, 1) (([y8, a1] : List (List T_RuleNode)).length))), (28, .c (.v (.int .i64 2))), (29, .c (.v (.int .i64 v1))), (67, .c (.v (.bool (y32 != y34))))], [], [((700001, 0), some ⟨false, 1, y4.length, encF (eI .i64) 0 y4⟩), ((700001, 1), some ⟨false, 1, (([y8, a1] : List (List T_RuleNode)).length), encF (eL 4 e_RuleNode d_RuleNode) [] ([y8, a1] : List (List T_RuleNode))⟩)]⟩ [(EqXs (ax_rule_Check (([y8, a1] : List (List T_RuleNode)).getD v1.toNat []) a4) (ax_rule_Check (([y8, a1] : List (List T_RuleNode)).getD v1.toNat []) a4)), (FnOk Tryd.prog 16 (ax_rule_Check (([y8, a1] : List (List T_RuleNode)).getD v1.toNat []) a4) (rx_rule_Check y12) (px_rule_Check y12)), (EqXs (ax_ref19_Check (([y8, a1] : List (List T_RuleNode)).getD v1.toNat []) a4) (ax_ref19_Check (([y8, a1] : List (List T_RuleNode)).getD v1.toNat []) a4)), (FnOk Tryd.prog 17 (ax_ref19_Check (([y8, a1] : List (List T_RuleNode)).getD v1.toNat []) a4) (rx_ref19_Check y14) (px_ref19_Check y14)), True, ((y12 != y14) = false), ((y12 != y14) = false), ((y12 != y14) = false), ((y12 != y14) = false), (EqXs (ax_rule_Check (([y8, a1] : List (List T_RuleNode)).getD v1.toNat []) ((y4.length : Nat) : Int)) (ax_rule_Check (([y8, a1] : List (List T_RuleNode)).getD v1.toNat []) ((y4.length : Nat) : Int))), (FnOk Tryd.prog 16 (ax_rule_Check (([y8, a1] : List (List T_RuleNode)).getD v1.toNat []) ((y4.length : Nat) : Int)) (rx_rule_Check y18) (px_rule_Check y18)), ((y12 != y14) = false), ((y12 != y14) = false), ((y12 != y14) = false), ((y12 != y14) = false), (EqXs (ax_ref19_Check (([y8, a1] : List (List T_RuleNode)).getD v1.toNat []) ((y4.length : Nat) : Int)) (ax_ref19_Check (([y8, a1] : List (List T_RuleNode)).getD v1.toNat []) ((y4.length : Nat) : Int))), (FnOk Tryd.prog 17 (ax_ref19_Check (([y8, a1] : List (List T_RuleNode)).getD v1.toNat []) ((y4.length : Nat) : Int)) (rx_ref19_Check y20) (px_ref19_Check y20)), ((y12 != y14) = false), True, ((y12 != y14) = false), ((y18 != y20) = false), ((y18 != y20) = false), (EqXs (ax_rule_Uses (([y8, a1] : List (List T_RuleNode)).getD v1.toNat [])) (ax_rule_Uses (([y8, a1] : List (List T_RuleNode)).getD v1.toNat []))), (FnOk Tryd.prog 19 (ax_rule_Uses (([y8, a1] : List (List T_RuleNode)).getD v1.toNat [])) (rx_rule_Uses y24) (px_rule_Uses y24)), ((y18 != y20) = false), ((y18 != y20) = false), (EqXs (ax_ref19_Uses (([y8, a1] : List (List T_RuleNode)).getD v1.toNat [])) (ax_ref19_Uses (([y8, a1] : List (List T_RuleNode)).getD v1.toNat []))), (FnOk Tryd.prog 20 (ax_ref19_Uses (([y8, a1] : List (List T_RuleNode)).getD v1.toNat [])) (rx_ref19_Uses y26) (px_ref19_Uses y26)), ((y18 != y20) = false), (EqXs (ax_ref01_Ints y24 y26) (ax_ref01_Ints y24 y26)), (FnOk Tryd.prog 18 (ax_ref01_Ints y24 y26) (rx_ref01_Ints y28) (px_ref01_Ints y28)), (flatX (rx_ref01_Ints y28) ∧ flatXss (px_ref01_Ints y28)), ((y18 != y20) = false), ((y18 != y20) = false), ((!y28) = false), ((!y28) = false), ((!y28) = false), (EqXs (ax_rule_Eval (([y8, a1] : List (List T_RuleNode)).getD v1.toNat []) y4) (ax_rule_Eval (([y8, a1] : List (List T_RuleNode)).getD v1.toNat []) y4)), (FnOk Tryd.prog 21 (ax_rule_Eval (([y8, a1] : List (List T_RuleNode)).getD v1.toNat []) y4) (rx_rule_Eval y32) (px_rule_Eval y32)), (flatX (rx_rule_Eval y32) ∧ flatXss (px_rule_Eval y32)), ((!y28) = false), ((!y28) = false), ((!y28) = false), (EqXs (ax_ref19_Eval (([y8, a1] : List (List T_RuleNode)).getD v1.toNat []) y4) (ax_ref19_Eval (([y8, a1] : List (List T_RuleNode)).getD v1.toNat []) y4)), (FnOk Tryd.prog 22 (ax_ref19_Eval (([y8, a1] : List (List T_RuleNode)).getD v1.toNat []) y4) (rx_ref19_Eval y34) (px_ref19_Eval y34)), (flatX (rx_ref19_Eval y34) ∧ flatXss (px_ref19_Eval y34)), ((!y28) = false), True, ((!y28) = false)] (by kernel_rfl) ⟨(eqs (eqr _) (eqs (eqr _) eqs0)), (ok_rule_Check K (([y8, a1] : List (List T_RuleNode)).getD v1.toNat []) a4 y12 c13), (eqs (eqr _) (eqs (eqr _) eqs0)), (ok_ref19_Check K (([y8, a1] : List (List T_RuleNode)).getD v1.toNat []) a4 y14 c15), trivial, e16, e16, e16, e16, (eqs (eqr _) (eqs (eqr _) eqs0)), (ok_rule_Check K (([y8, a1] : List (List T_RuleNode)).getD v1.toNat []) ((y4.length : Nat) : Int) y18 c19), e16, e16, e16, e16, (eqs (eqr _) (eqs (eqr _) eqs0)), (ok_ref19_Check K (([y8, a1] : List (List T_RuleNode)).getD v1.toNat []) ((y4.length : Nat) : Int) y20 c21), e16, trivial, e16, e22, e22, (eqs (eqr _) eqs0), (ok_rule_Uses K (([y8, a1] : List (List T_RuleNode)).getD v1.toNat []) y24 c25), e22, e22, (eqs (eqr _) eqs0), (ok_ref19_Uses K (([y8, a1] : List (List T_RuleNode)).getD v1.toNat []) y26 c27), e22, (eqs (eqr _) (eqs (eqr _) eqs0)), (ok_ref01_Ints K y24 y26 y28 c29), (flat_ref01_Ints y28), e22, e22, e30, e30, e30, (eqs (eqr _) (eqs (eqr _) eqs0)), (ok_rule_Eval K (([y8, a1] : List (List T_RuleNode)).getD v1.toNat []) y4 y32 c33), (flat_rule_Eval y32), e30, e30, e30, (eqs (eqr _) (eqs (eqr _) eqs0)), (ok_ref19_Eval K (([y8, a1] : List (List T_RuleNode)).getD v1.toNat []) y4 y34 c35), (flat_ref19_Eval y34), e30, trivial, e30, trivial⟩ ?_
              refine tri_cond (y32 != y34) (by kernel_rfl) (fun e36 => ?_) (fun e36 => ?_)
              · replace h := cnd_t h e36
                refine tri_reg env [] 9 1024 [.keep [12] [] []] ⟨70, [(12, .c (.v (.bool false)))], [], []⟩ [] (by kernel_rfl) trivial ?_
                refine tri_ret ?_
                refine inBR ?_
                refine thenR ?_
                refine thenR ?_
                refine inBR ?_
                refine thenR ?_
                rw [some_inv h]
                exact ⟨[], by kernel_rfl, trivial⟩
              · replace h := cnd_f h e36
                refine tri_skip ?_
                refine inBN ?_
                refine thenN ?_
                refine tri_reg_end env [] 10 1024 [.keep [4, 13, 27, 28, 29] [] [(700001, 0), (700001, 1)]] ⟨70, [(4, .c (.v (.int .i64 a4))), (13, .c (.ref (700001, 0) y4.length)), (27, .c (.ref (700001, 1) (([y8, a1] : List (List T_RuleNode)).length))), (28, .c (.v (.int .i64 2))), (29, .c (.v (.int .i64 (IntKind.wrap .i64 (v1 + 1)))))], [], [((700001, 0), some ⟨false, 1, y4.length, encF (eI .i64) 0 y4⟩), ((700001, 1), some ⟨false, 1, (([y8, a1] : List (List T_RuleNode)).length), encF (eL 4 e_RuleNode d_RuleNode) [] ([y8, a1] : List (List T_RuleNode))⟩)]⟩ [True] (by kernel_rfl) ⟨trivial, trivial⟩ ?_
                exact thenJ (IntKind.wrap .i64 (v1 + 1)) h (by kernel_rfl)
      · replace h := cnd_f h e10
        refine tri_tell [.keep [] [] []] ⟨70, [], [], []⟩ [] (by kernel_rfl) trivial ?_
        refine tri_exit ?_
        refine thenE ?_
        refine thenE ?_
        refine inBX ?_
        exact thenJ () h (by kernel_rfl)
end Go.Proofs.YtmdolfannbbipaaDoor
