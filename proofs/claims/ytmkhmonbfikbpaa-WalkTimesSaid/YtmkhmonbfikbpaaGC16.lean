/- What the code of a function does. -/
import Derived.Test.YtmkhmonbfikbpaaGB
namespace Go.Proofs.Ytmkhmonbfikbpaa
open Go Go.RowKit Go.Ev Go.Proofs
set_option linter.unusedVariables false

set_option maxRecDepth 100000
theorem ok_draw_New (K : Nat) (a0 : (List Int)) (r : T_Codes) (h : draw_New K a0 = some r) : FnOk Try.prog 16 (ax_draw_New a0) (rx_draw_New r) (px_draw_New r) := by
  refine ⟨⟨Try.f16, Try.func16, by kernel_rfl, by kernel_rfl⟩, ?_⟩
  unfold draw_New at h
  refine fn_ok env Try.func16 rfl ⟨10, [(0, .c (.lst 1 a0.length (encF (eI .u8) 0 a0)))], [], []⟩ [] (by kernel_rfl) fun X => ?_
  refine tri_reg env [] 1 1024 [.keep [0] [] []] ⟨10, [(0, .c (.lst 1 a0.length (encF (eI .u8) 0 a0)))], [], []⟩ [] (by kernel_rfl) trivial ?_
  obtain ⟨q1, h⟩ := ck_inv h
  obtain ⟨q2, h⟩ := ck_inv h
  refine tri_reg env [] 2 1024 [.var (2006, 0) [.lst 1 ((a0.take ((if 300 < ((a0.length : Nat) : Int) then 300 else ((a0.length : Nat) : Int)).toNat)).length) (encF (eI .u8) 0 (a0.take ((if 300 < ((a0.length : Nat) : Int) then 300 else ((a0.length : Nat) : Int)).toNat))), .v (.int .i64 0)], .keep [2] [(2006, 0)] []] ⟨10, [(2, .c (.pvar (2006, 0) 0))], [((2006, 0), [.lst 1 ((a0.take ((if 300 < ((a0.length : Nat) : Int) then 300 else ((a0.length : Nat) : Int)).toNat)).length) (encF (eI .u8) 0 (a0.take ((if 300 < ((a0.length : Nat) : Int) then 300 else ((a0.length : Nat) : Int)).toNat))), .v (.int .i64 0)])], []⟩ [(0 ≤ (if 300 < ((a0.length : Nat) : Int) then 300 else ((a0.length : Nat) : Int))), (0 ≤ (if 300 < ((a0.length : Nat) : Int) then 300 else ((a0.length : Nat) : Int)).toNat ∧ (if 300 < ((a0.length : Nat) : Int) then 300 else ((a0.length : Nat) : Int)).toNat ≤ a0.length), (TellCs [.lst 1 ((if 300 < ((a0.length : Nat) : Int) then 300 else ((a0.length : Nat) : Int)).toNat - 0) ((fun i => (encF (eI .u8) 0 a0) (0 + i))), .v (.int .i64 0)] [.lst 1 ((a0.take ((if 300 < ((a0.length : Nat) : Int) then 300 else ((a0.length : Nat) : Int)).toNat)).length) (encF (eI .u8) 0 (a0.take ((if 300 < ((a0.length : Nat) : Int) then 300 else ((a0.length : Nat) : Int)).toNat))), .v (.int .i64 0)])] (by kernel_rfl) ⟨q1, q2, ⟨(TellC.of (Tells.eqc (Tells.take0 (Tells.rfl' (e := (eI .u8)) (d := 0) (L := a0)) q2.2)) rfl), ⟨(TellC.refl _), trivial⟩⟩, trivial⟩ ?_
  refine tri_ret ?_
  rw [some_inv h]
  exact ⟨[], by kernel_rfl, trivial⟩
end Go.Proofs.Ytmkhmonbfikbpaa
