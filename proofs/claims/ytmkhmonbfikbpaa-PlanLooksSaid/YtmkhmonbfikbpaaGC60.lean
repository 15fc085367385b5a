/- What the code of a function does. -/
import Derived.Test.YtmkhmonbfikbpaaGB
namespace Go.Proofs.Ytmkhmonbfikbpaa
open Go Go.RowKit Go.Ev Go.Proofs
set_option linter.unusedVariables false

set_option maxRecDepth 100000
theorem ok_plan_clone (K : Nat) (a0 : T_Mine) (r : T_Mine) (h : plan_clone K a0 = some r) : FnOk Try.prog 60 (ax_plan_clone a0) (rx_plan_clone r) (px_plan_clone r) := by
  refine ⟨⟨Try.f60, Try.func60, by kernel_rfl, by kernel_rfl⟩, ?_⟩
  unfold plan_clone at h
  refine fn_ok env Try.func60 rfl ⟨10, [(0, .agg [.lst 2 a0.Places.length (encF e_Place d_Place a0.Places), .lst 10 a0.Roads.length (encF e_Road d_Road a0.Roads)])], [], []⟩ [] (by kernel_rfl) fun X => ?_
  refine tri_reg env [] 1 1024 [.keep [1, 2] [(1000, 0), (1001, 0)] []] ⟨10, [(1, .c (.pvar (1000, 0) 0)), (2, .c (.pvar (1001, 0) 0))], [((1000, 0), [.lst 2 a0.Places.length (encF e_Place d_Place a0.Places), .lst 10 a0.Roads.length (encF e_Road d_Road a0.Roads)]), ((1001, 0), [.nil 2, .nil 10])], []⟩ [] (by kernel_rfl) trivial ?_
  obtain ⟨q1, h⟩ := ck_inv h
  obtain ⟨q2, h⟩ := ck_inv h
  refine tri_reg env [] 2 1024 [.keep [2] [(1001, 0)] [(2002, 0), (2005, 0)]] ⟨10, [(2, .c (.pvar (1001, 0) 0))], [((1001, 0), [.ref (2002, 0) a0.Places.length, .ref (2005, 0) a0.Roads.length])], [((2002, 0), some ⟨false, 2, a0.Places.length, encF e_Place d_Place a0.Places⟩), ((2005, 0), some ⟨false, 10, a0.Roads.length, encF e_Road d_Road a0.Roads⟩)]⟩ [(a0.Places.length = 0 ∨ 2 = 2), (a0.Places.length * 16 ≤ LIMIT), (a0.Roads.length = 0 ∨ 10 = 10), (a0.Roads.length * 72 ≤ LIMIT)] (by kernel_rfl) ⟨(.inr rfl), q1, (.inr rfl), q2, trivial⟩ ?_
  refine tri_ret ?_
  rw [some_inv h]
  exact ⟨[(a0.Places.length = a0.Places.length), (a0.Roads.length = a0.Roads.length)], by kernel_rfl, ⟨rfl, rfl, trivial⟩⟩
end Go.Proofs.Ytmkhmonbfikbpaa
