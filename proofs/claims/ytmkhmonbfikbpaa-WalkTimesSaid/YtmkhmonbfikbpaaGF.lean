/- The function that goes through both directions keeps its word. -/
import Derived.Test.YtmkhmonbfikbpaaProg
import Derived.Test.YtmkhmonbfikbpaaEv4
import Derived.RangeFuncOwn
import Derived.TacticsIn
import Derived.TacticsInMore
import Derived.Shelf.Abstract
import Derived.KernelRfl
namespace Go.Proofs.Ytmkhmonbfikbpaa
open Go Go.RowKit Go.Ev Go.Proofs
set_option linter.unusedVariables false
set_option maxRecDepth 100000 in
theorem both68 : BothOk Try.prog 68 := by
  intro n l W J1 J2 hY1 hY2
  refine callsIn_of_wp Try.func68 rfl trivial ?_ rfl
  simp only [Try.ntmps68, List.size_toArray, List.length_cons, List.length_nil, Nat.reduceAdd, Nat.reduceSub, Array.replicate_succ, Array.replicate_zero, List.push_toArray, List.append_toArray, List.nil_append, List.cons_append]
  obtain ⟨f1, t1, a1, b1, hy1, hR1⟩ := hY1
  have hro : (FW none).round = none := rfl
  gi_wp2
  refine hR1.mono ?_
  rintro e W1 ⟨rfl, hJ1⟩
  obtain ⟨f2, t2, a2, b2, hy2, hR2⟩ := hY2 W1 hJ1
  gi_wp2
  refine hR2.mono ?_
  rintro e W2 ⟨rfl, hJ2⟩
  gi_wp2
  exact ⟨rfl, _, results_none rfl _ _ _, ⟨_, rfl⟩, hJ2⟩
theorem enters68 : ∀ args w, (callFunc 68 args).run Try.prog w = .ok (.enter 68 args) w := enters_of Try.func68 (by kernel_rfl) rfl
end Go.Proofs.Ytmkhmonbfikbpaa
