/- PlanLooks holds: for every input the law returns true, and each argument reads as it did. No condition beyond the given statement's own. -/
import Derived.Test.YtmkhmonbfikbpaaGR8
import Derived.Test.YtmkhmonbfikbpaaPG7
namespace Go.Proofs.Ytmkhmonbfikbpaa
theorem planLooks_holds : Rows.PlanLooksSaid := planLooks.proved pure_PlanLooks
#print axioms planLooks_holds
end Go.Proofs.Ytmkhmonbfikbpaa
