/- PlanApplies holds: for every input the law returns true, and each argument reads as it did. No condition beyond the given statement's own. -/
import Derived.Test.YtmkhmonbfikbpaaGR5
import Derived.Test.YtmkhmonbfikbpaaPL5
namespace Go.Proofs.Ytmkhmonbfikbpaa
theorem planApplies_holds : Rows.PlanAppliesSaid := planApplies.proved pure_PlanApplies
#print axioms planApplies_holds
end Go.Proofs.Ytmkhmonbfikbpaa
