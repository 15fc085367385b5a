/- PlanChecks holds: for every input the law returns true, and each argument reads as it did. No condition beyond the given statement's own. -/
import Derived.Test.YtmkhmonbfikbpaaGR3
import Derived.Test.YtmkhmonbfikbpaaPL3
namespace Go.Proofs.Ytmkhmonbfikbpaa
theorem planChecks_holds : Rows.PlanChecksSaid := planChecks.proved pure_PlanChecks
#print axioms planChecks_holds
end Go.Proofs.Ytmkhmonbfikbpaa
