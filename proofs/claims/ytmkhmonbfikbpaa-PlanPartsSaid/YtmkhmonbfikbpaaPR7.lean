/- PlanParts holds: for every input the law returns true, and each argument reads as it did. No condition beyond the given statement's own. -/
import Derived.Test.YtmkhmonbfikbpaaGR7
import Derived.Test.YtmkhmonbfikbpaaPG5
namespace Go.Proofs.Ytmkhmonbfikbpaa
theorem planParts_holds : Rows.PlanPartsSaid := planParts.proved pure_PlanParts
#print axioms planParts_holds
end Go.Proofs.Ytmkhmonbfikbpaa
