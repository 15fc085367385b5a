/- PlanBack holds: for every input the law returns true, and each argument reads as it did. No condition beyond the given statement's own. -/
import Derived.Test.YtmkhmonbfikbpaaGR6
import Derived.Test.YtmkhmonbfikbpaaPG4
namespace Go.Proofs.Ytmkhmonbfikbpaa
theorem planBack_holds : Rows.PlanBackSaid := planBack.proved pure_PlanBack
#print axioms planBack_holds
end Go.Proofs.Ytmkhmonbfikbpaa
