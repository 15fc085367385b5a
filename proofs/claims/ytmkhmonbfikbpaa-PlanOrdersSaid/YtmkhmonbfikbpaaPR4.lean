/- PlanOrders holds: for every input the law returns true, and each argument reads as it did. No condition beyond the given statement's own. -/
import Derived.Test.YtmkhmonbfikbpaaGR4
import Derived.Test.YtmkhmonbfikbpaaPL6
namespace Go.Proofs.Ytmkhmonbfikbpaa
theorem planOrders_holds : Rows.PlanOrdersSaid := planOrders.proved pure_PlanOrders
#print axioms planOrders_holds
end Go.Proofs.Ytmkhmonbfikbpaa
