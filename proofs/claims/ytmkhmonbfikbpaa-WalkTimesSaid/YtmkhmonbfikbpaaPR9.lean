/- WalkTimes holds: for every input the law returns true, and each argument reads as it did. No condition beyond the given statement's own. -/
import Derived.Test.YtmkhmonbfikbpaaGR9
import Derived.Test.YtmkhmonbfikbpaaPW1
namespace Go.Proofs.Ytmkhmonbfikbpaa
theorem walkTimes_holds : Rows.WalkTimesSaid := walkTimes.proved pure_WalkTimes
#print axioms walkTimes_holds
end Go.Proofs.Ytmkhmonbfikbpaa
