/- SumSees holds: whatever the input, the law says true and its arguments read as they did. There are no conditions. -/
import Derived.Test.YtcpicekmnkjceaaTRSumSees
namespace Go.Proofs.Ytcpicekmnkjceaa
/-- The row, under a short name, for the claim. -/
theorem sumSees_holds : Rows.SumSeesSaid := VI.over
#print axioms sumSees_holds
end Go.Proofs.Ytcpicekmnkjceaa
