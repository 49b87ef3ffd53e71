/- SumTells32 holds: whatever the input, the law says true and its arguments read as they did. There are no conditions. -/
import Derived.Test.YtcpicekmnkjceaaTRSumTells32
namespace Go.Proofs.Ytcpicekmnkjceaa
/-- The row, under a short name, for the claim. -/
theorem sumTells32_holds : Rows.SumTells32Said := VI.over
#print axioms sumTells32_holds
end Go.Proofs.Ytcpicekmnkjceaa
