/- SumLong holds: whatever the input, the law says true and its arguments read as they did. There are no conditions. -/
import Derived.Test.YtcpicekmnkjceaaKSumLongO0
namespace Go.Proofs.Ytcpicekmnkjceaa
/-- The row, under a short name, for the claim. -/
theorem sumLong_holds : Rows.SumLongSaid := VI.over
#print axioms sumLong_holds
end Go.Proofs.Ytcpicekmnkjceaa
