/- OrderLine holds: whatever the input, the law says true and its arguments read as they did. There are no conditions. -/
import Derived.Test.YtcpicekmnkjceaaTROrderLine
namespace Go.Proofs.Ytcpicekmnkjceaa
/-- The row, under a short name, for the claim. -/
theorem orderLine_holds : Rows.OrderLineSaid := VI.over
#print axioms orderLine_holds
end Go.Proofs.Ytcpicekmnkjceaa
