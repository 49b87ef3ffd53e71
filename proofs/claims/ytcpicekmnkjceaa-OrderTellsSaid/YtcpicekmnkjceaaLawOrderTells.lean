/- OrderTells holds: whatever the input, the law says true and its arguments read as they did. There are no conditions. -/
import Derived.Test.YtcpicekmnkjceaaT36db09c2
namespace Go.Proofs.Ytcpicekmnkjceaa
/-- The row, under a short name, for the claim. -/
theorem orderTells_holds : Rows.OrderTellsSaid := VI.over
#print axioms orderTells_holds
end Go.Proofs.Ytcpicekmnkjceaa
