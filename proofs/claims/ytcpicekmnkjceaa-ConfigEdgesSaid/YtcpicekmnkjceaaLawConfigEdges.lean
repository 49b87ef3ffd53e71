/- ConfigEdges holds: whatever the input, the law says true and its arguments read as they did. There are no conditions. -/
import Derived.Test.YtcpicekmnkjceaaT682623c3
namespace Go.Proofs.Ytcpicekmnkjceaa
/-- The row, under a short name, for the claim. -/
theorem configEdges_holds : Rows.ConfigEdgesSaid := VI.over
#print axioms configEdges_holds
end Go.Proofs.Ytcpicekmnkjceaa
