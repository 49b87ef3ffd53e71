/- FormatEdges holds: whatever the input, the law says true and its arguments read as they did. There are no conditions. -/
import Derived.Test.YtcpicekmnkjceaaTRFormatEdges
namespace Go.Proofs.Ytcpicekmnkjceaa
/-- The row, under a short name, for the claim. -/
theorem formatEdges_holds : Rows.FormatEdgesSaid := VI.over
#print axioms formatEdges_holds
end Go.Proofs.Ytcpicekmnkjceaa
