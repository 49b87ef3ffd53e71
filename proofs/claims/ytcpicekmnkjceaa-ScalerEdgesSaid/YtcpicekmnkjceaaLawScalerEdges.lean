/- ScalerEdges holds: whatever the input, the law says true and its arguments read as they did. There are no conditions. -/
import Derived.Test.YtcpicekmnkjceaaE2
namespace Go.Proofs.Ytcpicekmnkjceaa
/-- The row, under a short name, for the claim. -/
theorem scalerEdges_holds : Rows.ScalerEdgesSaid := VI.over7
#print axioms scalerEdges_holds
end Go.Proofs.Ytcpicekmnkjceaa
