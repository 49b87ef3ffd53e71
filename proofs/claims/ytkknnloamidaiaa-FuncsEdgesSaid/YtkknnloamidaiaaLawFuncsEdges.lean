/- FuncsEdges holds: whatever the input, the law says true and its arguments read as they did. There are no conditions. -/
import Derived.Test.YtkknnloamidaiaaT4bbf57cb
namespace Go.Proofs.Ytkknnloamidaiaa
/-- The row, under a short name, for the claim. -/
theorem funcsEdges_holds : Rows.FuncsEdgesSaid := VI.over
#print axioms funcsEdges_holds
end Go.Proofs.Ytkknnloamidaiaa
