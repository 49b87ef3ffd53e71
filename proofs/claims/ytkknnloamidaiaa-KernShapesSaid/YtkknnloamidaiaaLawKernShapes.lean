/- KernShapes holds: whatever the input, the law says true and its arguments read as they did. There are no conditions. -/
import Derived.Test.YtkknnloamidaiaaT9ea3267c
namespace Go.Proofs.Ytkknnloamidaiaa
/-- The row, under a short name, for the claim. -/
theorem kernShapes_holds : Rows.KernShapesSaid := VI.over
#print axioms kernShapes_holds
end Go.Proofs.Ytkknnloamidaiaa
