/- ActRelus holds: whatever the input, the law says true and its arguments read as they did. There are no conditions. -/
import Derived.Test.YtkknnloamidaiaaT86a82da8
namespace Go.Proofs.Ytkknnloamidaiaa
/-- The row, under a short name, for the claim. -/
theorem actRelus_holds : Rows.ActRelusSaid := VI.over
#print axioms actRelus_holds
end Go.Proofs.Ytkknnloamidaiaa
