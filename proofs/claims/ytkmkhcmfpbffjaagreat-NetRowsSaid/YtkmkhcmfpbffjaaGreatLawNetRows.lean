/- NetRows holds: whatever the input, the law says true and its arguments read as they did. There are no conditions. -/
import Derived.Test.YtkmkhcmfpbffjaaGreatT3e125f2c
namespace Go.Proofs.YtkmkhcmfpbffjaaGreat
/-- The row, under a short name, for the claim. -/
theorem netRows_holds : Rows.NetRowsSaid := VI.over
#print axioms netRows_holds
end Go.Proofs.YtkmkhcmfpbffjaaGreat
