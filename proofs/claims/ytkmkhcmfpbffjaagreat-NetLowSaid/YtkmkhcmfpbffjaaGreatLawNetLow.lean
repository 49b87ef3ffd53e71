/- NetLow holds: whatever the input, the law says true and its arguments read as they did. There are no conditions. -/
import Derived.Test.YtkmkhcmfpbffjaaGreatT2733b756
namespace Go.Proofs.YtkmkhcmfpbffjaaGreat
/-- The row, under a short name, for the claim. -/
theorem netLow_holds : Rows.NetLowSaid := VI.over
#print axioms netLow_holds
end Go.Proofs.YtkmkhcmfpbffjaaGreat
