/- LossWays holds: whatever the input, the law says true and its arguments read as they did. There are no conditions. -/
import Derived.Test.YtkmkhcmfpbffjaaGreatTc901c075
namespace Go.Proofs.YtkmkhcmfpbffjaaGreat
/-- The row, under a short name, for the claim. -/
theorem lossWays_holds : Rows.LossWaysSaid := VI.over
#print axioms lossWays_holds
end Go.Proofs.YtkmkhcmfpbffjaaGreat
