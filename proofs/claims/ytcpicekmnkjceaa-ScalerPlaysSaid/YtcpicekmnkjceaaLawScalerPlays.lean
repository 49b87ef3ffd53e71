/- ScalerPlays holds: whatever the input, the law says true and its arguments read as they did. There are no conditions. -/
import Derived.Test.YtcpicekmnkjceaaTScalerPlays31
namespace Go.Proofs.Ytcpicekmnkjceaa
/-- The row, under a short name, for the claim. -/
theorem scalerPlays_holds : Rows.ScalerPlaysSaid := VI.over
#print axioms scalerPlays_holds
end Go.Proofs.Ytcpicekmnkjceaa
