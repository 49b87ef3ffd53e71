/- ScalerFalls holds: whatever the input, the law says true and its arguments read as they did. There are no conditions. -/
import Derived.Test.YtcpicekmnkjceaaF2
namespace Go.Proofs.Ytcpicekmnkjceaa
/-- The row, under a short name, for the claim. -/
theorem scalerFalls_holds : Rows.ScalerFallsSaid := VI.over6
#print axioms scalerFalls_holds
end Go.Proofs.Ytcpicekmnkjceaa
