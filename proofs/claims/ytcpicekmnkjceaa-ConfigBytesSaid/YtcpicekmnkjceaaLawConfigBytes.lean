/- ConfigBytes holds: whatever the input, the law says true and its arguments read as they did. There are no conditions. -/
import Derived.Test.YtcpicekmnkjceaaTced96d90
namespace Go.Proofs.Ytcpicekmnkjceaa
/-- The row, under a short name, for the claim. -/
theorem configBytes_holds : Rows.ConfigBytesSaid := VI.over
#print axioms configBytes_holds
end Go.Proofs.Ytcpicekmnkjceaa
