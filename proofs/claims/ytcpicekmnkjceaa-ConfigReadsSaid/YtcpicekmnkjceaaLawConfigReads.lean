/- ConfigReads holds: whatever the input, the law says true and its arguments read as they did. There are no conditions. -/
import Derived.Test.YtcpicekmnkjceaaTConfigReads35
namespace Go.Proofs.Ytcpicekmnkjceaa
/-- The row, under a short name, for the claim. -/
theorem configReads_holds : Rows.ConfigReadsSaid := VI.over
#print axioms configReads_holds
end Go.Proofs.Ytcpicekmnkjceaa
