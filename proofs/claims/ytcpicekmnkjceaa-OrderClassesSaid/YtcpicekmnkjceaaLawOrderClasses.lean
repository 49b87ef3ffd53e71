/- OrderClasses holds: whatever the input, the law says true and its arguments read as they did. There are no conditions. -/
import Derived.Test.YtcpicekmnkjceaaTROrderClasses
namespace Go.Proofs.Ytcpicekmnkjceaa
/-- The row, under a short name, for the claim. -/
theorem orderClasses_holds : Rows.OrderClassesSaid := VI.over
#print axioms orderClasses_holds
end Go.Proofs.Ytcpicekmnkjceaa
