/- FormatTells holds: whatever the input, the law says true and its arguments read as they did. There are no conditions. -/
import Derived.Test.YtcpicekmnkjceaaTRFormatTells
namespace Go.Proofs.Ytcpicekmnkjceaa
/-- The row, under a short name, for the claim. -/
theorem formatTells_holds : Rows.FormatTellsSaid := VI.over
#print axioms formatTells_holds
end Go.Proofs.Ytcpicekmnkjceaa
