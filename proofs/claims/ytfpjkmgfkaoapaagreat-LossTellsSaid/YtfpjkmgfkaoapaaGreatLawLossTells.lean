/- LossTells holds: whatever the input, the law says true and its arguments read as they did. There are no conditions. -/
import Derived.Test.YtfpjkmgfkaoapaaGreatTe3ae2f44
namespace Go.Proofs.YtfpjkmgfkaoapaaGreat
/-- The row, under a short name, for the claim. -/
theorem lossTells_holds : Rows.LossTellsSaid := VI.over
#print axioms lossTells_holds
end Go.Proofs.YtfpjkmgfkaoapaaGreat
