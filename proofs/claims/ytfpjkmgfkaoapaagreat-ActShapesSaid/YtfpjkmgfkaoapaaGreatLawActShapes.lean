/- ActShapes holds: whatever the input, the law says true and its arguments read as they did. There are no conditions. -/
import Derived.Test.YtfpjkmgfkaoapaaGreatT14e10c6d
namespace Go.Proofs.YtfpjkmgfkaoapaaGreat
/-- The row, under a short name, for the claim. -/
theorem actShapes_holds : Rows.ActShapesSaid := VI.over
#print axioms actShapes_holds
end Go.Proofs.YtfpjkmgfkaoapaaGreat
