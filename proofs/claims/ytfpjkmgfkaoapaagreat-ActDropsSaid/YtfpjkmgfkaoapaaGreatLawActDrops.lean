/- ActDrops holds: whatever the input, the law says true and its arguments read as they did. There are no conditions. -/
import Derived.Test.YtfpjkmgfkaoapaaGreatT22edd497
namespace Go.Proofs.YtfpjkmgfkaoapaaGreat
/-- The row, under a short name, for the claim. -/
theorem actDrops_holds : Rows.ActDropsSaid := VI.over
#print axioms actDrops_holds
end Go.Proofs.YtfpjkmgfkaoapaaGreat
