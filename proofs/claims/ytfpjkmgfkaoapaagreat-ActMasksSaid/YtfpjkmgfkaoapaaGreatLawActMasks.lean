/- ActMasks holds: whatever the input, the law says true and its arguments read as they did. There are no conditions. -/
import Derived.Test.YtfpjkmgfkaoapaaGreatTe05d87c0
namespace Go.Proofs.YtfpjkmgfkaoapaaGreat
/-- The row, under a short name, for the claim. -/
theorem actMasks_holds : Rows.ActMasksSaid := VI.over
#print axioms actMasks_holds
end Go.Proofs.YtfpjkmgfkaoapaaGreat
