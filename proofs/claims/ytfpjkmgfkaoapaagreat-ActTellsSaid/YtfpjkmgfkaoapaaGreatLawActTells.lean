/- ActTells holds: whatever the input, the law says true and its arguments read as they did. There are no conditions. -/
import Derived.Test.YtfpjkmgfkaoapaaGreatT7d8899b8
namespace Go.Proofs.YtfpjkmgfkaoapaaGreat
/-- The row, under a short name, for the claim. -/
theorem actTells_holds : Rows.ActTellsSaid := VI.over
#print axioms actTells_holds
end Go.Proofs.YtfpjkmgfkaoapaaGreat
