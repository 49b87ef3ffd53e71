/- LossMse holds: whatever the input, the law says true and its arguments read as they did. There are no conditions. -/
import Derived.Test.YtfpjkmgfkaoapaaT44d752f8
namespace Go.Proofs.Ytfpjkmgfkaoapaa
/-- The row, under a short name, for the claim. -/
theorem lossMse_holds : Rows.LossMseSaid := VI.over
#print axioms lossMse_holds
end Go.Proofs.Ytfpjkmgfkaoapaa
