/- LossRefuses holds: whatever the input, the law says true and its arguments read as they did. There are no conditions. -/
import Derived.Test.YtfpjkmgfkaoapaaTc67ade47
namespace Go.Proofs.Ytfpjkmgfkaoapaa
/-- The row, under a short name, for the claim. -/
theorem lossRefuses_holds : Rows.LossRefusesSaid := VI.over
#print axioms lossRefuses_holds
end Go.Proofs.Ytfpjkmgfkaoapaa
