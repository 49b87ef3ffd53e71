/- KernDots holds: whatever the input, the law says true and its arguments read as they did. There are no conditions. -/
import Derived.Test.YtkknnloamidaiaaTbf19d413
namespace Go.Proofs.Ytkknnloamidaiaa
/-- The row, under a short name, for the claim. -/
theorem kernDots_holds : Rows.KernDotsSaid := VI.over
#print axioms kernDots_holds
end Go.Proofs.Ytkknnloamidaiaa
