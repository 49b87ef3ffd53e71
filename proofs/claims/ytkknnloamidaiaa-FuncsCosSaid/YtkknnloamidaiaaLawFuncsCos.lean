/- FuncsCos holds: whatever the input, the law says true and its arguments read as they did. There are no conditions. -/
import Derived.Test.YtkknnloamidaiaaT6a62ae11
namespace Go.Proofs.Ytkknnloamidaiaa
/-- The row, under a short name, for the claim. -/
theorem funcsCos_holds : Rows.FuncsCosSaid := VI.over
#print axioms funcsCos_holds
end Go.Proofs.Ytkknnloamidaiaa
