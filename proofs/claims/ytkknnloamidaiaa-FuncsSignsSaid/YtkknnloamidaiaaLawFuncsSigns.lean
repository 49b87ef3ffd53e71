/- FuncsSigns holds: whatever the input, the law says true and its arguments read as they did. There are no conditions. -/
import Derived.Test.YtkknnloamidaiaaTfecd3929
namespace Go.Proofs.Ytkknnloamidaiaa
/-- The row, under a short name, for the claim. -/
theorem funcsSigns_holds : Rows.FuncsSignsSaid := VI.over
#print axioms funcsSigns_holds
end Go.Proofs.Ytkknnloamidaiaa
