/- FuncsPairs holds: whatever the input, the law says true and its arguments read as they did. There are no conditions. -/
import Derived.Test.YtkknnloamidaiaaT52734491
namespace Go.Proofs.Ytkknnloamidaiaa
/-- The row, under a short name, for the claim. -/
theorem funcsPairs_holds : Rows.FuncsPairsSaid := VI.over
#print axioms funcsPairs_holds
end Go.Proofs.Ytkknnloamidaiaa
