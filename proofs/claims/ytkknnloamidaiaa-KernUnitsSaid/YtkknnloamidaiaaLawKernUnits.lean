/- KernUnits holds: whatever the input, the law says true and its arguments read as they did. There are no conditions. -/
import Derived.Test.YtkknnloamidaiaaT1165c05d
namespace Go.Proofs.Ytkknnloamidaiaa
/-- The row, under a short name, for the claim. -/
theorem kernUnits_holds : Rows.KernUnitsSaid := VI.over
#print axioms kernUnits_holds
end Go.Proofs.Ytkknnloamidaiaa
