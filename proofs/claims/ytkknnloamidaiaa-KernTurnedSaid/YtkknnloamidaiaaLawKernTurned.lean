/- KernTurned holds: whatever the input, the law says true and its arguments read as they did. There are no conditions. -/
import Derived.Test.YtkknnloamidaiaaT625e5d88
namespace Go.Proofs.Ytkknnloamidaiaa
/-- The row, under a short name, for the claim. -/
theorem kernTurned_holds : Rows.KernTurnedSaid := VI.over
#print axioms kernTurned_holds
end Go.Proofs.Ytkknnloamidaiaa
