/- KernTells holds: whatever the input, the law says true and its arguments read as they did. There are no conditions. -/
import Derived.Test.YtkknnloamidaiaaGreatTa20e1ebc
namespace Go.Proofs.YtkknnloamidaiaaGreat
/-- The row, under a short name, for the claim. -/
theorem kernTells_holds : Rows.KernTellsSaid := VI.over
#print axioms kernTells_holds
end Go.Proofs.YtkknnloamidaiaaGreat
