/- KernParts holds: whatever the input, the law says true and its arguments read as they did. There are no conditions. -/
import Derived.Test.YtkknnloamidaiaaGreatTff992c21
namespace Go.Proofs.YtkknnloamidaiaaGreat
/-- The row, under a short name, for the claim. -/
theorem kernParts_holds : Rows.KernPartsSaid := VI.over
#print axioms kernParts_holds
end Go.Proofs.YtkknnloamidaiaaGreat
