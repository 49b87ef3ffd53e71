/- FuncsTell holds: whatever the input, the law says true and its arguments read as they did. There are no conditions. -/
import Derived.Test.YtkknnloamidaiaaGreatTd008af99
namespace Go.Proofs.YtkknnloamidaiaaGreat
/-- The row, under a short name, for the claim. -/
theorem funcsTell_holds : Rows.FuncsTellSaid := VI.over
#print axioms funcsTell_holds
end Go.Proofs.YtkknnloamidaiaaGreat
