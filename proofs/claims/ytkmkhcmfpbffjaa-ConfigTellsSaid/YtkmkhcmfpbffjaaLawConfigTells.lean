/- ConfigTells holds: whatever the input, the law says true and its arguments read as they did. There are no conditions. -/
import Derived.Test.YtkmkhcmfpbffjaaTea085890
namespace Go.Proofs.Ytkmkhcmfpbffjaa
/-- The row, under a short name, for the claim. -/
theorem configTells_holds : Rows.ConfigTellsSaid := VI.over
#print axioms configTells_holds
end Go.Proofs.Ytkmkhcmfpbffjaa
