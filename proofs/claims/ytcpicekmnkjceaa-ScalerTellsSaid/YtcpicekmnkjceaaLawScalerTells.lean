/- ScalerTells holds: whatever the input, the law says true and its arguments read as they did. There are no conditions. -/
import Derived.Test.YtcpicekmnkjceaaS8
namespace Go.Proofs.Ytcpicekmnkjceaa.VI
set_option linter.unusedVariables false
set_option linter.unusedSimpArgs false
theorem heldScalerTells : Rows.ScalerTellsSaid := scalerTells_holds
end Go.Proofs.Ytcpicekmnkjceaa.VI
namespace Go.Proofs.Ytcpicekmnkjceaa
/-- The row, under a short name, for the claim. -/
theorem scalerTells_holds : Rows.ScalerTellsSaid := VI.heldScalerTells
#print axioms scalerTells_holds
end Go.Proofs.Ytcpicekmnkjceaa
