import Derived.Test.YtcpicekmnkjceaaVR
import Derived.Test.YtcpicekmnkjceaaProg
namespace Go.Proofs.Ytcpicekmnkjceaa.VI
set_option linter.unusedVariables false
set_option linter.unusedSimpArgs false
def M0 : Nat → Option (List Nat) := fun _ => none
theorem mixed : Try.prog.follows .mixedOrders = true := by kernel_rfl
end Go.Proofs.Ytcpicekmnkjceaa.VI
