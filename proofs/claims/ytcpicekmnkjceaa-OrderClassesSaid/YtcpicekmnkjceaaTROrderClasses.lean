import Derived.Test.YtcpicekmnkjceaaTFo10
import Derived.Test.YtcpicekmnkjceaaRows
import Derived.WalkKit
import Derived.ProofKit
namespace Go.Proofs.Ytcpicekmnkjceaa.VI
set_option linter.unusedVariables false
set_option linter.unusedSimpArgs false
open Go.ChangeShapes Go.WideShapes Go.RowKit Go.WideElems Ytcpicekmnkjceaa
set_option maxRecDepth 100000
theorem laid : laidOutB Try.prog = true := by kernel_rfl
theorem own : ownKnob Try.prog.godebug = none := by kernel_rfl
theorem lifted (os : Os) (started : os.Started) (H : Type) (enc : TypeId × Value → H) :
    ReturnsInHanded {} Try.checked os 16 .any (Rows.orderClassesSpec.pre6 enc Try.prog Try.f16 Rows.orderClassesRow.domain false) (Rows.orderClassesSpec.post enc Try.prog Try.f16 false true false false) :=
  lift_args (C := Try.checked) own started (by kernel_rfl) Try.func16
    (ChangeSpec.witness6 (enc := enc) (C := Try.checked) false ⟨#[], #[.int .u8 0, .int .u32 0], []⟩ 8 (by kernel_rfl) (by kernel_rfl) (by kernel_rfl) (by kernel_rfl))
    laid Try.underlying4 rfl (by kernel_rfl) rfl (fun ds hd => match ds, hd with
    | [_, _], _ => rfl) (d := 6) (by kernel_rfl) (Fs := [.i .u8, .i .u32]) (by kernel_rfl) call16
theorem over : Rows.orderClassesRow.holds Try.pinned (OpenSpec.ofChange Rows.orderClassesSpec) :=
  OpenClaim.holds_of_wide 16 Try.f16 rfl rfl rfl rfl rfl rfl rfl ⟨rfl, rfl, rfl, rfl, rfl⟩ rfl rfl rfl rfl rfl (by kernel_rfl) Try.func16 (by kernel_rfl)
    (of_decide_eq_true (by kernel_rfl)) (by unfold Func.isWrapper; first | (rw [if_pos (by decide +kernel)]; kernel_rfl) | (rw [if_neg (by decide +kernel)]; exact ⟨rfl, rfl⟩))
    (fun os started H enc _ => lifted os started H enc)
end Go.Proofs.Ytcpicekmnkjceaa.VI
