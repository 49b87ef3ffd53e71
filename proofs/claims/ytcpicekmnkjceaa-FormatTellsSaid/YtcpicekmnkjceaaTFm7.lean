import Derived.Test.YtcpicekmnkjceaaTFm6
namespace Go.Proofs.Ytcpicekmnkjceaa.VI
set_option linter.unusedVariables false
set_option linter.unusedSimpArgs false
set_option maxRecDepth 100000
set_option linter.unusedSimpArgs false
set_option linter.unusedVariables false
theorem call13 : ∀ l, args [.i .i64, .i .u32, .i .u32, .b] l → oks l → CallOk PR i_anneallaw2_FormatTells l [] fun r _ => r = .b true := by
  rintro l ⟨c0, l, ⟨f, hf, h0⟩, ⟨c1, l, ⟨v, hv, h1⟩, ⟨c2, l, ⟨k, hk, h2⟩, ⟨c3, l, ⟨b, h3⟩, rfl, rfl⟩, rfl⟩, rfl⟩, rfl⟩ ho
  injection h0 with h0; injection h1 with h1; injection h2 with h2; injection h3 with h3; subst h0 h1 h2 h3
  refine (run_fn (hc := []) (kp := false) (L := L13) okO13 mixed p_anneallaw2_FormatTells (by kernel_rfl) (by kernel_rfl) (loopsOk0 (by kernel_rfl)) (r := .b true) (h' := []) fun _ _ => (run13 f v k b).trans ?_).mono fun q _ h => h.1
  simp only [ckA, ckX, ckG, neI_eq, neB_eq]
end Go.Proofs.Ytcpicekmnkjceaa.VI
