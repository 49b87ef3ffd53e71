import Derived.Test.YtcpicekmnkjceaaTFo9
namespace Go.Proofs.Ytcpicekmnkjceaa.VI
set_option linter.unusedVariables false
set_option linter.unusedSimpArgs false
set_option maxRecDepth 100000
theorem call16 : ∀ l, args [.i .u8, .i .u32] l → oks l → CallOk PR i_anneallaw7_OrderClasses l [] fun r _ => r = .b true := by
  rintro l ⟨c0, l, ⟨k, hk, h0⟩, ⟨c1, l, ⟨a, ha, h1⟩, rfl, rfl⟩, rfl⟩ ho
  injection h0 with h0; injection h1 with h1; subst h0 h1
  refine (run_fn (hc := []) (kp := false) (L := run0.L00) okO7 mixed p_anneallaw7_OrderClasses (by kernel_rfl) (by kernel_rfl) (loopsOk0 (by kernel_rfl)) (r := .b true) (h' := []) fun _ _ => (run16 k a).trans ?_).mono fun q _ h => h.1
  have hb := and_mask_bd (k % 3) a
  by_cases h : ex (k % 3) (bits .and .u32 a (2 * TT (k % 3) - 1)) < RR (k % 3) - 1
  · exact fin_part _ _ hb h
  · exact inf_part _ _ h
end Go.Proofs.Ytcpicekmnkjceaa.VI
