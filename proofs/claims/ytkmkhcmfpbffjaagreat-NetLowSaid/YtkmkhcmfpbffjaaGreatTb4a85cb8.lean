import Derived.Test.YtkmkhcmfpbffjaaGreatT0e7fb98b
namespace Go.Proofs.YtkmkhcmfpbffjaaGreat.VI
set_option linter.unusedVariables false
set_option linter.unusedSimpArgs false
set_option maxRecDepth 100000
noncomputable def O_913 : Orc := (orm c_928 (orm c_929 (orm c_92a (orm c_92c (orm c_92b (orm c_91c c_92d))))))
theorem okO_913 : OrcOk PR O_913 := (orm_ok ok_928 (orm_ok ok_929 (orm_ok ok_92a (orm_ok ok_92c (orm_ok ok_92b (orm_ok ok_91c ok_92d))))))
abbrev fa_913 : Fm := (.pair (.i .i64) (.pair (.i .i64) (.pair (.i .i64) (.pair (.i .u32) .unit))))
abbrev fr_913 : Fm := (.tup (.pair (.i .u32) (.pair (.agg (.pair .b (.pair .b (.pair .b (.pair .b (.pair .b .unit)))))) .unit)))
noncomputable def F_913 (a0 : Int) (a1 : Int) (a2 : Int) (a3 : Int) : Option (Int × (Bool × Bool × Bool × Bool × Bool × Unit) × Unit) :=
 ((F_928 a0 [a3])).bind fun r0 =>
 bif r0.1 then
 ((F_929 a1)).bind fun r1 =>
 (some (r1, ((r0.2.1, (false, (false, (false, (false, ()))))), ())))
 else
 ((F_92a a0 a3)).bind fun r2 =>
 bif r2 then
 ((F_92c a0 a3)).bind fun r3 =>
 ((F_92b a1 r3)).bind fun r4 =>
 (some (r4, ((false, (false, (false, (false, (false, ()))))), ())))
 else
 ((F_91c a0 a3)).bind fun r5 =>
 let x6 : Int := r5.2.2.1
 ((F_92d a1 a2 r5.1 r5.2.1 x6 false)).bind fun r7 =>
 (some r7)
noncomputable def G_913 : T fa_913 → TH hN0 → Option (Int × (Bool × Bool × Bool × Bool × Bool × Unit) × Unit) := fun x y => F_913 x.1 x.2.1 x.2.2.1 x.2.2.2.1
noncomputable def c_913 : Orc := ent i_913 [] 0 (sp fa_913 hN0 fr_913 hN0 G_913 (outN fr_913))
theorem ok_913 : OrcOk PR c_913 := fnT okO_913 mixed p_913 (by kernel_rfl) (by kernel_rfl) (L := L0) (kp := false) (by kernel_rfl) (inn := (innN fr_913)) (out := (outN fr_913)) (fun _ _ => rfl) (loopsL (l := []) (by kernel_rfl) trivial) (fun x y => by kernel_rfl)
end Go.Proofs.YtkmkhcmfpbffjaaGreat.VI
