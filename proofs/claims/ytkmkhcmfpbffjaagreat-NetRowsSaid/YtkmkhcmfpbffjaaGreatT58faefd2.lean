import Derived.Test.YtkmkhcmfpbffjaaGreatT87015a43
namespace Go.Proofs.YtkmkhcmfpbffjaaGreat.VI
set_option linter.unusedVariables false
set_option linter.unusedSimpArgs false
set_option maxRecDepth 100000
noncomputable def O_915 : Orc := (orm c_92b (orm c_92c (orm c_92d (orm c_92f (orm c_92e (orm c_91f c_930))))))
theorem okO_915 : OrcOk PR O_915 := (orm_ok ok_92b (orm_ok ok_92c (orm_ok ok_92d (orm_ok ok_92f (orm_ok ok_92e (orm_ok ok_91f ok_930))))))
abbrev fa_915 : Fm := (.pair (.i .i64) (.pair (.i .i64) (.pair (.i .i64) (.pair (.i .u32) .unit))))
abbrev fr_915 : Fm := (.tup (.pair (.i .u32) (.pair (.agg (.pair .b (.pair .b (.pair .b (.pair .b (.pair .b .unit)))))) .unit)))
noncomputable def F_915 (a0 : Int) (a1 : Int) (a2 : Int) (a3 : Int) : Option (Int × (Bool × Bool × Bool × Bool × Bool × Unit) × Unit) :=
 ((F_92b a0 [a3])).bind fun r0 =>
 bif r0.1 then
 ((F_92c a1)).bind fun r1 =>
 (some (r1, ((r0.2.1, (false, (false, (false, (false, ()))))), ())))
 else
 ((F_92d a0 a3)).bind fun r2 =>
 bif r2 then
 ((F_92f a0 a3)).bind fun r3 =>
 ((F_92e a1 r3)).bind fun r4 =>
 (some (r4, ((false, (false, (false, (false, (false, ()))))), ())))
 else
 ((F_91f a0 a3)).bind fun r5 =>
 let x6 : Int := r5.2.2.1
 ((F_930 a1 a2 r5.1 r5.2.1 x6 false)).bind fun r7 =>
 (some r7)
noncomputable def G_915 : T fa_915 → TH hN0 → Option (Int × (Bool × Bool × Bool × Bool × Bool × Unit) × Unit) := fun x y => F_915 x.1 x.2.1 x.2.2.1 x.2.2.2.1
noncomputable def c_915 : Orc := ent i_915 [] 0 (sp fa_915 hN0 fr_915 hN0 G_915 (outN fr_915))
theorem ok_915 : OrcOk PR c_915 := fnT okO_915 mixed p_915 (by kernel_rfl) (by kernel_rfl) (L := L0) (kp := false) (by kernel_rfl) (inn := (innN fr_915)) (out := (outN fr_915)) (fun _ _ => rfl) (loopsL (l := []) (by kernel_rfl) trivial) (fun x y => by kernel_rfl)
end Go.Proofs.YtkmkhcmfpbffjaaGreat.VI
