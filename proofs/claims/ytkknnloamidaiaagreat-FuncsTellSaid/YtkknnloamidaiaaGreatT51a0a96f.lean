import Derived.Test.YtkknnloamidaiaaGreatT2e1e6639
namespace Go.Proofs.YtkknnloamidaiaaGreat.VI
set_option linter.unusedVariables false
set_option linter.unusedSimpArgs false
set_option maxRecDepth 100000
set_option linter.unusedSimpArgs false
set_option linter.unusedVariables false
noncomputable def O_annealref1_To : Orc := (orm c_annealref1_nans (orm c_annealref1_Nan (orm c_annealref1_inf (orm c_annealref1_neg (orm c_annealref1_Inf (orm c_annealref1_Unpack c_annealref1_Pack))))))
theorem okO_annealref1_To : OrcOk PR O_annealref1_To := (orm_ok ok_annealref1_nans (orm_ok ok_annealref1_Nan (orm_ok ok_annealref1_inf (orm_ok ok_annealref1_neg (orm_ok ok_annealref1_Inf (orm_ok ok_annealref1_Unpack ok_annealref1_Pack))))))
abbrev fa_annealref1_To : Fm := (.pair (.i .i64) (.pair (.i .i64) (.pair (.i .i64) (.pair (.i .u32) .unit))))
abbrev ha_annealref1_To : List BF := []
abbrev fr_annealref1_To : Fm := (.tup (.pair (.i .u32) (.pair (.agg (.pair .b (.pair .b (.pair .b (.pair .b (.pair .b .unit)))))) .unit)))
abbrev hr_annealref1_To : List BF := []
noncomputable def L_annealref1_To : Lps := L0
def inn_annealref1_To : T fr_annealref1_To → TH hr_annealref1_To → Int × (Bool × Bool × Bool × Bool × Bool × Unit) × Unit := (fun z w => z)
def out_annealref1_To : Int × (Bool × Bool × Bool × Bool × Bool × Unit) × Unit → T fr_annealref1_To × TH hr_annealref1_To := fun r => (r, ())
noncomputable def F_annealref1_To (a0 : Int) (a1 : Int) (a2 : Int) (a3 : Int) : Option (Int × (Bool × Bool × Bool × Bool × Bool × Unit) × Unit) :=
  ((F_annealref1_nans a0 [a3])).bind fun r0 =>
  bif r0.1 then
    ((F_annealref1_Nan a1)).bind fun r1 =>
    (some (r1, ((r0.2.1, (false, (false, (false, (false, ()))))), ())))
  else
    ((F_annealref1_inf a0 a3)).bind fun r2 =>
    bif r2 then
      ((F_annealref1_neg a0 a3)).bind fun r3 =>
      ((F_annealref1_Inf a1 r3)).bind fun r4 =>
      (some (r4, ((false, (false, (false, (false, (false, ()))))), ())))
    else
      ((F_annealref1_Unpack a0 a3)).bind fun r5 =>
      let x6 : Int := r5.2.2.1
      ((F_annealref1_Pack a1 a2 r5.1 r5.2.1 x6 false)).bind fun r7 =>
      (some r7)
noncomputable def G_annealref1_To : T fa_annealref1_To → TH ha_annealref1_To → Option (Int × (Bool × Bool × Bool × Bool × Bool × Unit) × Unit) := fun x y => F_annealref1_To x.1 x.2.1 x.2.2.1 x.2.2.2.1
noncomputable def c_annealref1_To : Orc := ent i_annealref1_To [] 0 (sp fa_annealref1_To ha_annealref1_To fr_annealref1_To hr_annealref1_To G_annealref1_To out_annealref1_To)
theorem ok_annealref1_To : OrcOk PR c_annealref1_To := fnT okO_annealref1_To mixed p_annealref1_To (by kernel_rfl) (by kernel_rfl) (L := L_annealref1_To) (kp := false) (by kernel_rfl) (inn := inn_annealref1_To) (out := out_annealref1_To) (fun _ _ => rfl) (loopsL (l := []) (by kernel_rfl) trivial) (fun x y => by kernel_rfl)
end Go.Proofs.YtkknnloamidaiaaGreat.VI
