import Derived.Test.YtkknnloamidaiaaGreatT98a02f1f
namespace Go.Proofs.YtkknnloamidaiaaGreat.VI
set_option linter.unusedVariables false
set_option linter.unusedSimpArgs false
set_option maxRecDepth 100000
set_option linter.unusedSimpArgs false
set_option linter.unusedVariables false
noncomputable def O_annealref1_To : Orc := (orm c_annealref1_nans (orm c_annealref1_Nan (orm c_annealref1_inf (orm c_annealref1_neg (orm c_annealref1_Inf (orm c_annealref1_Unpack c_annealref1_Pack))))))
theorem okO_annealref1_To : OrcOk PR O_annealref1_To := (orm_ok ok_annealref1_nans (orm_ok ok_annealref1_Nan (orm_ok ok_annealref1_inf (orm_ok ok_annealref1_neg (orm_ok ok_annealref1_Inf (orm_ok ok_annealref1_Unpack ok_annealref1_Pack))))))
abbrev fa_annealref1_To : Fm := (.pair (.i .i64) (.pair (.i .i64) (.pair (.i .i64) (.pair (.i .u32) .unit))))
abbrev ha_annealref1_To : List BF := []
abbrev fr_annealref1_To : Fm := (.tup (.pair (.i .u32) (.pair (.agg (.pair .b (.pair .b (.pair .b (.pair .b (.pair .b .unit)))))) .unit)))
abbrev hr_annealref1_To : List BF := []
noncomputable def L_annealref1_To : Lps := L0
def inn_annealref1_To : T fr_annealref1_To → TH hr_annealref1_To → Int × (Bool × Bool × Bool × Bool × Bool × Unit) × Unit := (fun z w => z)
def out_annealref1_To : Int × (Bool × Bool × Bool × Bool × Bool × Unit) × Unit → T fr_annealref1_To × TH hr_annealref1_To := fun r => (r, ())
noncomputable def F_annealref1_To (a0 : Int) (a1 : Int) (a2 : Int) (a3 : Int) : Option (Int × (Bool × Bool × Bool × Bool × Bool × Unit) × Unit) :=
 ((F_annealref1_nans a0 [a3])).bind fun r0 =>
 bif r0.1 then
 ((F_annealref1_Nan a1)).bind fun r1 =>
 (some (r1, ((r0.2.1, (false, (false, (false, (false, ()))))), ())))
 else
 ((F_annealref1_inf a0 a3)).bind fun r2 =>
 bif r2 then
 ((F_annealref1_neg a0 a3)).bind fun r3 =>
 ((F_annealref1_Inf a1 r3)).bind fun r4 =>
 (some (r4, ((false, (false, (false, (false, (false, ()))))), ())))
 else
 ((F_annealref1_Unpack a0 a3)).bind fun r5 =>
 let x6 : Int := r5.2.2.1
 ((F_annealref1_Pack a1 a2 r5.1 r5.2.1 x6 false)).bind fun r7 =>
 (some r7)
noncomputable def G_annealref1_To : T fa_annealref1_To → TH ha_annealref1_To → Option (Int × (Bool × Bool × Bool × Bool × Bool × Unit) × Unit) := fun x y => F_annealref1_To x.1 x.2.1 x.2.2.1 x.2.2.2.1
noncomputable def c_annealref1_To : Orc := ent i_annealref1_To [] 0 (sp fa_annealref1_To ha_annealref1_To fr_annealref1_To hr_annealref1_To G_annealref1_To out_annealref1_To)
theorem ok_annealref1_To : OrcOk PR c_annealref1_To := fnT okO_annealref1_To mixed p_annealref1_To (by kernel_rfl) (by kernel_rfl) (L := L_annealref1_To) (kp := false) (by kernel_rfl) (inn := inn_annealref1_To) (out := out_annealref1_To) (fun _ _ => rfl) (loopsL (l := []) (by kernel_rfl) trivial) (fun x y => by kernel_rfl)
noncomputable def O_annealref1_Widen : Orc := c_annealref1_To
theorem okO_annealref1_Widen : OrcOk PR O_annealref1_Widen := ok_annealref1_To
abbrev fa_annealref1_Widen : Fm := (.pair (.i .i64) (.pair (.i .u32) .unit))
abbrev ha_annealref1_Widen : List BF := []
abbrev fr_annealref1_Widen : Fm := (.i .u32)
abbrev hr_annealref1_Widen : List BF := []
noncomputable def L_annealref1_Widen : Lps := L0
def inn_annealref1_Widen : T fr_annealref1_Widen → TH hr_annealref1_Widen → Int := (fun z w => z)
def out_annealref1_Widen : Int → T fr_annealref1_Widen × TH hr_annealref1_Widen := fun r => (r, ())
noncomputable def F_annealref1_Widen (a0 : Int) (a1 : Int) : Option (Int) :=
 ((F_annealref1_To a0 (2:Int) (0:Int) a1)).bind fun r0 =>
 (some r0.1)
noncomputable def G_annealref1_Widen : T fa_annealref1_Widen → TH ha_annealref1_Widen → Option (Int) := fun x y => F_annealref1_Widen x.1 x.2.1
noncomputable def c_annealref1_Widen : Orc := ent i_annealref1_Widen [] 0 (sp fa_annealref1_Widen ha_annealref1_Widen fr_annealref1_Widen hr_annealref1_Widen G_annealref1_Widen out_annealref1_Widen)
theorem ok_annealref1_Widen : OrcOk PR c_annealref1_Widen := fnT okO_annealref1_Widen mixed p_annealref1_Widen (by kernel_rfl) (by kernel_rfl) (L := L_annealref1_Widen) (kp := false) (by kernel_rfl) (inn := inn_annealref1_Widen) (out := out_annealref1_Widen) (fun _ _ => rfl) (loopsL (l := []) (by kernel_rfl) trivial) (fun x y => by kernel_rfl)
noncomputable def O_annealref13_wide : Orc := c_annealref1_Widen
theorem okO_annealref13_wide : OrcOk PR O_annealref13_wide := ok_annealref1_Widen
abbrev fa_annealref13_wide : Fm := (.pair (.agg (.pair (.i .i64) (.pair (.i .i64) (.pair (.i .i64) (.pair (.si .u32) .unit))))) (.pair (.i .i64) .unit))
abbrev ha_annealref13_wide : List BF := []
abbrev fr_annealref13_wide : Fm := (.i .u32)
abbrev hr_annealref13_wide : List BF := []
noncomputable def L_annealref13_wide : Lps := L0
def inn_annealref13_wide : T fr_annealref13_wide → TH hr_annealref13_wide → Int := (fun z w => z)
def out_annealref13_wide : Int → T fr_annealref13_wide × TH hr_annealref13_wide := fun r => (r, ())
noncomputable def F_annealref13_wide (a0 : Int × Int × Int × List Int × Unit) (a1 : Int) : Option (Int) :=
 let x0 : Int := a0.2.2.1
 let x1 : List Int := a0.2.2.2.1
 bif (decide (((0:Int) ≤ a1) ∧ (a1 < (((List.length x1) : Nat) : Int)))) then
 ((F_annealref1_Widen x0 (List.getD x1 (Int.toNat a1) (0:Int)))).bind fun r2 =>
 (some r2)
 else
 none
noncomputable def G_annealref13_wide : T fa_annealref13_wide → TH ha_annealref13_wide → Option (Int) := fun x y => F_annealref13_wide x.1 x.2.1
noncomputable def c_annealref13_wide : Orc := ent i_annealref13_wide [] 0 (sp fa_annealref13_wide ha_annealref13_wide fr_annealref13_wide hr_annealref13_wide G_annealref13_wide out_annealref13_wide)
theorem ok_annealref13_wide : OrcOk PR c_annealref13_wide := fnT okO_annealref13_wide mixed p_annealref13_wide (by kernel_rfl) (by kernel_rfl) (L := L_annealref13_wide) (kp := false) (by kernel_rfl) (inn := inn_annealref13_wide) (out := out_annealref13_wide) (fun _ _ => rfl) (loopsL (l := []) (by kernel_rfl) trivial) (fun x y => by kernel_rfl)
noncomputable def O_annealhelp_Light : Orc := orn
theorem okO_annealhelp_Light : OrcOk PR O_annealhelp_Light := (orn_ok _)
abbrev fa_annealhelp_Light : Fm := (.pair (.agg (.pair (.i .i64) (.pair (.i .i64) (.pair (.i .i64) (.pair (.si .u32) .unit))))) .unit)
abbrev ha_annealhelp_Light : List BF := []
abbrev fr_annealhelp_Light : Fm := .b
abbrev hr_annealhelp_Light : List BF := []
noncomputable def L_annealhelp_Light : Lps := L0
def inn_annealhelp_Light : T fr_annealhelp_Light → TH hr_annealhelp_Light → Bool := (fun z w => z)
def out_annealhelp_Light : Bool → T fr_annealhelp_Light × TH hr_annealhelp_Light := fun r => (r, ())
noncomputable def F_annealhelp_Light (a0 : Int × Int × Int × List Int × Unit) : Option (Bool) :=
 bif (decide ((((List.length a0.2.2.2.1) : Nat) : Int) ≤ (60:Int))) then
 bif (decide (a0.1 ≤ (60:Int))) then
 bif (decide (a0.2.1 ≤ (60:Int))) then
 bif (decide (a0.1 ≥ (-(2:Int)))) then
 (some (decide (a0.2.1 ≥ (-(2:Int)))))
 else
 (some false)
 else
 (some false)
 else
 (some false)
 else
 (some false)
noncomputable def G_annealhelp_Light : T fa_annealhelp_Light → TH ha_annealhelp_Light → Option (Bool) := fun x y => F_annealhelp_Light x.1
noncomputable def c_annealhelp_Light : Orc := ent i_annealhelp_Light [] 0 (sp fa_annealhelp_Light ha_annealhelp_Light fr_annealhelp_Light hr_annealhelp_Light G_annealhelp_Light out_annealhelp_Light)
theorem ok_annealhelp_Light : OrcOk PR c_annealhelp_Light := fnT okO_annealhelp_Light mixed p_annealhelp_Light (by kernel_rfl) (by kernel_rfl) (L := L_annealhelp_Light) (kp := false) (by kernel_rfl) (inn := inn_annealhelp_Light) (out := out_annealhelp_Light) (fun _ _ => rfl) (loopsL (l := []) (by kernel_rfl) trivial) (fun x y => by kernel_rfl)
end Go.Proofs.YtkknnloamidaiaaGreat.VI
