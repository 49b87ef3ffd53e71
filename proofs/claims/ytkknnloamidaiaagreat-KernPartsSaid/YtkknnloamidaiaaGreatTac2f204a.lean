import Derived.Test.YtkknnloamidaiaaGreatTc3709a38
namespace Go.Proofs.YtkknnloamidaiaaGreat.VI
set_option linter.unusedVariables false
set_option linter.unusedSimpArgs false
set_option maxRecDepth 100000
set_option linter.unusedSimpArgs false
set_option linter.unusedVariables false
noncomputable def O_annealref13_known : Orc := orn
theorem okO_annealref13_known : OrcOk PR O_annealref13_known := (orn_ok _)
abbrev fa_annealref13_known : Fm := (.pair (.i .i64) .unit)
abbrev ha_annealref13_known : List BF := []
abbrev fr_annealref13_known : Fm := .b
abbrev hr_annealref13_known : List BF := []
noncomputable def L_annealref13_known : Lps := L0
def inn_annealref13_known : T fr_annealref13_known → TH hr_annealref13_known → Bool := (fun z w => z)
def out_annealref13_known : Bool → T fr_annealref13_known × TH hr_annealref13_known := fun r => (r, ())
noncomputable def F_annealref13_known (a0 : Int) : Option (Bool) :=
 bif (a0 == (0:Int)) then
 (some true)
 else
 bif (a0 == (1:Int)) then
 (some true)
 else
 (some (a0 == (2:Int)))
noncomputable def G_annealref13_known : T fa_annealref13_known → TH ha_annealref13_known → Option (Bool) := fun x y => F_annealref13_known x.1
noncomputable def c_annealref13_known : Orc := ent i_annealref13_known [] 0 (sp fa_annealref13_known ha_annealref13_known fr_annealref13_known hr_annealref13_known G_annealref13_known out_annealref13_known)
theorem ok_annealref13_known : OrcOk PR c_annealref13_known := fnT okO_annealref13_known mixed p_annealref13_known (by kernel_rfl) (by kernel_rfl) (L := L_annealref13_known) (kp := false) (by kernel_rfl) (inn := inn_annealref13_known) (out := out_annealref13_known) (fun _ _ => rfl) (loopsL (l := []) (by kernel_rfl) trivial) (fun x y => by kernel_rfl)
noncomputable def O_annealref13_Right : Orc := (orm c_annealref13_known c_annealref1_Mask)
theorem okO_annealref13_Right : OrcOk PR O_annealref13_Right := (orm_ok ok_annealref13_known ok_annealref1_Mask)
abbrev fa_annealref13_Right : Fm := (.pair (.agg (.pair (.i .i64) (.pair (.i .i64) (.pair (.i .i64) (.pair (.si .u32) .unit))))) .unit)
abbrev ha_annealref13_Right : List BF := []
abbrev fr_annealref13_Right : Fm := .b
abbrev hr_annealref13_Right : List BF := []
abbrev ff_annealref13_Right_0 : Fm := (.us 1 (.cst (.ref 0 1 0) (.us 1 (.pair (.i .i64) (.us 52 .unit)))))
abbrev hf_annealref13_Right_0 : List BF := [(.list 1 y_api_Tensor true (.pair (.i .i64) (.pair (.i .i64) (.pair (.i .i64) (.pair (.si .u32) .unit)))))]
abbrev X_annealref13_Right_0 : Xs := (.alt (.exit 0) [] (.us 56 .unit) [] (.one .ret [2] (.us 2 (.pair .b (.us 53 .unit))) []))
abbrev S_annealref13_Right_0 : Type := T ff_annealref13_Right_0 × TH hf_annealref13_Right_0
abbrev E_annealref13_Right_0 : Type := TX X_annealref13_Right_0
noncomputable def LB_annealref13_Right_0 : Lps := L0
noncomputable def st_annealref13_Right_0 : StepT S_annealref13_Right_0 E_annealref13_Right_0 := fun R v kn ko =>
 let x0 : Int := v.2.1.2.2.1
 let x1 : List Int := v.2.1.2.2.2.1
 let x2 : Int := v.1.1
 bif (decide (x2 < (((List.length x1) : Nat) : Int))) then
 bif (decide (((0:Int) ≤ x2) ∧ (x2 < (((List.length x1) : Nat) : Int)))) then
 ((F_annealref1_Mask x0)).bind fun r3 =>
 bif ((bits .andNot .u32 (List.getD x1 (Int.toNat x2) (0:Int)) r3) != (0:Int)) then
 (ko (Sum.inr ((false, ()), ())))
 else
 (kn (((IntKind.wrap .i64 (x2 + (1:Int))), ()), ((v.2.1.1, (v.2.1.2.1, (x0, ((List.take (List.length x1) x1), ())))), ())))
 else
 none
 else
 (ko (Sum.inl ((), ())))
noncomputable def ls_annealref13_Right_0 : St → LTr := (lsum ff_annealref13_Right_0 hf_annealref13_Right_0 X_annealref13_Right_0 Prod.mk id st_annealref13_Right_0 (hd [] [] [1, 3] 0))
theorem lp_annealref13_Right_0 : LoopOk PR 0 (lpN f_annealref13_Right 0) ls_annealref13_Right_0 := loopT okO_annealref13_Right mixed (L := LB_annealref13_Right_0) (d := 1) (bs := []) (ks := [1, 3]) (loopsL (l := []) (by kernel_rfl) trivial) (by kernel_rfl) (inS := Prod.mk) (outS := id) (fun _ _ => rfl) (inX := id) (outX := id) (fun _ => rfl) (fun v R kn ko => by kernel_rfl) (hd_wk [] [] [1, 3] 0)
noncomputable def L_annealref13_Right : Lps := (lpB 5 (.by_ ls_annealref13_Right_0) L0)
def inn_annealref13_Right : T fr_annealref13_Right → TH hr_annealref13_Right → Bool := (fun z w => z)
def out_annealref13_Right : Bool → T fr_annealref13_Right × TH hr_annealref13_Right := fun r => (r, ())
noncomputable def F_annealref13_Right (a0 : Int × Int × Int × List Int × Unit) : Option (Bool) :=
 let x0 : Int := a0.2.2.1
 let x1 : List Int := a0.2.2.2.1
 let x2 : Nat := (List.length x1)
 bif (decide (a0.1 < (0:Int))) then
 (some false)
 else
 bif (decide (a0.1 > (4096:Int))) then
 (some false)
 else
 bif (decide (a0.2.1 < (0:Int))) then
 (some false)
 else
 bif (decide (a0.2.1 > (4096:Int))) then
 (some false)
 else
 ((F_annealref13_known x0)).bind fun r3 =>
 bif (!r3) then
 (some false)
 else
 bif (((x2 : Nat) : Int) != (IntKind.wrap .i64 (a0.1 * a0.2.1))) then
 (some false)
 else
 ((lim st_annealref13_Right_0 (((0:Int), ()), ((a0.1, (a0.2.1, (x0, ((List.take x2 x1), ())))), ())))).bind fun r4 =>
 els (fun l5 =>
 (some true)) (fun r6 =>
 (some r6.1.1)) r4
noncomputable def G_annealref13_Right : T fa_annealref13_Right → TH ha_annealref13_Right → Option (Bool) := fun x y => F_annealref13_Right x.1
noncomputable def c_annealref13_Right : Orc := ent i_annealref13_Right [] 0 (sp fa_annealref13_Right ha_annealref13_Right fr_annealref13_Right hr_annealref13_Right G_annealref13_Right out_annealref13_Right)
theorem ok_annealref13_Right : OrcOk PR c_annealref13_Right := fnT okO_annealref13_Right mixed p_annealref13_Right (by kernel_rfl) (by kernel_rfl) (L := L_annealref13_Right) (kp := false) (by kernel_rfl) (inn := inn_annealref13_Right) (out := out_annealref13_Right) (fun _ _ => rfl) (loopsL (l := [((lpN f_annealref13_Right 0), ls_annealref13_Right_0)]) (by kernel_rfl) ⟨lp_annealref13_Right_0, trivial⟩) (fun x y => by kernel_rfl)
noncomputable def O_anneallaw14_known : Orc := (orm c_kern_Dot c_kern_Rows)
theorem okO_anneallaw14_known : OrcOk PR O_anneallaw14_known := (orm_ok ok_kern_Dot ok_kern_Rows)
abbrev fa_anneallaw14_known : Fm := .unit
abbrev ha_anneallaw14_known : List BF := []
abbrev fr_anneallaw14_known : Fm := .b
abbrev hr_anneallaw14_known : List BF := []
noncomputable def L_anneallaw14_known : Lps := L0
def inn_anneallaw14_known : T fr_anneallaw14_known → TH hr_anneallaw14_known → Bool := (fun z w => z)
def out_anneallaw14_known : Bool → T fr_anneallaw14_known × TH hr_anneallaw14_known := fun r => (r, ())
noncomputable def F_anneallaw14_known  : Option (Bool) :=
 ((F_kern_Dot [(1073741824:Int), (1065353216:Int)] [(1077936128:Int), (1065353216:Int)])).bind fun r0 =>
 ((F_kern_Rows ((1:Int), ((1:Int), ((0:Int), ([(16384:Int)], ())))) ((1:Int), ((1:Int), ((1:Int), ([(16384:Int)], ())))))).bind fun r1 =>
 let x2 : List Int := r1.1.2.2.2.1
 let x3 : Int := r1.1.2.2.1
 bif (r0.1 == (1088421888:Int)) then
 bif (r0.2.1 == (0:Int)) then
 bif (r1.2.1 == (0:Int)) then
 bif ((((List.length x2) : Nat) : Int) == (1:Int)) then
 bif (decide (((0:Int) ≤ (0:Int)) ∧ ((0:Int) < (((List.length x2) : Nat) : Int)))) then
 bif ((List.getD x2 (0:Nat) (0:Int)) == (1082130432:Int)) then
 (some (x3 == (2:Int)))
 else
 (some false)
 else
 none
 else
 (some false)
 else
 (some false)
 else
 (some false)
 else
 (some false)
noncomputable def G_anneallaw14_known : T fa_anneallaw14_known → TH ha_anneallaw14_known → Option (Bool) := fun x y => F_anneallaw14_known 
noncomputable def c_anneallaw14_known : Orc := ent i_anneallaw14_known [] 0 (sp fa_anneallaw14_known ha_anneallaw14_known fr_anneallaw14_known hr_anneallaw14_known G_anneallaw14_known out_anneallaw14_known)
theorem ok_anneallaw14_known : OrcOk PR c_anneallaw14_known := fnT okO_anneallaw14_known mixed p_anneallaw14_known (by kernel_rfl) (by kernel_rfl) (L := L_anneallaw14_known) (kp := false) (by kernel_rfl) (inn := inn_anneallaw14_known) (out := out_anneallaw14_known) (fun _ _ => rfl) (loopsL (l := []) (by kernel_rfl) trivial) (fun x y => by kernel_rfl)
end Go.Proofs.YtkknnloamidaiaaGreat.VI
