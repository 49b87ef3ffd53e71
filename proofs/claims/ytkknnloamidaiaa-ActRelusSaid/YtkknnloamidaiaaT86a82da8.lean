import Derived.Test.YtkknnloamidaiaaT270246d0
import Derived.Test.YtkknnloamidaiaaRows
import Derived.WalkKit
import Derived.ProofKit
namespace Go.Proofs.Ytkknnloamidaiaa.VI
set_option linter.unusedVariables false
set_option linter.unusedSimpArgs false
set_option maxRecDepth 100000
set_option linter.unusedSimpArgs false
set_option linter.unusedVariables false
noncomputable def O_annealref10_Above : Orc := c_annealref1_Less
theorem okO_annealref10_Above : OrcOk PR O_annealref10_Above := ok_annealref1_Less
abbrev fa_annealref10_Above : Fm := (.pair (.i .u32) (.pair (.i .u32) .unit))
abbrev ha_annealref10_Above : List BF := []
abbrev fr_annealref10_Above : Fm := .b
abbrev hr_annealref10_Above : List BF := []
noncomputable def L_annealref10_Above : Lps := L0
def inn_annealref10_Above : T fr_annealref10_Above → TH hr_annealref10_Above → Bool := (fun z w => z)
def out_annealref10_Above : Bool → T fr_annealref10_Above × TH hr_annealref10_Above := fun r => (r, ())
noncomputable def F_annealref10_Above (a0 : Int) (a1 : Int) : Option (Bool) :=
  ((F_annealref1_Less (2:Int) a1 a0)).bind fun r0 =>
  (some r0)
noncomputable def G_annealref10_Above : T fa_annealref10_Above → TH ha_annealref10_Above → Option (Bool) := fun x y => F_annealref10_Above x.1 x.2.1
noncomputable def c_annealref10_Above : Orc := ent i_annealref10_Above [] 0 (sp fa_annealref10_Above ha_annealref10_Above fr_annealref10_Above hr_annealref10_Above G_annealref10_Above out_annealref10_Above)
theorem ok_annealref10_Above : OrcOk PR c_annealref10_Above := fnT okO_annealref10_Above mixed p_annealref10_Above (by kernel_rfl) (by kernel_rfl) (L := L_annealref10_Above) (kp := false) (by kernel_rfl) (inn := inn_annealref10_Above) (out := out_annealref10_Above) (fun _ _ => rfl) (loopsL (l := []) (by kernel_rfl) trivial) (fun x y => by kernel_rfl)
noncomputable def O_act_Forwardc1 : Orc := (orm c_conv_Widen (orm c_act_Value c_conv_Narrow))
theorem okO_act_Forwardc1 : OrcOk PR O_act_Forwardc1 := (orm_ok ok_conv_Widen (orm_ok ok_act_Value ok_conv_Narrow))
abbrev fa_act_Forwardc1 : Fm := (.pair (.i .i64) (.pair (.i .u32) (.cst (.ref 0 1 0) (.cst (.ref 1 1 0) .unit))))
abbrev ha_act_Forwardc1 : List BF := [(.list 1 y_api_Tensor true (.pair (.i .i64) (.pair (.i .i64) (.pair (.i .i64) (.pair (.si .u32) .unit))))), (.ints 1 y_int true .i64)]
abbrev fr_act_Forwardc1 : Fm := (.i .u32)
abbrev hr_act_Forwardc1 : List BF := [(.list 1 y_api_Tensor true (.pair (.i .i64) (.pair (.i .i64) (.pair (.i .i64) (.pair (.si .u32) .unit))))), (.ints 1 y_int true .i64)]
noncomputable def L_act_Forwardc1 : Lps := L0
def inn_act_Forwardc1 : T fr_act_Forwardc1 → TH hr_act_Forwardc1 → (Int) × ((Int × Int × Int × List Int × Unit) × List Int × Unit) := Prod.mk
def out_act_Forwardc1 : (Int) × ((Int × Int × Int × List Int × Unit) × List Int × Unit) → T fr_act_Forwardc1 × TH hr_act_Forwardc1 := id
noncomputable def F_act_Forwardc1 (a0 : Int) (a1 : Int) (a2 : Int × Int × Int × List Int × Unit) (a3 : List Int) : Option ((Int) × ((Int × Int × Int × List Int × Unit) × List Int × Unit)) :=
  let x0 : Int := a2.2.2.1
  let x1 : List Int := a2.2.2.2.1
  bif (decide ((0:Nat) < (List.length a3))) then
    ((F_conv_Widen x0 a1)).bind fun r2 =>
    ((F_act_Value (List.getD a3 (0:Nat) (0:Int)) r2)).bind fun r3 =>
    ((F_conv_Narrow x0 r3)).bind fun r4 =>
    (some (r4, ((a2.1, (a2.2.1, (x0, ((List.take (List.length x1) x1), ())))), (a3, ()))))
  else
    none
noncomputable def G_act_Forwardc1 : T fa_act_Forwardc1 → TH ha_act_Forwardc1 → Option ((Int) × ((Int × Int × Int × List Int × Unit) × List Int × Unit)) := fun x y => F_act_Forwardc1 x.1 x.2.1 y.1 y.2.1
noncomputable def c_act_Forwardc1 : Orc := ent i_act_Forwardc1 [false, false, true, true] 0 (sp fa_act_Forwardc1 ha_act_Forwardc1 fr_act_Forwardc1 hr_act_Forwardc1 G_act_Forwardc1 out_act_Forwardc1)
theorem ok_act_Forwardc1 : OrcOk PR c_act_Forwardc1 := fnT okO_act_Forwardc1 mixed p_act_Forwardc1 (by kernel_rfl) (by kernel_rfl) (L := L_act_Forwardc1) (kp := false) (by kernel_rfl) (inn := inn_act_Forwardc1) (out := out_act_Forwardc1) (fun _ _ => rfl) (loopsL (l := []) (by kernel_rfl) trivial) (fun x y => by kernel_rfl)
noncomputable def O_tensor_Each__act_Forwardc1 : Orc := c_act_Forwardc1
theorem okO_tensor_Each__act_Forwardc1 : OrcOk PR O_tensor_Each__act_Forwardc1 := ok_act_Forwardc1
abbrev fa_tensor_Each__act_Forwardc1 : Fm := (.pair (.agg (.pair (.i .i64) (.pair (.i .i64) (.pair (.i .i64) (.pair (.si .u32) .unit))))) (.pair (.i .i64) (.pair (.fn i_act_Forwardc1 (.pair (.ref 0 1 0) (.pair (.ref 1 1 0) .unit))) .unit)))
abbrev ha_tensor_Each__act_Forwardc1 : List BF := [(.list 1 y_api_Tensor true (.pair (.i .i64) (.pair (.i .i64) (.pair (.i .i64) (.pair (.si .u32) .unit))))), (.ints 1 y_int true .i64)]
abbrev fr_tensor_Each__act_Forwardc1 : Fm := (.agg (.pair (.i .i64) (.pair (.i .i64) (.pair (.i .i64) (.pair (.si .u32) .unit)))))
abbrev hr_tensor_Each__act_Forwardc1 : List BF := [(.list 1 y_api_Tensor true (.pair (.i .i64) (.pair (.i .i64) (.pair (.i .i64) (.pair (.si .u32) .unit))))), (.ints 1 y_int true .i64)]
abbrev ff_tensor_Each__act_Forwardc1_0 : Fm := (.us 2 (.cst (.fn i_act_Forwardc1 (.cst (.ref 0 1 0) (.cst (.ref 1 1 0) .unit))) (.us 3 (.cst (.ref 2 1 0) (.cst (.ref 3 1 0) (.us 13 (.pair (.si .u32) (.pair (.i .i64) (.pair (.i .i64) (.us 14 .unit))))))))))
abbrev hf_tensor_Each__act_Forwardc1_0 : List BF := [(.list 1 y_api_Tensor true (.pair (.i .i64) (.pair (.i .i64) (.pair (.i .i64) (.pair (.si .u32) .unit))))), (.ints 1 y_int true .i64), (.list 1 y_api_Tensor true (.pair (.i .i64) (.pair (.i .i64) (.pair (.i .i64) (.cst .nils .unit))))), (.list 1 y_api_Tensor true (.pair (.i .i64) (.pair (.i .i64) (.pair (.i .i64) (.pair (.own 4 1 0 1) .unit))))), (.ints 1 y_uint32 true .u32)]
abbrev X_tensor_Each__act_Forwardc1_0 : Xs := (.one (.exit 0) [6, 7] (.us 6 (.cst (.ref 2 1 0) (.cst (.ref 3 1 0) (.us 30 .unit)))) [(.list 1 y_api_Tensor true (.pair (.i .i64) (.pair (.i .i64) (.pair (.i .i64) (.pair (.si .u32) .unit))))), (.ints 1 y_int true .i64), (.list 1 y_api_Tensor true (.pair (.i .i64) (.pair (.i .i64) (.pair (.i .i64) (.cst .nils .unit))))), (.list 1 y_api_Tensor true (.pair (.i .i64) (.pair (.i .i64) (.pair (.i .i64) (.pair (.own 4 1 0 1) .unit))))), (.ints 1 y_uint32 true .u32)])
abbrev S_tensor_Each__act_Forwardc1_0 : Type := T ff_tensor_Each__act_Forwardc1_0 × TH hf_tensor_Each__act_Forwardc1_0
abbrev E_tensor_Each__act_Forwardc1_0 : Type := TX X_tensor_Each__act_Forwardc1_0
noncomputable def LB_tensor_Each__act_Forwardc1_0 : Lps := L0
noncomputable def st_tensor_Each__act_Forwardc1_0 : StepT S_tensor_Each__act_Forwardc1_0 E_tensor_Each__act_Forwardc1_0 := fun R v kn ko =>
  let x0 : Int := v.1.2.2.1
  let x1 : List Int := v.1.1
  let x2 : Nat := (Int.toNat x0)
  let x3 : List Int := v.2.1.2.2.2.1
  bif (decide (x0 < v.1.2.1)) then
    bif (decide (((0:Int) ≤ x0) ∧ (x0 < (((List.length x1) : Nat) : Int)))) then
      ((F_act_Forwardc1 x0 (List.getD x1 x2 (0:Int)) (v.2.1.1, (v.2.1.2.1, (v.2.1.2.2.1, ((List.take (List.length x3) x3), ())))) v.2.2.1)).bind fun r4 =>
      let x5 : List Int := r4.2.1.2.2.2.1
      bif (decide (((0:Int) ≤ x0) ∧ (x0 < ((v.2.2.2.2.1.2.2.2.1 : Nat) : Int)))) then
        bif (decide (((0:Nat) + (x2 * (1:Nat))) < (List.length v.2.2.2.2.2.1))) then
          (kn (((List.take (List.length x1) x1), (v.1.2.1, ((IntKind.wrap .i64 (x0 + (1:Int))), ()))), ((r4.2.1.1, (r4.2.1.2.1, (r4.2.1.2.2.1, ((List.take (List.length x5) x5), ())))), (r4.2.2.1, (v.2.2.2.1, (v.2.2.2.2.1, ((List.set v.2.2.2.2.2.1 ((0:Nat) + (x2 * (1:Nat))) r4.1), ())))))))
        else
          none
      else
        none
    else
      none
  else
    (ko ((), ((v.2.1.1, (v.2.1.2.1, (v.2.1.2.2.1, ((List.take (List.length x3) x3), ())))), v.2.2)))
noncomputable def ls_tensor_Each__act_Forwardc1_0 : St → LTr := (lsum ff_tensor_Each__act_Forwardc1_0 hf_tensor_Each__act_Forwardc1_0 X_tensor_Each__act_Forwardc1_0 Prod.mk id st_tensor_Each__act_Forwardc1_0 (hd [] [] [2, 6, 7, 21, 22, 23] 2))
theorem lp_tensor_Each__act_Forwardc1_0 : LoopOk PR 2 (lpN f_tensor_Each 0) ls_tensor_Each__act_Forwardc1_0 := loopT okO_tensor_Each__act_Forwardc1 mixed (L := LB_tensor_Each__act_Forwardc1_0) (d := 1) (bs := []) (ks := [2, 6, 7, 21, 22, 23]) (loopsL (l := []) (by kernel_rfl) trivial) (by kernel_rfl) (inS := Prod.mk) (outS := id) (fun _ _ => rfl) (inX := id) (outX := id) (fun _ => rfl) (fun v R kn ko => by kernel_rfl) (hd_wk [] [] [2, 6, 7, 21, 22, 23] 2)
noncomputable def L_tensor_Each__act_Forwardc1 : Lps := (lpB 4 (.by_ ls_tensor_Each__act_Forwardc1_0) L0)
def inn_tensor_Each__act_Forwardc1 : T fr_tensor_Each__act_Forwardc1 → TH hr_tensor_Each__act_Forwardc1 → (Int × Int × Int × List Int × Unit) × ((Int × Int × Int × List Int × Unit) × List Int × Unit) := Prod.mk
def out_tensor_Each__act_Forwardc1 : (Int × Int × Int × List Int × Unit) × ((Int × Int × Int × List Int × Unit) × List Int × Unit) → T fr_tensor_Each__act_Forwardc1 × TH hr_tensor_Each__act_Forwardc1 := id
noncomputable def F_tensor_Each__act_Forwardc1 (a0 : Int × Int × Int × List Int × Unit) (a1 : Int) (a2 : Int × Int × Int × List Int × Unit) (a3 : List Int) : Option ((Int × Int × Int × List Int × Unit) × ((Int × Int × Int × List Int × Unit) × List Int × Unit)) :=
  let x0 : List Int := a0.2.2.2.1
  let x1 : Nat := (List.length x0)
  let x2 : Int := ((x1 : Nat) : Int)
  let x3 : Int := a2.2.2.1
  let x4 : List Int := a2.2.2.2.1
  let x5 : Nat := (Int.toNat x2)
  bif (decide (((0:Int) ≤ x2) ∧ (x2 ≤ (1073741824:Int)))) then
    ((lim st_tensor_Each__act_Forwardc1_0 (((List.take x1 x0), (x2, ((0:Int), ()))), ((a2.1, (a2.2.1, (x3, ((List.take (List.length x4) x4), ())))), (a3, (((0:Int), ((0:Int), ((0:Int), ()))), ((a0.1, (a0.2.1, (a1, (x5, ())))), ((List.replicate x5 (0:Int)), ())))))))).bind fun r6 =>
    let x7 : List Int := r6.2.1.2.2.2.1
    (some ((r6.2.2.2.2.1.1, (r6.2.2.2.2.1.2.1, (r6.2.2.2.2.1.2.2.1, ((List.take r6.2.2.2.2.1.2.2.2.1 (List.drop (0:Nat) r6.2.2.2.2.2.1)), ())))), ((r6.2.1.1, (r6.2.1.2.1, (r6.2.1.2.2.1, ((List.take (List.length x7) x7), ())))), (r6.2.2.1, ()))))
  else
    none
noncomputable def G_tensor_Each__act_Forwardc1 : T fa_tensor_Each__act_Forwardc1 → TH ha_tensor_Each__act_Forwardc1 → Option ((Int × Int × Int × List Int × Unit) × ((Int × Int × Int × List Int × Unit) × List Int × Unit)) := fun x y => F_tensor_Each__act_Forwardc1 x.1 x.2.1 y.1 y.2.1
noncomputable def c_tensor_Each__act_Forwardc1 : Orc := ent i_tensor_Each [false, false, true] 0 (sp fa_tensor_Each__act_Forwardc1 ha_tensor_Each__act_Forwardc1 fr_tensor_Each__act_Forwardc1 hr_tensor_Each__act_Forwardc1 G_tensor_Each__act_Forwardc1 out_tensor_Each__act_Forwardc1)
theorem ok_tensor_Each__act_Forwardc1 : OrcOk PR c_tensor_Each__act_Forwardc1 := fnT okO_tensor_Each__act_Forwardc1 mixed p_tensor_Each (by kernel_rfl) (by kernel_rfl) (L := L_tensor_Each__act_Forwardc1) (kp := false) (by kernel_rfl) (inn := inn_tensor_Each__act_Forwardc1) (out := out_tensor_Each__act_Forwardc1) (fun _ _ => rfl) (loopsL (l := [((lpN f_tensor_Each 0), ls_tensor_Each__act_Forwardc1_0)]) (by kernel_rfl) ⟨lp_tensor_Each__act_Forwardc1_0, trivial⟩) (fun x y => by kernel_rfl)
noncomputable def O_act_Forward : Orc := (orm c_tensor_Right (orm c_act_known (orm c_tensor_Each__act_Forwardc1 c_act_Forwardc1)))
theorem okO_act_Forward : OrcOk PR O_act_Forward := (orm_ok ok_tensor_Right (orm_ok ok_act_known (orm_ok ok_tensor_Each__act_Forwardc1 ok_act_Forwardc1)))
abbrev fa_act_Forward : Fm := (.pair (.i .i64) (.pair (.agg (.pair (.i .i64) (.pair (.i .i64) (.pair (.i .i64) (.pair (.si .u32) .unit))))) .unit))
abbrev ha_act_Forward : List BF := []
abbrev fr_act_Forward : Fm := (.tup (.pair (.agg (.pair (.i .i64) (.pair (.i .i64) (.pair (.i .i64) (.pair (.si .u32) .unit))))) (.pair (.i .i64) .unit)))
abbrev hr_act_Forward : List BF := []
noncomputable def L_act_Forward : Lps := L0
def inn_act_Forward : T fr_act_Forward → TH hr_act_Forward → (Int × Int × Int × List Int × Unit) × Int × Unit := (fun z w => z)
def out_act_Forward : (Int × Int × Int × List Int × Unit) × Int × Unit → T fr_act_Forward × TH hr_act_Forward := fun r => (r, ())
noncomputable def F_act_Forward (a0 : Int) (a1 : Int × Int × Int × List Int × Unit) : Option ((Int × Int × Int × List Int × Unit) × Int × Unit) :=
  let x0 : Int := a1.2.2.1
  let x1 : List Int := a1.2.2.2.1
  ((F_tensor_Right (a1.1, (a1.2.1, (x0, ((List.take (List.length x1) x1), ())))))).bind fun r2 =>
  bif (!r2) then
    (some (((0:Int), ((0:Int), ((0:Int), ([], ())))), ((21:Int), ())))
  else
    ((F_act_known (List.getD [a0] (0:Nat) (0:Int)))).bind fun r3 =>
    bif (!r3) then
      (some (((0:Int), ((0:Int), ((0:Int), ([], ())))), ((22:Int), ())))
    else
      ((F_tensor_Each__act_Forwardc1 (a1.1, (a1.2.1, (x0, ((List.take (List.length x1) x1), ())))) x0 (a1.1, (a1.2.1, (x0, ((List.take (List.length x1) x1), ())))) [a0])).bind fun r4 =>
      let x5 : List Int := r4.1.2.2.2.1
      (some ((r4.1.1, (r4.1.2.1, (r4.1.2.2.1, ((List.take (List.length x5) x5), ())))), ((0:Int), ())))
noncomputable def G_act_Forward : T fa_act_Forward → TH ha_act_Forward → Option ((Int × Int × Int × List Int × Unit) × Int × Unit) := fun x y => F_act_Forward x.1 x.2.1
noncomputable def c_act_Forward : Orc := ent i_act_Forward [] 0 (sp fa_act_Forward ha_act_Forward fr_act_Forward hr_act_Forward G_act_Forward out_act_Forward)
theorem ok_act_Forward : OrcOk PR c_act_Forward := fnT okO_act_Forward mixed p_act_Forward (by kernel_rfl) (by kernel_rfl) (L := L_act_Forward) (kp := false) (by kernel_rfl) (inn := inn_act_Forward) (out := out_act_Forward) (fun _ _ => rfl) (loopsL (l := []) (by kernel_rfl) trivial) (fun x y => by kernel_rfl)
noncomputable def O_anneallaw15_known : Orc := (orm c_act_Forward c_act_Slope)
theorem okO_anneallaw15_known : OrcOk PR O_anneallaw15_known := (orm_ok ok_act_Forward ok_act_Slope)
abbrev fa_anneallaw15_known : Fm := .unit
abbrev ha_anneallaw15_known : List BF := []
abbrev fr_anneallaw15_known : Fm := .b
abbrev hr_anneallaw15_known : List BF := []
noncomputable def L_anneallaw15_known : Lps := L0
def inn_anneallaw15_known : T fr_anneallaw15_known → TH hr_anneallaw15_known → Bool := (fun z w => z)
def out_anneallaw15_known : Bool → T fr_anneallaw15_known × TH hr_anneallaw15_known := fun r => (r, ())
noncomputable def F_anneallaw15_known  : Option (Bool) :=
  ((F_act_Forward (1:Int) ((1:Int), ((2:Int), ((0:Int), ([(48128:Int), (15360:Int)], ())))))).bind fun r0 =>
  let x1 : Int := r0.1.2.1
  let x2 : Int := r0.1.2.2.1
  let x3 : List Int := r0.1.2.2.2.1
  let x4 : Nat := (List.length x3)
  ((F_act_Forward (9:Int) (r0.1.1, (x1, (x2, ((List.take x4 x3), ())))))).bind fun r5 =>
  bif (r0.2.1 == (0:Int)) then
    bif (((x4 : Nat) : Int) == (2:Int)) then
      bif (decide (((0:Int) ≤ (0:Int)) ∧ ((0:Int) < ((x4 : Nat) : Int)))) then
        bif ((List.getD x3 (0:Nat) (0:Int)) == (0:Int)) then
          bif (decide (((0:Int) ≤ (1:Int)) ∧ ((1:Int) < ((x4 : Nat) : Int)))) then
            bif ((List.getD x3 (1:Nat) (0:Int)) == (15360:Int)) then
              bif (r5.2.1 == (22:Int)) then
                (some true)
              else
                (some false)
            else
              (some false)
          else
            none
        else
          (some false)
      else
        none
    else
      (some false)
  else
    (some false)
noncomputable def G_anneallaw15_known : T fa_anneallaw15_known → TH ha_anneallaw15_known → Option (Bool) := fun x y => F_anneallaw15_known 
noncomputable def c_anneallaw15_known : Orc := ent i_anneallaw15_known [] 0 (sp fa_anneallaw15_known ha_anneallaw15_known fr_anneallaw15_known hr_anneallaw15_known G_anneallaw15_known out_anneallaw15_known)
theorem ok_anneallaw15_known : OrcOk PR c_anneallaw15_known := fnT okO_anneallaw15_known mixed p_anneallaw15_known (by kernel_rfl) (by kernel_rfl) (L := L_anneallaw15_known) (kp := false) (by kernel_rfl) (inn := inn_anneallaw15_known) (out := out_anneallaw15_known) (fun _ _ => rfl) (loopsL (l := []) (by kernel_rfl) trivial) (fun x y => by kernel_rfl)
noncomputable def O_anneallaw15_ActRelus : Orc := (orm c_anneallaw15_known (orm c_annealref1_Class (orm c_act_Value (orm c_act_Slope c_annealref10_Above))))
theorem okO_anneallaw15_ActRelus : OrcOk PR O_anneallaw15_ActRelus := (orm_ok ok_anneallaw15_known (orm_ok ok_annealref1_Class (orm_ok ok_act_Value (orm_ok ok_act_Slope ok_annealref10_Above))))
abbrev fa_anneallaw15_ActRelus : Fm := (.pair (.i .u32) .unit)
abbrev ha_anneallaw15_ActRelus : List BF := []
abbrev fr_anneallaw15_ActRelus : Fm := .b
abbrev hr_anneallaw15_ActRelus : List BF := []
noncomputable def L_anneallaw15_ActRelus : Lps := L0
def inn_anneallaw15_ActRelus : T fr_anneallaw15_ActRelus → TH hr_anneallaw15_ActRelus → Bool := (fun z w => z)
def out_anneallaw15_ActRelus : Bool → T fr_anneallaw15_ActRelus × TH hr_anneallaw15_ActRelus := fun r => (r, ())
noncomputable def F_anneallaw15_ActRelus (a0 : Int) : Option (Bool) :=
  (F_anneallaw15_known).bind fun r0 =>
  bif (!r0) then
    (some false)
  else
    ((F_annealref1_Class (2:Int) a0)).bind fun r1 =>
    ((F_act_Value (1:Int) a0)).bind fun r2 =>
    ((F_act_Slope (1:Int) a0)).bind fun r3 =>
    bif (decide (r1 ≥ (4:Int))) then
      bif (r2 == (2143289344:Int)) then
        (some (r3 == (0:Int)))
      else
        (some false)
    else
      bif ((a0 / (2147483648:Int)) == (1:Int)) then
        bif (r2 == (0:Int)) then
          (some (r3 == (0:Int)))
        else
          (some false)
      else
        bif (r1 == (0:Int)) then
          bif (r2 == (0:Int)) then
            (some (r3 == (0:Int)))
          else
            (some false)
        else
          bif (r2 == a0) then
            bif (r3 == (1065353216:Int)) then
              ((F_annealref10_Above r2 (0:Int))).bind fun r4 =>
              (some r4)
            else
              (some false)
          else
            (some false)
noncomputable def G_anneallaw15_ActRelus : T fa_anneallaw15_ActRelus → TH ha_anneallaw15_ActRelus → Option (Bool) := fun x y => F_anneallaw15_ActRelus x.1
noncomputable def c_anneallaw15_ActRelus : Orc := ent i_anneallaw15_ActRelus [] 0 (sp fa_anneallaw15_ActRelus ha_anneallaw15_ActRelus fr_anneallaw15_ActRelus hr_anneallaw15_ActRelus G_anneallaw15_ActRelus out_anneallaw15_ActRelus)
theorem ok_anneallaw15_ActRelus : OrcOk PR c_anneallaw15_ActRelus := fnT okO_anneallaw15_ActRelus mixed p_anneallaw15_ActRelus (by kernel_rfl) (by kernel_rfl) (L := L_anneallaw15_ActRelus) (kp := false) (by kernel_rfl) (inn := inn_anneallaw15_ActRelus) (out := out_anneallaw15_ActRelus) (fun _ _ => rfl) (loopsL (l := []) (by kernel_rfl) trivial) (fun x y => by kernel_rfl)
end Go.Proofs.Ytkknnloamidaiaa.VI

namespace Go.Proofs.Ytkknnloamidaiaa.VI
set_option linter.unusedVariables false
set_option linter.unusedSimpArgs false
set_option linter.unusedSimpArgs false
set_option linter.unusedVariables false
set_option maxRecDepth 100000
set_option maxHeartbeats 4000000
def narrow (f a : Int) : Int := (toS 2 f 0 a).1
theorem narrow_w (f a : Int) : w32 (narrow f a) := wf_w (to_wf 2 f 0 a)
theorem narrow_eq (f : Int) {a : Int} (ha : w32 a) : F_conv_Narrow f a = some (narrow f a) := by
  unfold F_conv_Narrow; rw [to_eq 2 f 0 ha]; rfl
theorem fabove_eq {a b : Int} (ha : w32 a) (hb : w32 b) : F_funcs_Above a b = some (lt 2 b a) := by
  unfold F_funcs_Above; rw [less_eq 2 hb ha]; rfl
theorem fisnan_eq {a : Int} (ha : w32 a) : F_funcs_IsNan a = some (nan 2 a) := by
  unfold F_funcs_IsNan; rw [isnan_eq 2 ha]; rfl
def relu (x : Int) : Int := if nan 2 x then 2143289344 else if lt 2 0 x then x else 0
theorem w0 : w32 0 := ⟨by decide, by decide⟩
theorem relu_eq {x : Int} (h : w32 x) : F_act_Value 1 x = some (relu x) := by
  unfold F_act_Value relu
  rw [fisnan_eq h, fabove_eq h w0]
  simp only [Option.bind_some]
  show (bif nan 2 x then some 2143289344 else bif lt 2 0 x then some x else some 0) = _
  cases nan 2 x <;> cases lt 2 0 x <;> rfl
theorem relu_w {x : Int} (h : w32 x) : w32 (relu x) := by
  unfold relu
  split
  · exact ⟨by decide, by decide⟩
  · split
    · exact h
    · exact w0
theorem eachF_eq (t z : TsT) (g k : Int) (v : Int → Int) (hv : ∀ x, w32 x → F_act_Value k x = some (v x) ∧ w32 (v x)) (hl : wl t.2.2.2.1) (hn : t.2.2.2.1.length ≤ 1073741824) :
    F_tensor_Each__act_Forwardc1 t g z [k] = some ((t.1, t.2.1, g, (List.range t.2.2.2.1.length).map (fun i => narrow z.2.2.1 (v (widen z.2.2.1 (t.2.2.2.1.getD i 0)))), ()), (z, ([k], ()))) := by
  obtain ⟨r, c, f, l, ⟨⟩⟩ := t
  obtain ⟨b1, b2, b3, b4, ⟨⟩⟩ := z
  simp only at hl hn ⊢
  have := lim_seq (st := st_tensor_Each__act_Forwardc1_0) (fun i => ((l, ((l.length : Int), ((i : Int), ()))), ((b1, (b2, (b3, (b4, ())))), ([k], (((0:Int), ((0:Int), ((0:Int), ()))), ((r, (c, (g, (l.length, ())))), (lay1 (fun i => narrow b3 (v (widen b3 (l.getD i 0)))) l.length i, ())))))))
    (b := ((), ((b1, (b2, (b3, (b4, ())))), ([k], (((0:Int), ((0:Int), ((0:Int), ()))), ((r, (c, (g, (l.length, ())))), (lay1 (fun i => narrow b3 (v (widen b3 (l.getD i 0)))) l.length l.length, ()))))))) l.length
    (fun i hi R kn ko => by
      have hll := lay1_len (fun i => narrow b3 (v (widen b3 (l.getD i 0)))) (Nat.le_of_lt hi)
      have hls := lay1_set (fun i => narrow b3 (v (widen b3 (l.getD i 0)))) hi
      have h1 := hv _ (widen_w b3 (l.getD i 0))
      unfold st_tensor_Each__act_Forwardc1_0 F_act_Forwardc1
      dsimp only at hls ⊢
      simp only [List.take_length, bif_dec, hll, Int.toNat_natCast]
      rw [if_pos (by omega), if_pos (by omega), if_pos (show 0 < [k].length by simp), widen_eq b3 (wl_get hl i)]
      simp only [Option.bind_some]
      have e0 : List.getD [k] 0 0 = k := rfl
      first | rw [e0] | skip
      rw [h1.1]
      simp only [Option.bind_some]
      rw [narrow_eq b3 h1.2]
      simp only [Option.bind_some]
      rw [if_pos (show (0 : Int) ≤ (i : Int) ∧ (i : Int) < (l.length : Int) by omega), if_pos (show 0 + i * 1 < l.length by omega), show 0 + i * 1 = i by omega, hls, wi64 (by omega), show ((i + 1 : Nat) : Int) = (i : Int) + 1 by omega]
      )
    (fun R kn ko => by
      unfold st_tensor_Each__act_Forwardc1_0
      dsimp only
      simp only [List.take_length, bif_dec]
      rw [if_neg (by omega)])
  rw [lay1_zero] at this
  unfold F_tensor_Each__act_Forwardc1
  dsimp only
  simp only [List.take_length, bif_dec, Int.toNat_natCast]
  rw [if_pos (by omega)]
  have e : lim st_tensor_Each__act_Forwardc1_0 ((l, ((l.length : Int), ((0 : Int), ()))), ((b1, (b2, (b3, (b4, ())))), ([k], (((0:Int), ((0:Int), ((0:Int), ()))), ((r, (c, (g, (l.length, ())))), (List.replicate l.length 0, ())))))) = _ := this
  rw [e]
  simp only [Option.bind_some, List.take_length, List.drop_zero, lay1_all]
  rw [List.take_of_length_le (by simp)]
theorem fwd_eq (t : TsT) (k : Int) (v : Int → Int) (hv : ∀ x, w32 x → F_act_Value k x = some (v x) ∧ w32 (v x)) (hl : wl t.2.2.2.1) (hn : t.2.2.2.1.length ≤ 1073741824) (hk : 0 ≤ k ∧ k ≤ 3) (hr : rightS t = true) :
    F_act_Forward k t = some ((t.1, t.2.1, t.2.2.1, (List.range t.2.2.2.1.length).map (fun i => narrow t.2.2.1 (v (widen t.2.2.1 (t.2.2.2.1.getD i 0)))), ()), 0, ()) := by
  obtain ⟨r, c, f, l, ⟨⟩⟩ := t
  simp only at hl hn
  unfold F_act_Forward F_act_known
  dsimp only
  simp only [List.take_length]
  rw [right_eq (r, c, f, l, ()) hl (by simp only; omega), hr, eachF_eq (r, c, f, l, ()) (r, c, f, l, ()) f k v hv hl hn]
  simp only [Option.bind_some, Bool.not_true, cond_false, bif_dec, List.take_length]
  have e0 : List.getD [k] 0 0 = k := rfl
  simp only [e0]
  rw [if_pos hk.1]
  simp [hk.2]
theorem fwd_bad (t : TsT) (k : Int) (hl : wl t.2.2.2.1) (hn : t.2.2.2.1.length ≤ 1073741824) (hk : 3 < k) (hr : rightS t = true) : F_act_Forward k t = some (noT, 22, ()) := by
  obtain ⟨r, c, f, l, ⟨⟩⟩ := t
  simp only at hl hn
  unfold F_act_Forward F_act_known
  dsimp only
  simp only [List.take_length]
  rw [right_eq (r, c, f, l, ()) hl (by simp only; omega), hr]
  have e0 : List.getD [k] 0 0 = k := rfl
  simp only [Option.bind_some, Bool.not_true, cond_false, bif_dec, e0]
  rw [if_pos (by omega)]
  have : decide (k ≤ 3) = false := decide_eq_false (by omega)
  simp [this]
theorem known15 : F_anneallaw15_known = some true := by
  have wA : wl [48128, 15360] := by intro a ha; simp at ha; rcases ha with h | h <;> subst h <;> decide
  have wB : wl [0, 15360] := by intro a ha; simp at ha; rcases ha with h | h <;> subst h <;> decide
  have h1 := fwd_eq (1, 2, 0, [48128, 15360], ()) 1 relu (fun x hx => ⟨relu_eq hx, relu_w hx⟩) wA (by decide) ⟨by decide, by decide⟩ (by decide)
  have e : (List.range ([48128, 15360] : List Int).length).map (fun i => narrow 0 (relu (widen 0 (([48128, 15360] : List Int).getD i 0)))) = [0, 15360] := by decide +kernel
  simp only at h1
  rw [e] at h1
  have h2 := fwd_bad (1, 2, 0, [0, 15360], ()) 9 wB (by decide) (by decide) (by decide)
  unfold F_anneallaw15_known
  rw [h1]
  simp only [Option.bind_some]
  have e2 : List.take ([0, 15360] : List Int).length ([0, 15360] : List Int) = [0, 15360] := rfl
  rw [e2, h2]
  rfl
theorem lt0_iff {x : Int} (h : w32 x) : lt 2 0 x = true ↔ nan 2 x = false ∧ x < 2147483648 ∧ x ≠ 0 := by
  rw [lt_iff]
  have n0 : nan 2 0 = false := by decide
  have z0 : zr 2 0 = true := by decide
  have k0 : ky 2 0 = 0 := by decide
  have hz : zr 2 x = true ↔ x = 0 ∨ x = 2147483648 := by unfold zr; simp [TT]; have := h.1; have := h.2; omega
  have hk : 0 < ky 2 x ↔ x < 2147483648 ∧ x ≠ 0 := by
    unfold ky sg; simp [TT]; have := h.1; have := h.2
    split <;> omega
  rw [n0, k0, z0]
  constructor
  · rintro ⟨_, b, _, d⟩; exact ⟨b, hk.1 d⟩
  · rintro ⟨b, c⟩
    refine ⟨rfl, b, ?_, hk.2 c⟩
    rintro ⟨_, q⟩
    rcases hz.1 q with r | r <;> omega
theorem actRelus {x : Int} (h : w32 x) : F_anneallaw15_ActRelus x = some true := by
  have hl := lt0_iff h
  have hn := kl_nan 2 x
  have hz := kl_zero 2 x
  have hs : F_act_Slope 1 x = some (if lt 2 0 x then 1065353216 else 0) := by
    unfold F_act_Slope
    rw [fabove_eq h w0]
    simp only [Option.bind_some]
    show (bif lt 2 0 x then some 1065353216 else some 0) = _
    cases lt 2 0 x <;> rfl
  unfold F_anneallaw15_ActRelus
  rw [known15, classr_eq 2 h.1 h.2, relu_eq h, hs]
  simp only [Option.bind_some, Bool.not_true, cond_false, bif_dec, bif_eq]
  unfold relu
  have hN : nan 2 x = decide (kl 2 x ≥ 4) := by unfold nan; exact decide_eq_decide.2 hn.symm
  by_cases c : kl 2 x ≥ 4
  · have n1 : nan 2 x = true := by rw [hN]; exact decide_eq_true c
    have l1 : lt 2 0 x = false := Bool.eq_false_iff.2 fun q => by rw [(hl.1 q).1] at n1; cases n1
    rw [if_pos c, n1, l1]; rfl
  · have n1 : nan 2 x = false := by rw [hN]; exact decide_eq_false c
    rw [if_neg c, n1]
    simp only [Bool.false_eq_true, if_false]
    by_cases s : x / 2147483648 = 1
    · have l1 : lt 2 0 x = false := Bool.eq_false_iff.2 fun q => by have := (hl.1 q).2.1; omega
      rw [if_pos s, l1]; rfl
    · rw [if_neg s]
      by_cases z : kl 2 x = 0
      · have : x % TT 2 = 0 := hz.1 z
        have hx0 : x = 0 := by simp [TT] at this; have := h.1; have := h.2; omega
        have l1 : lt 2 0 x = false := Bool.eq_false_iff.2 fun q => (hl.1 q).2.2 hx0
        rw [if_pos z, l1]; rfl
      · have hx0 : x ≠ 0 := fun q => z (hz.2 (by rw [q]; rfl))
        have l1 : lt 2 0 x = true := hl.2 ⟨n1, by have := h.1; have := h.2; omega, hx0⟩
        rw [if_neg z, l1]
        simp only [if_true]
        unfold F_annealref10_Above
        rw [lessr_eq 2 w0 h, l1]; rfl
theorem callActRelus : ∀ l, args [.i .u32] l → oks l → CallOk PR i_anneallaw15_ActRelus l [] fun r _ => r = .b true :=
  rowT (fa := fa_anneallaw15_ActRelus) (F := G_anneallaw15_ActRelus) rfl rfl ok_anneallaw15_ActRelus (enters p_anneallaw15_ActRelus (by kernel_rfl) (by kernel_rfl)) rfl fun x hx =>
    actRelus ⟨hx.1.1, Int.lt_add_one_of_le hx.1.2⟩
end Go.Proofs.Ytkknnloamidaiaa.VI

namespace Go.Proofs.Ytkknnloamidaiaa.VI
set_option linter.unusedVariables false
set_option linter.unusedSimpArgs false
open Go.ChangeShapes Go.WideShapes Go.RowKit Go.WideElems Ytkknnloamidaiaa
set_option maxRecDepth 100000
theorem laid : laidOutB Try.prog = true := by kernel_rfl
theorem own : ownKnob Try.prog.godebug = none := by kernel_rfl
theorem lifted (os : Os) (started : os.Started) (H : Type) (enc : TypeId × Value → H) :
    ReturnsInHanded {} Try.checked os 11 .any (Rows.actRelusSpec.pre6 enc Try.prog Try.f11 Rows.actRelusRow.domain false) (Rows.actRelusSpec.post enc Try.prog Try.f11 false true false false) :=
  lift_args (C := Try.checked) own started (by kernel_rfl) Try.func11
    (ChangeSpec.witness6 (enc := enc) (C := Try.checked) false ⟨#[], #[.int .u32 0], []⟩ 8 (by kernel_rfl) (by kernel_rfl) (by kernel_rfl) (by kernel_rfl))
    laid Try.underlying4 rfl (by kernel_rfl) rfl (fun ds hd => match ds, hd with
    | [_], _ => rfl) (d := 6) (by kernel_rfl) (Fs := [.i .u32]) (by kernel_rfl) callActRelus
theorem over : Rows.actRelusRow.holds Try.pinned (OpenSpec.ofChange Rows.actRelusSpec) :=
  OpenClaim.holds_of_wide 11 Try.f11 rfl rfl rfl rfl rfl rfl rfl ⟨rfl, rfl, rfl, rfl, rfl⟩ rfl rfl rfl rfl rfl (by kernel_rfl) Try.func11 (by kernel_rfl)
    (of_decide_eq_true (by kernel_rfl)) (by unfold Func.isWrapper; first | (rw [if_pos (by decide +kernel)]; kernel_rfl) | (rw [if_neg (by decide +kernel)]; exact ⟨rfl, rfl⟩))
    (fun os started H enc _ => lifted os started H enc)
end Go.Proofs.Ytkknnloamidaiaa.VI
