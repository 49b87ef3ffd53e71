import Derived.Test.YtkknnloamidaiaaTdcd5657d
import Derived.Test.YtkknnloamidaiaaRows
import Derived.WalkKit
import Derived.ProofKit
namespace Go.Proofs.Ytkknnloamidaiaa.VI
set_option linter.unusedVariables false
set_option linter.unusedSimpArgs false
set_option maxRecDepth 100000
set_option linter.unusedSimpArgs false
set_option linter.unusedVariables false
noncomputable def O_annealref10_Above : Orc := c_annealref1_Less
theorem okO_annealref10_Above : OrcOk PR O_annealref10_Above := ok_annealref1_Less
abbrev fa_annealref10_Above : Fm := (.pair (.i .u32) (.pair (.i .u32) .unit))
abbrev ha_annealref10_Above : List BF := []
abbrev fr_annealref10_Above : Fm := .b
abbrev hr_annealref10_Above : List BF := []
noncomputable def L_annealref10_Above : Lps := L0
def inn_annealref10_Above : T fr_annealref10_Above → TH hr_annealref10_Above → Bool := (fun z w => z)
def out_annealref10_Above : Bool → T fr_annealref10_Above × TH hr_annealref10_Above := fun r => (r, ())
noncomputable def F_annealref10_Above (a0 : Int) (a1 : Int) : Option (Bool) :=
  ((F_annealref1_Less (2:Int) a1 a0)).bind fun r0 =>
  (some r0)
noncomputable def G_annealref10_Above : T fa_annealref10_Above → TH ha_annealref10_Above → Option (Bool) := fun x y => F_annealref10_Above x.1 x.2.1
noncomputable def c_annealref10_Above : Orc := ent i_annealref10_Above [] 0 (sp fa_annealref10_Above ha_annealref10_Above fr_annealref10_Above hr_annealref10_Above G_annealref10_Above out_annealref10_Above)
theorem ok_annealref10_Above : OrcOk PR c_annealref10_Above := fnT okO_annealref10_Above mixed p_annealref10_Above (by kernel_rfl) (by kernel_rfl) (L := L_annealref10_Above) (kp := false) (by kernel_rfl) (inn := inn_annealref10_Above) (out := out_annealref10_Above) (fun _ _ => rfl) (loopsL (l := []) (by kernel_rfl) trivial) (fun x y => by kernel_rfl)
noncomputable def O_act_Forwardc1 : Orc := (orm c_conv_Widen (orm c_act_Value c_conv_Narrow))
theorem okO_act_Forwardc1 : OrcOk PR O_act_Forwardc1 := (orm_ok ok_conv_Widen (orm_ok ok_act_Value ok_conv_Narrow))
abbrev fa_act_Forwardc1 : Fm := (.pair (.i .i64) (.pair (.i .u32) (.cst (.ref 0 1 0) (.cst (.ref 1 1 0) .unit))))
abbrev ha_act_Forwardc1 : List BF := [(.list 1 y_api_Tensor true (.pair (.i .i64) (.pair (.i .i64) (.pair (.i .i64) (.pair (.si .u32) .unit))))), (.ints 1 y_int true .i64)]
abbrev fr_act_Forwardc1 : Fm := (.i .u32)
abbrev hr_act_Forwardc1 : List BF := [(.list 1 y_api_Tensor true (.pair (.i .i64) (.pair (.i .i64) (.pair (.i .i64) (.pair (.si .u32) .unit))))), (.ints 1 y_int true .i64)]
noncomputable def L_act_Forwardc1 : Lps := L0
def inn_act_Forwardc1 : T fr_act_Forwardc1 → TH hr_act_Forwardc1 → (Int) × ((Int × Int × Int × List Int × Unit) × List Int × Unit) := Prod.mk
def out_act_Forwardc1 : (Int) × ((Int × Int × Int × List Int × Unit) × List Int × Unit) → T fr_act_Forwardc1 × TH hr_act_Forwardc1 := id
noncomputable def F_act_Forwardc1 (a0 : Int) (a1 : Int) (a2 : Int × Int × Int × List Int × Unit) (a3 : List Int) : Option ((Int) × ((Int × Int × Int × List Int × Unit) × List Int × Unit)) :=
  let x0 : Int := a2.2.2.1
  let x1 : List Int := a2.2.2.2.1
  bif (decide ((0:Nat) < (List.length a3))) then
    ((F_conv_Widen x0 a1)).bind fun r2 =>
    ((F_act_Value (List.getD a3 (0:Nat) (0:Int)) r2)).bind fun r3 =>
    ((F_conv_Narrow x0 r3)).bind fun r4 =>
    (some (r4, ((a2.1, (a2.2.1, (x0, ((List.take (List.length x1) x1), ())))), (a3, ()))))
  else
    none
noncomputable def G_act_Forwardc1 : T fa_act_Forwardc1 → TH ha_act_Forwardc1 → Option ((Int) × ((Int × Int × Int × List Int × Unit) × List Int × Unit)) := fun x y => F_act_Forwardc1 x.1 x.2.1 y.1 y.2.1
noncomputable def c_act_Forwardc1 : Orc := ent i_act_Forwardc1 [false, false, true, true] 0 (sp fa_act_Forwardc1 ha_act_Forwardc1 fr_act_Forwardc1 hr_act_Forwardc1 G_act_Forwardc1 out_act_Forwardc1)
theorem ok_act_Forwardc1 : OrcOk PR c_act_Forwardc1 := fnT okO_act_Forwardc1 mixed p_act_Forwardc1 (by kernel_rfl) (by kernel_rfl) (L := L_act_Forwardc1) (kp := false) (by kernel_rfl) (inn := inn_act_Forwardc1) (out := out_act_Forwardc1) (fun _ _ => rfl) (loopsL (l := []) (by kernel_rfl) trivial) (fun x y => by kernel_rfl)
noncomputable def O_tensor_Each__act_Forwardc1 : Orc := c_act_Forwardc1
theorem okO_tensor_Each__act_Forwardc1 : OrcOk PR O_tensor_Each__act_Forwardc1 := ok_act_Forwardc1
abbrev fa_tensor_Each__act_Forwardc1 : Fm := (.pair (.agg (.pair (.i .i64) (.pair (.i .i64) (.pair (.i .i64) (.pair (.si .u32) .unit))))) (.pair (.i .i64) (.pair (.fn i_act_Forwardc1 (.pair (.ref 0 1 0) (.pair (.ref 1 1 0) .unit))) .unit)))
abbrev ha_tensor_Each__act_Forwardc1 : List BF := [(.list 1 y_api_Tensor true (.pair (.i .i64) (.pair (.i .i64) (.pair (.i .i64) (.pair (.si .u32) .unit))))), (.ints 1 y_int true .i64)]
abbrev fr_tensor_Each__act_Forwardc1 : Fm := (.agg (.pair (.i .i64) (.pair (.i .i64) (.pair (.i .i64) (.pair (.si .u32) .unit)))))
abbrev hr_tensor_Each__act_Forwardc1 : List BF := [(.list 1 y_api_Tensor true (.pair (.i .i64) (.pair (.i .i64) (.pair (.i .i64) (.pair (.si .u32) .unit))))), (.ints 1 y_int true .i64)]
abbrev ff_tensor_Each__act_Forwardc1_0 : Fm := (.us 2 (.cst (.fn i_act_Forwardc1 (.cst (.ref 0 1 0) (.cst (.ref 1 1 0) .unit))) (.us 3 (.cst (.ref 2 1 0) (.cst (.ref 3 1 0) (.us 13 (.pair (.si .u32) (.pair (.i .i64) (.pair (.i .i64) (.us 14 .unit))))))))))
abbrev hf_tensor_Each__act_Forwardc1_0 : List BF := [(.list 1 y_api_Tensor true (.pair (.i .i64) (.pair (.i .i64) (.pair (.i .i64) (.pair (.si .u32) .unit))))), (.ints 1 y_int true .i64), (.list 1 y_api_Tensor true (.pair (.i .i64) (.pair (.i .i64) (.pair (.i .i64) (.cst .nils .unit))))), (.list 1 y_api_Tensor true (.pair (.i .i64) (.pair (.i .i64) (.pair (.i .i64) (.pair (.own 4 1 0 1) .unit))))), (.ints 1 y_uint32 true .u32)]
abbrev X_tensor_Each__act_Forwardc1_0 : Xs := (.one (.exit 0) [6, 7] (.us 6 (.cst (.ref 2 1 0) (.cst (.ref 3 1 0) (.us 30 .unit)))) [(.list 1 y_api_Tensor true (.pair (.i .i64) (.pair (.i .i64) (.pair (.i .i64) (.pair (.si .u32) .unit))))), (.ints 1 y_int true .i64), (.list 1 y_api_Tensor true (.pair (.i .i64) (.pair (.i .i64) (.pair (.i .i64) (.cst .nils .unit))))), (.list 1 y_api_Tensor true (.pair (.i .i64) (.pair (.i .i64) (.pair (.i .i64) (.pair (.own 4 1 0 1) .unit))))), (.ints 1 y_uint32 true .u32)])
abbrev S_tensor_Each__act_Forwardc1_0 : Type := T ff_tensor_Each__act_Forwardc1_0 × TH hf_tensor_Each__act_Forwardc1_0
abbrev E_tensor_Each__act_Forwardc1_0 : Type := TX X_tensor_Each__act_Forwardc1_0
noncomputable def LB_tensor_Each__act_Forwardc1_0 : Lps := L0
noncomputable def st_tensor_Each__act_Forwardc1_0 : StepT S_tensor_Each__act_Forwardc1_0 E_tensor_Each__act_Forwardc1_0 := fun R v kn ko =>
  let x0 : Int := v.1.2.2.1
  let x1 : List Int := v.1.1
  let x2 : Nat := (Int.toNat x0)
  let x3 : List Int := v.2.1.2.2.2.1
  bif (decide (x0 < v.1.2.1)) then
    bif (decide (((0:Int) ≤ x0) ∧ (x0 < (((List.length x1) : Nat) : Int)))) then
      ((F_act_Forwardc1 x0 (List.getD x1 x2 (0:Int)) (v.2.1.1, (v.2.1.2.1, (v.2.1.2.2.1, ((List.take (List.length x3) x3), ())))) v.2.2.1)).bind fun r4 =>
      let x5 : List Int := r4.2.1.2.2.2.1
      bif (decide (((0:Int) ≤ x0) ∧ (x0 < ((v.2.2.2.2.1.2.2.2.1 : Nat) : Int)))) then
        bif (decide (((0:Nat) + (x2 * (1:Nat))) < (List.length v.2.2.2.2.2.1))) then
          (kn (((List.take (List.length x1) x1), (v.1.2.1, ((IntKind.wrap .i64 (x0 + (1:Int))), ()))), ((r4.2.1.1, (r4.2.1.2.1, (r4.2.1.2.2.1, ((List.take (List.length x5) x5), ())))), (r4.2.2.1, (v.2.2.2.1, (v.2.2.2.2.1, ((List.set v.2.2.2.2.2.1 ((0:Nat) + (x2 * (1:Nat))) r4.1), ())))))))
        else
          none
      else
        none
    else
      none
  else
    (ko ((), ((v.2.1.1, (v.2.1.2.1, (v.2.1.2.2.1, ((List.take (List.length x3) x3), ())))), v.2.2)))
noncomputable def ls_tensor_Each__act_Forwardc1_0 : St → LTr := (lsum ff_tensor_Each__act_Forwardc1_0 hf_tensor_Each__act_Forwardc1_0 X_tensor_Each__act_Forwardc1_0 Prod.mk id st_tensor_Each__act_Forwardc1_0 (hd [] [] [2, 6, 7, 21, 22, 23] 2))
theorem lp_tensor_Each__act_Forwardc1_0 : LoopOk PR 2 (lpN f_tensor_Each 0) ls_tensor_Each__act_Forwardc1_0 := loopT okO_tensor_Each__act_Forwardc1 mixed (L := LB_tensor_Each__act_Forwardc1_0) (d := 1) (bs := []) (ks := [2, 6, 7, 21, 22, 23]) (loopsL (l := []) (by kernel_rfl) trivial) (by kernel_rfl) (inS := Prod.mk) (outS := id) (fun _ _ => rfl) (inX := id) (outX := id) (fun _ => rfl) (fun v R kn ko => by kernel_rfl) (hd_wk [] [] [2, 6, 7, 21, 22, 23] 2)
noncomputable def L_tensor_Each__act_Forwardc1 : Lps := (lpB 4 (.by_ ls_tensor_Each__act_Forwardc1_0) L0)
def inn_tensor_Each__act_Forwardc1 : T fr_tensor_Each__act_Forwardc1 → TH hr_tensor_Each__act_Forwardc1 → (Int × Int × Int × List Int × Unit) × ((Int × Int × Int × List Int × Unit) × List Int × Unit) := Prod.mk
def out_tensor_Each__act_Forwardc1 : (Int × Int × Int × List Int × Unit) × ((Int × Int × Int × List Int × Unit) × List Int × Unit) → T fr_tensor_Each__act_Forwardc1 × TH hr_tensor_Each__act_Forwardc1 := id
noncomputable def F_tensor_Each__act_Forwardc1 (a0 : Int × Int × Int × List Int × Unit) (a1 : Int) (a2 : Int × Int × Int × List Int × Unit) (a3 : List Int) : Option ((Int × Int × Int × List Int × Unit) × ((Int × Int × Int × List Int × Unit) × List Int × Unit)) :=
  let x0 : List Int := a0.2.2.2.1
  let x1 : Nat := (List.length x0)
  let x2 : Int := ((x1 : Nat) : Int)
  let x3 : Int := a2.2.2.1
  let x4 : List Int := a2.2.2.2.1
  let x5 : Nat := (Int.toNat x2)
  bif (decide (((0:Int) ≤ x2) ∧ (x2 ≤ (1073741824:Int)))) then
    ((lim st_tensor_Each__act_Forwardc1_0 (((List.take x1 x0), (x2, ((0:Int), ()))), ((a2.1, (a2.2.1, (x3, ((List.take (List.length x4) x4), ())))), (a3, (((0:Int), ((0:Int), ((0:Int), ()))), ((a0.1, (a0.2.1, (a1, (x5, ())))), ((List.replicate x5 (0:Int)), ())))))))).bind fun r6 =>
    let x7 : List Int := r6.2.1.2.2.2.1
    (some ((r6.2.2.2.2.1.1, (r6.2.2.2.2.1.2.1, (r6.2.2.2.2.1.2.2.1, ((List.take r6.2.2.2.2.1.2.2.2.1 (List.drop (0:Nat) r6.2.2.2.2.2.1)), ())))), ((r6.2.1.1, (r6.2.1.2.1, (r6.2.1.2.2.1, ((List.take (List.length x7) x7), ())))), (r6.2.2.1, ()))))
  else
    none
noncomputable def G_tensor_Each__act_Forwardc1 : T fa_tensor_Each__act_Forwardc1 → TH ha_tensor_Each__act_Forwardc1 → Option ((Int × Int × Int × List Int × Unit) × ((Int × Int × Int × List Int × Unit) × List Int × Unit)) := fun x y => F_tensor_Each__act_Forwardc1 x.1 x.2.1 y.1 y.2.1
noncomputable def c_tensor_Each__act_Forwardc1 : Orc := ent i_tensor_Each [false, false, true] 0 (sp fa_tensor_Each__act_Forwardc1 ha_tensor_Each__act_Forwardc1 fr_tensor_Each__act_Forwardc1 hr_tensor_Each__act_Forwardc1 G_tensor_Each__act_Forwardc1 out_tensor_Each__act_Forwardc1)
theorem ok_tensor_Each__act_Forwardc1 : OrcOk PR c_tensor_Each__act_Forwardc1 := fnT okO_tensor_Each__act_Forwardc1 mixed p_tensor_Each (by kernel_rfl) (by kernel_rfl) (L := L_tensor_Each__act_Forwardc1) (kp := false) (by kernel_rfl) (inn := inn_tensor_Each__act_Forwardc1) (out := out_tensor_Each__act_Forwardc1) (fun _ _ => rfl) (loopsL (l := [((lpN f_tensor_Each 0), ls_tensor_Each__act_Forwardc1_0)]) (by kernel_rfl) ⟨lp_tensor_Each__act_Forwardc1_0, trivial⟩) (fun x y => by kernel_rfl)
noncomputable def O_act_Forward : Orc := (orm c_tensor_Right (orm c_act_known (orm c_tensor_Each__act_Forwardc1 c_act_Forwardc1)))
theorem okO_act_Forward : OrcOk PR O_act_Forward := (orm_ok ok_tensor_Right (orm_ok ok_act_known (orm_ok ok_tensor_Each__act_Forwardc1 ok_act_Forwardc1)))
abbrev fa_act_Forward : Fm := (.pair (.i .i64) (.pair (.agg (.pair (.i .i64) (.pair (.i .i64) (.pair (.i .i64) (.pair (.si .u32) .unit))))) .unit))
abbrev ha_act_Forward : List BF := []
abbrev fr_act_Forward : Fm := (.tup (.pair (.agg (.pair (.i .i64) (.pair (.i .i64) (.pair (.i .i64) (.pair (.si .u32) .unit))))) (.pair (.i .i64) .unit)))
abbrev hr_act_Forward : List BF := []
noncomputable def L_act_Forward : Lps := L0
def inn_act_Forward : T fr_act_Forward → TH hr_act_Forward → (Int × Int × Int × List Int × Unit) × Int × Unit := (fun z w => z)
def out_act_Forward : (Int × Int × Int × List Int × Unit) × Int × Unit → T fr_act_Forward × TH hr_act_Forward := fun r => (r, ())
noncomputable def F_act_Forward (a0 : Int) (a1 : Int × Int × Int × List Int × Unit) : Option ((Int × Int × Int × List Int × Unit) × Int × Unit) :=
  let x0 : Int := a1.2.2.1
  let x1 : List Int := a1.2.2.2.1
  ((F_tensor_Right (a1.1, (a1.2.1, (x0, ((List.take (List.length x1) x1), ())))))).bind fun r2 =>
  bif (!r2) then
    (some (((0:Int), ((0:Int), ((0:Int), ([], ())))), ((21:Int), ())))
  else
    ((F_act_known (List.getD [a0] (0:Nat) (0:Int)))).bind fun r3 =>
    bif (!r3) then
      (some (((0:Int), ((0:Int), ((0:Int), ([], ())))), ((22:Int), ())))
    else
      ((F_tensor_Each__act_Forwardc1 (a1.1, (a1.2.1, (x0, ((List.take (List.length x1) x1), ())))) x0 (a1.1, (a1.2.1, (x0, ((List.take (List.length x1) x1), ())))) [a0])).bind fun r4 =>
      let x5 : List Int := r4.1.2.2.2.1
      (some ((r4.1.1, (r4.1.2.1, (r4.1.2.2.1, ((List.take (List.length x5) x5), ())))), ((0:Int), ())))
noncomputable def G_act_Forward : T fa_act_Forward → TH ha_act_Forward → Option ((Int × Int × Int × List Int × Unit) × Int × Unit) := fun x y => F_act_Forward x.1 x.2.1
noncomputable def c_act_Forward : Orc := ent i_act_Forward [] 0 (sp fa_act_Forward ha_act_Forward fr_act_Forward hr_act_Forward G_act_Forward out_act_Forward)
theorem ok_act_Forward : OrcOk PR c_act_Forward := fnT okO_act_Forward mixed p_act_Forward (by kernel_rfl) (by kernel_rfl) (L := L_act_Forward) (kp := false) (by kernel_rfl) (inn := inn_act_Forward) (out := out_act_Forward) (fun _ _ => rfl) (loopsL (l := []) (by kernel_rfl) trivial) (fun x y => by kernel_rfl)
noncomputable def O_anneallaw15_known : Orc := (orm c_act_Forward c_act_Slope)
theorem okO_anneallaw15_known : OrcOk PR O_anneallaw15_known := (orm_ok ok_act_Forward ok_act_Slope)
abbrev fa_anneallaw15_known : Fm := .unit
abbrev ha_anneallaw15_known : List BF := []
abbrev fr_anneallaw15_known : Fm := .b
abbrev hr_anneallaw15_known : List BF := []
noncomputable def L_anneallaw15_known : Lps := L0
def inn_anneallaw15_known : T fr_anneallaw15_known → TH hr_anneallaw15_known → Bool := (fun z w => z)
def out_anneallaw15_known : Bool → T fr_anneallaw15_known × TH hr_anneallaw15_known := fun r => (r, ())
noncomputable def F_anneallaw15_known  : Option (Bool) :=
  ((F_act_Forward (1:Int) ((1:Int), ((2:Int), ((0:Int), ([(48128:Int), (15360:Int)], ())))))).bind fun r0 =>
  let x1 : Int := r0.1.2.1
  let x2 : Int := r0.1.2.2.1
  let x3 : List Int := r0.1.2.2.2.1
  let x4 : Nat := (List.length x3)
  ((F_act_Forward (9:Int) (r0.1.1, (x1, (x2, ((List.take x4 x3), ())))))).bind fun r5 =>
  bif (r0.2.1 == (0:Int)) then
    bif (((x4 : Nat) : Int) == (2:Int)) then
      bif (decide (((0:Int) ≤ (0:Int)) ∧ ((0:Int) < ((x4 : Nat) : Int)))) then
        bif ((List.getD x3 (0:Nat) (0:Int)) == (0:Int)) then
          bif (decide (((0:Int) ≤ (1:Int)) ∧ ((1:Int) < ((x4 : Nat) : Int)))) then
            bif ((List.getD x3 (1:Nat) (0:Int)) == (15360:Int)) then
              bif (r5.2.1 == (22:Int)) then
                (some true)
              else
                (some false)
            else
              (some false)
          else
            none
        else
          (some false)
      else
        none
    else
      (some false)
  else
    (some false)
noncomputable def G_anneallaw15_known : T fa_anneallaw15_known → TH ha_anneallaw15_known → Option (Bool) := fun x y => F_anneallaw15_known 
noncomputable def c_anneallaw15_known : Orc := ent i_anneallaw15_known [] 0 (sp fa_anneallaw15_known ha_anneallaw15_known fr_anneallaw15_known hr_anneallaw15_known G_anneallaw15_known out_anneallaw15_known)
theorem ok_anneallaw15_known : OrcOk PR c_anneallaw15_known := fnT okO_anneallaw15_known mixed p_anneallaw15_known (by kernel_rfl) (by kernel_rfl) (L := L_anneallaw15_known) (kp := false) (by kernel_rfl) (inn := inn_anneallaw15_known) (out := out_anneallaw15_known) (fun _ _ => rfl) (loopsL (l := []) (by kernel_rfl) trivial) (fun x y => by kernel_rfl)
noncomputable def O_anneallaw15_ActRelus : Orc := (orm c_anneallaw15_known (orm c_annealref1_Class (orm c_act_Value (orm c_act_Slope c_annealref10_Above))))
theorem okO_anneallaw15_ActRelus : OrcOk PR O_anneallaw15_ActRelus := (orm_ok ok_anneallaw15_known (orm_ok ok_annealref1_Class (orm_ok ok_act_Value (orm_ok ok_act_Slope ok_annealref10_Above))))
abbrev fa_anneallaw15_ActRelus : Fm := (.pair (.i .u32) .unit)
abbrev ha_anneallaw15_ActRelus : List BF := []
abbrev fr_anneallaw15_ActRelus : Fm := .b
abbrev hr_anneallaw15_ActRelus : List BF := []
noncomputable def L_anneallaw15_ActRelus : Lps := L0
def inn_anneallaw15_ActRelus : T fr_anneallaw15_ActRelus → TH hr_anneallaw15_ActRelus → Bool := (fun z w => z)
def out_anneallaw15_ActRelus : Bool → T fr_anneallaw15_ActRelus × TH hr_anneallaw15_ActRelus := fun r => (r, ())
noncomputable def F_anneallaw15_ActRelus (a0 : Int) : Option (Bool) :=
  (F_anneallaw15_known).bind fun r0 =>
  bif (!r0) then
    (some false)
  else
    ((F_annealref1_Class (2:Int) a0)).bind fun r1 =>
    ((F_act_Value (1:Int) a0)).bind fun r2 =>
    ((F_act_Slope (1:Int) a0)).bind fun r3 =>
    bif (decide (r1 ≥ (4:Int))) then
      bif (r2 == (2143289344:Int)) then
        (some (r3 == (0:Int)))
      else
        (some false)
    else
      bif ((a0 / (2147483648:Int)) == (1:Int)) then
        bif (r2 == (0:Int)) then
          (some (r3 == (0:Int)))
        else
          (some false)
      else
        bif (r1 == (0:Int)) then
          bif (r2 == (0:Int)) then
            (some (r3 == (0:Int)))
          else
            (some false)
        else
          bif (r2 == a0) then
            bif (r3 == (1065353216:Int)) then
              ((F_annealref10_Above r2 (0:Int))).bind fun r4 =>
              (some r4)
            else
              (some false)
          else
            (some false)
noncomputable def G_anneallaw15_ActRelus : T fa_anneallaw15_ActRelus → TH ha_anneallaw15_ActRelus → Option (Bool) := fun x y => F_anneallaw15_ActRelus x.1
noncomputable def c_anneallaw15_ActRelus : Orc := ent i_anneallaw15_ActRelus [] 0 (sp fa_anneallaw15_ActRelus ha_anneallaw15_ActRelus fr_anneallaw15_ActRelus hr_anneallaw15_ActRelus G_anneallaw15_ActRelus out_anneallaw15_ActRelus)
theorem ok_anneallaw15_ActRelus : OrcOk PR c_anneallaw15_ActRelus := fnT okO_anneallaw15_ActRelus mixed p_anneallaw15_ActRelus (by kernel_rfl) (by kernel_rfl) (L := L_anneallaw15_ActRelus) (kp := false) (by kernel_rfl) (inn := inn_anneallaw15_ActRelus) (out := out_anneallaw15_ActRelus) (fun _ _ => rfl) (loopsL (l := []) (by kernel_rfl) trivial) (fun x y => by kernel_rfl)
end Go.Proofs.Ytkknnloamidaiaa.VI

namespace Go.Proofs.Ytkknnloamidaiaa.VI
set_option linter.unusedVariables false
set_option linter.unusedSimpArgs false
set_option linter.unusedSimpArgs false
set_option linter.unusedVariables false
set_option maxRecDepth 100000
set_option maxHeartbeats 4000000
def narrow (f a : Int) : Int := (toS 2 f 0 a).1
theorem narrow_w (f a : Int) : w32 (narrow f a) := wf_w (to_wf 2 f 0 a)
theorem narrow_eq (f : Int) {a : Int} (ha : w32 a) : F_conv_Narrow f a = some (narrow f a) := by
  unfold F_conv_Narrow; rw [to_eq 2 f 0 ha]; rfl
theorem fabove_eq {a b : Int} (ha : w32 a) (hb : w32 b) : F_funcs_Above a b = some (lt 2 b a) := by
  unfold F_funcs_Above; rw [less_eq 2 hb ha]; rfl
theorem fisnan_eq {a : Int} (ha : w32 a) : F_funcs_IsNan a = some (nan 2 a) := by
  unfold F_funcs_IsNan; rw [isnan_eq 2 ha]; rfl
def relu (x : Int) : Int := if nan 2 x then 2143289344 else if lt 2 0 x then x else 0
theorem w0 : w32 0 := ⟨by decide, by decide⟩
theorem relu_eq {x : Int} (h : w32 x) : F_act_Value 1 x = some (relu x) := by
  unfold F_act_Value relu
  rw [fisnan_eq h, fabove_eq h w0]
  simp only [Option.bind_some]
  show (bif nan 2 x then some 2143289344 else bif lt 2 0 x then some x else some 0) = _
  cases nan 2 x <;> cases lt 2 0 x <;> rfl
theorem relu_w {x : Int} (h : w32 x) : w32 (relu x) := by
  unfold relu
  split
  · exact ⟨by decide, by decide⟩
  · split
    · exact h
    · exact w0
theorem eachF_eq (t z : TsT) (g k : Int) (v : Int → Int) (hv : ∀ x, w32 x → F_act_Value k x = some (v x) ∧ w32 (v x)) (hl : wl t.2.2.2.1) (hn : t.2.2.2.1.length ≤ 1073741824) :
    F_tensor_Each__act_Forwardc1 t g z [k] = some ((t.1, t.2.1, g, (List.range t.2.2.2.1.length).map (fun i => narrow z.2.2.1 (v (widen z.2.2.1 (t.2.2.2.1.getD i 0)))), ()), (z, ([k], ()))) := by
  obtain ⟨r, c, f, l, ⟨⟩⟩ := t
  obtain ⟨b1, b2, b3, b4, ⟨⟩⟩ := z
  simp only at hl hn ⊢
  have := lim_seq (st := st_tensor_Each__act_Forwardc1_0) (fun i => ((l, ((l.length : Int), ((i : Int), ()))), ((b1, (b2, (b3, (b4, ())))), ([k], (((0:Int), ((0:Int), ((0:Int), ()))), ((r, (c, (g, (l.length, ())))), (lay1 (fun i => narrow b3 (v (widen b3 (l.getD i 0)))) l.length i, ())))))))
    (b := ((), ((b1, (b2, (b3, (b4, ())))), ([k], (((0:Int), ((0:Int), ((0:Int), ()))), ((r, (c, (g, (l.length, ())))), (lay1 (fun i => narrow b3 (v (widen b3 (l.getD i 0)))) l.length l.length, ()))))))) l.length
    (fun i hi R kn ko => by
      have hll := lay1_len (fun i => narrow b3 (v (widen b3 (l.getD i 0)))) (Nat.le_of_lt hi)
      have hls := lay1_set (fun i => narrow b3 (v (widen b3 (l.getD i 0)))) hi
      have h1 := hv _ (widen_w b3 (l.getD i 0))
      unfold st_tensor_Each__act_Forwardc1_0 F_act_Forwardc1
      dsimp only at hls ⊢
      simp only [List.take_length, bif_dec, hll, Int.toNat_natCast]
      rw [if_pos (by omega), if_pos (by omega), if_pos (show 0 < [k].length by simp), widen_eq b3 (wl_get hl i)]
      simp only [Option.bind_some]
      have e0 : List.getD [k] 0 0 = k := rfl
      first | rw [e0] | skip
      rw [h1.1]
      simp only [Option.bind_some]
      rw [narrow_eq b3 h1.2]
      simp only [Option.bind_some]
      rw [if_pos (show (0 : Int) ≤ (i : Int) ∧ (i : Int) < (l.length : Int) by omega), if_pos (show 0 + i * 1 < l.length by omega), show 0 + i * 1 = i by omega, hls, wi64 (by omega), show ((i + 1 : Nat) : Int) = (i : Int) + 1 by omega]
      )
    (fun R kn ko => by
      unfold st_tensor_Each__act_Forwardc1_0
      dsimp only
      simp only [List.take_length, bif_dec]
      rw [if_neg (by omega)])
  rw [lay1_zero] at this
  unfold F_tensor_Each__act_Forwardc1
  dsimp only
  simp only [List.take_length, bif_dec, Int.toNat_natCast]
  rw [if_pos (by omega)]
  have e : lim st_tensor_Each__act_Forwardc1_0 ((l, ((l.length : Int), ((0 : Int), ()))), ((b1, (b2, (b3, (b4, ())))), ([k], (((0:Int), ((0:Int), ((0:Int), ()))), ((r, (c, (g, (l.length, ())))), (List.replicate l.length 0, ())))))) = _ := this
  rw [e]
  simp only [Option.bind_some, List.take_length, List.drop_zero, lay1_all]
  rw [List.take_of_length_le (by simp)]
theorem fwd_eq (t : TsT) (k : Int) (v : Int → Int) (hv : ∀ x, w32 x → F_act_Value k x = some (v x) ∧ w32 (v x)) (hl : wl t.2.2.2.1) (hn : t.2.2.2.1.length ≤ 1073741824) (hk : 0 ≤ k ∧ k ≤ 3) (hr : rightS t = true) :
    F_act_Forward k t = some ((t.1, t.2.1, t.2.2.1, (List.range t.2.2.2.1.length).map (fun i => narrow t.2.2.1 (v (widen t.2.2.1 (t.2.2.2.1.getD i 0)))), ()), 0, ()) := by
  obtain ⟨r, c, f, l, ⟨⟩⟩ := t
  simp only at hl hn
  unfold F_act_Forward F_act_known
  dsimp only
  simp only [List.take_length]
  rw [right_eq (r, c, f, l, ()) hl (by simp only; omega), hr, eachF_eq (r, c, f, l, ()) (r, c, f, l, ()) f k v hv hl hn]
  simp only [Option.bind_some, Bool.not_true, cond_false, bif_dec, List.take_length]
  have e0 : List.getD [k] 0 0 = k := rfl
  simp only [e0]
  rw [if_pos hk.1]
  simp [hk.2]
theorem fwd_bad (t : TsT) (k : Int) (hl : wl t.2.2.2.1) (hn : t.2.2.2.1.length ≤ 1073741824) (hk : 3 < k) (hr : rightS t = true) : F_act_Forward k t = some (noT, 22, ()) := by
  obtain ⟨r, c, f, l, ⟨⟩⟩ := t
  simp only at hl hn
  unfold F_act_Forward F_act_known
  dsimp only
  simp only [List.take_length]
  rw [right_eq (r, c, f, l, ()) hl (by simp only; omega), hr]
  have e0 : List.getD [k] 0 0 = k := rfl
  simp only [Option.bind_some, Bool.not_true, cond_false, bif_dec, e0]
  rw [if_pos (by omega)]
  have : decide (k ≤ 3) = false := decide_eq_false (by omega)
  simp [this]
theorem known15 : F_anneallaw15_known = some true := by
  have wA : wl [48128, 15360] := by intro a ha; simp at ha; rcases ha with h | h <;> subst h <;> decide
  have wB : wl [0, 15360] := by intro a ha; simp at ha; rcases ha with h | h <;> subst h <;> decide
  have h1 := fwd_eq (1, 2, 0, [48128, 15360], ()) 1 relu (fun x hx => ⟨relu_eq hx, relu_w hx⟩) wA (by decide) ⟨by decide, by decide⟩ (by decide)
  have e : (List.range ([48128, 15360] : List Int).length).map (fun i => narrow 0 (relu (widen 0 (([48128, 15360] : List Int).getD i 0)))) = [0, 15360] := by decide +kernel
  simp only at h1
  rw [e] at h1
  have h2 := fwd_bad (1, 2, 0, [0, 15360], ()) 9 wB (by decide) (by decide) (by decide)
  unfold F_anneallaw15_known
  rw [h1]
  simp only [Option.bind_some]
  have e2 : List.take ([0, 15360] : List Int).length ([0, 15360] : List Int) = [0, 15360] := rfl
  rw [e2, h2]
  rfl
theorem lt0_iff {x : Int} (h : w32 x) : lt 2 0 x = true ↔ nan 2 x = false ∧ x < 2147483648 ∧ x ≠ 0 := by
  rw [lt_iff]
  have n0 : nan 2 0 = false := by decide
  have z0 : zr 2 0 = true := by decide
  have k0 : ky 2 0 = 0 := by decide
  have hz : zr 2 x = true ↔ x = 0 ∨ x = 2147483648 := by unfold zr; simp [TT]; have := h.1; have := h.2; omega
  have hk : 0 < ky 2 x ↔ x < 2147483648 ∧ x ≠ 0 := by
    unfold ky sg; simp [TT]; have := h.1; have := h.2
    split <;> omega
  rw [n0, k0, z0]
  constructor
  · rintro ⟨_, b, _, d⟩; exact ⟨b, hk.1 d⟩
  · rintro ⟨b, c⟩
    refine ⟨rfl, b, ?_, hk.2 c⟩
    rintro ⟨_, q⟩
    rcases hz.1 q with r | r <;> omega
theorem actRelus {x : Int} (h : w32 x) : F_anneallaw15_ActRelus x = some true := by
  have hl := lt0_iff h
  have hn := kl_nan 2 x
  have hz := kl_zero 2 x
  have hs : F_act_Slope 1 x = some (if lt 2 0 x then 1065353216 else 0) := by
    unfold F_act_Slope
    rw [fabove_eq h w0]
    simp only [Option.bind_some]
    show (bif lt 2 0 x then some 1065353216 else some 0) = _
    cases lt 2 0 x <;> rfl
  unfold F_anneallaw15_ActRelus
  rw [known15, classr_eq 2 h.1 h.2, relu_eq h, hs]
  simp only [Option.bind_some, Bool.not_true, cond_false, bif_dec, bif_eq]
  unfold relu
  have hN : nan 2 x = decide (kl 2 x ≥ 4) := by unfold nan; exact decide_eq_decide.2 hn.symm
  by_cases c : kl 2 x ≥ 4
  · have n1 : nan 2 x = true := by rw [hN]; exact decide_eq_true c
    have l1 : lt 2 0 x = false := Bool.eq_false_iff.2 fun q => by rw [(hl.1 q).1] at n1; cases n1
    rw [if_pos c, n1, l1]; rfl
  · have n1 : nan 2 x = false := by rw [hN]; exact decide_eq_false c
    rw [if_neg c, n1]
    simp only [Bool.false_eq_true, if_false]
    by_cases s : x / 2147483648 = 1
    · have l1 : lt 2 0 x = false := Bool.eq_false_iff.2 fun q => by have := (hl.1 q).2.1; omega
      rw [if_pos s, l1]; rfl
    · rw [if_neg s]
      by_cases z : kl 2 x = 0
      · have : x % TT 2 = 0 := hz.1 z
        have hx0 : x = 0 := by simp [TT] at this; have := h.1; have := h.2; omega
        have l1 : lt 2 0 x = false := Bool.eq_false_iff.2 fun q => (hl.1 q).2.2 hx0
        rw [if_pos z, l1]; rfl
      · have hx0 : x ≠ 0 := fun q => z (hz.2 (by rw [q]; rfl))
        have l1 : lt 2 0 x = true := hl.2 ⟨n1, by have := h.1; have := h.2; omega, hx0⟩
        rw [if_neg z, l1]
        simp only [if_true]
        unfold F_annealref10_Above
        rw [lessr_eq 2 w0 h, l1]; rfl
theorem callActRelus : ∀ l, args [.i .u32] l → oks l → CallOk PR i_anneallaw15_ActRelus l [] fun r _ => r = .b true :=
  rowT (fa := fa_anneallaw15_ActRelus) (F := G_anneallaw15_ActRelus) rfl rfl ok_anneallaw15_ActRelus (enters p_anneallaw15_ActRelus (by kernel_rfl) (by kernel_rfl)) rfl fun x hx =>
    actRelus ⟨hx.1.1, Int.lt_add_one_of_le hx.1.2⟩
end Go.Proofs.Ytkknnloamidaiaa.VI

namespace Go.Proofs.Ytkknnloamidaiaa.VI
set_option linter.unusedVariables false
set_option linter.unusedSimpArgs false
set_option linter.unusedSimpArgs false
set_option linter.unusedVariables false
set_option maxRecDepth 100000
set_option maxHeartbeats 8000000
theorem bq {α : Type} (c : Bool) (a b : α) : (bif c then a else b) = if c = true then a else b := by cases c <;> rfl
def mulf (a b : Int) : Int := (mulS 2 0 a b).1
def subf (a b : Int) : Int := (subS 2 0 a b).1
def divf (a b : Int) : Int := (divS 2 0 a b).1
def intf (n : Int) : Int := (fintS 2 0 n).1
def scalef (a n : Int) : Int := (scaleS 2 0 a n).1
def wholef (a : Int) : Int := (tointS 2 0 a).1
theorem mulf_w (a b : Int) : w32 (mulf a b) := wf_w (mul_wf 2 0 a b)
theorem subf_w (a b : Int) : w32 (subf a b) := wf_w (sub_wf 2 0 a b)
theorem div_wf (f mode a b : Int) : wf f (divS f mode a b).1 := by
  unfold divS
  split
  · exact NN_wf f
  split
  · exact NN_wf f
  split
  · exact infs_wf f _
  split
  · have := sgn_wf f (!(sg f a == sg f b)) (x := 0) ⟨Int.le_refl _, by have := TT_cs f; omega⟩
    rw [Int.add_zero] at this
    exact this
  split
  · exact infs_wf f _
  · exact pk_wf _ _ _ _ _ _ (Int.ediv_nonneg (Int.mul_nonneg (sig_bd f a).1 (by have := p2_pos (61 - lg (sig f a)); omega)) (sig_bd f b).1)
theorem divf_w (a b : Int) : w32 (divf a b) := wf_w (div_wf 2 0 a b)
theorem fint_wf (f mode v : Int) : wf f (fintS f mode v).1 := pk_wf _ _ _ _ _ _ (by split <;> omega)
theorem intf_w (n : Int) : w32 (intf n) := wf_w (fint_wf 2 0 n)
theorem scale_wf (f mode a n : Int) : wf f (scaleS f mode a n).1 := by
  unfold scaleS
  split
  · exact NN_wf f
  split
  · have := mod_bd f a; exact ⟨this.1, this.2.1⟩
  · exact pk_wf _ _ _ _ _ _ (sig_bd f a).1
theorem scalef_w (a n : Int) : w32 (scalef a n) := wf_w (scale_wf 2 0 a n)
theorem turn2_w {a : Int} (h : w32 a) : w32 (turnS 2 a) := wf_w (turn_wf' 2 h)
theorem wholef_bd (a : Int) : -2147483648 ≤ wholef a ∧ wholef a ≤ 2147483647 := by
  have wr : ∀ z : Int, -2147483648 ≤ IntKind.wrap .i32 z ∧ IntKind.wrap .i32 z ≤ 2147483647 := fun z => by
    simp only [IntKind.wrap, IntKind.bits, IntKind.signed]; simp
    split <;> omega
  unfold wholef tointS
  generalize (if sg 2 a = true then -(unitsW 0 (sg 2 a) (xp 2 a) (sig 2 a)).1 else (unitsW 0 (sg 2 a) (xp 2 a) (sig 2 a)).1) = z
  by_cases h1 : (nan 2 a || inff 2 a) = true
  · rw [if_pos h1]; exact ⟨by decide, by decide⟩
  rw [if_neg h1]
  by_cases h2 : z = IntKind.wrap .i32 z
  · rw [if_pos h2]; exact wr z
  · rw [if_neg h2]; exact ⟨by decide, by decide⟩
theorem fmul_eq {a b : Int} (ha : w32 a) (hb : w32 b) : F_funcs_Mul a b = some (mulf a b) := by
  unfold F_funcs_Mul; rw [mul_eq 2 0 ha hb]; rfl
theorem fsub_eq {a b : Int} (ha : w32 a) (hb : w32 b) : F_funcs_Sub a b = some (subf a b) := by
  unfold F_funcs_Sub; rw [sub_eq 2 0 ha hb]; rfl
theorem fdiv_eq {a b : Int} (ha : w32 a) (hb : w32 b) : F_funcs_Div a b = some (divf a b) := by
  unfold F_funcs_Div; rw [div_eq 2 0 ha hb]; rfl
theorem fsint_eq {n : Int} (h : -9223372036854775808 ≤ n ∧ n ≤ 9223372036854775807) : F_funcs_Int n = some (intf n) := by
  unfold F_funcs_Int; rw [fint_eq 2 0 h]; rfl
theorem fscale_eq {a : Int} (n : Int) (ha : w32 a) : F_funcs_Scale a n = some (scalef a n) := by
  unfold F_funcs_Scale; rw [scale_eq 2 0 n ha]; rfl
theorem fwhole_eq {a : Int} (ha : w32 a) : F_whole_ToInt 2 0 a = some (tointS 2 0 a) := toint_eq 2 0 ha
theorem xminus {a : Int} (h : w32 a) : bits .xor .u32 (bits .and .u32 a 4294967295) 2147483648 = turnS 2 a := by
  have e : F_format_Turn 2 a = some (bits .xor .u32 (bits .and .u32 a 4294967295) 2147483648) := by
    unfold F_format_Turn F_format_Widths F_format_Mask
    rfl
  rw [turn_eq2 2 h] at e
  exact (Option.some.inj e).symm
theorem fminus_eq {a : Int} (h : w32 a) : F_funcs_Minus a = some (turnS 2 a) := by
  unfold F_funcs_Minus; rw [xminus h]
theorem sg2 {a : Int} (h : w32 a) : (bits .and .u32 (a / 2147483648) 1 == (1 : Int)) = sg 2 a := by
  have e := and_mask32 (a / 2147483648) 1 (by have := h.1; omega) (by have := h.2; omega) (by decide)
  rw [show (2 : Int) ^ 1 - 1 = 1 from rfl] at e
  rw [e, Bool.eq_iff_iff, sg_iff 2 a h.1]
  have : TT 2 = 2147483648 := rfl
  have h1 := h.1
  have h2 := h.2
  rw [this]
  simp
  omega
def polyS (x p : Int) (l : List Int) : Int := l.foldl (fun p c => fma p x c) p
theorem polyS_w {x p : Int} (hp : w32 p) : ∀ l : List Int, w32 (polyS x p l)
  | [] => hp
  | c :: l => polyS_w (fma_w p x c) l
theorem take_foldl {x p : Int} (l : List Int) {i : Nat} (h : i < l.length) : polyS x p (l.take (i + 1)) = fma (polyS x p (l.take i)) x (l.getD i 0) := by
  have e : l.take (i + 1) = l.take i ++ [l.getD i 0] := by
    rw [List.take_add_one, List.getElem?_eq_getElem h, List.getD_eq_getElem?_getD, List.getElem?_eq_getElem h]; rfl
  rw [e]; unfold polyS; rw [List.foldl_append]; rfl
theorem poly_eq {x p : Int} (hx : w32 x) (hp : w32 p) (l : List Int) (hl : ∀ c ∈ l, w32 c) (hn : l.length ≤ 100) : F_funcs_poly x p l = some (polyS x p l) := by
  have key := lim_seq (st := st_funcs_poly_0) (fun i => ((x, (polyS x p (l.take i), (l, ((l.length : Int), ((i : Int), ()))))), ())) (b := ((polyS x p (l.take l.length), ()), ())) l.length
    (fun i hi R kn ko => by
      unfold st_funcs_poly_0
      dsimp only
      simp only [List.take_length, bif_dec, Int.toNat_natCast]
      rw [if_pos (by omega), if_pos (by omega), ffma_eq (polyS_w hp _) hx (by
        rw [List.getD_eq_getElem?_getD, List.getElem?_eq_getElem hi]; exact hl _ (List.getElem_mem hi)), take_foldl l hi]
      simp only [Option.bind_some]
      rw [wi64 (n := (i : Int) + 1) (by omega), show ((i + 1 : Nat) : Int) = (i : Int) + 1 by omega])
    (fun R kn ko => by
      unfold st_funcs_poly_0
      dsimp only
      simp only [List.take_length, bif_dec]
      rw [if_neg (by omega)])
  unfold F_funcs_poly
  rw [List.take_length]
  rw [show polyS x p (l.take 0) = p from rfl] at key
  rw [List.take_length] at key
  exact (congrArg (fun o => Option.bind o fun r0 => some r0.1.1) key)
def expR (x : Int) : Int := fma (turnS 2 (intf (wholef (mulf x 1069066811)))) 901758606 (fma (turnS 2 (intf (wholef (mulf x 1069066811)))) 1060205056 x)
def expM (x : Int) : Int := scalef (polyS (expR x) 985008993 [1007192201, 1026206379, 1042983595, 1056964608, 1065353216, 1065353216]) (wholef (mulf x 1069066811))
def expS (x : Int) : Int := if nan 2 x then 2143289344 else if lt 2 1118925336 x then 2139095040 else if lt 2 x 3268407733 then 0 else expM x
theorem wlit {a : Int} (h : (decide (0 ≤ a) && decide (a ≤ 4294967295)) = true) : w32 a := by
  simp at h; exact ⟨h.1, by omega⟩
theorem exp_eq {x : Int} (h : w32 x) : F_funcs_Exp x = some (expS x) := by
  have bw := wholef_bd (mulf x 1069066811)
  unfold F_funcs_Exp expS
  rw [fisnan_eq h, fabove_eq h (wlit rfl), fabove_eq (wlit rfl) h, fmul_eq h (wlit rfl)]
  simp only [Option.bind_some]
  rw [fwhole_eq (mulf_w _ _)]
  simp only [Option.bind_some]
  rw [show (tointS 2 0 (mulf x 1069066811)).1 = wholef (mulf x 1069066811) from rfl, wi64 (by omega), fsint_eq (by omega)]
  simp only [Option.bind_some]
  rw [xminus (intf_w _), ffma_eq (turn2_w (intf_w _)) (wlit rfl) h]
  simp only [Option.bind_some]
  rw [ffma_eq (turn2_w (intf_w _)) (wlit rfl) (fma_w _ _ _)]
  simp only [Option.bind_some]
  rw [poly_eq (fma_w _ _ _) (wlit rfl) _ (by decide) (by decide)]
  simp only [Option.bind_some]
  rw [fscale_eq _ (polyS_w (wlit rfl) _)]
  cases nan 2 x <;> cases lt 2 1118925336 x <;> cases lt 2 x 3268407733 <;> rfl
theorem exp_w {x : Int} : w32 (expS x) := by
  unfold expS
  split
  · exact wlit rfl
  split
  · exact wlit rfl
  split
  · exact wlit rfl
  · exact scalef_w _ _
def logT (m : Int) : Int := divf (subf m 1065353216) (addf 1073741824 (subf m 1065353216))
def logY (s : Int) : Int := fma s (mulf (polyS (mulf s s) 1046711865 [1049774373, 1053609165, 1059760811]) (mulf s s)) (addf s s)
def logK (e m : Int) : Int := fma (intf e) 1060205056 (fma (intf e) 901758606 (logY (logT m)))
def logE (x : Int) : Int := xp 2 x + ln (sig 2 x) - 1
def logM (x : Int) : Int := if lt 2 1068827891 (scalef x (-logE x)) then logK (logE x + 1) (scalef (scalef x (-logE x)) (-1)) else logK (logE x) (scalef x (-logE x))
def logS (x : Int) : Int := if nan 2 x then 2143289344 else if zr 2 x then 4286578688 else if sg 2 x then 2143289344 else if inff 2 x then x else logM x
theorem log_eq {x : Int} (h : w32 x) : F_funcs_Log x = some (logS x) := by
  have xa := xp_bd 2 x
  have hl := ln_bd (k := 64) (sig_bd 2 x).1 (by have := sig_bd 2 x; have : (2 : Int) ^ 64 = 18446744073709551616 := rfl; have := (sig_w64 2 x).2; omega)
  have hr : ∀ e m : Int, w32 m → -10000 ≤ e ∧ e ≤ 10000 →
      ((F_funcs_Sub m (1065353216:Int)).bind fun r22 =>
            (F_funcs_Add (1073741824:Int) r22).bind fun r23 =>
            (F_funcs_Div r22 r23).bind fun r24 =>
            (F_funcs_Mul r24 r24).bind fun r25 =>
            (F_funcs_poly r25 (1046711865:Int) [(1049774373:Int), (1053609165:Int), (1059760811:Int)]).bind fun r26 =>
            (F_funcs_Mul r26 r25).bind fun r27 =>
            (F_funcs_Add r24 r24).bind fun r28 =>
            (F_funcs_Fma r24 r27 r28).bind fun r29 =>
            (F_funcs_Int e).bind fun r30 =>
            (F_funcs_Fma r30 (901758606:Int) r29).bind fun r31 =>
            (F_funcs_Fma r30 (1060205056:Int) r31).bind fun r32 =>
            (some r32)) = some (logK e m) := by
    intro e m hm he
    rw [fsub_eq hm (wlit rfl)]
    simp only [Option.bind_some]
    rw [fadd_eq (wlit rfl) (subf_w _ _)]
    simp only [Option.bind_some]
    rw [fdiv_eq (subf_w _ _) (addf_w _ _)]
    simp only [Option.bind_some]
    rw [fmul_eq (divf_w _ _) (divf_w _ _)]
    simp only [Option.bind_some]
    rw [poly_eq (mulf_w _ _) (wlit rfl) _ (by decide) (by decide)]
    simp only [Option.bind_some]
    rw [fmul_eq (polyS_w (wlit rfl) _) (mulf_w _ _), fadd_eq (divf_w _ _) (divf_w _ _)]
    simp only [Option.bind_some]
    rw [ffma_eq (divf_w _ _) (mulf_w _ _) (addf_w _ _), fsint_eq (by omega)]
    simp only [Option.bind_some]
    rw [ffma_eq (intf_w _) (wlit rfl) (fma_w _ _ _)]
    simp only [Option.bind_some]
    rw [ffma_eq (intf_w _) (wlit rfl) (fma_w _ _ _)]
    rfl
  unfold F_funcs_Log logS
  rw [fisnan_eq h, iszero_eq 2 h, isinf_eq 2 h, unpack_eq 2 h, sg2 h]
  simp only [Option.bind_some]
  rw [len_eq (sig_w64 2 x)]
  simp only [Option.bind_some]
  rw [wi64 (n := xp 2 x + ln (sig 2 x)) (by omega), wi64 (n := xp 2 x + ln (sig 2 x) - 1) (by omega), wi64 (n := 0 - (xp 2 x + ln (sig 2 x) - 1)) (by omega), wi64 (n := xp 2 x + ln (sig 2 x) - 1 + 1) (by omega), fscale_eq _ h]
  simp only [Option.bind_some]
  rw [fabove_eq (scalef_w _ _) (wlit rfl), fscale_eq _ (scalef_w _ _)]
  simp only [Option.bind_some]
  have h1 := hr (xp 2 x + ln (sig 2 x) - 1 + 1) (scalef (scalef x (0 - (xp 2 x + ln (sig 2 x) - 1))) (-1)) (scalef_w _ _) (by omega)
  have h2 := hr (xp 2 x + ln (sig 2 x) - 1) (scalef x (0 - (xp 2 x + ln (sig 2 x) - 1))) (scalef_w _ _) (by omega)
  rw [h1, h2]
  unfold logM logE
  rw [show (0 : Int) - (xp 2 x + ln (sig 2 x) - 1) = -(xp 2 x + ln (sig 2 x) - 1) by omega]
  cases nan 2 x <;> cases zr 2 x <;> cases sg 2 x <;> cases inff 2 x <;> cases lt 2 1068827891 (scalef x (-(xp 2 x + ln (sig 2 x) - 1))) <;> rfl
theorem log_w {x : Int} (h : w32 x) : w32 (logS x) := by
  unfold logS
  split
  · exact wlit rfl
  split
  · exact wlit rfl
  split
  · exact wlit rfl
  split
  · exact h
  · unfold logM; split <;> exact fma_w _ _ _
def tanT (a : Int) : Int := subf 1065353216 (divf 1073741824 (addf (expS (addf a a)) 1065353216))
def tanA (a : Int) : Int := if lt 2 1091579060 a then 1065353216 else tanT a
def tanS (x : Int) : Int := if nan 2 x then 2143289344 else if zr 2 x then x else if sg 2 x then turnS 2 (tanA (turnS 2 x)) else tanA x
theorem tanT_w (a : Int) : w32 (tanT a) := subf_w _ _
theorem tanA_w (a : Int) : w32 (tanA a) := by
  unfold tanA; split
  · exact wlit rfl
  · exact tanT_w a
theorem tanh_w {x : Int} (h : w32 x) : w32 (tanS x) := by
  unfold tanS
  split
  · exact wlit rfl
  split
  · exact h
  split
  · exact turn2_w (tanA_w _)
  · exact tanA_w _
theorem tanh_eq {x : Int} (h : w32 x) : F_funcs_Tanh x = some (tanS x) := by
  have hr : ∀ (a : Int) (b : Bool), w32 a → ((F_funcs_Add a a).bind fun r5 =>
          (F_funcs_Exp r5).bind fun r6 =>
          (F_funcs_Add r6 (1065353216:Int)).bind fun r7 =>
          (F_funcs_Div (1073741824:Int) r7).bind fun r8 =>
          (F_funcs_Sub (1065353216:Int) r8).bind fun r9 =>
          bif b then
            (some (bits .xor .u32 (bits .and .u32 r9 (4294967295:Int)) (2147483648:Int)))
          else
            (some r9)) = some (if b then turnS 2 (tanT a) else tanT a) := by
    intro a b ha
    rw [fadd_eq ha ha]
    simp only [Option.bind_some]
    rw [exp_eq (addf_w _ _)]
    simp only [Option.bind_some]
    rw [fadd_eq exp_w (wlit rfl)]
    simp only [Option.bind_some]
    rw [fdiv_eq (wlit rfl) (addf_w _ _)]
    simp only [Option.bind_some]
    rw [fsub_eq (wlit rfl) (divf_w _ _)]
    simp only [Option.bind_some]
    rw [xminus (subf_w _ _)]
    cases b <;> rfl
  unfold F_funcs_Tanh tanS
  rw [fisnan_eq h, iszero_eq 2 h, sg2 h, xminus h]
  dsimp only
  rw [hr _ _ (turn2_w h), hr _ _ h, fabove_eq (turn2_w h) (wlit rfl), fabove_eq h (wlit rfl)]
  simp only [Option.bind_some]
  unfold tanA
  have e1 : turnS 2 (1065353216 : Int) = 3212836864 := by decide
  cases nan 2 x <;> cases zr 2 x <;> cases sg 2 x <;> cases lt 2 1091579060 (turnS 2 x) <;> cases lt 2 1091579060 x <;> simp [e1]
def sigS (x : Int) : Int := divf 1065353216 (addf 1065353216 (expS (turnS 2 x)))
theorem sigm_eq {x : Int} (h : w32 x) : F_funcs_Sigmoid x = some (sigS x) := by
  unfold F_funcs_Sigmoid sigS
  rw [xminus h, exp_eq (turn2_w h)]
  simp only [Option.bind_some]
  rw [fadd_eq (wlit rfl) exp_w]
  simp only [Option.bind_some]
  rw [fdiv_eq (wlit rfl) (addf_w _ _)]
  rfl
def innS (x : Int) : Int := mulf 1061962282 (fma 1027024659 (mulf (mulf x x) x) x)
theorem inner_eq {x : Int} (h : w32 x) : F_funcs_inner x = some (innS x) := by
  unfold F_funcs_inner innS
  rw [fmul_eq h h]
  simp only [Option.bind_some]
  rw [fmul_eq (mulf_w _ _) h]
  simp only [Option.bind_some]
  rw [ffma_eq (wlit rfl) (mulf_w _ _) h]
  simp only [Option.bind_some]
  rw [fmul_eq (wlit rfl) (fma_w _ _ _)]
  rfl
theorem inn_w (x : Int) : w32 (innS x) := mulf_w _ _
def gelS (x : Int) : Int := mulf (mulf 1056964608 x) (addf 1065353216 (tanS (innS x)))
theorem gel_w (x : Int) : w32 (gelS x) := mulf_w _ _
theorem gelu_eq {x : Int} (h : w32 x) : F_funcs_Gelu x = some (gelS x) := by
  unfold F_funcs_Gelu gelS
  rw [fmul_eq (wlit rfl) h, inner_eq h]
  simp only [Option.bind_some]
  rw [tanh_eq (inn_w x)]
  simp only [Option.bind_some]
  rw [fadd_eq (wlit rfl) (tanh_w (inn_w x))]
  simp only [Option.bind_some]
  rw [fmul_eq (mulf_w _ _) (addf_w _ _)]
  rfl
def sloT (x t : Int) : Int := fma (mulf (mulf 1056964608 x) (subf 1065353216 (mulf t t))) (mulf 1061962282 (fma 1040801103 (mulf x x) 1065353216)) (mulf 1056964608 (addf 1065353216 t))
def sloS (x : Int) : Int := sloT x (tanS (innS x))
theorem slo_w (x : Int) : w32 (sloS x) := fma_w _ _ _
theorem slope_eq {x : Int} (h : w32 x) : F_funcs_Slope x = some (sloS x) := by
  have ht := tanh_w (inn_w x)
  unfold F_funcs_Slope sloS sloT
  rw [inner_eq h, fmul_eq h h, fmul_eq (wlit rfl) h]
  simp only [Option.bind_some]
  rw [tanh_eq (inn_w x), ffma_eq (wlit rfl) (mulf_w _ _) (wlit rfl)]
  simp only [Option.bind_some]
  rw [fmul_eq (wlit rfl) (fma_w _ _ _), fmul_eq ht ht, fadd_eq (wlit rfl) ht]
  simp only [Option.bind_some]
  rw [fsub_eq (wlit rfl) (mulf_w _ _), fmul_eq (wlit rfl) (addf_w _ _)]
  simp only [Option.bind_some]
  rw [fmul_eq (mulf_w _ _) (subf_w _ _)]
  simp only [Option.bind_some]
  rw [ffma_eq (mulf_w _ _) (mulf_w _ _) (mulf_w _ _)]
  rfl
def cosY (x : Int) : Int := mulf 1078530011 (subf x 1056964608)
def cosM (y : Int) : Int := turnS 2 (mulf y (polyS (mulf y y) 3109031169 [1007192201, 3190467243, 1065353216]))
def cosS (x : Int) : Int := if nan 2 x then 2143289344 else cosM (cosY x)
theorem cospi_eq {x : Int} (h : w32 x) : F_funcs_Cospi x = some (cosS x) := by
  unfold F_funcs_Cospi cosS cosM cosY
  rw [fisnan_eq h, fsub_eq h (wlit rfl)]
  simp only [Option.bind_some]
  rw [fmul_eq (wlit rfl) (subf_w _ _)]
  simp only [Option.bind_some]
  rw [fmul_eq (mulf_w _ _) (mulf_w _ _)]
  simp only [Option.bind_some]
  rw [poly_eq (mulf_w _ _) (wlit rfl) _ (by decide) (by decide)]
  simp only [Option.bind_some]
  rw [fmul_eq (mulf_w _ _) (polyS_w (wlit rfl) _)]
  simp only [Option.bind_some]
  rw [xminus (mulf_w _ _)]
  cases nan 2 x <;> rfl
theorem known12_eq : F_anneallaw12_known = some true := by
  unfold F_anneallaw12_known
  rw [exp_eq (wlit rfl), log_eq (wlit rfl), sigm_eq (wlit rfl), gelu_eq (wlit rfl)]
  simp only [Option.bind_some]
  rw [show (expS 0 == 1065353216) = true by decide +kernel, show (logS 1065353216 == 0) = true by decide +kernel, show (sigS 0 == 1056964608) = true by decide +kernel, show (gelS 0 == 0) = true by decide +kernel]
  rfl
end Go.Proofs.Ytkknnloamidaiaa.VI

namespace Go.Proofs.Ytkknnloamidaiaa.VI
set_option linter.unusedVariables false
set_option linter.unusedSimpArgs false
set_option linter.unusedSimpArgs false
set_option linter.unusedVariables false
set_option maxRecDepth 100000
set_option maxHeartbeats 8000000
theorem nan2 {x : Int} : nan 2 x = true ↔ 2139095040 < x % 2147483648 := by
  unfold nan; rw [decide_eq_true_iff]; rfl
theorem zr2 {x : Int} : zr 2 x = true ↔ x % 2147483648 = 0 := by
  unfold zr; rw [decide_eq_true_iff]; rfl
theorem sgg2 {x : Int} : sg 2 x = true ↔ x / 2147483648 % 2 = 1 := by
  unfold sg; rw [decide_eq_true_iff]; rfl
theorem mulf_nan {a b : Int} (h : (nan 2 a || nan 2 b) = true) : mulf a b = 2143289344 := by
  unfold mulf mulS; rw [if_pos h]; rfl
theorem addf_nan {a b : Int} (h : (nan 2 a || nan 2 b) = true) : addf a b = 2143289344 := by
  unfold addf addS; rw [if_pos h]; rfl
theorem fma_nan {a b c : Int} (h : (nan 2 a || nan 2 b || nan 2 c) = true) : fma a b c = 2143289344 := by
  unfold fma fmaS; rw [if_pos (by rw [Bool.or_eq_true]; left; rw [← Bool.or_assoc]; exact h)]; rfl
theorem turn2 {x : Int} (h : w32 x) : turnS 2 x = if 2147483648 ≤ x then x - 2147483648 else x + 2147483648 := by
  have h1 := h.1
  have h2 := h.2
  unfold turnS
  have e : sg 2 x = decide (2147483648 ≤ x) := by
    rw [Bool.eq_iff_iff, sgg2, decide_eq_true_iff]; omega
  rw [e]
  show (if decide (2147483648 ≤ x) = true then x % 4294967296 - 2147483648 else x % 4294967296 + 2147483648) = _
  rw [Int.emod_eq_of_lt h1 h2]
  by_cases k : 2147483648 ≤ x
  · rw [if_pos (decide_eq_true k), if_pos k]
  · rw [if_neg (by simp [k]), if_neg k]
theorem nan_turn {x : Int} (h : w32 x) : nan 2 (turnS 2 x) = nan 2 x := by
  have h1 := h.1
  have h2 := h.2
  rw [turn2 h, Bool.eq_iff_iff, nan2, nan2]
  split <;> omega
theorem orT {x : Int} (h : 0 ≤ x ∧ x < 2147483648) (b : Bool) : bits .or .u32 x (bif b then 2147483648 else 0) = if b = true then x + 2147483648 else x := by
  cases b
  · exact or_zero32 x h.1 (by omega)
  · rw [show (bif true then (2147483648 : Int) else 0) = 2147483648 from rfl, or_comm32, or_join32 2147483648 x 31 (by decide) (by decide) h.1 (by have : (2 : Int) ^ 31 = 2147483648 := rfl; omega) (by decide) (by decide)]
    simp; omega
theorem lt_pos {a b : Int} (ha : 0 ≤ a) (hb : b ≤ 2139095040) (h : a < b) : lt 2 a b = true := by
  rw [lt_iff]
  refine ⟨?_, ?_, ?_, ?_⟩
  · rw [Bool.eq_false_iff, ne_eq, nan2]; omega
  · rw [Bool.eq_false_iff, ne_eq, nan2]; omega
  · rw [zr2, zr2]; omega
  · have e1 : sg 2 a = false := by rw [Bool.eq_false_iff, ne_eq, sgg2]; omega
    have e2 : sg 2 b = false := by rw [Bool.eq_false_iff, ne_eq, sgg2]; omega
    unfold ky
    rw [e1, e2]
    show a % 2147483648 < b % 2147483648
    omega
theorem funcsEdges {a : Int} (h : w32 a) (b : Bool) : F_anneallaw12_FuncsEdges a b = some true := by
  have h1 := h.1
  have h2 := h.2
  have t1 : Int.tmod a 8388606 = a % 8388606 := tmod_nn h1
  have t2 : Int.tmod a 50331648 = a % 50331648 := tmod_nn h1
  have t3 : Int.tmod a 16777216 = a % 16777216 := tmod_nn h1
  have t4 : Int.tmod a 2139095040 = a % 2139095040 := tmod_nn h1
  unfold F_anneallaw12_FuncsEdges
  rw [t1, t2, t3, t4, known12_eq]
  simp only [Option.bind_some]
  rw [wu32 (n := 2139095041 + a % 8388606) (by omega), wu32 (n := 1118925337 + a % 50331648) (by omega), wu32 (n := 3268407734 + a % 16777216) (by omega), wu32 (n := a % 2139095040 + 1) (by omega)]
  rw [orT (by omega) b, orT (x := 1065353216) (by omega) b, orT (x := 2139095040) (by omega) b, orT (x := 1118925337 + a % 50331648) (by omega) b]
  -- a NaN
  have nn : ∀ x : Int, nan 2 x = true → w32 x → F_funcs_Exp x = some 2143289344 ∧ F_funcs_Log x = some 2143289344 ∧ F_funcs_Tanh x = some 2143289344 ∧ F_funcs_Sigmoid x = some 2143289344 ∧ F_funcs_Gelu x = some 2143289344 ∧ F_funcs_Slope x = some 2143289344 ∧ F_funcs_Cospi x = some 2143289344 := by
    intro x hx wx
    have ex : ∀ y, nan 2 y = true → expS y = 2143289344 := fun y hy => by unfold expS; rw [if_pos hy]
    have ins : innS x = 2143289344 := by
      unfold innS
      rw [fma_nan (by simp [hx])]
      decide +kernel
    refine ⟨?_, ?_, ?_, ?_, ?_, ?_, ?_⟩
    · rw [exp_eq wx, ex x hx]
    · rw [log_eq wx]; unfold logS; rw [if_pos hx]
    · rw [tanh_eq wx]; unfold tanS; rw [if_pos hx]
    · rw [sigm_eq wx]; unfold sigS; rw [ex _ (by rw [nan_turn wx]; exact hx)]; decide +kernel
    · rw [gelu_eq wx]; unfold gelS; rw [mulf_nan (a := 1056964608) (b := x) (by simp [hx]), ins]; decide +kernel
    · rw [slope_eq wx]; unfold sloS sloT; rw [mulf_nan (a := 1056964608) (b := x) (by simp [hx]), mulf_nan (a := x) (b := x) (by simp [hx]), ins]; decide +kernel
    · rw [cospi_eq wx]; unfold cosS; rw [if_pos hx]
  have w1 : w32 (if b = true then 2139095041 + a % 8388606 + 2147483648 else 2139095041 + a % 8388606) := by
    cases b <;> exact ⟨by simp; omega, by simp; omega⟩
  have n1 : nan 2 (if b = true then 2139095041 + a % 8388606 + 2147483648 else 2139095041 + a % 8388606) = true := by
    rw [nan2]; cases b <;> simp <;> omega
  obtain ⟨g1, g2, g3, g4, g5, g6, g7⟩ := nn _ n1 w1
  rw [g1, g2, g3, g4, g5, g6, g7]
  -- too great, too low
  have w2 : w32 (1118925337 + a % 50331648) := ⟨by omega, by omega⟩
  have e2 : F_funcs_Exp (1118925337 + a % 50331648) = some 2139095040 := by
    rw [exp_eq w2]
    unfold expS
    have n2 : nan 2 (1118925337 + a % 50331648) = false := by rw [Bool.eq_false_iff, ne_eq, nan2]; omega
    rw [if_neg (by rw [n2]; decide), if_pos (lt_pos (by decide) (by omega) (by omega))]
  have w3 : w32 (3268407734 + a % 16777216) := ⟨by omega, by omega⟩
  have n3 : nan 2 (3268407734 + a % 16777216) = false := by rw [Bool.eq_false_iff, ne_eq, nan2]; omega
  have s3 : sg 2 (3268407734 + a % 16777216) = true := by rw [sgg2]; omega
  have k3 : ky 2 (3268407734 + a % 16777216) = -1 - (3268407734 + a % 16777216) % 2147483648 := by unfold ky; rw [s3]; rfl
  have e3 : F_funcs_Exp (3268407734 + a % 16777216) = some 0 := by
    rw [exp_eq w3]
    unfold expS
    rw [if_neg (by rw [n3]; decide), if_neg, if_pos]
    · rw [lt_iff]
      refine ⟨n3, by decide, fun k => ?_, ?_⟩
      · rw [zr2] at k; omega
      · rw [k3, show ky 2 3268407733 = -1 - 1120924085 by decide]; omega
    · rw [lt_iff, k3, show ky 2 1118925336 = 1118925336 by decide]; omega
  rw [e2, e3]
  have l0 : ∀ c : Bool, F_funcs_Log (bif c then 2147483648 else 0) = some 4286578688 := fun c => by
    cases c
    · exact (log_eq (x := 0) (wlit rfl)).trans (congrArg some (by decide +kernel))
    · exact (log_eq (x := 2147483648) (wlit rfl)).trans (congrArg some (by decide +kernel))
  have l1 : F_funcs_Log (bits .or .u32 2147483648 (a % 2139095040 + 1)) = some 2143289344 := by
    rw [or_join32 2147483648 _ 31 (by decide) (by decide) (by omega) (by have : (2 : Int) ^ 31 = 2147483648 := rfl; omega) (by decide) (by decide), log_eq ⟨by omega, by omega⟩]
    unfold logS
    have q1 : nan 2 (2147483648 + (a % 2139095040 + 1)) = false := by rw [Bool.eq_false_iff, ne_eq, nan2]; omega
    have q2 : zr 2 (2147483648 + (a % 2139095040 + 1)) = false := by rw [Bool.eq_false_iff, ne_eq, zr2]; omega
    have q3 : sg 2 (2147483648 + (a % 2139095040 + 1)) = true := by rw [sgg2]; omega
    rw [q1, q2, q3]; rfl
  rw [l0, l1]
  have m0 : ∀ c : Bool, F_funcs_Tanh (bif c then 2147483648 else 0) = some (bif c then 2147483648 else 0) := fun c => by
    cases c
    · exact (tanh_eq (x := 0) (wlit rfl)).trans (congrArg some (by decide +kernel))
    · exact (tanh_eq (x := 2147483648) (wlit rfl)).trans (congrArg some (by decide +kernel))
  have m1 : ∀ y : Int, 1091579060 < y → y ≤ 2139095040 → F_funcs_Tanh (if b = true then y + 2147483648 else y) = some (if b = true then 1065353216 + 2147483648 else 1065353216) := by
    intro y y1 y2
    have tA : tanA y = 1065353216 := by unfold tanA; rw [if_pos (lt_pos (by decide) y2 y1)]
    cases b
    · show F_funcs_Tanh y = some 1065353216
      rw [tanh_eq ⟨by omega, by omega⟩]
      unfold tanS
      have q1 : nan 2 y = false := by rw [Bool.eq_false_iff, ne_eq, nan2]; omega
      have q2 : zr 2 y = false := by rw [Bool.eq_false_iff, ne_eq, zr2]; omega
      have q3 : sg 2 y = false := by rw [Bool.eq_false_iff, ne_eq, sgg2]; omega
      rw [q1, q2, q3, tA]; rfl
    · show F_funcs_Tanh (y + 2147483648) = some (1065353216 + 2147483648)
      have wy : w32 (y + 2147483648) := ⟨by omega, by omega⟩
      rw [tanh_eq wy]
      unfold tanS
      have q1 : nan 2 (y + 2147483648) = false := by rw [Bool.eq_false_iff, ne_eq, nan2]; omega
      have q2 : zr 2 (y + 2147483648) = false := by rw [Bool.eq_false_iff, ne_eq, zr2]; omega
      have q3 : sg 2 (y + 2147483648) = true := by rw [sgg2]; omega
      have tt : turnS 2 (y + 2147483648) = y := by rw [turn2 wy, if_pos (by omega)]; omega
      rw [q1, q2, q3, tt, tA]
      exact congrArg some (show turnS 2 1065353216 = 1065353216 + 2147483648 by decide)
  rw [m0, m1 2139095040 (by decide) (by decide), m1 _ (by omega) (by omega)]
  have s1 : F_funcs_Sigmoid 2139095040 = some 1065353216 := by rw [sigm_eq (wlit rfl)]; exact congrArg some (by decide +kernel)
  have s2 : F_funcs_Sigmoid 4286578688 = some 0 := by rw [sigm_eq (wlit rfl)]; exact congrArg some (by decide +kernel)
  rw [s1, s2]
  cases b <;> rfl
theorem callFuncsEdges : ∀ l, args [.i .u32, .b] l → oks l → CallOk PR i_anneallaw12_FuncsEdges l [] fun r _ => r = .b true :=
  rowT (fa := fa_anneallaw12_FuncsEdges) (F := G_anneallaw12_FuncsEdges) rfl rfl ok_anneallaw12_FuncsEdges (enters p_anneallaw12_FuncsEdges (by kernel_rfl) (by kernel_rfl)) rfl fun x hx =>
    funcsEdges ⟨hx.1.1, Int.lt_add_one_of_le hx.1.2⟩ x.2.1
end Go.Proofs.Ytkknnloamidaiaa.VI

namespace Go.Proofs.Ytkknnloamidaiaa.VI
set_option linter.unusedVariables false
set_option linter.unusedSimpArgs false
open Go.ChangeShapes Go.WideShapes Go.RowKit Go.WideElems Ytkknnloamidaiaa
set_option maxRecDepth 100000
theorem laid : laidOutB Try.prog = true := by kernel_rfl
theorem own : ownKnob Try.prog.godebug = none := by kernel_rfl
theorem lifted (os : Os) (started : os.Started) (H : Type) (enc : TypeId × Value → H) :
    ReturnsInHanded {} Try.checked os 6 .any (Rows.funcsEdgesSpec.pre6 enc Try.prog Try.f6 Rows.funcsEdgesRow.domain false) (Rows.funcsEdgesSpec.post enc Try.prog Try.f6 false true false false) :=
  lift_args (C := Try.checked) own started (by kernel_rfl) Try.func6
    (ChangeSpec.witness6 (enc := enc) (C := Try.checked) false ⟨#[], #[.int .u32 0, .bool false], []⟩ 8 (by kernel_rfl) (by kernel_rfl) (by kernel_rfl) (by kernel_rfl))
    laid Try.underlying4 rfl (by kernel_rfl) rfl (fun ds hd => match ds, hd with
    | [_, _], _ => rfl) (d := 6) (by kernel_rfl) (Fs := [.i .u32, .b]) (by kernel_rfl) callFuncsEdges
theorem over : Rows.funcsEdgesRow.holds Try.pinned (OpenSpec.ofChange Rows.funcsEdgesSpec) :=
  OpenClaim.holds_of_wide 6 Try.f6 rfl rfl rfl rfl rfl rfl rfl ⟨rfl, rfl, rfl, rfl, rfl⟩ rfl rfl rfl rfl rfl (by kernel_rfl) Try.func6 (by kernel_rfl)
    (of_decide_eq_true (by kernel_rfl)) (by unfold Func.isWrapper; first | (rw [if_pos (by decide +kernel)]; kernel_rfl) | (rw [if_neg (by decide +kernel)]; exact ⟨rfl, rfl⟩))
    (fun os started H enc _ => lifted os started H enc)
end Go.Proofs.Ytkknnloamidaiaa.VI
