import Derived.Test.YtkknnloamidaiaaT1bd80063
namespace Go.Proofs.Ytkknnloamidaiaa.VI
set_option linter.unusedVariables false
set_option linter.unusedSimpArgs false
set_option maxRecDepth 100000
set_option linter.unusedSimpArgs false
set_option linter.unusedVariables false
noncomputable def O_tensor_known : Orc := orn
theorem okO_tensor_known : OrcOk PR O_tensor_known := (orn_ok _)
abbrev fa_tensor_known : Fm := (.pair (.i .i64) .unit)
abbrev ha_tensor_known : List BF := []
abbrev fr_tensor_known : Fm := .b
abbrev hr_tensor_known : List BF := []
noncomputable def L_tensor_known : Lps := L0
def inn_tensor_known : T fr_tensor_known → TH hr_tensor_known → Bool := (fun z w => z)
def out_tensor_known : Bool → T fr_tensor_known × TH hr_tensor_known := fun r => (r, ())
noncomputable def F_tensor_known (a0 : Int) : Option (Bool) :=
  bif (a0 == (0:Int)) then
    (some true)
  else
    bif (a0 == (1:Int)) then
      (some true)
    else
      (some (a0 == (2:Int)))
noncomputable def G_tensor_known : T fa_tensor_known → TH ha_tensor_known → Option (Bool) := fun x y => F_tensor_known x.1
noncomputable def c_tensor_known : Orc := ent i_tensor_known [] 0 (sp fa_tensor_known ha_tensor_known fr_tensor_known hr_tensor_known G_tensor_known out_tensor_known)
theorem ok_tensor_known : OrcOk PR c_tensor_known := fnT okO_tensor_known mixed p_tensor_known (by kernel_rfl) (by kernel_rfl) (L := L_tensor_known) (kp := false) (by kernel_rfl) (inn := inn_tensor_known) (out := out_tensor_known) (fun _ _ => rfl) (loopsL (l := []) (by kernel_rfl) trivial) (fun x y => by kernel_rfl)
noncomputable def O_tensor_Rightc1 : Orc := c_format_Mask
theorem okO_tensor_Rightc1 : OrcOk PR O_tensor_Rightc1 := ok_format_Mask
abbrev fa_tensor_Rightc1 : Fm := (.pair (.i .u32) (.cst (.ref 0 1 0) .unit))
abbrev ha_tensor_Rightc1 : List BF := [(.list 1 y_api_Tensor true (.pair (.i .i64) (.pair (.i .i64) (.pair (.i .i64) (.pair (.si .u32) .unit)))))]
abbrev fr_tensor_Rightc1 : Fm := .b
abbrev hr_tensor_Rightc1 : List BF := [(.list 1 y_api_Tensor true (.pair (.i .i64) (.pair (.i .i64) (.pair (.i .i64) (.pair (.si .u32) .unit)))))]
noncomputable def L_tensor_Rightc1 : Lps := L0
def inn_tensor_Rightc1 : T fr_tensor_Rightc1 → TH hr_tensor_Rightc1 → (Bool) × ((Int × Int × Int × List Int × Unit) × Unit) := Prod.mk
def out_tensor_Rightc1 : (Bool) × ((Int × Int × Int × List Int × Unit) × Unit) → T fr_tensor_Rightc1 × TH hr_tensor_Rightc1 := id
noncomputable def F_tensor_Rightc1 (a0 : Int) (a1 : Int × Int × Int × List Int × Unit) : Option ((Bool) × ((Int × Int × Int × List Int × Unit) × Unit)) :=
  let x0 : Int := a1.2.2.1
  let x1 : List Int := a1.2.2.2.1
  ((F_format_Mask x0)).bind fun r2 =>
  (some (((bits .andNot .u32 a0 r2) != (0:Int)), ((a1.1, (a1.2.1, (x0, ((List.take (List.length x1) x1), ())))), ())))
noncomputable def G_tensor_Rightc1 : T fa_tensor_Rightc1 → TH ha_tensor_Rightc1 → Option ((Bool) × ((Int × Int × Int × List Int × Unit) × Unit)) := fun x y => F_tensor_Rightc1 x.1 y.1
noncomputable def c_tensor_Rightc1 : Orc := ent i_tensor_Rightc1 [false, true] 0 (sp fa_tensor_Rightc1 ha_tensor_Rightc1 fr_tensor_Rightc1 hr_tensor_Rightc1 G_tensor_Rightc1 out_tensor_Rightc1)
theorem ok_tensor_Rightc1 : OrcOk PR c_tensor_Rightc1 := fnT okO_tensor_Rightc1 mixed p_tensor_Rightc1 (by kernel_rfl) (by kernel_rfl) (L := L_tensor_Rightc1) (kp := false) (by kernel_rfl) (inn := inn_tensor_Rightc1) (out := out_tensor_Rightc1) (fun _ _ => rfl) (loopsL (l := []) (by kernel_rfl) trivial) (fun x y => by kernel_rfl)
noncomputable def O_slices_IndexFuncLLJuint32_uint32J__tensor_Rightc1 : Orc := c_tensor_Rightc1
theorem okO_slices_IndexFuncLLJuint32_uint32J__tensor_Rightc1 : OrcOk PR O_slices_IndexFuncLLJuint32_uint32J__tensor_Rightc1 := ok_tensor_Rightc1
abbrev fa_slices_IndexFuncLLJuint32_uint32J__tensor_Rightc1 : Fm := (.pair (.si .u32) (.pair (.fn i_tensor_Rightc1 (.pair (.ref 0 1 0) .unit)) .unit))
abbrev ha_slices_IndexFuncLLJuint32_uint32J__tensor_Rightc1 : List BF := [(.list 1 y_api_Tensor true (.pair (.i .i64) (.pair (.i .i64) (.pair (.i .i64) (.pair (.si .u32) .unit)))))]
abbrev fr_slices_IndexFuncLLJuint32_uint32J__tensor_Rightc1 : Fm := (.i .i64)
abbrev hr_slices_IndexFuncLLJuint32_uint32J__tensor_Rightc1 : List BF := [(.list 1 y_api_Tensor true (.pair (.i .i64) (.pair (.i .i64) (.pair (.i .i64) (.pair (.si .u32) .unit)))))]
abbrev ff_slices_IndexFuncLLJuint32_uint32J__tensor_Rightc1_0 : Fm := (.pair (.si .u32) (.cst (.fn i_tensor_Rightc1 (.cst (.ref 0 1 0) .unit)) (.us 5 (.pair (.i .i64) (.pair (.i .i64) (.us 10 .unit))))))
abbrev hf_slices_IndexFuncLLJuint32_uint32J__tensor_Rightc1_0 : List BF := [(.list 1 y_api_Tensor true (.pair (.i .i64) (.pair (.i .i64) (.pair (.i .i64) (.pair (.si .u32) .unit)))))]
abbrev X_slices_IndexFuncLLJuint32_uint32J__tensor_Rightc1_0 : Xs := (.alt (.exit 0) [] (.us 19 .unit) [(.list 1 y_api_Tensor true (.pair (.i .i64) (.pair (.i .i64) (.pair (.i .i64) (.pair (.si .u32) .unit)))))] (.one .ret [4] (.us 4 (.pair (.i .i64) (.us 14 .unit))) [(.list 1 y_api_Tensor true (.pair (.i .i64) (.pair (.i .i64) (.pair (.i .i64) (.pair (.si .u32) .unit)))))]))
abbrev S_slices_IndexFuncLLJuint32_uint32J__tensor_Rightc1_0 : Type := T ff_slices_IndexFuncLLJuint32_uint32J__tensor_Rightc1_0 × TH hf_slices_IndexFuncLLJuint32_uint32J__tensor_Rightc1_0
abbrev E_slices_IndexFuncLLJuint32_uint32J__tensor_Rightc1_0 : Type := TX X_slices_IndexFuncLLJuint32_uint32J__tensor_Rightc1_0
noncomputable def LB_slices_IndexFuncLLJuint32_uint32J__tensor_Rightc1_0 : Lps := L0
noncomputable def st_slices_IndexFuncLLJuint32_uint32J__tensor_Rightc1_0 : StepT S_slices_IndexFuncLLJuint32_uint32J__tensor_Rightc1_0 E_slices_IndexFuncLLJuint32_uint32J__tensor_Rightc1_0 := fun R v kn ko =>
  let x0 : List Int := v.1.1
  let x1 : Int := v.1.2.2.1
  let x2 : List Int := v.2.1.2.2.2.1
  bif (decide (x1 < v.1.2.1)) then
    bif (decide (((0:Int) ≤ x1) ∧ (x1 < (((List.length x0) : Nat) : Int)))) then
      ((F_tensor_Rightc1 (List.getD x0 (Int.toNat x1) (0:Int)) (v.2.1.1, (v.2.1.2.1, (v.2.1.2.2.1, ((List.take (List.length x2) x2), ())))))).bind fun r3 =>
      let x4 : List Int := r3.2.1.2.2.2.1
      bif r3.1 then
        (ko (Sum.inr (v.1.2.2, ((r3.2.1.1, (r3.2.1.2.1, (r3.2.1.2.2.1, ((List.take (List.length x4) x4), ())))), ()))))
      else
        (kn (((List.take (List.length x0) x0), (v.1.2.1, ((IntKind.wrap .i64 (x1 + (1:Int))), ()))), ((r3.2.1.1, (r3.2.1.2.1, (r3.2.1.2.2.1, ((List.take (List.length x4) x4), ())))), ())))
    else
      none
  else
    (ko (Sum.inl ((), ((v.2.1.1, (v.2.1.2.1, (v.2.1.2.2.1, ((List.take (List.length x2) x2), ())))), ()))))
noncomputable def ls_slices_IndexFuncLLJuint32_uint32J__tensor_Rightc1_0 : St → LTr := (lsum ff_slices_IndexFuncLLJuint32_uint32J__tensor_Rightc1_0 hf_slices_IndexFuncLLJuint32_uint32J__tensor_Rightc1_0 X_slices_IndexFuncLLJuint32_uint32J__tensor_Rightc1_0 Prod.mk id st_slices_IndexFuncLLJuint32_uint32J__tensor_Rightc1_0 (hd [] [] [0, 1, 7, 8] 1))
theorem lp_slices_IndexFuncLLJuint32_uint32J__tensor_Rightc1_0 : LoopOk PR 1 (lpN f_slices_IndexFuncLLJuint32_uint32J 0) ls_slices_IndexFuncLLJuint32_uint32J__tensor_Rightc1_0 := loopT okO_slices_IndexFuncLLJuint32_uint32J__tensor_Rightc1 mixed (L := LB_slices_IndexFuncLLJuint32_uint32J__tensor_Rightc1_0) (d := 1) (bs := []) (ks := [0, 1, 7, 8]) (loopsL (l := []) (by kernel_rfl) trivial) (by kernel_rfl) (inS := Prod.mk) (outS := id) (fun _ _ => rfl) (inX := id) (outX := id) (fun _ => rfl) (fun v R kn ko => by kernel_rfl) (hd_wk [] [] [0, 1, 7, 8] 1)
noncomputable def L_slices_IndexFuncLLJuint32_uint32J__tensor_Rightc1 : Lps := (lpB 3 (.by_ ls_slices_IndexFuncLLJuint32_uint32J__tensor_Rightc1_0) L0)
def inn_slices_IndexFuncLLJuint32_uint32J__tensor_Rightc1 : T fr_slices_IndexFuncLLJuint32_uint32J__tensor_Rightc1 → TH hr_slices_IndexFuncLLJuint32_uint32J__tensor_Rightc1 → (Int) × ((Int × Int × Int × List Int × Unit) × Unit) := Prod.mk
def out_slices_IndexFuncLLJuint32_uint32J__tensor_Rightc1 : (Int) × ((Int × Int × Int × List Int × Unit) × Unit) → T fr_slices_IndexFuncLLJuint32_uint32J__tensor_Rightc1 × TH hr_slices_IndexFuncLLJuint32_uint32J__tensor_Rightc1 := id
noncomputable def F_slices_IndexFuncLLJuint32_uint32J__tensor_Rightc1 (a0 : List Int) (a1 : Int × Int × Int × List Int × Unit) : Option ((Int) × ((Int × Int × Int × List Int × Unit) × Unit)) :=
  let x0 : Int := a1.2.2.1
  let x1 : List Int := a1.2.2.2.1
  ((lim st_slices_IndexFuncLLJuint32_uint32J__tensor_Rightc1_0 (((List.take (List.length a0) a0), ((((List.length a0) : Nat) : Int), ((0:Int), ()))), ((a1.1, (a1.2.1, (x0, ((List.take (List.length x1) x1), ())))), ())))).bind fun r2 =>
  els (fun l3 =>
    let x5 : Int := l3.2.1.1
    let x6 : Int := l3.2.1.2.1
    let x7 : Int := l3.2.1.2.2.1
    let x8 : List Int := l3.2.1.2.2.2.1
    (some ((-(1:Int)), ((x5, (x6, (x7, ((List.take (List.length x8) x8), ())))), ())))) (fun r4 =>
    let x9 : Int := r4.2.1.1
    let x10 : Int := r4.2.1.2.1
    let x11 : Int := r4.2.1.2.2.1
    let x12 : List Int := r4.2.1.2.2.2.1
    (some (r4.1.1, ((x9, (x10, (x11, ((List.take (List.length x12) x12), ())))), ())))) r2
noncomputable def G_slices_IndexFuncLLJuint32_uint32J__tensor_Rightc1 : T fa_slices_IndexFuncLLJuint32_uint32J__tensor_Rightc1 → TH ha_slices_IndexFuncLLJuint32_uint32J__tensor_Rightc1 → Option ((Int) × ((Int × Int × Int × List Int × Unit) × Unit)) := fun x y => F_slices_IndexFuncLLJuint32_uint32J__tensor_Rightc1 x.1 y.1
noncomputable def c_slices_IndexFuncLLJuint32_uint32J__tensor_Rightc1 : Orc := ent i_slices_IndexFuncLLJuint32_uint32J [false, true] 0 (sp fa_slices_IndexFuncLLJuint32_uint32J__tensor_Rightc1 ha_slices_IndexFuncLLJuint32_uint32J__tensor_Rightc1 fr_slices_IndexFuncLLJuint32_uint32J__tensor_Rightc1 hr_slices_IndexFuncLLJuint32_uint32J__tensor_Rightc1 G_slices_IndexFuncLLJuint32_uint32J__tensor_Rightc1 out_slices_IndexFuncLLJuint32_uint32J__tensor_Rightc1)
theorem ok_slices_IndexFuncLLJuint32_uint32J__tensor_Rightc1 : OrcOk PR c_slices_IndexFuncLLJuint32_uint32J__tensor_Rightc1 := fnT okO_slices_IndexFuncLLJuint32_uint32J__tensor_Rightc1 mixed p_slices_IndexFuncLLJuint32_uint32J (by kernel_rfl) (by kernel_rfl) (L := L_slices_IndexFuncLLJuint32_uint32J__tensor_Rightc1) (kp := false) (by kernel_rfl) (inn := inn_slices_IndexFuncLLJuint32_uint32J__tensor_Rightc1) (out := out_slices_IndexFuncLLJuint32_uint32J__tensor_Rightc1) (fun _ _ => rfl) (loopsL (l := [((lpN f_slices_IndexFuncLLJuint32_uint32J 0), ls_slices_IndexFuncLLJuint32_uint32J__tensor_Rightc1_0)]) (by kernel_rfl) ⟨lp_slices_IndexFuncLLJuint32_uint32J__tensor_Rightc1_0, trivial⟩) (fun x y => by kernel_rfl)
noncomputable def O_slices_ContainsFuncLLJuint32_uint32J__tensor_Rightc1 : Orc := c_slices_IndexFuncLLJuint32_uint32J__tensor_Rightc1
theorem okO_slices_ContainsFuncLLJuint32_uint32J__tensor_Rightc1 : OrcOk PR O_slices_ContainsFuncLLJuint32_uint32J__tensor_Rightc1 := ok_slices_IndexFuncLLJuint32_uint32J__tensor_Rightc1
abbrev fa_slices_ContainsFuncLLJuint32_uint32J__tensor_Rightc1 : Fm := (.pair (.si .u32) (.pair (.fn i_tensor_Rightc1 (.pair (.ref 0 1 0) .unit)) .unit))
abbrev ha_slices_ContainsFuncLLJuint32_uint32J__tensor_Rightc1 : List BF := [(.list 1 y_api_Tensor true (.pair (.i .i64) (.pair (.i .i64) (.pair (.i .i64) (.pair (.si .u32) .unit)))))]
abbrev fr_slices_ContainsFuncLLJuint32_uint32J__tensor_Rightc1 : Fm := .b
abbrev hr_slices_ContainsFuncLLJuint32_uint32J__tensor_Rightc1 : List BF := [(.list 1 y_api_Tensor true (.pair (.i .i64) (.pair (.i .i64) (.pair (.i .i64) (.pair (.si .u32) .unit)))))]
noncomputable def L_slices_ContainsFuncLLJuint32_uint32J__tensor_Rightc1 : Lps := L0
def inn_slices_ContainsFuncLLJuint32_uint32J__tensor_Rightc1 : T fr_slices_ContainsFuncLLJuint32_uint32J__tensor_Rightc1 → TH hr_slices_ContainsFuncLLJuint32_uint32J__tensor_Rightc1 → (Bool) × ((Int × Int × Int × List Int × Unit) × Unit) := Prod.mk
def out_slices_ContainsFuncLLJuint32_uint32J__tensor_Rightc1 : (Bool) × ((Int × Int × Int × List Int × Unit) × Unit) → T fr_slices_ContainsFuncLLJuint32_uint32J__tensor_Rightc1 × TH hr_slices_ContainsFuncLLJuint32_uint32J__tensor_Rightc1 := id
noncomputable def F_slices_ContainsFuncLLJuint32_uint32J__tensor_Rightc1 (a0 : List Int) (a1 : Int × Int × Int × List Int × Unit) : Option ((Bool) × ((Int × Int × Int × List Int × Unit) × Unit)) :=
  let x0 : Int := a1.2.2.1
  let x1 : List Int := a1.2.2.2.1
  ((F_slices_IndexFuncLLJuint32_uint32J__tensor_Rightc1 (List.take (List.length a0) a0) (a1.1, (a1.2.1, (x0, ((List.take (List.length x1) x1), ())))))).bind fun r2 =>
  let x3 : List Int := r2.2.1.2.2.2.1
  (some ((decide (r2.1 ≥ (0:Int))), ((r2.2.1.1, (r2.2.1.2.1, (r2.2.1.2.2.1, ((List.take (List.length x3) x3), ())))), ())))
noncomputable def G_slices_ContainsFuncLLJuint32_uint32J__tensor_Rightc1 : T fa_slices_ContainsFuncLLJuint32_uint32J__tensor_Rightc1 → TH ha_slices_ContainsFuncLLJuint32_uint32J__tensor_Rightc1 → Option ((Bool) × ((Int × Int × Int × List Int × Unit) × Unit)) := fun x y => F_slices_ContainsFuncLLJuint32_uint32J__tensor_Rightc1 x.1 y.1
noncomputable def c_slices_ContainsFuncLLJuint32_uint32J__tensor_Rightc1 : Orc := ent i_slices_ContainsFuncLLJuint32_uint32J [false, true] 0 (sp fa_slices_ContainsFuncLLJuint32_uint32J__tensor_Rightc1 ha_slices_ContainsFuncLLJuint32_uint32J__tensor_Rightc1 fr_slices_ContainsFuncLLJuint32_uint32J__tensor_Rightc1 hr_slices_ContainsFuncLLJuint32_uint32J__tensor_Rightc1 G_slices_ContainsFuncLLJuint32_uint32J__tensor_Rightc1 out_slices_ContainsFuncLLJuint32_uint32J__tensor_Rightc1)
theorem ok_slices_ContainsFuncLLJuint32_uint32J__tensor_Rightc1 : OrcOk PR c_slices_ContainsFuncLLJuint32_uint32J__tensor_Rightc1 := fnT okO_slices_ContainsFuncLLJuint32_uint32J__tensor_Rightc1 mixed p_slices_ContainsFuncLLJuint32_uint32J (by kernel_rfl) (by kernel_rfl) (L := L_slices_ContainsFuncLLJuint32_uint32J__tensor_Rightc1) (kp := false) (by kernel_rfl) (inn := inn_slices_ContainsFuncLLJuint32_uint32J__tensor_Rightc1) (out := out_slices_ContainsFuncLLJuint32_uint32J__tensor_Rightc1) (fun _ _ => rfl) (loopsL (l := []) (by kernel_rfl) trivial) (fun x y => by kernel_rfl)
noncomputable def O_tensor_Right : Orc := (orm c_tensor_known (orm c_slices_ContainsFuncLLJuint32_uint32J__tensor_Rightc1 c_tensor_Rightc1))
theorem okO_tensor_Right : OrcOk PR O_tensor_Right := (orm_ok ok_tensor_known (orm_ok ok_slices_ContainsFuncLLJuint32_uint32J__tensor_Rightc1 ok_tensor_Rightc1))
abbrev fa_tensor_Right : Fm := (.pair (.agg (.pair (.i .i64) (.pair (.i .i64) (.pair (.i .i64) (.pair (.si .u32) .unit))))) .unit)
abbrev ha_tensor_Right : List BF := []
abbrev fr_tensor_Right : Fm := .b
abbrev hr_tensor_Right : List BF := []
noncomputable def L_tensor_Right : Lps := L0
def inn_tensor_Right : T fr_tensor_Right → TH hr_tensor_Right → Bool := (fun z w => z)
def out_tensor_Right : Bool → T fr_tensor_Right × TH hr_tensor_Right := fun r => (r, ())
noncomputable def F_tensor_Right (a0 : Int × Int × Int × List Int × Unit) : Option (Bool) :=
  let x0 : Int := a0.2.2.1
  let x1 : List Int := a0.2.2.2.1
  let x2 : Nat := (List.length x1)
  let x3 : List Int := (List.take x2 x1)
  bif (decide (a0.1 < (0:Int))) then
    (some false)
  else
    bif (decide (a0.1 > (4096:Int))) then
      (some false)
    else
      bif (decide (a0.2.1 < (0:Int))) then
        (some false)
      else
        bif (decide (a0.2.1 > (4096:Int))) then
          (some false)
        else
          ((F_tensor_known x0)).bind fun r4 =>
          bif (!r4) then
            (some false)
          else
            bif (((x2 : Nat) : Int) != (IntKind.wrap .i64 (a0.1 * a0.2.1))) then
              (some false)
            else
              ((F_slices_ContainsFuncLLJuint32_uint32J__tensor_Rightc1 x3 (a0.1, (a0.2.1, (x0, (x3, ())))))).bind fun r5 =>
              (some (!r5.1))
noncomputable def G_tensor_Right : T fa_tensor_Right → TH ha_tensor_Right → Option (Bool) := fun x y => F_tensor_Right x.1
noncomputable def c_tensor_Right : Orc := ent i_tensor_Right [] 0 (sp fa_tensor_Right ha_tensor_Right fr_tensor_Right hr_tensor_Right G_tensor_Right out_tensor_Right)
theorem ok_tensor_Right : OrcOk PR c_tensor_Right := fnT okO_tensor_Right mixed p_tensor_Right (by kernel_rfl) (by kernel_rfl) (L := L_tensor_Right) (kp := false) (by kernel_rfl) (inn := inn_tensor_Right) (out := out_tensor_Right) (fun _ _ => rfl) (loopsL (l := []) (by kernel_rfl) trivial) (fun x y => by kernel_rfl)
noncomputable def O_kern_Widec1 : Orc := c_conv_Widen
theorem okO_kern_Widec1 : OrcOk PR O_kern_Widec1 := ok_conv_Widen
abbrev fa_kern_Widec1 : Fm := (.pair (.i .i64) (.pair (.i .u32) (.cst (.ref 0 1 0) .unit)))
abbrev ha_kern_Widec1 : List BF := [(.list 1 y_api_Tensor true (.pair (.i .i64) (.pair (.i .i64) (.pair (.i .i64) (.pair (.si .u32) .unit)))))]
abbrev fr_kern_Widec1 : Fm := (.i .u32)
abbrev hr_kern_Widec1 : List BF := [(.list 1 y_api_Tensor true (.pair (.i .i64) (.pair (.i .i64) (.pair (.i .i64) (.pair (.si .u32) .unit)))))]
noncomputable def L_kern_Widec1 : Lps := L0
def inn_kern_Widec1 : T fr_kern_Widec1 → TH hr_kern_Widec1 → (Int) × ((Int × Int × Int × List Int × Unit) × Unit) := Prod.mk
def out_kern_Widec1 : (Int) × ((Int × Int × Int × List Int × Unit) × Unit) → T fr_kern_Widec1 × TH hr_kern_Widec1 := id
noncomputable def F_kern_Widec1 (a0 : Int) (a1 : Int) (a2 : Int × Int × Int × List Int × Unit) : Option ((Int) × ((Int × Int × Int × List Int × Unit) × Unit)) :=
  let x0 : Int := a2.2.2.1
  let x1 : List Int := a2.2.2.2.1
  ((F_conv_Widen x0 a1)).bind fun r2 =>
  (some (r2, ((a2.1, (a2.2.1, (x0, ((List.take (List.length x1) x1), ())))), ())))
noncomputable def G_kern_Widec1 : T fa_kern_Widec1 → TH ha_kern_Widec1 → Option ((Int) × ((Int × Int × Int × List Int × Unit) × Unit)) := fun x y => F_kern_Widec1 x.1 x.2.1 y.1
noncomputable def c_kern_Widec1 : Orc := ent i_kern_Widec1 [false, false, true] 0 (sp fa_kern_Widec1 ha_kern_Widec1 fr_kern_Widec1 hr_kern_Widec1 G_kern_Widec1 out_kern_Widec1)
theorem ok_kern_Widec1 : OrcOk PR c_kern_Widec1 := fnT okO_kern_Widec1 mixed p_kern_Widec1 (by kernel_rfl) (by kernel_rfl) (L := L_kern_Widec1) (kp := false) (by kernel_rfl) (inn := inn_kern_Widec1) (out := out_kern_Widec1) (fun _ _ => rfl) (loopsL (l := []) (by kernel_rfl) trivial) (fun x y => by kernel_rfl)
noncomputable def O_tensor_Each__kern_Widec1 : Orc := c_kern_Widec1
theorem okO_tensor_Each__kern_Widec1 : OrcOk PR O_tensor_Each__kern_Widec1 := ok_kern_Widec1
abbrev fa_tensor_Each__kern_Widec1 : Fm := (.pair (.agg (.pair (.i .i64) (.pair (.i .i64) (.pair (.i .i64) (.pair (.si .u32) .unit))))) (.pair (.i .i64) (.pair (.fn i_kern_Widec1 (.pair (.ref 0 1 0) .unit)) .unit)))
abbrev ha_tensor_Each__kern_Widec1 : List BF := [(.list 1 y_api_Tensor true (.pair (.i .i64) (.pair (.i .i64) (.pair (.i .i64) (.pair (.si .u32) .unit)))))]
abbrev fr_tensor_Each__kern_Widec1 : Fm := (.agg (.pair (.i .i64) (.pair (.i .i64) (.pair (.i .i64) (.pair (.si .u32) .unit)))))
abbrev hr_tensor_Each__kern_Widec1 : List BF := [(.list 1 y_api_Tensor true (.pair (.i .i64) (.pair (.i .i64) (.pair (.i .i64) (.pair (.si .u32) .unit)))))]
abbrev ff_tensor_Each__kern_Widec1_0 : Fm := (.us 2 (.cst (.fn i_kern_Widec1 (.cst (.ref 0 1 0) .unit)) (.us 3 (.cst (.ref 1 1 0) (.cst (.ref 2 1 0) (.us 13 (.pair (.si .u32) (.pair (.i .i64) (.pair (.i .i64) (.us 14 .unit))))))))))
abbrev hf_tensor_Each__kern_Widec1_0 : List BF := [(.list 1 y_api_Tensor true (.pair (.i .i64) (.pair (.i .i64) (.pair (.i .i64) (.pair (.si .u32) .unit))))), (.list 1 y_api_Tensor true (.pair (.i .i64) (.pair (.i .i64) (.pair (.i .i64) (.cst .nils .unit))))), (.list 1 y_api_Tensor true (.pair (.i .i64) (.pair (.i .i64) (.pair (.i .i64) (.pair (.own 3 1 0 1) .unit))))), (.ints 1 y_uint32 true .u32)]
abbrev X_tensor_Each__kern_Widec1_0 : Xs := (.one (.exit 0) [6, 7] (.us 6 (.cst (.ref 1 1 0) (.cst (.ref 2 1 0) (.us 30 .unit)))) [(.list 1 y_api_Tensor true (.pair (.i .i64) (.pair (.i .i64) (.pair (.i .i64) (.pair (.si .u32) .unit))))), (.list 1 y_api_Tensor true (.pair (.i .i64) (.pair (.i .i64) (.pair (.i .i64) (.cst .nils .unit))))), (.list 1 y_api_Tensor true (.pair (.i .i64) (.pair (.i .i64) (.pair (.i .i64) (.pair (.own 3 1 0 1) .unit))))), (.ints 1 y_uint32 true .u32)])
abbrev S_tensor_Each__kern_Widec1_0 : Type := T ff_tensor_Each__kern_Widec1_0 × TH hf_tensor_Each__kern_Widec1_0
abbrev E_tensor_Each__kern_Widec1_0 : Type := TX X_tensor_Each__kern_Widec1_0
noncomputable def LB_tensor_Each__kern_Widec1_0 : Lps := L0
noncomputable def st_tensor_Each__kern_Widec1_0 : StepT S_tensor_Each__kern_Widec1_0 E_tensor_Each__kern_Widec1_0 := fun R v kn ko =>
  let x0 : Int := v.1.2.2.1
  let x1 : List Int := v.1.1
  let x2 : Nat := (Int.toNat x0)
  let x3 : List Int := v.2.1.2.2.2.1
  bif (decide (x0 < v.1.2.1)) then
    bif (decide (((0:Int) ≤ x0) ∧ (x0 < (((List.length x1) : Nat) : Int)))) then
      ((F_kern_Widec1 x0 (List.getD x1 x2 (0:Int)) (v.2.1.1, (v.2.1.2.1, (v.2.1.2.2.1, ((List.take (List.length x3) x3), ())))))).bind fun r4 =>
      let x5 : List Int := r4.2.1.2.2.2.1
      bif (decide (((0:Int) ≤ x0) ∧ (x0 < ((v.2.2.2.1.2.2.2.1 : Nat) : Int)))) then
        bif (decide (((0:Nat) + (x2 * (1:Nat))) < (List.length v.2.2.2.2.1))) then
          (kn (((List.take (List.length x1) x1), (v.1.2.1, ((IntKind.wrap .i64 (x0 + (1:Int))), ()))), ((r4.2.1.1, (r4.2.1.2.1, (r4.2.1.2.2.1, ((List.take (List.length x5) x5), ())))), (v.2.2.1, (v.2.2.2.1, ((List.set v.2.2.2.2.1 ((0:Nat) + (x2 * (1:Nat))) r4.1), ()))))))
        else
          none
      else
        none
    else
      none
  else
    (ko ((), ((v.2.1.1, (v.2.1.2.1, (v.2.1.2.2.1, ((List.take (List.length x3) x3), ())))), v.2.2)))
noncomputable def ls_tensor_Each__kern_Widec1_0 : St → LTr := (lsum ff_tensor_Each__kern_Widec1_0 hf_tensor_Each__kern_Widec1_0 X_tensor_Each__kern_Widec1_0 Prod.mk id st_tensor_Each__kern_Widec1_0 (hd [] [] [2, 6, 7, 21, 22, 23] 1))
theorem lp_tensor_Each__kern_Widec1_0 : LoopOk PR 1 (lpN f_tensor_Each 0) ls_tensor_Each__kern_Widec1_0 := loopT okO_tensor_Each__kern_Widec1 mixed (L := LB_tensor_Each__kern_Widec1_0) (d := 1) (bs := []) (ks := [2, 6, 7, 21, 22, 23]) (loopsL (l := []) (by kernel_rfl) trivial) (by kernel_rfl) (inS := Prod.mk) (outS := id) (fun _ _ => rfl) (inX := id) (outX := id) (fun _ => rfl) (fun v R kn ko => by kernel_rfl) (hd_wk [] [] [2, 6, 7, 21, 22, 23] 1)
noncomputable def L_tensor_Each__kern_Widec1 : Lps := (lpB 4 (.by_ ls_tensor_Each__kern_Widec1_0) L0)
def inn_tensor_Each__kern_Widec1 : T fr_tensor_Each__kern_Widec1 → TH hr_tensor_Each__kern_Widec1 → (Int × Int × Int × List Int × Unit) × ((Int × Int × Int × List Int × Unit) × Unit) := Prod.mk
def out_tensor_Each__kern_Widec1 : (Int × Int × Int × List Int × Unit) × ((Int × Int × Int × List Int × Unit) × Unit) → T fr_tensor_Each__kern_Widec1 × TH hr_tensor_Each__kern_Widec1 := id
noncomputable def F_tensor_Each__kern_Widec1 (a0 : Int × Int × Int × List Int × Unit) (a1 : Int) (a2 : Int × Int × Int × List Int × Unit) : Option ((Int × Int × Int × List Int × Unit) × ((Int × Int × Int × List Int × Unit) × Unit)) :=
  let x0 : List Int := a0.2.2.2.1
  let x1 : Nat := (List.length x0)
  let x2 : Int := ((x1 : Nat) : Int)
  let x3 : Int := a2.2.2.1
  let x4 : List Int := a2.2.2.2.1
  let x5 : Nat := (Int.toNat x2)
  bif (decide (((0:Int) ≤ x2) ∧ (x2 ≤ (1073741824:Int)))) then
    ((lim st_tensor_Each__kern_Widec1_0 (((List.take x1 x0), (x2, ((0:Int), ()))), ((a2.1, (a2.2.1, (x3, ((List.take (List.length x4) x4), ())))), (((0:Int), ((0:Int), ((0:Int), ()))), ((a0.1, (a0.2.1, (a1, (x5, ())))), ((List.replicate x5 (0:Int)), ()))))))).bind fun r6 =>
    let x7 : List Int := r6.2.1.2.2.2.1
    (some ((r6.2.2.2.1.1, (r6.2.2.2.1.2.1, (r6.2.2.2.1.2.2.1, ((List.take r6.2.2.2.1.2.2.2.1 (List.drop (0:Nat) r6.2.2.2.2.1)), ())))), ((r6.2.1.1, (r6.2.1.2.1, (r6.2.1.2.2.1, ((List.take (List.length x7) x7), ())))), ())))
  else
    none
noncomputable def G_tensor_Each__kern_Widec1 : T fa_tensor_Each__kern_Widec1 → TH ha_tensor_Each__kern_Widec1 → Option ((Int × Int × Int × List Int × Unit) × ((Int × Int × Int × List Int × Unit) × Unit)) := fun x y => F_tensor_Each__kern_Widec1 x.1 x.2.1 y.1
noncomputable def c_tensor_Each__kern_Widec1 : Orc := ent i_tensor_Each [false, false, true] 0 (sp fa_tensor_Each__kern_Widec1 ha_tensor_Each__kern_Widec1 fr_tensor_Each__kern_Widec1 hr_tensor_Each__kern_Widec1 G_tensor_Each__kern_Widec1 out_tensor_Each__kern_Widec1)
theorem ok_tensor_Each__kern_Widec1 : OrcOk PR c_tensor_Each__kern_Widec1 := fnT okO_tensor_Each__kern_Widec1 mixed p_tensor_Each (by kernel_rfl) (by kernel_rfl) (L := L_tensor_Each__kern_Widec1) (kp := false) (by kernel_rfl) (inn := inn_tensor_Each__kern_Widec1) (out := out_tensor_Each__kern_Widec1) (fun _ _ => rfl) (loopsL (l := [((lpN f_tensor_Each 0), ls_tensor_Each__kern_Widec1_0)]) (by kernel_rfl) ⟨lp_tensor_Each__kern_Widec1_0, trivial⟩) (fun x y => by kernel_rfl)
noncomputable def O_kern_Wide : Orc := (orm c_tensor_Right (orm c_tensor_Each__kern_Widec1 c_kern_Widec1))
theorem okO_kern_Wide : OrcOk PR O_kern_Wide := (orm_ok ok_tensor_Right (orm_ok ok_tensor_Each__kern_Widec1 ok_kern_Widec1))
abbrev fa_kern_Wide : Fm := (.pair (.agg (.pair (.i .i64) (.pair (.i .i64) (.pair (.i .i64) (.pair (.si .u32) .unit))))) .unit)
abbrev ha_kern_Wide : List BF := []
abbrev fr_kern_Wide : Fm := (.tup (.pair (.agg (.pair (.i .i64) (.pair (.i .i64) (.pair (.i .i64) (.pair (.si .u32) .unit))))) (.pair (.i .i64) .unit)))
abbrev hr_kern_Wide : List BF := []
noncomputable def L_kern_Wide : Lps := L0
def inn_kern_Wide : T fr_kern_Wide → TH hr_kern_Wide → (Int × Int × Int × List Int × Unit) × Int × Unit := (fun z w => z)
def out_kern_Wide : (Int × Int × Int × List Int × Unit) × Int × Unit → T fr_kern_Wide × TH hr_kern_Wide := fun r => (r, ())
noncomputable def F_kern_Wide (a0 : Int × Int × Int × List Int × Unit) : Option ((Int × Int × Int × List Int × Unit) × Int × Unit) :=
  let x0 : Int := a0.2.2.1
  let x1 : List Int := a0.2.2.2.1
  ((F_tensor_Right (a0.1, (a0.2.1, (x0, ((List.take (List.length x1) x1), ())))))).bind fun r2 =>
  bif (!r2) then
    (some (((0:Int), ((0:Int), ((0:Int), ([], ())))), ((21:Int), ())))
  else
    ((F_tensor_Each__kern_Widec1 (a0.1, (a0.2.1, (x0, ((List.take (List.length x1) x1), ())))) (2:Int) (a0.1, (a0.2.1, (x0, ((List.take (List.length x1) x1), ())))))).bind fun r3 =>
    let x4 : List Int := r3.1.2.2.2.1
    (some ((r3.1.1, (r3.1.2.1, (r3.1.2.2.1, ((List.take (List.length x4) x4), ())))), ((0:Int), ())))
noncomputable def G_kern_Wide : T fa_kern_Wide → TH ha_kern_Wide → Option ((Int × Int × Int × List Int × Unit) × Int × Unit) := fun x y => F_kern_Wide x.1
noncomputable def c_kern_Wide : Orc := ent i_kern_Wide [] 0 (sp fa_kern_Wide ha_kern_Wide fr_kern_Wide hr_kern_Wide G_kern_Wide out_kern_Wide)
theorem ok_kern_Wide : OrcOk PR c_kern_Wide := fnT okO_kern_Wide mixed p_kern_Wide (by kernel_rfl) (by kernel_rfl) (L := L_kern_Wide) (kp := false) (by kernel_rfl) (inn := inn_kern_Wide) (out := out_kern_Wide) (fun _ _ => rfl) (loopsL (l := []) (by kernel_rfl) trivial) (fun x y => by kernel_rfl)
noncomputable def O_kern_both : Orc := c_kern_Wide
theorem okO_kern_both : OrcOk PR O_kern_both := ok_kern_Wide
abbrev fa_kern_both : Fm := (.pair (.agg (.pair (.i .i64) (.pair (.i .i64) (.pair (.i .i64) (.pair (.si .u32) .unit))))) (.pair (.agg (.pair (.i .i64) (.pair (.i .i64) (.pair (.i .i64) (.pair (.si .u32) .unit))))) .unit))
abbrev ha_kern_both : List BF := []
abbrev fr_kern_both : Fm := (.tup (.pair (.agg (.pair (.i .i64) (.pair (.i .i64) (.pair (.i .i64) (.pair (.si .u32) .unit))))) (.pair (.agg (.pair (.i .i64) (.pair (.i .i64) (.pair (.i .i64) (.pair (.si .u32) .unit))))) (.pair .b .unit))))
abbrev hr_kern_both : List BF := []
noncomputable def L_kern_both : Lps := L0
def inn_kern_both : T fr_kern_both → TH hr_kern_both → (Int × Int × Int × List Int × Unit) × (Int × Int × Int × List Int × Unit) × Bool × Unit := (fun z w => z)
def out_kern_both : (Int × Int × Int × List Int × Unit) × (Int × Int × Int × List Int × Unit) × Bool × Unit → T fr_kern_both × TH hr_kern_both := fun r => (r, ())
noncomputable def F_kern_both (a0 : Int × Int × Int × List Int × Unit) (a1 : Int × Int × Int × List Int × Unit) : Option ((Int × Int × Int × List Int × Unit) × (Int × Int × Int × List Int × Unit) × Bool × Unit) :=
  let x0 : Int := a0.2.2.1
  let x1 : List Int := a0.2.2.2.1
  let x2 : Int := a1.2.2.1
  let x3 : List Int := a1.2.2.2.1
  ((F_kern_Wide (a0.1, (a0.2.1, (x0, ((List.take (List.length x1) x1), ())))))).bind fun r4 =>
  let x5 : Int := r4.1.2.1
  let x6 : Int := r4.1.2.2.1
  let x7 : List Int := r4.1.2.2.2.1
  ((F_kern_Wide (a1.1, (a1.2.1, (x2, ((List.take (List.length x3) x3), ())))))).bind fun r8 =>
  let x9 : Int := r8.1.2.1
  let x10 : Int := r8.1.2.2.1
  let x11 : List Int := r8.1.2.2.2.1
  bif (r4.2.1 == (0:Int)) then
    (some ((r4.1.1, (x5, (x6, ((List.take (List.length x7) x7), ())))), ((r8.1.1, (x9, (x10, ((List.take (List.length x11) x11), ())))), ((r8.2.1 == (0:Int)), ()))))
  else
    (some ((r4.1.1, (x5, (x6, ((List.take (List.length x7) x7), ())))), ((r8.1.1, (x9, (x10, ((List.take (List.length x11) x11), ())))), (false, ()))))
noncomputable def G_kern_both : T fa_kern_both → TH ha_kern_both → Option ((Int × Int × Int × List Int × Unit) × (Int × Int × Int × List Int × Unit) × Bool × Unit) := fun x y => F_kern_both x.1 x.2.1
noncomputable def c_kern_both : Orc := ent i_kern_both [] 0 (sp fa_kern_both ha_kern_both fr_kern_both hr_kern_both G_kern_both out_kern_both)
theorem ok_kern_both : OrcOk PR c_kern_both := fnT okO_kern_both mixed p_kern_both (by kernel_rfl) (by kernel_rfl) (L := L_kern_both) (kp := false) (by kernel_rfl) (inn := inn_kern_both) (out := out_kern_both) (fun _ _ => rfl) (loopsL (l := []) (by kernel_rfl) trivial) (fun x y => by kernel_rfl)
noncomputable def O_kern_line : Orc := orn
theorem okO_kern_line : OrcOk PR O_kern_line := (orn_ok _)
abbrev fa_kern_line : Fm := (.pair (.agg (.pair (.i .i64) (.pair (.i .i64) (.pair (.i .i64) (.pair (.si .u32) .unit))))) (.pair (.i .i64) .unit))
abbrev ha_kern_line : List BF := []
abbrev fr_kern_line : Fm := (.si .u32)
abbrev hr_kern_line : List BF := []
noncomputable def L_kern_line : Lps := L0
def inn_kern_line : T fr_kern_line → TH hr_kern_line → List Int := (fun z w => z)
def out_kern_line : List Int → T fr_kern_line × TH hr_kern_line := fun r => (r, ())
noncomputable def F_kern_line (a0 : Int × Int × Int × List Int × Unit) (a1 : Int) : Option (List Int) :=
  let x0 : Nat := (Int.toNat (IntKind.wrap .i64 (a1 * a0.2.1)))
  let x1 : Nat := ((Int.toNat (IntKind.wrap .i64 ((IntKind.wrap .i64 (a1 + (1:Int))) * a0.2.1))) - x0)
  let x2 : List Int := a0.2.2.2.1
  bif (decide (((0:Int) ≤ (IntKind.wrap .i64 (a1 * a0.2.1))) ∧ (((IntKind.wrap .i64 (a1 * a0.2.1)) ≤ (IntKind.wrap .i64 ((IntKind.wrap .i64 (a1 + (1:Int))) * a0.2.1))) ∧ ((IntKind.wrap .i64 ((IntKind.wrap .i64 (a1 + (1:Int))) * a0.2.1)) ≤ (((List.length x2) : Nat) : Int))))) then
    (some (List.take x1 (List.take x1 (List.drop x0 x2))))
  else
    none
noncomputable def G_kern_line : T fa_kern_line → TH ha_kern_line → Option (List Int) := fun x y => F_kern_line x.1 x.2.1
noncomputable def c_kern_line : Orc := ent i_kern_line [] 0 (sp fa_kern_line ha_kern_line fr_kern_line hr_kern_line G_kern_line out_kern_line)
theorem ok_kern_line : OrcOk PR c_kern_line := fnT okO_kern_line mixed p_kern_line (by kernel_rfl) (by kernel_rfl) (L := L_kern_line) (kp := false) (by kernel_rfl) (inn := inn_kern_line) (out := out_kern_line) (fun _ _ => rfl) (loopsL (l := []) (by kernel_rfl) trivial) (fun x y => by kernel_rfl)
noncomputable def O_kern_Dot : Orc := c_funcs_Fma
theorem okO_kern_Dot : OrcOk PR O_kern_Dot := ok_funcs_Fma
abbrev fa_kern_Dot : Fm := (.pair (.si .u32) (.pair (.si .u32) .unit))
abbrev ha_kern_Dot : List BF := []
abbrev fr_kern_Dot : Fm := (.tup (.pair (.i .u32) (.pair (.i .i64) .unit)))
abbrev hr_kern_Dot : List BF := []
abbrev ff_kern_Dot_0 : Fm := (.us 1 (.pair (.si .u32) (.us 4 (.pair (.i .u32) (.us 7 (.pair (.si .u32) (.pair (.i .i64) (.pair (.i .i64) (.us 13 .unit)))))))))
abbrev hf_kern_Dot_0 : List BF := []
abbrev X_kern_Dot_0 : Xs := (.one (.exit 0) [6] (.us 6 (.pair (.i .u32) (.us 23 .unit))) [])
abbrev S_kern_Dot_0 : Type := T ff_kern_Dot_0 × TH hf_kern_Dot_0
abbrev E_kern_Dot_0 : Type := TX X_kern_Dot_0
noncomputable def LB_kern_Dot_0 : Lps := L0
noncomputable def st_kern_Dot_0 : StepT S_kern_Dot_0 E_kern_Dot_0 := fun R v kn ko =>
  let x0 : List Int := v.1.2.2.1
  let x1 : Int := v.1.2.2.2.2.1
  let x2 : Nat := (Int.toNat x1)
  let x3 : List Int := v.1.1
  let x4 : Int := v.1.2.1
  bif (decide (x1 < v.1.2.2.2.1)) then
    bif (decide (((0:Int) ≤ x1) ∧ (x1 < (((List.length x0) : Nat) : Int)))) then
      bif (decide (((0:Int) ≤ x1) ∧ (x1 < (((List.length x3) : Nat) : Int)))) then
        ((F_funcs_Fma (List.getD x0 x2 (0:Int)) (List.getD x3 x2 (0:Int)) x4)).bind fun r5 =>
        (kn (((List.take (List.length x3) x3), (r5, ((List.take (List.length x0) x0), (v.1.2.2.2.1, ((IntKind.wrap .i64 (x1 + (1:Int))), ()))))), ()))
      else
        none
    else
      none
  else
    (ko ((x4, ()), ()))
noncomputable def ls_kern_Dot_0 : St → LTr := (lsum ff_kern_Dot_0 hf_kern_Dot_0 X_kern_Dot_0 Prod.mk id st_kern_Dot_0 (hd [] [] [1, 6, 14, 15, 16] 0))
theorem lp_kern_Dot_0 : LoopOk PR 0 (lpN f_kern_Dot 0) ls_kern_Dot_0 := loopT okO_kern_Dot mixed (L := LB_kern_Dot_0) (d := 1) (bs := []) (ks := [1, 6, 14, 15, 16]) (loopsL (l := []) (by kernel_rfl) trivial) (by kernel_rfl) (inS := Prod.mk) (outS := id) (fun _ _ => rfl) (inX := id) (outX := id) (fun _ => rfl) (fun v R kn ko => by kernel_rfl) (hd_wk [] [] [1, 6, 14, 15, 16] 0)
noncomputable def L_kern_Dot : Lps := (lpB 6 (.by_ ls_kern_Dot_0) L0)
def inn_kern_Dot : T fr_kern_Dot → TH hr_kern_Dot → Int × Int × Unit := (fun z w => z)
def out_kern_Dot : Int × Int × Unit → T fr_kern_Dot × TH hr_kern_Dot := fun r => (r, ())
noncomputable def F_kern_Dot (a0 : List Int) (a1 : List Int) : Option (Int × Int × Unit) :=
  bif ((((List.length a0) : Nat) : Int) != (((List.length a1) : Nat) : Int)) then
    (some ((0:Int), ((21:Int), ())))
  else
    ((lim st_kern_Dot_0 (((List.take (List.length a1) a1), ((0:Int), ((List.take (List.length a0) a0), ((((List.length a0) : Nat) : Int), ((0:Int), ()))))), ()))).bind fun r0 =>
    (some (r0.1.1, ((0:Int), ())))
noncomputable def G_kern_Dot : T fa_kern_Dot → TH ha_kern_Dot → Option (Int × Int × Unit) := fun x y => F_kern_Dot x.1 x.2.1
noncomputable def c_kern_Dot : Orc := ent i_kern_Dot [] 0 (sp fa_kern_Dot ha_kern_Dot fr_kern_Dot hr_kern_Dot G_kern_Dot out_kern_Dot)
theorem ok_kern_Dot : OrcOk PR c_kern_Dot := fnT okO_kern_Dot mixed p_kern_Dot (by kernel_rfl) (by kernel_rfl) (L := L_kern_Dot) (kp := false) (by kernel_rfl) (inn := inn_kern_Dot) (out := out_kern_Dot) (fun _ _ => rfl) (loopsL (l := [((lpN f_kern_Dot 0), ls_kern_Dot_0)]) (by kernel_rfl) ⟨lp_kern_Dot_0, trivial⟩) (fun x y => by kernel_rfl)
end Go.Proofs.Ytkknnloamidaiaa.VI
