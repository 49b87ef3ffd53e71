import Derived.Test.YtkknnloamidaiaaGreatT46bc5010
namespace Go.Proofs.YtkknnloamidaiaaGreat.VI
set_option linter.unusedVariables false
set_option linter.unusedSimpArgs false
set_option maxRecDepth 100000
set_option linter.unusedSimpArgs false
set_option linter.unusedVariables false
noncomputable def O_annealref1_To : Orc := (orm c_annealref1_nans (orm c_annealref1_Nan (orm c_annealref1_inf (orm c_annealref1_neg (orm c_annealref1_Inf (orm c_annealref1_Unpack c_annealref1_Pack))))))
theorem okO_annealref1_To : OrcOk PR O_annealref1_To := (orm_ok ok_annealref1_nans (orm_ok ok_annealref1_Nan (orm_ok ok_annealref1_inf (orm_ok ok_annealref1_neg (orm_ok ok_annealref1_Inf (orm_ok ok_annealref1_Unpack ok_annealref1_Pack))))))
abbrev fa_annealref1_To : Fm := (.pair (.i .i64) (.pair (.i .i64) (.pair (.i .i64) (.pair (.i .u32) .unit))))
abbrev ha_annealref1_To : List BF := []
abbrev fr_annealref1_To : Fm := (.tup (.pair (.i .u32) (.pair (.agg (.pair .b (.pair .b (.pair .b (.pair .b (.pair .b .unit)))))) .unit)))
abbrev hr_annealref1_To : List BF := []
noncomputable def L_annealref1_To : Lps := L0
def inn_annealref1_To : T fr_annealref1_To → TH hr_annealref1_To → Int × (Bool × Bool × Bool × Bool × Bool × Unit) × Unit := (fun z w => z)
def out_annealref1_To : Int × (Bool × Bool × Bool × Bool × Bool × Unit) × Unit → T fr_annealref1_To × TH hr_annealref1_To := fun r => (r, ())
noncomputable def F_annealref1_To (a0 : Int) (a1 : Int) (a2 : Int) (a3 : Int) : Option (Int × (Bool × Bool × Bool × Bool × Bool × Unit) × Unit) :=
  ((F_annealref1_nans a0 [a3])).bind fun r0 =>
  bif r0.1 then
    ((F_annealref1_Nan a1)).bind fun r1 =>
    (some (r1, ((r0.2.1, (false, (false, (false, (false, ()))))), ())))
  else
    ((F_annealref1_inf a0 a3)).bind fun r2 =>
    bif r2 then
      ((F_annealref1_neg a0 a3)).bind fun r3 =>
      ((F_annealref1_Inf a1 r3)).bind fun r4 =>
      (some (r4, ((false, (false, (false, (false, (false, ()))))), ())))
    else
      ((F_annealref1_Unpack a0 a3)).bind fun r5 =>
      let x6 : Int := r5.2.2.1
      ((F_annealref1_Pack a1 a2 r5.1 r5.2.1 x6 false)).bind fun r7 =>
      (some r7)
noncomputable def G_annealref1_To : T fa_annealref1_To → TH ha_annealref1_To → Option (Int × (Bool × Bool × Bool × Bool × Bool × Unit) × Unit) := fun x y => F_annealref1_To x.1 x.2.1 x.2.2.1 x.2.2.2.1
noncomputable def c_annealref1_To : Orc := ent i_annealref1_To [] 0 (sp fa_annealref1_To ha_annealref1_To fr_annealref1_To hr_annealref1_To G_annealref1_To out_annealref1_To)
theorem ok_annealref1_To : OrcOk PR c_annealref1_To := fnT okO_annealref1_To mixed p_annealref1_To (by kernel_rfl) (by kernel_rfl) (L := L_annealref1_To) (kp := false) (by kernel_rfl) (inn := inn_annealref1_To) (out := out_annealref1_To) (fun _ _ => rfl) (loopsL (l := []) (by kernel_rfl) trivial) (fun x y => by kernel_rfl)
noncomputable def O_annealref1_Widen : Orc := c_annealref1_To
theorem okO_annealref1_Widen : OrcOk PR O_annealref1_Widen := ok_annealref1_To
abbrev fa_annealref1_Widen : Fm := (.pair (.i .i64) (.pair (.i .u32) .unit))
abbrev ha_annealref1_Widen : List BF := []
abbrev fr_annealref1_Widen : Fm := (.i .u32)
abbrev hr_annealref1_Widen : List BF := []
noncomputable def L_annealref1_Widen : Lps := L0
def inn_annealref1_Widen : T fr_annealref1_Widen → TH hr_annealref1_Widen → Int := (fun z w => z)
def out_annealref1_Widen : Int → T fr_annealref1_Widen × TH hr_annealref1_Widen := fun r => (r, ())
noncomputable def F_annealref1_Widen (a0 : Int) (a1 : Int) : Option (Int) :=
  ((F_annealref1_To a0 (2:Int) (0:Int) a1)).bind fun r0 =>
  (some r0.1)
noncomputable def G_annealref1_Widen : T fa_annealref1_Widen → TH ha_annealref1_Widen → Option (Int) := fun x y => F_annealref1_Widen x.1 x.2.1
noncomputable def c_annealref1_Widen : Orc := ent i_annealref1_Widen [] 0 (sp fa_annealref1_Widen ha_annealref1_Widen fr_annealref1_Widen hr_annealref1_Widen G_annealref1_Widen out_annealref1_Widen)
theorem ok_annealref1_Widen : OrcOk PR c_annealref1_Widen := fnT okO_annealref1_Widen mixed p_annealref1_Widen (by kernel_rfl) (by kernel_rfl) (L := L_annealref1_Widen) (kp := false) (by kernel_rfl) (inn := inn_annealref1_Widen) (out := out_annealref1_Widen) (fun _ _ => rfl) (loopsL (l := []) (by kernel_rfl) trivial) (fun x y => by kernel_rfl)
noncomputable def O_annealref13_wide : Orc := c_annealref1_Widen
theorem okO_annealref13_wide : OrcOk PR O_annealref13_wide := ok_annealref1_Widen
abbrev fa_annealref13_wide : Fm := (.pair (.agg (.pair (.i .i64) (.pair (.i .i64) (.pair (.i .i64) (.pair (.si .u32) .unit))))) (.pair (.i .i64) .unit))
abbrev ha_annealref13_wide : List BF := []
abbrev fr_annealref13_wide : Fm := (.i .u32)
abbrev hr_annealref13_wide : List BF := []
noncomputable def L_annealref13_wide : Lps := L0
def inn_annealref13_wide : T fr_annealref13_wide → TH hr_annealref13_wide → Int := (fun z w => z)
def out_annealref13_wide : Int → T fr_annealref13_wide × TH hr_annealref13_wide := fun r => (r, ())
noncomputable def F_annealref13_wide (a0 : Int × Int × Int × List Int × Unit) (a1 : Int) : Option (Int) :=
  let x0 : Int := a0.2.2.1
  let x1 : List Int := a0.2.2.2.1
  bif (decide (((0:Int) ≤ a1) ∧ (a1 < (((List.length x1) : Nat) : Int)))) then
    ((F_annealref1_Widen x0 (List.getD x1 (Int.toNat a1) (0:Int)))).bind fun r2 =>
    (some r2)
  else
    none
noncomputable def G_annealref13_wide : T fa_annealref13_wide → TH ha_annealref13_wide → Option (Int) := fun x y => F_annealref13_wide x.1 x.2.1
noncomputable def c_annealref13_wide : Orc := ent i_annealref13_wide [] 0 (sp fa_annealref13_wide ha_annealref13_wide fr_annealref13_wide hr_annealref13_wide G_annealref13_wide out_annealref13_wide)
theorem ok_annealref13_wide : OrcOk PR c_annealref13_wide := fnT okO_annealref13_wide mixed p_annealref13_wide (by kernel_rfl) (by kernel_rfl) (L := L_annealref13_wide) (kp := false) (by kernel_rfl) (inn := inn_annealref13_wide) (out := out_annealref13_wide) (fun _ _ => rfl) (loopsL (l := []) (by kernel_rfl) trivial) (fun x y => by kernel_rfl)
noncomputable def O_annealref13_product : Orc := (orm c_annealref13_Right (orm c_annealref13_wide c_annealref10_Fma))
theorem okO_annealref13_product : OrcOk PR O_annealref13_product := (orm_ok ok_annealref13_Right (orm_ok ok_annealref13_wide ok_annealref10_Fma))
abbrev fa_annealref13_product : Fm := (.pair (.agg (.pair (.i .i64) (.pair (.i .i64) (.pair (.i .i64) (.pair (.si .u32) .unit))))) (.pair (.agg (.pair (.i .i64) (.pair (.i .i64) (.pair (.i .i64) (.pair (.si .u32) .unit))))) (.pair .b (.pair .b .unit))))
abbrev ha_annealref13_product : List BF := []
abbrev fr_annealref13_product : Fm := (.tup (.pair (.agg (.pair (.i .i64) (.pair (.i .i64) (.pair (.i .i64) (.pair (.si .u32) .unit))))) (.pair (.i .i64) .unit)))
abbrev hr_annealref13_product : List BF := []
abbrev ff_annealref13_product_2 : Fm := (.us 2 (.pair .b (.pair .b (.cst (.ref 0 1 0) (.cst (.ref 1 1 0) (.us 2 (.cst (.ref 2 1 0) (.us 1 (.pair (.i .i64) (.pair (.i .i64) (.us 1 (.pair (.i .i64) (.cst (.ref 3 1 0) (.pair (.i .i64) (.pair (.i .i64) (.pair (.i .u32) (.pair (.i .i64) (.us 95 .unit))))))))))))))))))
abbrev hf_annealref13_product_2 : List BF := [(.list 1 y_api_Tensor true (.pair (.i .i64) (.pair (.i .i64) (.pair (.i .i64) (.pair (.si .u32) .unit))))), (.list 1 y_api_Tensor true (.pair (.i .i64) (.pair (.i .i64) (.pair (.i .i64) (.pair (.si .u32) .unit))))), (.list 1 y_api_Tensor true (.pair (.i .i64) (.pair (.i .i64) (.pair (.i .i64) (.cst .nils .unit))))), (.list 1 y_api_Tensor true (.pair (.i .i64) (.pair (.i .i64) (.pair (.i .i64) (.pair (.own 4 1 0 1) .unit))))), (.ints 1 y_uint32 true .u32)]
abbrev X_annealref13_product_2 : Xs := (.one (.exit 4) [2, 3, 4, 5, 8, 10, 11, 13, 14, 15, 16, 17] (.us 2 (.pair .b (.pair .b (.cst (.ref 0 1 0) (.cst (.ref 1 1 0) (.us 2 (.cst (.ref 2 1 0) (.us 1 (.pair (.i .i64) (.pair (.i .i64) (.us 1 (.pair (.i .i64) (.cst (.ref 3 1 0) (.pair (.i .i64) (.pair (.i .i64) (.pair (.i .u32) (.us 96 .unit))))))))))))))))) [(.list 1 y_api_Tensor true (.pair (.i .i64) (.pair (.i .i64) (.pair (.i .i64) (.pair (.si .u32) .unit))))), (.list 1 y_api_Tensor true (.pair (.i .i64) (.pair (.i .i64) (.pair (.i .i64) (.pair (.si .u32) .unit))))), (.list 1 y_api_Tensor true (.pair (.i .i64) (.pair (.i .i64) (.pair (.i .i64) (.cst .nils .unit))))), (.list 1 y_api_Tensor true (.pair (.i .i64) (.pair (.i .i64) (.pair (.i .i64) (.pair (.own 4 1 0 1) .unit))))), (.ints 1 y_uint32 true .u32)])
abbrev S_annealref13_product_2 : Type := T ff_annealref13_product_2 × TH hf_annealref13_product_2
abbrev E_annealref13_product_2 : Type := TX X_annealref13_product_2
noncomputable def LB_annealref13_product_2 : Lps := L0
noncomputable def st_annealref13_product_2 : StepT S_annealref13_product_2 E_annealref13_product_2 := fun R v kn ko =>
  let x0 : Bool := v.1.1
  let x1 : Bool := v.1.2.1
  let x2 : Int := v.2.1.2.1
  let x3 : List Int := v.2.1.2.2.2.1
  let x4 : Int := v.1.2.2.2.2.2.2.2.2.1
  let x5 : Int := v.1.2.2.2.2.2.1
  let x6 : Int := v.2.2.1.2.1
  let x7 : List Int := v.2.2.1.2.2.2.1
  let x8 : Int := v.1.2.2.2.2.2.2.1
  let x9 : Int := v.1.2.2.2.2.2.2.2.1
  let x10 : Int := v.1.2.2.1
  let x11 : Int := v.1.2.2.2.1
  let x12 : Int := v.1.2.2.2.2.1
  bif (decide (x4 < x11)) then
    bif x0 then
      bif x1 then
        ((F_annealref13_wide (v.2.1.1, (x2, (v.2.1.2.2.1, ((List.take (List.length x3) x3), ())))) (IntKind.wrap .i64 ((IntKind.wrap .i64 (x4 * x2)) + x5)))).bind fun r13 =>
        ((F_annealref13_wide (v.2.2.1.1, (x6, (v.2.2.1.2.2.1, ((List.take (List.length x7) x7), ())))) (IntKind.wrap .i64 ((IntKind.wrap .i64 (x8 * x6)) + x4)))).bind fun r14 =>
        ((F_annealref10_Fma r13 r14 x9)).bind fun r15 =>
        (kn ((x0, (x1, (x10, (x11, (x12, (x5, (x8, (r15, ((IntKind.wrap .i64 (x4 + (1:Int))), ()))))))))), ((v.2.1.1, (x2, (v.2.1.2.2.1, ((List.take (List.length x3) x3), ())))), ((v.2.2.1.1, (x6, (v.2.2.1.2.2.1, ((List.take (List.length x7) x7), ())))), v.2.2.2))))
      else
        ((F_annealref13_wide (v.2.1.1, (x2, (v.2.1.2.2.1, ((List.take (List.length x3) x3), ())))) (IntKind.wrap .i64 ((IntKind.wrap .i64 (x4 * x2)) + x5)))).bind fun r16 =>
        ((F_annealref13_wide (v.2.2.1.1, (x6, (v.2.2.1.2.2.1, ((List.take (List.length x7) x7), ())))) (IntKind.wrap .i64 ((IntKind.wrap .i64 (x4 * x6)) + x8)))).bind fun r17 =>
        ((F_annealref10_Fma r16 r17 x9)).bind fun r18 =>
        (kn ((x0, (x1, (x10, (x11, (x12, (x5, (x8, (r18, ((IntKind.wrap .i64 (x4 + (1:Int))), ()))))))))), ((v.2.1.1, (x2, (v.2.1.2.2.1, ((List.take (List.length x3) x3), ())))), ((v.2.2.1.1, (x6, (v.2.2.1.2.2.1, ((List.take (List.length x7) x7), ())))), v.2.2.2))))
    else
      bif x1 then
        ((F_annealref13_wide (v.2.1.1, (x2, (v.2.1.2.2.1, ((List.take (List.length x3) x3), ())))) (IntKind.wrap .i64 ((IntKind.wrap .i64 (x5 * x2)) + x4)))).bind fun r19 =>
        ((F_annealref13_wide (v.2.2.1.1, (x6, (v.2.2.1.2.2.1, ((List.take (List.length x7) x7), ())))) (IntKind.wrap .i64 ((IntKind.wrap .i64 (x8 * x6)) + x4)))).bind fun r20 =>
        ((F_annealref10_Fma r19 r20 x9)).bind fun r21 =>
        (kn ((x0, (x1, (x10, (x11, (x12, (x5, (x8, (r21, ((IntKind.wrap .i64 (x4 + (1:Int))), ()))))))))), ((v.2.1.1, (x2, (v.2.1.2.2.1, ((List.take (List.length x3) x3), ())))), ((v.2.2.1.1, (x6, (v.2.2.1.2.2.1, ((List.take (List.length x7) x7), ())))), v.2.2.2))))
      else
        ((F_annealref13_wide (v.2.1.1, (x2, (v.2.1.2.2.1, ((List.take (List.length x3) x3), ())))) (IntKind.wrap .i64 ((IntKind.wrap .i64 (x5 * x2)) + x4)))).bind fun r22 =>
        ((F_annealref13_wide (v.2.2.1.1, (x6, (v.2.2.1.2.2.1, ((List.take (List.length x7) x7), ())))) (IntKind.wrap .i64 ((IntKind.wrap .i64 (x4 * x6)) + x8)))).bind fun r23 =>
        ((F_annealref10_Fma r22 r23 x9)).bind fun r24 =>
        (kn ((x0, (x1, (x10, (x11, (x12, (x5, (x8, (r24, ((IntKind.wrap .i64 (x4 + (1:Int))), ()))))))))), ((v.2.1.1, (x2, (v.2.1.2.2.1, ((List.take (List.length x3) x3), ())))), ((v.2.2.1.1, (x6, (v.2.2.1.2.2.1, ((List.take (List.length x7) x7), ())))), v.2.2.2))))
  else
    (ko ((x0, (x1, (x10, (x11, (x12, (x5, (x8, (x9, ())))))))), ((v.2.1.1, (x2, (v.2.1.2.2.1, ((List.take (List.length x3) x3), ())))), ((v.2.2.1.1, (x6, (v.2.2.1.2.2.1, ((List.take (List.length x7) x7), ())))), v.2.2.2))))
noncomputable def ls_annealref13_product_2 : St → LTr := (lsum ff_annealref13_product_2 hf_annealref13_product_2 X_annealref13_product_2 Prod.mk id st_annealref13_product_2 (hd [] [] [2, 3, 4, 5, 8, 10, 11, 13, 14, 15, 16, 17, 18] 0))
theorem lp_annealref13_product_2 : LoopOk PR 0 (lpN f_annealref13_product 2) ls_annealref13_product_2 := loopT okO_annealref13_product mixed (L := LB_annealref13_product_2) (d := 3) (bs := []) (ks := [2, 3, 4, 5, 8, 10, 11, 13, 14, 15, 16, 17, 18]) (loopsL (l := []) (by kernel_rfl) trivial) (by kernel_rfl) (inS := Prod.mk) (outS := id) (fun _ _ => rfl) (inX := id) (outX := id) (fun _ => rfl) (fun v R kn ko => by kernel_rfl) (hd_wk [] [] [2, 3, 4, 5, 8, 10, 11, 13, 14, 15, 16, 17, 18] 0)
abbrev ff_annealref13_product_1 : Fm := (.us 2 (.pair .b (.pair .b (.cst (.ref 0 1 0) (.cst (.ref 1 1 0) (.us 2 (.cst (.ref 2 1 0) (.us 1 (.pair (.i .i64) (.pair (.i .i64) (.us 1 (.pair (.i .i64) (.cst (.ref 3 1 0) (.pair (.i .i64) (.pair (.i .i64) (.us 97 .unit))))))))))))))))
abbrev hf_annealref13_product_1 : List BF := [(.list 1 y_api_Tensor true (.pair (.i .i64) (.pair (.i .i64) (.pair (.i .i64) (.pair (.si .u32) .unit))))), (.list 1 y_api_Tensor true (.pair (.i .i64) (.pair (.i .i64) (.pair (.i .i64) (.pair (.si .u32) .unit))))), (.list 1 y_api_Tensor true (.pair (.i .i64) (.pair (.i .i64) (.pair (.i .i64) (.cst .nils .unit))))), (.list 1 y_api_Tensor true (.pair (.i .i64) (.pair (.i .i64) (.pair (.i .i64) (.pair (.own 4 1 0 1) .unit))))), (.ints 1 y_uint32 true .u32)]
abbrev X_annealref13_product_1 : Xs := (.one (.exit 2) [2, 3, 4, 5, 8, 10, 11, 13, 14, 15] (.us 2 (.pair .b (.pair .b (.cst (.ref 0 1 0) (.cst (.ref 1 1 0) (.us 2 (.cst (.ref 2 1 0) (.us 1 (.pair (.i .i64) (.pair (.i .i64) (.us 1 (.pair (.i .i64) (.cst (.ref 3 1 0) (.pair (.i .i64) (.us 98 .unit))))))))))))))) [(.list 1 y_api_Tensor true (.pair (.i .i64) (.pair (.i .i64) (.pair (.i .i64) (.pair (.si .u32) .unit))))), (.list 1 y_api_Tensor true (.pair (.i .i64) (.pair (.i .i64) (.pair (.i .i64) (.pair (.si .u32) .unit))))), (.list 1 y_api_Tensor true (.pair (.i .i64) (.pair (.i .i64) (.pair (.i .i64) (.cst .nils .unit))))), (.list 1 y_api_Tensor true (.pair (.i .i64) (.pair (.i .i64) (.pair (.i .i64) (.pair (.own 4 1 0 1) .unit))))), (.ints 1 y_uint32 true .u32)])
abbrev S_annealref13_product_1 : Type := T ff_annealref13_product_1 × TH hf_annealref13_product_1
abbrev E_annealref13_product_1 : Type := TX X_annealref13_product_1
noncomputable def LB_annealref13_product_1 : Lps := (lpB 21 (.by_ ls_annealref13_product_2) L0)
noncomputable def st_annealref13_product_1 : StepT S_annealref13_product_1 E_annealref13_product_1 := fun R v kn ko =>
  let x0 : Bool := v.1.1
  let x1 : Bool := v.1.2.1
  let x2 : Int := v.1.2.2.1
  let x3 : Int := v.1.2.2.2.1
  let x4 : Int := v.1.2.2.2.2.1
  let x5 : Int := v.1.2.2.2.2.2.1
  let x6 : List Int := v.2.1.2.2.2.1
  let x7 : List Int := v.2.2.1.2.2.2.1
  bif (decide (v.1.2.2.2.2.2.2.1 < x4)) then
    ((lim st_annealref13_product_2 ((x0, (x1, (x2, (x3, (x4, (x5, (v.1.2.2.2.2.2.2.1, ((0:Int), ((0:Int), ()))))))))), ((v.2.1.1, (v.2.1.2.1, (v.2.1.2.2.1, ((List.take (List.length x6) x6), ())))), ((v.2.2.1.1, (v.2.2.1.2.1, (v.2.2.1.2.2.1, ((List.take (List.length x7) x7), ())))), v.2.2.2))))).bind fun r8 =>
    let x9 : Int := r8.1.2.2.2.2.1
    let x10 : Int := r8.1.2.2.2.2.2.1
    let x11 : Int := r8.1.2.2.2.2.2.2.1
    let x12 : List Int := r8.2.1.2.2.2.1
    let x13 : List Int := r8.2.2.1.2.2.2.1
    bif (decide (((0:Int) ≤ (IntKind.wrap .i64 ((IntKind.wrap .i64 (x10 * x9)) + x11))) ∧ ((IntKind.wrap .i64 ((IntKind.wrap .i64 (x10 * x9)) + x11)) < ((r8.2.2.2.2.1.2.2.2.1 : Nat) : Int)))) then
      bif (decide (((0:Nat) + ((Int.toNat (IntKind.wrap .i64 ((IntKind.wrap .i64 (x10 * x9)) + x11))) * (1:Nat))) < (List.length r8.2.2.2.2.2.1))) then
        (kn ((r8.1.1, (r8.1.2.1, (r8.1.2.2.1, (r8.1.2.2.2.1, (x9, (x10, ((IntKind.wrap .i64 (x11 + (1:Int))), ()))))))), ((r8.2.1.1, (r8.2.1.2.1, (r8.2.1.2.2.1, ((List.take (List.length x12) x12), ())))), ((r8.2.2.1.1, (r8.2.2.1.2.1, (r8.2.2.1.2.2.1, ((List.take (List.length x13) x13), ())))), (r8.2.2.2.1, (r8.2.2.2.2.1, ((List.set r8.2.2.2.2.2.1 ((0:Nat) + ((Int.toNat (IntKind.wrap .i64 ((IntKind.wrap .i64 (x10 * x9)) + x11))) * (1:Nat))) r8.1.2.2.2.2.2.2.2.1), ())))))))
      else
        none
    else
      none
  else
    (ko ((x0, (x1, (x2, (x3, (x4, (x5, ())))))), ((v.2.1.1, (v.2.1.2.1, (v.2.1.2.2.1, ((List.take (List.length x6) x6), ())))), ((v.2.2.1.1, (v.2.2.1.2.1, (v.2.2.1.2.2.1, ((List.take (List.length x7) x7), ())))), v.2.2.2))))
noncomputable def ls_annealref13_product_1 : St → LTr := (lsum ff_annealref13_product_1 hf_annealref13_product_1 X_annealref13_product_1 Prod.mk id st_annealref13_product_1 (hd [] [] [2, 3, 4, 5, 8, 10, 11, 13, 14, 15, 16] 0))
theorem lp_annealref13_product_1 : LoopOk PR 0 (lpN f_annealref13_product 1) ls_annealref13_product_1 := loopT okO_annealref13_product mixed (L := LB_annealref13_product_1) (d := 2) (bs := []) (ks := [2, 3, 4, 5, 8, 10, 11, 13, 14, 15, 16]) (loopsL (l := [((lpN f_annealref13_product 2), ls_annealref13_product_2)]) (by kernel_rfl) ⟨lp_annealref13_product_2, trivial⟩) (by kernel_rfl) (inS := Prod.mk) (outS := id) (fun _ _ => rfl) (inX := id) (outX := id) (fun _ => rfl) (fun v R kn ko => by kernel_rfl) (hd_wk [] [] [2, 3, 4, 5, 8, 10, 11, 13, 14, 15, 16] 0)
abbrev ff_annealref13_product_0 : Fm := (.us 2 (.pair .b (.pair .b (.cst (.ref 0 1 0) (.cst (.ref 1 1 0) (.us 2 (.cst (.ref 2 1 0) (.us 1 (.pair (.i .i64) (.pair (.i .i64) (.us 1 (.pair (.i .i64) (.cst (.ref 3 1 0) (.pair (.i .i64) (.us 98 .unit)))))))))))))))
abbrev hf_annealref13_product_0 : List BF := [(.list 1 y_api_Tensor true (.pair (.i .i64) (.pair (.i .i64) (.pair (.i .i64) (.pair (.si .u32) .unit))))), (.list 1 y_api_Tensor true (.pair (.i .i64) (.pair (.i .i64) (.pair (.i .i64) (.pair (.si .u32) .unit))))), (.list 1 y_api_Tensor true (.pair (.i .i64) (.pair (.i .i64) (.pair (.i .i64) (.cst .nils .unit))))), (.list 1 y_api_Tensor true (.pair (.i .i64) (.pair (.i .i64) (.pair (.i .i64) (.pair (.own 4 1 0 1) .unit))))), (.ints 1 y_uint32 true .u32)]
abbrev X_annealref13_product_0 : Xs := (.one (.exit 0) [8, 14] (.us 8 (.cst (.ref 0 1 0) (.us 5 (.cst (.ref 1 1 0) (.us 99 .unit))))) [(.list 1 y_api_Tensor true (.pair (.i .i64) (.pair (.i .i64) (.pair (.i .i64) (.cst .nils .unit))))), (.list 1 y_api_Tensor true (.pair (.i .i64) (.pair (.i .i64) (.pair (.i .i64) (.pair (.own 2 1 0 1) .unit))))), (.ints 1 y_uint32 true .u32)])
abbrev S_annealref13_product_0 : Type := T ff_annealref13_product_0 × TH hf_annealref13_product_0
abbrev E_annealref13_product_0 : Type := TX X_annealref13_product_0
noncomputable def LB_annealref13_product_0 : Lps := (lpB 17 (.by_ ls_annealref13_product_1) (lpB 21 (.by_ ls_annealref13_product_2) L0))
noncomputable def st_annealref13_product_0 : StepT S_annealref13_product_0 E_annealref13_product_0 := fun R v kn ko =>
  let x0 : List Int := v.2.1.2.2.2.1
  let x1 : List Int := v.2.2.1.2.2.2.1
  bif (decide (v.1.2.2.2.2.2.1 < v.1.2.2.1)) then
    ((lim st_annealref13_product_1 ((v.1.1, (v.1.2.1, (v.1.2.2.1, (v.1.2.2.2.1, (v.1.2.2.2.2.1, (v.1.2.2.2.2.2.1, ((0:Int), ()))))))), ((v.2.1.1, (v.2.1.2.1, (v.2.1.2.2.1, ((List.take (List.length x0) x0), ())))), ((v.2.2.1.1, (v.2.2.1.2.1, (v.2.2.1.2.2.1, ((List.take (List.length x1) x1), ())))), v.2.2.2))))).bind fun r2 =>
    let x3 : List Int := r2.2.1.2.2.2.1
    let x4 : List Int := r2.2.2.1.2.2.2.1
    (kn ((r2.1.1, (r2.1.2.1, (r2.1.2.2.1, (r2.1.2.2.2.1, (r2.1.2.2.2.2.1, ((IntKind.wrap .i64 (r2.1.2.2.2.2.2.1 + (1:Int))), ())))))), ((r2.2.1.1, (r2.2.1.2.1, (r2.2.1.2.2.1, ((List.take (List.length x3) x3), ())))), ((r2.2.2.1.1, (r2.2.2.1.2.1, (r2.2.2.1.2.2.1, ((List.take (List.length x4) x4), ())))), r2.2.2.2))))
  else
    (ko ((), v.2.2.2))
noncomputable def ls_annealref13_product_0 : St → LTr := (lsum ff_annealref13_product_0 hf_annealref13_product_0 X_annealref13_product_0 Prod.mk id st_annealref13_product_0 (hd [] [] [2, 3, 4, 5, 8, 10, 11, 13, 14, 15] 0))
theorem lp_annealref13_product_0 : LoopOk PR 0 (lpN f_annealref13_product 0) ls_annealref13_product_0 := loopT okO_annealref13_product mixed (L := LB_annealref13_product_0) (d := 1) (bs := []) (ks := [2, 3, 4, 5, 8, 10, 11, 13, 14, 15]) (loopsL (l := [((lpN f_annealref13_product 1), ls_annealref13_product_1)]) (by kernel_rfl) ⟨lp_annealref13_product_1, trivial⟩) (by kernel_rfl) (inS := Prod.mk) (outS := id) (fun _ _ => rfl) (inX := id) (outX := id) (fun _ => rfl) (fun v R kn ko => by kernel_rfl) (hd_wk [] [] [2, 3, 4, 5, 8, 10, 11, 13, 14, 15] 0)
noncomputable def L_annealref13_product : Lps := (lpB 14 (.by_ ls_annealref13_product_0) (lpB 17 (.by_ ls_annealref13_product_1) (lpB 21 (.by_ ls_annealref13_product_2) L0)))
def inn_annealref13_product : T fr_annealref13_product → TH hr_annealref13_product → (Int × Int × Int × List Int × Unit) × Int × Unit := (fun z w => z)
def out_annealref13_product : (Int × Int × Int × List Int × Unit) × Int × Unit → T fr_annealref13_product × TH hr_annealref13_product := fun r => (r, ())
noncomputable def F_annealref13_product (a0 : Int × Int × Int × List Int × Unit) (a1 : Int × Int × Int × List Int × Unit) (a2 : Bool) (a3 : Bool) : Option ((Int × Int × Int × List Int × Unit) × Int × Unit) :=
  let x0 : Int := a0.2.2.1
  let x1 : List Int := a0.2.2.2.1
  let x2 : Int := a1.2.2.1
  let x3 : List Int := a1.2.2.2.1
  let x4 : Int := (bif a2 then a0.1 else a0.2.1)
  let x5 : Int := (bif a2 then a0.2.1 else a0.1)
  let x6 : Int := (bif a3 then a1.1 else a1.2.1)
  let x7 : Nat := (Int.toNat (IntKind.wrap .i64 (x5 * x6)))
  ((F_annealref13_Right (a0.1, (a0.2.1, (x0, ((List.take (List.length x1) x1), ())))))).bind fun r8 =>
  bif (!r8) then
    (some (((0:Int), ((0:Int), ((0:Int), ([], ())))), ((21:Int), ())))
  else
    ((F_annealref13_Right (a1.1, (a1.2.1, (x2, ((List.take (List.length x3) x3), ())))))).bind fun r9 =>
    bif (!r9) then
      (some (((0:Int), ((0:Int), ((0:Int), ([], ())))), ((21:Int), ())))
    else
      bif (x4 != (bif a3 then a1.2.1 else a1.1)) then
        (some (((0:Int), ((0:Int), ((0:Int), ([], ())))), ((21:Int), ())))
      else
        bif (decide (((0:Int) ≤ (IntKind.wrap .i64 (x5 * x6))) ∧ ((IntKind.wrap .i64 (x5 * x6)) ≤ (1073741824:Int)))) then
          ((lim st_annealref13_product_0 ((a2, (a3, (x5, (x4, (x6, ((0:Int), ())))))), ((a0.1, (a0.2.1, (x0, ((List.take (List.length x1) x1), ())))), ((a1.1, (a1.2.1, (x2, ((List.take (List.length x3) x3), ())))), (((0:Int), ((0:Int), ((0:Int), ()))), ((x5, (x6, ((2:Int), (x7, ())))), ((List.replicate x7 (0:Int)), ())))))))).bind fun r10 =>
          (some ((r10.2.2.1.1, (r10.2.2.1.2.1, (r10.2.2.1.2.2.1, ((List.take r10.2.2.1.2.2.2.1 (List.drop (0:Nat) r10.2.2.2.1)), ())))), ((0:Int), ())))
        else
          none
noncomputable def G_annealref13_product : T fa_annealref13_product → TH ha_annealref13_product → Option ((Int × Int × Int × List Int × Unit) × Int × Unit) := fun x y => F_annealref13_product x.1 x.2.1 x.2.2.1 x.2.2.2.1
noncomputable def c_annealref13_product : Orc := ent i_annealref13_product [] 0 (sp fa_annealref13_product ha_annealref13_product fr_annealref13_product hr_annealref13_product G_annealref13_product out_annealref13_product)
theorem ok_annealref13_product : OrcOk PR c_annealref13_product := fnT okO_annealref13_product mixed p_annealref13_product (by kernel_rfl) (by kernel_rfl) (L := L_annealref13_product) (kp := false) (by kernel_rfl) (inn := inn_annealref13_product) (out := out_annealref13_product) (fun _ _ => rfl) (loopsL (l := [((lpN f_annealref13_product 0), ls_annealref13_product_0)]) (by kernel_rfl) ⟨lp_annealref13_product_0, trivial⟩) (fun x y => by kernel_rfl)
noncomputable def O_annealref13_Plain : Orc := c_annealref13_product
theorem okO_annealref13_Plain : OrcOk PR O_annealref13_Plain := ok_annealref13_product
abbrev fa_annealref13_Plain : Fm := (.pair (.agg (.pair (.i .i64) (.pair (.i .i64) (.pair (.i .i64) (.pair (.si .u32) .unit))))) (.pair (.agg (.pair (.i .i64) (.pair (.i .i64) (.pair (.i .i64) (.pair (.si .u32) .unit))))) .unit))
abbrev ha_annealref13_Plain : List BF := []
abbrev fr_annealref13_Plain : Fm := (.tup (.pair (.agg (.pair (.i .i64) (.pair (.i .i64) (.pair (.i .i64) (.pair (.si .u32) .unit))))) (.pair (.i .i64) .unit)))
abbrev hr_annealref13_Plain : List BF := []
noncomputable def L_annealref13_Plain : Lps := L0
def inn_annealref13_Plain : T fr_annealref13_Plain → TH hr_annealref13_Plain → (Int × Int × Int × List Int × Unit) × Int × Unit := (fun z w => z)
def out_annealref13_Plain : (Int × Int × Int × List Int × Unit) × Int × Unit → T fr_annealref13_Plain × TH hr_annealref13_Plain := fun r => (r, ())
noncomputable def F_annealref13_Plain (a0 : Int × Int × Int × List Int × Unit) (a1 : Int × Int × Int × List Int × Unit) : Option ((Int × Int × Int × List Int × Unit) × Int × Unit) :=
  let x0 : Int := a0.2.2.1
  let x1 : List Int := a0.2.2.2.1
  let x2 : Int := a1.2.2.1
  let x3 : List Int := a1.2.2.2.1
  ((F_annealref13_product (a0.1, (a0.2.1, (x0, ((List.take (List.length x1) x1), ())))) (a1.1, (a1.2.1, (x2, ((List.take (List.length x3) x3), ())))) false false)).bind fun r4 =>
  let x5 : Int := r4.1.2.1
  let x6 : Int := r4.1.2.2.1
  let x7 : List Int := r4.1.2.2.2.1
  (some ((r4.1.1, (x5, (x6, ((List.take (List.length x7) x7), ())))), r4.2))
noncomputable def G_annealref13_Plain : T fa_annealref13_Plain → TH ha_annealref13_Plain → Option ((Int × Int × Int × List Int × Unit) × Int × Unit) := fun x y => F_annealref13_Plain x.1 x.2.1
noncomputable def c_annealref13_Plain : Orc := ent i_annealref13_Plain [] 0 (sp fa_annealref13_Plain ha_annealref13_Plain fr_annealref13_Plain hr_annealref13_Plain G_annealref13_Plain out_annealref13_Plain)
theorem ok_annealref13_Plain : OrcOk PR c_annealref13_Plain := fnT okO_annealref13_Plain mixed p_annealref13_Plain (by kernel_rfl) (by kernel_rfl) (L := L_annealref13_Plain) (kp := false) (by kernel_rfl) (inn := inn_annealref13_Plain) (out := out_annealref13_Plain) (fun _ _ => rfl) (loopsL (l := []) (by kernel_rfl) trivial) (fun x y => by kernel_rfl)
noncomputable def O_annealref13_Rows : Orc := c_annealref13_product
theorem okO_annealref13_Rows : OrcOk PR O_annealref13_Rows := ok_annealref13_product
abbrev fa_annealref13_Rows : Fm := (.pair (.agg (.pair (.i .i64) (.pair (.i .i64) (.pair (.i .i64) (.pair (.si .u32) .unit))))) (.pair (.agg (.pair (.i .i64) (.pair (.i .i64) (.pair (.i .i64) (.pair (.si .u32) .unit))))) .unit))
abbrev ha_annealref13_Rows : List BF := []
abbrev fr_annealref13_Rows : Fm := (.tup (.pair (.agg (.pair (.i .i64) (.pair (.i .i64) (.pair (.i .i64) (.pair (.si .u32) .unit))))) (.pair (.i .i64) .unit)))
abbrev hr_annealref13_Rows : List BF := []
noncomputable def L_annealref13_Rows : Lps := L0
def inn_annealref13_Rows : T fr_annealref13_Rows → TH hr_annealref13_Rows → (Int × Int × Int × List Int × Unit) × Int × Unit := (fun z w => z)
def out_annealref13_Rows : (Int × Int × Int × List Int × Unit) × Int × Unit → T fr_annealref13_Rows × TH hr_annealref13_Rows := fun r => (r, ())
noncomputable def F_annealref13_Rows (a0 : Int × Int × Int × List Int × Unit) (a1 : Int × Int × Int × List Int × Unit) : Option ((Int × Int × Int × List Int × Unit) × Int × Unit) :=
  let x0 : Int := a0.2.2.1
  let x1 : List Int := a0.2.2.2.1
  let x2 : Int := a1.2.2.1
  let x3 : List Int := a1.2.2.2.1
  ((F_annealref13_product (a0.1, (a0.2.1, (x0, ((List.take (List.length x1) x1), ())))) (a1.1, (a1.2.1, (x2, ((List.take (List.length x3) x3), ())))) false true)).bind fun r4 =>
  let x5 : Int := r4.1.2.1
  let x6 : Int := r4.1.2.2.1
  let x7 : List Int := r4.1.2.2.2.1
  (some ((r4.1.1, (x5, (x6, ((List.take (List.length x7) x7), ())))), r4.2))
noncomputable def G_annealref13_Rows : T fa_annealref13_Rows → TH ha_annealref13_Rows → Option ((Int × Int × Int × List Int × Unit) × Int × Unit) := fun x y => F_annealref13_Rows x.1 x.2.1
noncomputable def c_annealref13_Rows : Orc := ent i_annealref13_Rows [] 0 (sp fa_annealref13_Rows ha_annealref13_Rows fr_annealref13_Rows hr_annealref13_Rows G_annealref13_Rows out_annealref13_Rows)
theorem ok_annealref13_Rows : OrcOk PR c_annealref13_Rows := fnT okO_annealref13_Rows mixed p_annealref13_Rows (by kernel_rfl) (by kernel_rfl) (L := L_annealref13_Rows) (kp := false) (by kernel_rfl) (inn := inn_annealref13_Rows) (out := out_annealref13_Rows) (fun _ _ => rfl) (loopsL (l := []) (by kernel_rfl) trivial) (fun x y => by kernel_rfl)
noncomputable def O_annealref13_Cols : Orc := c_annealref13_product
theorem okO_annealref13_Cols : OrcOk PR O_annealref13_Cols := ok_annealref13_product
abbrev fa_annealref13_Cols : Fm := (.pair (.agg (.pair (.i .i64) (.pair (.i .i64) (.pair (.i .i64) (.pair (.si .u32) .unit))))) (.pair (.agg (.pair (.i .i64) (.pair (.i .i64) (.pair (.i .i64) (.pair (.si .u32) .unit))))) .unit))
abbrev ha_annealref13_Cols : List BF := []
abbrev fr_annealref13_Cols : Fm := (.tup (.pair (.agg (.pair (.i .i64) (.pair (.i .i64) (.pair (.i .i64) (.pair (.si .u32) .unit))))) (.pair (.i .i64) .unit)))
abbrev hr_annealref13_Cols : List BF := []
noncomputable def L_annealref13_Cols : Lps := L0
def inn_annealref13_Cols : T fr_annealref13_Cols → TH hr_annealref13_Cols → (Int × Int × Int × List Int × Unit) × Int × Unit := (fun z w => z)
def out_annealref13_Cols : (Int × Int × Int × List Int × Unit) × Int × Unit → T fr_annealref13_Cols × TH hr_annealref13_Cols := fun r => (r, ())
noncomputable def F_annealref13_Cols (a0 : Int × Int × Int × List Int × Unit) (a1 : Int × Int × Int × List Int × Unit) : Option ((Int × Int × Int × List Int × Unit) × Int × Unit) :=
  let x0 : Int := a0.2.2.1
  let x1 : List Int := a0.2.2.2.1
  let x2 : Int := a1.2.2.1
  let x3 : List Int := a1.2.2.2.1
  ((F_annealref13_product (a0.1, (a0.2.1, (x0, ((List.take (List.length x1) x1), ())))) (a1.1, (a1.2.1, (x2, ((List.take (List.length x3) x3), ())))) true false)).bind fun r4 =>
  let x5 : Int := r4.1.2.1
  let x6 : Int := r4.1.2.2.1
  let x7 : List Int := r4.1.2.2.2.1
  (some ((r4.1.1, (x5, (x6, ((List.take (List.length x7) x7), ())))), r4.2))
noncomputable def G_annealref13_Cols : T fa_annealref13_Cols → TH ha_annealref13_Cols → Option ((Int × Int × Int × List Int × Unit) × Int × Unit) := fun x y => F_annealref13_Cols x.1 x.2.1
noncomputable def c_annealref13_Cols : Orc := ent i_annealref13_Cols [] 0 (sp fa_annealref13_Cols ha_annealref13_Cols fr_annealref13_Cols hr_annealref13_Cols G_annealref13_Cols out_annealref13_Cols)
theorem ok_annealref13_Cols : OrcOk PR c_annealref13_Cols := fnT okO_annealref13_Cols mixed p_annealref13_Cols (by kernel_rfl) (by kernel_rfl) (L := L_annealref13_Cols) (kp := false) (by kernel_rfl) (inn := inn_annealref13_Cols) (out := out_annealref13_Cols) (fun _ _ => rfl) (loopsL (l := []) (by kernel_rfl) trivial) (fun x y => by kernel_rfl)
noncomputable def O_annealhelp_Light : Orc := orn
theorem okO_annealhelp_Light : OrcOk PR O_annealhelp_Light := (orn_ok _)
abbrev fa_annealhelp_Light : Fm := (.pair (.agg (.pair (.i .i64) (.pair (.i .i64) (.pair (.i .i64) (.pair (.si .u32) .unit))))) .unit)
abbrev ha_annealhelp_Light : List BF := []
abbrev fr_annealhelp_Light : Fm := .b
abbrev hr_annealhelp_Light : List BF := []
noncomputable def L_annealhelp_Light : Lps := L0
def inn_annealhelp_Light : T fr_annealhelp_Light → TH hr_annealhelp_Light → Bool := (fun z w => z)
def out_annealhelp_Light : Bool → T fr_annealhelp_Light × TH hr_annealhelp_Light := fun r => (r, ())
noncomputable def F_annealhelp_Light (a0 : Int × Int × Int × List Int × Unit) : Option (Bool) :=
  bif (decide ((((List.length a0.2.2.2.1) : Nat) : Int) ≤ (60:Int))) then
    bif (decide (a0.1 ≤ (60:Int))) then
      bif (decide (a0.2.1 ≤ (60:Int))) then
        bif (decide (a0.1 ≥ (-(2:Int)))) then
          (some (decide (a0.2.1 ≥ (-(2:Int)))))
        else
          (some false)
      else
        (some false)
    else
      (some false)
  else
    (some false)
noncomputable def G_annealhelp_Light : T fa_annealhelp_Light → TH ha_annealhelp_Light → Option (Bool) := fun x y => F_annealhelp_Light x.1
noncomputable def c_annealhelp_Light : Orc := ent i_annealhelp_Light [] 0 (sp fa_annealhelp_Light ha_annealhelp_Light fr_annealhelp_Light hr_annealhelp_Light G_annealhelp_Light out_annealhelp_Light)
theorem ok_annealhelp_Light : OrcOk PR c_annealhelp_Light := fnT okO_annealhelp_Light mixed p_annealhelp_Light (by kernel_rfl) (by kernel_rfl) (L := L_annealhelp_Light) (kp := false) (by kernel_rfl) (inn := inn_annealhelp_Light) (out := out_annealhelp_Light) (fun _ _ => rfl) (loopsL (l := []) (by kernel_rfl) trivial) (fun x y => by kernel_rfl)
noncomputable def O_anneallaw14_KernTells : Orc := (orm c_anneallaw14_known (orm c_annealhelp_Light (orm c_annealseat_Tensor (orm c_kern_Plain (orm c_annealref13_Plain (orm c_kern_Rows (orm c_annealref13_Rows (orm c_kern_Cols (orm c_annealref13_Cols c_annealhelp_Tensor)))))))))
theorem okO_anneallaw14_KernTells : OrcOk PR O_anneallaw14_KernTells := (orm_ok ok_anneallaw14_known (orm_ok ok_annealhelp_Light (orm_ok ok_annealseat_Tensor (orm_ok ok_kern_Plain (orm_ok ok_annealref13_Plain (orm_ok ok_kern_Rows (orm_ok ok_annealref13_Rows (orm_ok ok_kern_Cols (orm_ok ok_annealref13_Cols ok_annealhelp_Tensor)))))))))
abbrev fa_anneallaw14_KernTells : Fm := (.pair (.agg (.pair (.i .i64) (.pair (.i .i64) (.pair (.i .i64) (.pair (.si .u32) .unit))))) (.pair (.agg (.pair (.i .i64) (.pair (.i .i64) (.pair (.i .i64) (.pair (.si .u32) .unit))))) (.pair (.i .u8) (.pair (.i .u8) (.pair (.i .u8) (.pair (.i .u8) (.pair (.i .u8) (.pair (.si .u32) (.pair (.si .u32) (.pair .b .unit))))))))))
abbrev ha_anneallaw14_KernTells : List BF := []
abbrev fr_anneallaw14_KernTells : Fm := .b
abbrev hr_anneallaw14_KernTells : List BF := []
noncomputable def L_anneallaw14_KernTells : Lps := (lpB 8 (.un 5 [121, 122, 123]) L0)
def inn_anneallaw14_KernTells : T fr_anneallaw14_KernTells → TH hr_anneallaw14_KernTells → Bool := (fun z w => z)
def out_anneallaw14_KernTells : Bool → T fr_anneallaw14_KernTells × TH hr_anneallaw14_KernTells := fun r => (r, ())
noncomputable def F_anneallaw14_KernTells (a0 : Int × Int × Int × List Int × Unit) (a1 : Int × Int × Int × List Int × Unit) (a2 : Int) (a3 : Int) (a4 : Int) (a5 : Int) (a6 : Int) (a7 : List Int) (a8 : List Int) (a9 : Bool) : Option (Bool) :=
  let x0 : Int := a0.2.2.1
  let x1 : List Int := a0.2.2.2.1
  let x2 : Int := a1.2.2.1
  let x3 : List Int := a1.2.2.2.1
  let x4 : Int := (IntKind.wrap .i64 (Int.tmod a2 (5:Int)))
  let x5 : Int := (IntKind.wrap .i64 (Int.tmod a3 (5:Int)))
  let x6 : Int := (IntKind.wrap .i64 (Int.tmod a5 (3:Int)))
  let x7 : List Int := (List.take (List.length a7) a7)
  let x8 : Int := (IntKind.wrap .i64 (Int.tmod a4 (5:Int)))
  let x9 : Int := (IntKind.wrap .i64 (Int.tmod a6 (3:Int)))
  let x10 : List Int := (List.take (List.length a8) a8)
  (F_anneallaw14_known).bind fun r11 =>
  bif (!r11) then
    (some false)
  else
    ((F_annealhelp_Light (a0.1, (a0.2.1, (x0, ((List.take (List.length x1) x1), ())))))).bind fun r12 =>
    bif (!r12) then
      (some true)
    else
      ((F_annealhelp_Light (a1.1, (a1.2.1, (x2, ((List.take (List.length x3) x3), ())))))).bind fun r13 =>
      bif (!r13) then
        (some true)
      else
        bif (decide ((((List.length a7) : Nat) : Int) > (30:Int))) then
          (some true)
        else
          bif (decide ((((List.length a8) : Nat) : Int) > (30:Int))) then
            (some true)
          else
            ((F_annealseat_Tensor x4 x5 x6 x7 a9)).bind fun r14 =>
            let x15 : Int := r14.2.2.1
            let x16 : List Int := r14.2.2.2.1
            ((F_annealseat_Tensor x5 x8 x9 x10 a9)).bind fun r17 =>
            let x18 : Int := r17.2.2.1
            let x19 : List Int := r17.2.2.2.1
            ((F_annealseat_Tensor x4 x5 x6 x7 a9)).bind fun r20 =>
            let x21 : Int := r20.2.2.1
            let x22 : List Int := r20.2.2.2.1
            ((F_annealseat_Tensor x8 x5 x9 x10 a9)).bind fun r23 =>
            let x24 : Int := r23.2.2.1
            let x25 : List Int := r23.2.2.2.1
            ((F_annealseat_Tensor x5 x4 x6 x7 a9)).bind fun r26 =>
            let x27 : Int := r26.2.2.1
            let x28 : List Int := r26.2.2.2.1
            ((F_annealseat_Tensor x5 x8 x9 x10 a9)).bind fun r29 =>
            let x30 : Int := r29.2.2.1
            let x31 : List Int := r29.2.2.2.1
            ((F_kern_Plain (a0.1, (a0.2.1, (x0, ((List.take (List.length x1) x1), ())))) (a1.1, (a1.2.1, (x2, ((List.take (List.length x3) x3), ())))))).bind fun r32 =>
            let x33 : Int := r32.1.2.1
            let x34 : Int := r32.1.2.2.1
            let x35 : List Int := r32.1.2.2.2.1
            ((F_annealref13_Plain (a0.1, (a0.2.1, (x0, ((List.take (List.length x1) x1), ())))) (a1.1, (a1.2.1, (x2, ((List.take (List.length x3) x3), ())))))).bind fun r36 =>
            let x37 : Int := r36.1.2.1
            let x38 : Int := r36.1.2.2.1
            let x39 : List Int := r36.1.2.2.2.1
            ((F_kern_Rows (a0.1, (a0.2.1, (x0, ((List.take (List.length x1) x1), ())))) (a1.1, (a1.2.1, (x2, ((List.take (List.length x3) x3), ())))))).bind fun r40 =>
            let x41 : Int := r40.1.2.1
            let x42 : Int := r40.1.2.2.1
            let x43 : List Int := r40.1.2.2.2.1
            ((F_annealref13_Rows (a0.1, (a0.2.1, (x0, ((List.take (List.length x1) x1), ())))) (a1.1, (a1.2.1, (x2, ((List.take (List.length x3) x3), ())))))).bind fun r44 =>
            let x45 : Int := r44.1.2.1
            let x46 : Int := r44.1.2.2.1
            let x47 : List Int := r44.1.2.2.2.1
            ((F_kern_Cols (a0.1, (a0.2.1, (x0, ((List.take (List.length x1) x1), ())))) (a1.1, (a1.2.1, (x2, ((List.take (List.length x3) x3), ())))))).bind fun r48 =>
            let x49 : Int := r48.1.2.1
            let x50 : Int := r48.1.2.2.1
            let x51 : List Int := r48.1.2.2.2.1
            ((F_annealref13_Cols (a0.1, (a0.2.1, (x0, ((List.take (List.length x1) x1), ())))) (a1.1, (a1.2.1, (x2, ((List.take (List.length x3) x3), ())))))).bind fun r52 =>
            let x53 : Int := r52.1.2.1
            let x54 : Int := r52.1.2.2.1
            let x55 : List Int := r52.1.2.2.2.1
            bif (r32.2.1 != r36.2.1) then
              (some false)
            else
              ((F_annealhelp_Tensor (r32.1.1, (x33, (x34, ((List.take (List.length x35) x35), ())))) (r36.1.1, (x37, (x38, ((List.take (List.length x39) x39), ())))))).bind fun r56 =>
              bif (!r56) then
                (some false)
              else
                bif (r40.2.1 != r44.2.1) then
                  (some false)
                else
                  ((F_annealhelp_Tensor (r40.1.1, (x41, (x42, ((List.take (List.length x43) x43), ())))) (r44.1.1, (x45, (x46, ((List.take (List.length x47) x47), ())))))).bind fun r57 =>
                  bif (!r57) then
                    (some false)
                  else
                    bif (r48.2.1 != r52.2.1) then
                      (some false)
                    else
                      ((F_annealhelp_Tensor (r48.1.1, (x49, (x50, ((List.take (List.length x51) x51), ())))) (r52.1.1, (x53, (x54, ((List.take (List.length x55) x55), ())))))).bind fun r58 =>
                      bif (!r58) then
                        (some false)
                      else
                        ((F_kern_Plain (r14.1, (r14.2.1, (x15, ((List.take (List.length x16) x16), ())))) (r17.1, (r17.2.1, (x18, ((List.take (List.length x19) x19), ())))))).bind fun r59 =>
                        let x60 : Int := r59.1.2.1
                        let x61 : Int := r59.1.2.2.1
                        let x62 : List Int := r59.1.2.2.2.1
                        ((F_annealref13_Plain (r14.1, (r14.2.1, (x15, ((List.take (List.length x16) x16), ())))) (r17.1, (r17.2.1, (x18, ((List.take (List.length x19) x19), ())))))).bind fun r63 =>
                        let x64 : Int := r63.1.2.1
                        let x65 : Int := r63.1.2.2.1
                        let x66 : List Int := r63.1.2.2.2.1
                        ((F_kern_Rows (r14.1, (r14.2.1, (x15, ((List.take (List.length x16) x16), ())))) (r17.1, (r17.2.1, (x18, ((List.take (List.length x19) x19), ())))))).bind fun r67 =>
                        let x68 : Int := r67.1.2.1
                        let x69 : Int := r67.1.2.2.1
                        let x70 : List Int := r67.1.2.2.2.1
                        ((F_annealref13_Rows (r14.1, (r14.2.1, (x15, ((List.take (List.length x16) x16), ())))) (r17.1, (r17.2.1, (x18, ((List.take (List.length x19) x19), ())))))).bind fun r71 =>
                        let x72 : Int := r71.1.2.1
                        let x73 : Int := r71.1.2.2.1
                        let x74 : List Int := r71.1.2.2.2.1
                        ((F_kern_Cols (r14.1, (r14.2.1, (x15, ((List.take (List.length x16) x16), ())))) (r17.1, (r17.2.1, (x18, ((List.take (List.length x19) x19), ())))))).bind fun r75 =>
                        let x76 : Int := r75.1.2.1
                        let x77 : Int := r75.1.2.2.1
                        let x78 : List Int := r75.1.2.2.2.1
                        ((F_annealref13_Cols (r14.1, (r14.2.1, (x15, ((List.take (List.length x16) x16), ())))) (r17.1, (r17.2.1, (x18, ((List.take (List.length x19) x19), ())))))).bind fun r79 =>
                        let x80 : Int := r79.1.2.1
                        let x81 : Int := r79.1.2.2.1
                        let x82 : List Int := r79.1.2.2.2.1
                        bif (r59.2.1 != r63.2.1) then
                          (some false)
                        else
                          ((F_annealhelp_Tensor (r59.1.1, (x60, (x61, ((List.take (List.length x62) x62), ())))) (r63.1.1, (x64, (x65, ((List.take (List.length x66) x66), ())))))).bind fun r83 =>
                          bif (!r83) then
                            (some false)
                          else
                            bif (r67.2.1 != r71.2.1) then
                              (some false)
                            else
                              ((F_annealhelp_Tensor (r67.1.1, (x68, (x69, ((List.take (List.length x70) x70), ())))) (r71.1.1, (x72, (x73, ((List.take (List.length x74) x74), ())))))).bind fun r84 =>
                              bif (!r84) then
                                (some false)
                              else
                                bif (r75.2.1 != r79.2.1) then
                                  (some false)
                                else
                                  ((F_annealhelp_Tensor (r75.1.1, (x76, (x77, ((List.take (List.length x78) x78), ())))) (r79.1.1, (x80, (x81, ((List.take (List.length x82) x82), ())))))).bind fun r85 =>
                                  bif (!r85) then
                                    (some false)
                                  else
                                    ((F_kern_Plain (r20.1, (r20.2.1, (x21, ((List.take (List.length x22) x22), ())))) (r23.1, (r23.2.1, (x24, ((List.take (List.length x25) x25), ())))))).bind fun r86 =>
                                    let x87 : Int := r86.1.2.1
                                    let x88 : Int := r86.1.2.2.1
                                    let x89 : List Int := r86.1.2.2.2.1
                                    ((F_annealref13_Plain (r20.1, (r20.2.1, (x21, ((List.take (List.length x22) x22), ())))) (r23.1, (r23.2.1, (x24, ((List.take (List.length x25) x25), ())))))).bind fun r90 =>
                                    let x91 : Int := r90.1.2.1
                                    let x92 : Int := r90.1.2.2.1
                                    let x93 : List Int := r90.1.2.2.2.1
                                    ((F_kern_Rows (r20.1, (r20.2.1, (x21, ((List.take (List.length x22) x22), ())))) (r23.1, (r23.2.1, (x24, ((List.take (List.length x25) x25), ())))))).bind fun r94 =>
                                    let x95 : Int := r94.1.2.1
                                    let x96 : Int := r94.1.2.2.1
                                    let x97 : List Int := r94.1.2.2.2.1
                                    ((F_annealref13_Rows (r20.1, (r20.2.1, (x21, ((List.take (List.length x22) x22), ())))) (r23.1, (r23.2.1, (x24, ((List.take (List.length x25) x25), ())))))).bind fun r98 =>
                                    let x99 : Int := r98.1.2.1
                                    let x100 : Int := r98.1.2.2.1
                                    let x101 : List Int := r98.1.2.2.2.1
                                    ((F_kern_Cols (r20.1, (r20.2.1, (x21, ((List.take (List.length x22) x22), ())))) (r23.1, (r23.2.1, (x24, ((List.take (List.length x25) x25), ())))))).bind fun r102 =>
                                    let x103 : Int := r102.1.2.1
                                    let x104 : Int := r102.1.2.2.1
                                    let x105 : List Int := r102.1.2.2.2.1
                                    ((F_annealref13_Cols (r20.1, (r20.2.1, (x21, ((List.take (List.length x22) x22), ())))) (r23.1, (r23.2.1, (x24, ((List.take (List.length x25) x25), ())))))).bind fun r106 =>
                                    let x107 : Int := r106.1.2.1
                                    let x108 : Int := r106.1.2.2.1
                                    let x109 : List Int := r106.1.2.2.2.1
                                    bif (r86.2.1 != r90.2.1) then
                                      (some false)
                                    else
                                      ((F_annealhelp_Tensor (r86.1.1, (x87, (x88, ((List.take (List.length x89) x89), ())))) (r90.1.1, (x91, (x92, ((List.take (List.length x93) x93), ())))))).bind fun r110 =>
                                      bif (!r110) then
                                        (some false)
                                      else
                                        bif (r94.2.1 != r98.2.1) then
                                          (some false)
                                        else
                                          ((F_annealhelp_Tensor (r94.1.1, (x95, (x96, ((List.take (List.length x97) x97), ())))) (r98.1.1, (x99, (x100, ((List.take (List.length x101) x101), ())))))).bind fun r111 =>
                                          bif (!r111) then
                                            (some false)
                                          else
                                            bif (r102.2.1 != r106.2.1) then
                                              (some false)
                                            else
                                              ((F_annealhelp_Tensor (r102.1.1, (x103, (x104, ((List.take (List.length x105) x105), ())))) (r106.1.1, (x107, (x108, ((List.take (List.length x109) x109), ())))))).bind fun r112 =>
                                              bif (!r112) then
                                                (some false)
                                              else
                                                ((F_kern_Plain (r26.1, (r26.2.1, (x27, ((List.take (List.length x28) x28), ())))) (r29.1, (r29.2.1, (x30, ((List.take (List.length x31) x31), ())))))).bind fun r113 =>
                                                let x114 : Int := r113.1.2.1
                                                let x115 : Int := r113.1.2.2.1
                                                let x116 : List Int := r113.1.2.2.2.1
                                                ((F_annealref13_Plain (r26.1, (r26.2.1, (x27, ((List.take (List.length x28) x28), ())))) (r29.1, (r29.2.1, (x30, ((List.take (List.length x31) x31), ())))))).bind fun r117 =>
                                                let x118 : Int := r117.1.2.1
                                                let x119 : Int := r117.1.2.2.1
                                                let x120 : List Int := r117.1.2.2.2.1
                                                ((F_kern_Rows (r26.1, (r26.2.1, (x27, ((List.take (List.length x28) x28), ())))) (r29.1, (r29.2.1, (x30, ((List.take (List.length x31) x31), ())))))).bind fun r121 =>
                                                let x122 : Int := r121.1.2.1
                                                let x123 : Int := r121.1.2.2.1
                                                let x124 : List Int := r121.1.2.2.2.1
                                                ((F_annealref13_Rows (r26.1, (r26.2.1, (x27, ((List.take (List.length x28) x28), ())))) (r29.1, (r29.2.1, (x30, ((List.take (List.length x31) x31), ())))))).bind fun r125 =>
                                                let x126 : Int := r125.1.2.1
                                                let x127 : Int := r125.1.2.2.1
                                                let x128 : List Int := r125.1.2.2.2.1
                                                ((F_kern_Cols (r26.1, (r26.2.1, (x27, ((List.take (List.length x28) x28), ())))) (r29.1, (r29.2.1, (x30, ((List.take (List.length x31) x31), ())))))).bind fun r129 =>
                                                let x130 : Int := r129.1.2.1
                                                let x131 : Int := r129.1.2.2.1
                                                let x132 : List Int := r129.1.2.2.2.1
                                                ((F_annealref13_Cols (r26.1, (r26.2.1, (x27, ((List.take (List.length x28) x28), ())))) (r29.1, (r29.2.1, (x30, ((List.take (List.length x31) x31), ())))))).bind fun r133 =>
                                                let x134 : Int := r133.1.2.1
                                                let x135 : Int := r133.1.2.2.1
                                                let x136 : List Int := r133.1.2.2.2.1
                                                bif (r113.2.1 != r117.2.1) then
                                                  (some false)
                                                else
                                                  ((F_annealhelp_Tensor (r113.1.1, (x114, (x115, ((List.take (List.length x116) x116), ())))) (r117.1.1, (x118, (x119, ((List.take (List.length x120) x120), ())))))).bind fun r137 =>
                                                  bif (!r137) then
                                                    (some false)
                                                  else
                                                    bif (r121.2.1 != r125.2.1) then
                                                      (some false)
                                                    else
                                                      ((F_annealhelp_Tensor (r121.1.1, (x122, (x123, ((List.take (List.length x124) x124), ())))) (r125.1.1, (x126, (x127, ((List.take (List.length x128) x128), ())))))).bind fun r138 =>
                                                      bif (!r138) then
                                                        (some false)
                                                      else
                                                        bif (r129.2.1 != r133.2.1) then
                                                          (some false)
                                                        else
                                                          ((F_annealhelp_Tensor (r129.1.1, (x130, (x131, ((List.take (List.length x132) x132), ())))) (r133.1.1, (x134, (x135, ((List.take (List.length x136) x136), ())))))).bind fun r139 =>
                                                          bif (!r139) then
                                                            (some false)
                                                          else
                                                            (some true)
noncomputable def G_anneallaw14_KernTells : T fa_anneallaw14_KernTells → TH ha_anneallaw14_KernTells → Option (Bool) := fun x y => F_anneallaw14_KernTells x.1 x.2.1 x.2.2.1 x.2.2.2.1 x.2.2.2.2.1 x.2.2.2.2.2.1 x.2.2.2.2.2.2.1 x.2.2.2.2.2.2.2.1 x.2.2.2.2.2.2.2.2.1 x.2.2.2.2.2.2.2.2.2.1
noncomputable def c_anneallaw14_KernTells : Orc := ent i_anneallaw14_KernTells [] 0 (sp fa_anneallaw14_KernTells ha_anneallaw14_KernTells fr_anneallaw14_KernTells hr_anneallaw14_KernTells G_anneallaw14_KernTells out_anneallaw14_KernTells)
theorem ok_anneallaw14_KernTells : OrcOk PR c_anneallaw14_KernTells := fnT okO_anneallaw14_KernTells mixed p_anneallaw14_KernTells (by kernel_rfl) (by kernel_rfl) (L := L_anneallaw14_KernTells) (kp := false) (by kernel_rfl) (inn := inn_anneallaw14_KernTells) (out := out_anneallaw14_KernTells) (fun _ _ => rfl) (loopsL (l := []) (by kernel_rfl) trivial) (fun x y => by kernel_rfl)
end Go.Proofs.YtkknnloamidaiaaGreat.VI
