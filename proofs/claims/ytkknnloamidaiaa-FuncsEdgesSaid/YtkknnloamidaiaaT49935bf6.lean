import Derived.Test.YtkknnloamidaiaaTf68a2c92
namespace Go.Proofs.Ytkknnloamidaiaa.VI
set_option linter.unusedVariables false
set_option linter.unusedSimpArgs false
set_option maxRecDepth 100000
set_option linter.unusedSimpArgs false
set_option linter.unusedVariables false
noncomputable def O_tensor_Turn : Orc := c_tensor_Right
theorem okO_tensor_Turn : OrcOk PR O_tensor_Turn := ok_tensor_Right
abbrev fa_tensor_Turn : Fm := (.pair (.agg (.pair (.i .i64) (.pair (.i .i64) (.pair (.i .i64) (.pair (.si .u32) .unit))))) .unit)
abbrev ha_tensor_Turn : List BF := []
abbrev fr_tensor_Turn : Fm := (.tup (.pair (.agg (.pair (.i .i64) (.pair (.i .i64) (.pair (.i .i64) (.pair (.si .u32) .unit))))) (.pair (.i .i64) .unit)))
abbrev hr_tensor_Turn : List BF := []
abbrev ff_tensor_Turn_0 : Fm := (.us 1 (.cst (.ref 0 1 0) (.cst (.ref 1 1 0) (.us 1 (.cst (.ref 2 1 0) (.us 18 (.pair (.si .u32) (.pair (.i .i64) (.pair (.i .i64) (.us 22 .unit))))))))))
abbrev hf_tensor_Turn_0 : List BF := [(.list 1 y_api_Tensor true (.pair (.i .i64) (.pair (.i .i64) (.pair (.i .i64) (.pair (.si .u32) .unit))))), (.list 1 y_api_Tensor true (.pair (.i .i64) (.pair (.i .i64) (.pair (.i .i64) (.cst .nils .unit))))), (.list 1 y_api_Tensor true (.pair (.i .i64) (.pair (.i .i64) (.pair (.i .i64) (.pair (.own 3 1 0 1) .unit))))), (.ints 1 y_uint32 true .u32)]
abbrev X_tensor_Turn_0 : Xs := (.one (.exit 0) [2, 4] (.us 2 (.cst (.ref 0 1 0) (.us 1 (.cst (.ref 1 1 0) (.us 43 .unit))))) [(.list 1 y_api_Tensor true (.pair (.i .i64) (.pair (.i .i64) (.pair (.i .i64) (.cst .nils .unit))))), (.list 1 y_api_Tensor true (.pair (.i .i64) (.pair (.i .i64) (.pair (.i .i64) (.pair (.own 2 1 0 1) .unit))))), (.ints 1 y_uint32 true .u32)])
abbrev S_tensor_Turn_0 : Type := T ff_tensor_Turn_0 × TH hf_tensor_Turn_0
abbrev E_tensor_Turn_0 : Type := TX X_tensor_Turn_0
noncomputable def LB_tensor_Turn_0 : Lps := L0
noncomputable def st_tensor_Turn_0 : StepT S_tensor_Turn_0 E_tensor_Turn_0 := fun R v kn ko =>
  let x0 : Int := v.2.1.2.1
  let x1 : Bool := (x0 == (0:Int))
  let x2 : List Int := v.1.1
  let x3 : Int := v.1.2.2.1
  let x4 : Int := v.2.1.1
  let x5 : List Int := v.2.1.2.2.2.1
  bif (decide (x3 < v.1.2.1)) then
    bif (decide (((0:Int) ≤ x3) ∧ (x3 < (((List.length x2) : Nat) : Int)))) then
      bif x1 then
        none
      else
        bif x1 then
          none
        else
          bif (decide (((0:Int) ≤ (IntKind.wrap .i64 ((IntKind.wrap .i64 ((Int.tmod x3 x0) * x4)) + (IntKind.wrap .i64 (Int.tdiv x3 x0))))) ∧ ((IntKind.wrap .i64 ((IntKind.wrap .i64 ((Int.tmod x3 x0) * x4)) + (IntKind.wrap .i64 (Int.tdiv x3 x0)))) < ((v.2.2.2.1.2.2.2.1 : Nat) : Int)))) then
            bif (decide (((0:Nat) + ((Int.toNat (IntKind.wrap .i64 ((IntKind.wrap .i64 ((Int.tmod x3 x0) * x4)) + (IntKind.wrap .i64 (Int.tdiv x3 x0))))) * (1:Nat))) < (List.length v.2.2.2.2.1))) then
              (kn (((List.take (List.length x2) x2), (v.1.2.1, ((IntKind.wrap .i64 (x3 + (1:Int))), ()))), ((x4, (x0, (v.2.1.2.2.1, ((List.take (List.length x5) x5), ())))), (v.2.2.1, (v.2.2.2.1, ((List.set v.2.2.2.2.1 ((0:Nat) + ((Int.toNat (IntKind.wrap .i64 ((IntKind.wrap .i64 ((Int.tmod x3 x0) * x4)) + (IntKind.wrap .i64 (Int.tdiv x3 x0))))) * (1:Nat))) (List.getD x2 (Int.toNat x3) (0:Int))), ()))))))
            else
              none
          else
            none
    else
      none
  else
    (ko ((), v.2.2))
noncomputable def ls_tensor_Turn_0 : St → LTr := (lsum ff_tensor_Turn_0 hf_tensor_Turn_0 X_tensor_Turn_0 Prod.mk id st_tensor_Turn_0 (hd [] [] [1, 2, 4, 23, 24, 25] 0))
theorem lp_tensor_Turn_0 : LoopOk PR 0 (lpN f_tensor_Turn 0) ls_tensor_Turn_0 := loopT okO_tensor_Turn mixed (L := LB_tensor_Turn_0) (d := 1) (bs := []) (ks := [1, 2, 4, 23, 24, 25]) (loopsL (l := []) (by kernel_rfl) trivial) (by kernel_rfl) (inS := Prod.mk) (outS := id) (fun _ _ => rfl) (inX := id) (outX := id) (fun _ => rfl) (fun v R kn ko => by kernel_rfl) (hd_wk [] [] [1, 2, 4, 23, 24, 25] 0)
noncomputable def L_tensor_Turn : Lps := (lpB 6 (.by_ ls_tensor_Turn_0) L0)
def inn_tensor_Turn : T fr_tensor_Turn → TH hr_tensor_Turn → (Int × Int × Int × List Int × Unit) × Int × Unit := (fun z w => z)
def out_tensor_Turn : (Int × Int × Int × List Int × Unit) × Int × Unit → T fr_tensor_Turn × TH hr_tensor_Turn := fun r => (r, ())
noncomputable def F_tensor_Turn (a0 : Int × Int × Int × List Int × Unit) : Option ((Int × Int × Int × List Int × Unit) × Int × Unit) :=
  let x0 : Int := a0.2.2.1
  let x1 : List Int := a0.2.2.2.1
  let x2 : Nat := (List.length x1)
  let x3 : List Int := (List.take x2 x1)
  let x4 : Int := ((x2 : Nat) : Int)
  let x5 : Nat := (Int.toNat x4)
  ((F_tensor_Right (a0.1, (a0.2.1, (x0, (x3, ())))))).bind fun r6 =>
  bif (!r6) then
    (some (((0:Int), ((0:Int), ((0:Int), ([], ())))), ((21:Int), ())))
  else
    bif (decide (((0:Int) ≤ x4) ∧ (x4 ≤ (1073741824:Int)))) then
      ((lim st_tensor_Turn_0 ((x3, (x4, ((0:Int), ()))), ((a0.1, (a0.2.1, (x0, (x3, ())))), (((0:Int), ((0:Int), ((0:Int), ()))), ((a0.2.1, (a0.1, (x0, (x5, ())))), ((List.replicate x5 (0:Int)), ()))))))).bind fun r7 =>
      (some ((r7.2.2.1.1, (r7.2.2.1.2.1, (r7.2.2.1.2.2.1, ((List.take r7.2.2.1.2.2.2.1 (List.drop (0:Nat) r7.2.2.2.1)), ())))), ((0:Int), ())))
    else
      none
noncomputable def G_tensor_Turn : T fa_tensor_Turn → TH ha_tensor_Turn → Option ((Int × Int × Int × List Int × Unit) × Int × Unit) := fun x y => F_tensor_Turn x.1
noncomputable def c_tensor_Turn : Orc := ent i_tensor_Turn [] 0 (sp fa_tensor_Turn ha_tensor_Turn fr_tensor_Turn hr_tensor_Turn G_tensor_Turn out_tensor_Turn)
theorem ok_tensor_Turn : OrcOk PR c_tensor_Turn := fnT okO_tensor_Turn mixed p_tensor_Turn (by kernel_rfl) (by kernel_rfl) (L := L_tensor_Turn) (kp := false) (by kernel_rfl) (inn := inn_tensor_Turn) (out := out_tensor_Turn) (fun _ _ => rfl) (loopsL (l := [((lpN f_tensor_Turn 0), ls_tensor_Turn_0)]) (by kernel_rfl) ⟨lp_tensor_Turn_0, trivial⟩) (fun x y => by kernel_rfl)
noncomputable def O_kern_turned : Orc := c_tensor_Turn
theorem okO_kern_turned : OrcOk PR O_kern_turned := ok_tensor_Turn
abbrev fa_kern_turned : Fm := (.pair (.agg (.pair (.i .i64) (.pair (.i .i64) (.pair (.i .i64) (.pair (.si .u32) .unit))))) (.pair .b .unit))
abbrev ha_kern_turned : List BF := []
abbrev fr_kern_turned : Fm := (.agg (.pair (.i .i64) (.pair (.i .i64) (.pair (.i .i64) (.pair (.si .u32) .unit)))))
abbrev hr_kern_turned : List BF := []
noncomputable def L_kern_turned : Lps := L0
def inn_kern_turned : T fr_kern_turned → TH hr_kern_turned → Int × Int × Int × List Int × Unit := (fun z w => z)
def out_kern_turned : Int × Int × Int × List Int × Unit → T fr_kern_turned × TH hr_kern_turned := fun r => (r, ())
noncomputable def F_kern_turned (a0 : Int × Int × Int × List Int × Unit) (a1 : Bool) : Option (Int × Int × Int × List Int × Unit) :=
  let x0 : Int := a0.2.2.1
  let x1 : List Int := a0.2.2.2.1
  bif a1 then
    ((F_tensor_Turn (a0.1, (a0.2.1, (x0, ((List.take (List.length x1) x1), ())))))).bind fun r2 =>
    let x3 : Int := r2.1.2.1
    let x4 : Int := r2.1.2.2.1
    let x5 : List Int := r2.1.2.2.2.1
    (some (r2.1.1, (x3, (x4, ((List.take (List.length x5) x5), ())))))
  else
    (some (a0.1, (a0.2.1, (x0, ((List.take (List.length x1) x1), ())))))
noncomputable def G_kern_turned : T fa_kern_turned → TH ha_kern_turned → Option (Int × Int × Int × List Int × Unit) := fun x y => F_kern_turned x.1 x.2.1
noncomputable def c_kern_turned : Orc := ent i_kern_turned [] 0 (sp fa_kern_turned ha_kern_turned fr_kern_turned hr_kern_turned G_kern_turned out_kern_turned)
theorem ok_kern_turned : OrcOk PR c_kern_turned := fnT okO_kern_turned mixed p_kern_turned (by kernel_rfl) (by kernel_rfl) (L := L_kern_turned) (kp := false) (by kernel_rfl) (inn := inn_kern_turned) (out := out_kern_turned) (fun _ _ => rfl) (loopsL (l := []) (by kernel_rfl) trivial) (fun x y => by kernel_rfl)
noncomputable def O_kern_product : Orc := (orm c_kern_line c_kern_Dot)
theorem okO_kern_product : OrcOk PR O_kern_product := (orm_ok ok_kern_line ok_kern_Dot)
abbrev fa_kern_product : Fm := (.pair (.agg (.pair (.i .i64) (.pair (.i .i64) (.pair (.i .i64) (.pair (.si .u32) .unit))))) (.pair (.agg (.pair (.i .i64) (.pair (.i .i64) (.pair (.i .i64) (.pair (.si .u32) .unit))))) .unit))
abbrev ha_kern_product : List BF := []
abbrev fr_kern_product : Fm := (.tup (.pair (.agg (.pair (.i .i64) (.pair (.i .i64) (.pair (.i .i64) (.pair (.si .u32) .unit))))) (.pair (.i .i64) .unit)))
abbrev hr_kern_product : List BF := []
abbrev ff_kern_product_1 : Fm := (.us 2 (.cst (.ref 0 1 0) (.cst (.ref 1 1 0) (.cst (.ref 2 1 0) (.us 1 (.cst (.ref 3 1 0) (.pair (.i .i64) (.us 15 (.pair (.i .i64) (.pair (.i .i64) (.us 3 (.pair (.i .i64) (.pair (.i .i64) (.us 21 .unit))))))))))))))
abbrev hf_kern_product_1 : List BF := [(.list 1 y_api_Tensor true (.pair (.i .i64) (.pair (.i .i64) (.pair (.i .i64) (.pair (.si .u32) .unit))))), (.list 1 y_api_Tensor true (.pair (.i .i64) (.pair (.i .i64) (.pair (.i .i64) (.pair (.si .u32) .unit))))), (.list 1 y_api_Tensor true (.pair (.i .i64) (.pair (.i .i64) (.pair (.i .i64) (.cst .nils .unit))))), (.list 1 y_api_Tensor true (.pair (.i .i64) (.pair (.i .i64) (.pair (.i .i64) (.pair (.own 4 1 0 1) .unit))))), (.ints 1 y_uint32 true .u32)]
abbrev X_kern_product_1 : Xs := (.one (.exit 2) [2, 3, 4, 6, 23, 24] (.us 2 (.cst (.ref 0 1 0) (.cst (.ref 1 1 0) (.cst (.ref 2 1 0) (.us 1 (.cst (.ref 3 1 0) (.us 16 (.pair (.i .i64) (.pair (.i .i64) (.us 26 .unit)))))))))) [(.list 1 y_api_Tensor true (.pair (.i .i64) (.pair (.i .i64) (.pair (.i .i64) (.pair (.si .u32) .unit))))), (.list 1 y_api_Tensor true (.pair (.i .i64) (.pair (.i .i64) (.pair (.i .i64) (.pair (.si .u32) .unit))))), (.list 1 y_api_Tensor true (.pair (.i .i64) (.pair (.i .i64) (.pair (.i .i64) (.cst .nils .unit))))), (.list 1 y_api_Tensor true (.pair (.i .i64) (.pair (.i .i64) (.pair (.i .i64) (.pair (.own 4 1 0 1) .unit))))), (.ints 1 y_uint32 true .u32)])
abbrev S_kern_product_1 : Type := T ff_kern_product_1 × TH hf_kern_product_1
abbrev E_kern_product_1 : Type := TX X_kern_product_1
noncomputable def LB_kern_product_1 : Lps := L0
noncomputable def st_kern_product_1 : StepT S_kern_product_1 E_kern_product_1 := fun R v kn ko =>
  let x0 : List Int := v.2.1.2.2.2.1
  let x1 : Int := v.1.1
  let x2 : List Int := v.2.2.1.2.2.2.1
  let x3 : Int := v.1.2.2.2.2.1
  let x4 : Int := v.1.2.1
  let x5 : Int := v.1.2.2.1
  let x6 : Nat := v.2.2.2.2.1.2.2.2.1
  bif (decide (x3 < v.1.2.2.2.1)) then
    ((F_kern_line (v.2.1.1, (v.2.1.2.1, (v.2.1.2.2.1, ((List.take (List.length x0) x0), ())))) x1)).bind fun r7 =>
    ((F_kern_line (v.2.2.1.1, (v.2.2.1.2.1, (v.2.2.1.2.2.1, ((List.take (List.length x2) x2), ())))) x3)).bind fun r8 =>
    ((F_kern_Dot (List.take (List.length r7) r7) (List.take (List.length r8) r8))).bind fun r9 =>
    bif (decide ((x6 + (1:Nat)) ≤ (1073741824:Nat))) then
      (kn ((x1, (x4, (x5, (v.1.2.2.2.1, ((IntKind.wrap .i64 (x3 + (1:Int))), ()))))), ((v.2.1.1, (v.2.1.2.1, (v.2.1.2.2.1, ((List.take (List.length x0) x0), ())))), ((v.2.2.1.1, (v.2.2.1.2.1, (v.2.2.1.2.2.1, ((List.take (List.length x2) x2), ())))), (v.2.2.2.1, ((v.2.2.2.2.1.1, (v.2.2.2.2.1.2.1, (v.2.2.2.2.1.2.2.1, ((x6 + (1:Nat)), ())))), (((List.take x6 v.2.2.2.2.2.1) ++ [r9.1]), ())))))))
    else
      none
  else
    (ko ((x4, (x5, ())), ((v.2.1.1, (v.2.1.2.1, (v.2.1.2.2.1, ((List.take (List.length x0) x0), ())))), ((v.2.2.1.1, (v.2.2.1.2.1, (v.2.2.1.2.2.1, ((List.take (List.length x2) x2), ())))), v.2.2.2))))
noncomputable def ls_kern_product_1 : St → LTr := (lsum ff_kern_product_1 hf_kern_product_1 X_kern_product_1 Prod.mk id st_kern_product_1 (hd [] [] [2, 3, 4, 6, 7, 23, 24, 28, 29] 0))
theorem lp_kern_product_1 : LoopOk PR 0 (lpN f_kern_product 1) ls_kern_product_1 := loopT okO_kern_product mixed (L := LB_kern_product_1) (d := 2) (bs := []) (ks := [2, 3, 4, 6, 7, 23, 24, 28, 29]) (loopsL (l := []) (by kernel_rfl) trivial) (by kernel_rfl) (inS := Prod.mk) (outS := id) (fun _ _ => rfl) (inX := id) (outX := id) (fun _ => rfl) (fun v R kn ko => by kernel_rfl) (hd_wk [] [] [2, 3, 4, 6, 7, 23, 24, 28, 29] 0)
abbrev ff_kern_product_0 : Fm := (.us 2 (.cst (.ref 0 1 0) (.cst (.ref 1 1 0) (.cst (.ref 2 1 0) (.us 1 (.cst (.ref 3 1 0) (.us 16 (.pair (.i .i64) (.pair (.i .i64) (.us 26 .unit))))))))))
abbrev hf_kern_product_0 : List BF := [(.list 1 y_api_Tensor true (.pair (.i .i64) (.pair (.i .i64) (.pair (.i .i64) (.pair (.si .u32) .unit))))), (.list 1 y_api_Tensor true (.pair (.i .i64) (.pair (.i .i64) (.pair (.i .i64) (.pair (.si .u32) .unit))))), (.list 1 y_api_Tensor true (.pair (.i .i64) (.pair (.i .i64) (.pair (.i .i64) (.cst .nils .unit))))), (.list 1 y_api_Tensor true (.pair (.i .i64) (.pair (.i .i64) (.pair (.i .i64) (.pair (.own 4 1 0 1) .unit))))), (.ints 1 y_uint32 true .u32)]
abbrev X_kern_product_0 : Xs := (.one (.exit 0) [4, 6] (.us 4 (.cst (.ref 0 1 0) (.us 1 (.cst (.ref 1 1 0) (.us 44 .unit))))) [(.list 1 y_api_Tensor true (.pair (.i .i64) (.pair (.i .i64) (.pair (.i .i64) (.cst .nils .unit))))), (.list 1 y_api_Tensor true (.pair (.i .i64) (.pair (.i .i64) (.pair (.i .i64) (.pair (.own 2 1 0 1) .unit))))), (.ints 1 y_uint32 true .u32)])
abbrev S_kern_product_0 : Type := T ff_kern_product_0 × TH hf_kern_product_0
abbrev E_kern_product_0 : Type := TX X_kern_product_0
noncomputable def LB_kern_product_0 : Lps := (lpB 9 (.by_ ls_kern_product_1) L0)
noncomputable def st_kern_product_0 : StepT S_kern_product_0 E_kern_product_0 := fun R v kn ko =>
  let x0 : Int := v.1.2.1
  let x1 : Int := v.2.2.1.1
  let x2 : List Int := v.2.1.2.2.2.1
  let x3 : List Int := v.2.2.1.2.2.2.1
  bif (decide (x0 < v.1.1)) then
    ((lim st_kern_product_1 ((x0, (v.1.1, (x0, (x1, ((0:Int), ()))))), ((v.2.1.1, (v.2.1.2.1, (v.2.1.2.2.1, ((List.take (List.length x2) x2), ())))), ((x1, (v.2.2.1.2.1, (v.2.2.1.2.2.1, ((List.take (List.length x3) x3), ())))), v.2.2.2))))).bind fun r4 =>
    let x5 : List Int := r4.2.1.2.2.2.1
    let x6 : List Int := r4.2.2.1.2.2.2.1
    (kn ((r4.1.1, ((IntKind.wrap .i64 (r4.1.2.1 + (1:Int))), ())), ((r4.2.1.1, (r4.2.1.2.1, (r4.2.1.2.2.1, ((List.take (List.length x5) x5), ())))), ((r4.2.2.1.1, (r4.2.2.1.2.1, (r4.2.2.1.2.2.1, ((List.take (List.length x6) x6), ())))), r4.2.2.2))))
  else
    (ko ((), v.2.2.2))
noncomputable def ls_kern_product_0 : St → LTr := (lsum ff_kern_product_0 hf_kern_product_0 X_kern_product_0 Prod.mk id st_kern_product_0 (hd [(.via 6 3, y_uint32, 0, .ints .u32)] [] [2, 3, 4, 6, 23, 24] 0))
theorem lp_kern_product_0 : LoopOk PR 0 (lpN f_kern_product 0) ls_kern_product_0 := loopT okO_kern_product mixed (L := LB_kern_product_0) (d := 1) (bs := []) (ks := [2, 3, 4, 6, 23, 24]) (loopsL (l := [((lpN f_kern_product 1), ls_kern_product_1)]) (by kernel_rfl) ⟨lp_kern_product_1, trivial⟩) (by kernel_rfl) (inS := Prod.mk) (outS := id) (fun _ _ => rfl) (inX := id) (outX := id) (fun _ => rfl) (fun v R kn ko => by kernel_rfl) (hd_wk [(.via 6 3, y_uint32, 0, .ints .u32)] [] [2, 3, 4, 6, 23, 24] 0)
noncomputable def L_kern_product : Lps := (lpB 6 (.by_ ls_kern_product_0) (lpB 9 (.by_ ls_kern_product_1) L0))
def inn_kern_product : T fr_kern_product → TH hr_kern_product → (Int × Int × Int × List Int × Unit) × Int × Unit := (fun z w => z)
def out_kern_product : (Int × Int × Int × List Int × Unit) × Int × Unit → T fr_kern_product × TH hr_kern_product := fun r => (r, ())
noncomputable def F_kern_product (a0 : Int × Int × Int × List Int × Unit) (a1 : Int × Int × Int × List Int × Unit) : Option ((Int × Int × Int × List Int × Unit) × Int × Unit) :=
  let x0 : Int := a0.2.2.1
  let x1 : List Int := a0.2.2.2.1
  let x2 : Int := a1.2.2.1
  let x3 : List Int := a1.2.2.2.1
  bif (a0.2.1 != a1.2.1) then
    (some (((0:Int), ((0:Int), ((0:Int), ([], ())))), ((21:Int), ())))
  else
    ((lim st_kern_product_0 ((a0.1, ((0:Int), ())), ((a0.1, (a0.2.1, (x0, ((List.take (List.length x1) x1), ())))), ((a1.1, (a1.2.1, (x2, ((List.take (List.length x3) x3), ())))), (((0:Int), ((0:Int), ((0:Int), ()))), ((a0.1, (a1.1, ((2:Int), ((0:Nat), ())))), ([], ())))))))).bind fun r4 =>
    (some ((r4.2.2.1.1, (r4.2.2.1.2.1, (r4.2.2.1.2.2.1, ((List.take r4.2.2.1.2.2.2.1 (List.drop (0:Nat) r4.2.2.2.1)), ())))), ((0:Int), ())))
noncomputable def G_kern_product : T fa_kern_product → TH ha_kern_product → Option ((Int × Int × Int × List Int × Unit) × Int × Unit) := fun x y => F_kern_product x.1 x.2.1
noncomputable def c_kern_product : Orc := ent i_kern_product [] 0 (sp fa_kern_product ha_kern_product fr_kern_product hr_kern_product G_kern_product out_kern_product)
theorem ok_kern_product : OrcOk PR c_kern_product := fnT okO_kern_product mixed p_kern_product (by kernel_rfl) (by kernel_rfl) (L := L_kern_product) (kp := false) (by kernel_rfl) (inn := inn_kern_product) (out := out_kern_product) (fun _ _ => rfl) (loopsL (l := [((lpN f_kern_product 0), ls_kern_product_0)]) (by kernel_rfl) ⟨lp_kern_product_0, trivial⟩) (fun x y => by kernel_rfl)
noncomputable def O_kern_times : Orc := (orm c_kern_both (orm c_kern_turned c_kern_product))
theorem okO_kern_times : OrcOk PR O_kern_times := (orm_ok ok_kern_both (orm_ok ok_kern_turned ok_kern_product))
abbrev fa_kern_times : Fm := (.pair (.agg (.pair (.i .i64) (.pair (.i .i64) (.pair (.i .i64) (.pair (.si .u32) .unit))))) (.pair (.agg (.pair (.i .i64) (.pair (.i .i64) (.pair (.i .i64) (.pair (.si .u32) .unit))))) (.pair .b (.pair .b .unit))))
abbrev ha_kern_times : List BF := []
abbrev fr_kern_times : Fm := (.tup (.pair (.agg (.pair (.i .i64) (.pair (.i .i64) (.pair (.i .i64) (.pair (.si .u32) .unit))))) (.pair (.i .i64) .unit)))
abbrev hr_kern_times : List BF := []
noncomputable def L_kern_times : Lps := L0
def inn_kern_times : T fr_kern_times → TH hr_kern_times → (Int × Int × Int × List Int × Unit) × Int × Unit := (fun z w => z)
def out_kern_times : (Int × Int × Int × List Int × Unit) × Int × Unit → T fr_kern_times × TH hr_kern_times := fun r => (r, ())
noncomputable def F_kern_times (a0 : Int × Int × Int × List Int × Unit) (a1 : Int × Int × Int × List Int × Unit) (a2 : Bool) (a3 : Bool) : Option ((Int × Int × Int × List Int × Unit) × Int × Unit) :=
  let x0 : Int := a0.2.2.1
  let x1 : List Int := a0.2.2.2.1
  let x2 : Int := a1.2.2.1
  let x3 : List Int := a1.2.2.2.1
  ((F_kern_both (a0.1, (a0.2.1, (x0, ((List.take (List.length x1) x1), ())))) (a1.1, (a1.2.1, (x2, ((List.take (List.length x3) x3), ())))))).bind fun r4 =>
  let x5 : Bool := r4.2.2.1
  let x6 : Int := r4.1.2.1
  let x7 : Int := r4.1.2.2.1
  let x8 : List Int := r4.1.2.2.2.1
  let x9 : Int := r4.2.1.1
  let x10 : Int := r4.2.1.2.1
  let x11 : Int := r4.2.1.2.2.1
  let x12 : List Int := r4.2.1.2.2.2.1
  bif (!x5) then
    (some (((0:Int), ((0:Int), ((0:Int), ([], ())))), ((21:Int), ())))
  else
    ((F_kern_turned (r4.1.1, (x6, (x7, ((List.take (List.length x8) x8), ())))) a2)).bind fun r13 =>
    let x14 : Int := r13.2.2.1
    let x15 : List Int := r13.2.2.2.1
    ((F_kern_turned (x9, (x10, (x11, ((List.take (List.length x12) x12), ())))) a3)).bind fun r16 =>
    let x17 : Int := r16.2.2.1
    let x18 : List Int := r16.2.2.2.1
    ((F_kern_product (r13.1, (r13.2.1, (x14, ((List.take (List.length x15) x15), ())))) (r16.1, (r16.2.1, (x17, ((List.take (List.length x18) x18), ())))))).bind fun r19 =>
    let x20 : Int := r19.1.2.1
    let x21 : Int := r19.1.2.2.1
    let x22 : List Int := r19.1.2.2.2.1
    (some ((r19.1.1, (x20, (x21, ((List.take (List.length x22) x22), ())))), r19.2))
noncomputable def G_kern_times : T fa_kern_times → TH ha_kern_times → Option ((Int × Int × Int × List Int × Unit) × Int × Unit) := fun x y => F_kern_times x.1 x.2.1 x.2.2.1 x.2.2.2.1
noncomputable def c_kern_times : Orc := ent i_kern_times [] 0 (sp fa_kern_times ha_kern_times fr_kern_times hr_kern_times G_kern_times out_kern_times)
theorem ok_kern_times : OrcOk PR c_kern_times := fnT okO_kern_times mixed p_kern_times (by kernel_rfl) (by kernel_rfl) (L := L_kern_times) (kp := false) (by kernel_rfl) (inn := inn_kern_times) (out := out_kern_times) (fun _ _ => rfl) (loopsL (l := []) (by kernel_rfl) trivial) (fun x y => by kernel_rfl)
noncomputable def O_kern_Plain : Orc := c_kern_times
theorem okO_kern_Plain : OrcOk PR O_kern_Plain := ok_kern_times
abbrev fa_kern_Plain : Fm := (.pair (.agg (.pair (.i .i64) (.pair (.i .i64) (.pair (.i .i64) (.pair (.si .u32) .unit))))) (.pair (.agg (.pair (.i .i64) (.pair (.i .i64) (.pair (.i .i64) (.pair (.si .u32) .unit))))) .unit))
abbrev ha_kern_Plain : List BF := []
abbrev fr_kern_Plain : Fm := (.tup (.pair (.agg (.pair (.i .i64) (.pair (.i .i64) (.pair (.i .i64) (.pair (.si .u32) .unit))))) (.pair (.i .i64) .unit)))
abbrev hr_kern_Plain : List BF := []
noncomputable def L_kern_Plain : Lps := L0
def inn_kern_Plain : T fr_kern_Plain → TH hr_kern_Plain → (Int × Int × Int × List Int × Unit) × Int × Unit := (fun z w => z)
def out_kern_Plain : (Int × Int × Int × List Int × Unit) × Int × Unit → T fr_kern_Plain × TH hr_kern_Plain := fun r => (r, ())
noncomputable def F_kern_Plain (a0 : Int × Int × Int × List Int × Unit) (a1 : Int × Int × Int × List Int × Unit) : Option ((Int × Int × Int × List Int × Unit) × Int × Unit) :=
  let x0 : Int := a0.2.2.1
  let x1 : List Int := a0.2.2.2.1
  let x2 : Int := a1.2.2.1
  let x3 : List Int := a1.2.2.2.1
  ((F_kern_times (a0.1, (a0.2.1, (x0, ((List.take (List.length x1) x1), ())))) (a1.1, (a1.2.1, (x2, ((List.take (List.length x3) x3), ())))) false true)).bind fun r4 =>
  let x5 : Int := r4.1.2.1
  let x6 : Int := r4.1.2.2.1
  let x7 : List Int := r4.1.2.2.2.1
  (some ((r4.1.1, (x5, (x6, ((List.take (List.length x7) x7), ())))), r4.2))
noncomputable def G_kern_Plain : T fa_kern_Plain → TH ha_kern_Plain → Option ((Int × Int × Int × List Int × Unit) × Int × Unit) := fun x y => F_kern_Plain x.1 x.2.1
noncomputable def c_kern_Plain : Orc := ent i_kern_Plain [] 0 (sp fa_kern_Plain ha_kern_Plain fr_kern_Plain hr_kern_Plain G_kern_Plain out_kern_Plain)
theorem ok_kern_Plain : OrcOk PR c_kern_Plain := fnT okO_kern_Plain mixed p_kern_Plain (by kernel_rfl) (by kernel_rfl) (L := L_kern_Plain) (kp := false) (by kernel_rfl) (inn := inn_kern_Plain) (out := out_kern_Plain) (fun _ _ => rfl) (loopsL (l := []) (by kernel_rfl) trivial) (fun x y => by kernel_rfl)
noncomputable def O_kern_Rows : Orc := c_kern_times
theorem okO_kern_Rows : OrcOk PR O_kern_Rows := ok_kern_times
abbrev fa_kern_Rows : Fm := (.pair (.agg (.pair (.i .i64) (.pair (.i .i64) (.pair (.i .i64) (.pair (.si .u32) .unit))))) (.pair (.agg (.pair (.i .i64) (.pair (.i .i64) (.pair (.i .i64) (.pair (.si .u32) .unit))))) .unit))
abbrev ha_kern_Rows : List BF := []
abbrev fr_kern_Rows : Fm := (.tup (.pair (.agg (.pair (.i .i64) (.pair (.i .i64) (.pair (.i .i64) (.pair (.si .u32) .unit))))) (.pair (.i .i64) .unit)))
abbrev hr_kern_Rows : List BF := []
noncomputable def L_kern_Rows : Lps := L0
def inn_kern_Rows : T fr_kern_Rows → TH hr_kern_Rows → (Int × Int × Int × List Int × Unit) × Int × Unit := (fun z w => z)
def out_kern_Rows : (Int × Int × Int × List Int × Unit) × Int × Unit → T fr_kern_Rows × TH hr_kern_Rows := fun r => (r, ())
noncomputable def F_kern_Rows (a0 : Int × Int × Int × List Int × Unit) (a1 : Int × Int × Int × List Int × Unit) : Option ((Int × Int × Int × List Int × Unit) × Int × Unit) :=
  let x0 : Int := a0.2.2.1
  let x1 : List Int := a0.2.2.2.1
  let x2 : Int := a1.2.2.1
  let x3 : List Int := a1.2.2.2.1
  ((F_kern_times (a0.1, (a0.2.1, (x0, ((List.take (List.length x1) x1), ())))) (a1.1, (a1.2.1, (x2, ((List.take (List.length x3) x3), ())))) false false)).bind fun r4 =>
  let x5 : Int := r4.1.2.1
  let x6 : Int := r4.1.2.2.1
  let x7 : List Int := r4.1.2.2.2.1
  (some ((r4.1.1, (x5, (x6, ((List.take (List.length x7) x7), ())))), r4.2))
noncomputable def G_kern_Rows : T fa_kern_Rows → TH ha_kern_Rows → Option ((Int × Int × Int × List Int × Unit) × Int × Unit) := fun x y => F_kern_Rows x.1 x.2.1
noncomputable def c_kern_Rows : Orc := ent i_kern_Rows [] 0 (sp fa_kern_Rows ha_kern_Rows fr_kern_Rows hr_kern_Rows G_kern_Rows out_kern_Rows)
theorem ok_kern_Rows : OrcOk PR c_kern_Rows := fnT okO_kern_Rows mixed p_kern_Rows (by kernel_rfl) (by kernel_rfl) (L := L_kern_Rows) (kp := false) (by kernel_rfl) (inn := inn_kern_Rows) (out := out_kern_Rows) (fun _ _ => rfl) (loopsL (l := []) (by kernel_rfl) trivial) (fun x y => by kernel_rfl)
noncomputable def O_kern_Cols : Orc := c_kern_times
theorem okO_kern_Cols : OrcOk PR O_kern_Cols := ok_kern_times
abbrev fa_kern_Cols : Fm := (.pair (.agg (.pair (.i .i64) (.pair (.i .i64) (.pair (.i .i64) (.pair (.si .u32) .unit))))) (.pair (.agg (.pair (.i .i64) (.pair (.i .i64) (.pair (.i .i64) (.pair (.si .u32) .unit))))) .unit))
abbrev ha_kern_Cols : List BF := []
abbrev fr_kern_Cols : Fm := (.tup (.pair (.agg (.pair (.i .i64) (.pair (.i .i64) (.pair (.i .i64) (.pair (.si .u32) .unit))))) (.pair (.i .i64) .unit)))
abbrev hr_kern_Cols : List BF := []
noncomputable def L_kern_Cols : Lps := L0
def inn_kern_Cols : T fr_kern_Cols → TH hr_kern_Cols → (Int × Int × Int × List Int × Unit) × Int × Unit := (fun z w => z)
def out_kern_Cols : (Int × Int × Int × List Int × Unit) × Int × Unit → T fr_kern_Cols × TH hr_kern_Cols := fun r => (r, ())
noncomputable def F_kern_Cols (a0 : Int × Int × Int × List Int × Unit) (a1 : Int × Int × Int × List Int × Unit) : Option ((Int × Int × Int × List Int × Unit) × Int × Unit) :=
  let x0 : Int := a0.2.2.1
  let x1 : List Int := a0.2.2.2.1
  let x2 : Int := a1.2.2.1
  let x3 : List Int := a1.2.2.2.1
  ((F_kern_times (a0.1, (a0.2.1, (x0, ((List.take (List.length x1) x1), ())))) (a1.1, (a1.2.1, (x2, ((List.take (List.length x3) x3), ())))) true true)).bind fun r4 =>
  let x5 : Int := r4.1.2.1
  let x6 : Int := r4.1.2.2.1
  let x7 : List Int := r4.1.2.2.2.1
  (some ((r4.1.1, (x5, (x6, ((List.take (List.length x7) x7), ())))), r4.2))
noncomputable def G_kern_Cols : T fa_kern_Cols → TH ha_kern_Cols → Option ((Int × Int × Int × List Int × Unit) × Int × Unit) := fun x y => F_kern_Cols x.1 x.2.1
noncomputable def c_kern_Cols : Orc := ent i_kern_Cols [] 0 (sp fa_kern_Cols ha_kern_Cols fr_kern_Cols hr_kern_Cols G_kern_Cols out_kern_Cols)
theorem ok_kern_Cols : OrcOk PR c_kern_Cols := fnT okO_kern_Cols mixed p_kern_Cols (by kernel_rfl) (by kernel_rfl) (L := L_kern_Cols) (kp := false) (by kernel_rfl) (inn := inn_kern_Cols) (out := out_kern_Cols) (fun _ _ => rfl) (loopsL (l := []) (by kernel_rfl) trivial) (fun x y => by kernel_rfl)
noncomputable def O_kern_Biasc1 : Orc := c_funcs_Add
theorem okO_kern_Biasc1 : OrcOk PR O_kern_Biasc1 := ok_funcs_Add
abbrev fa_kern_Biasc1 : Fm := (.pair (.i .i64) (.pair (.i .u32) (.cst (.ref 0 1 0) (.cst (.ref 1 1 0) .unit))))
abbrev ha_kern_Biasc1 : List BF := [(.list 1 y_api_Tensor true (.pair (.i .i64) (.pair (.i .i64) (.pair (.i .i64) (.pair (.si .u32) .unit))))), (.list 1 y_api_Tensor true (.pair (.i .i64) (.pair (.i .i64) (.pair (.i .i64) (.pair (.si .u32) .unit)))))]
abbrev fr_kern_Biasc1 : Fm := (.i .u32)
abbrev hr_kern_Biasc1 : List BF := [(.list 1 y_api_Tensor true (.pair (.i .i64) (.pair (.i .i64) (.pair (.i .i64) (.pair (.si .u32) .unit))))), (.list 1 y_api_Tensor true (.pair (.i .i64) (.pair (.i .i64) (.pair (.i .i64) (.pair (.si .u32) .unit)))))]
noncomputable def L_kern_Biasc1 : Lps := L0
def inn_kern_Biasc1 : T fr_kern_Biasc1 → TH hr_kern_Biasc1 → (Int) × ((Int × Int × Int × List Int × Unit) × (Int × Int × Int × List Int × Unit) × Unit) := Prod.mk
def out_kern_Biasc1 : (Int) × ((Int × Int × Int × List Int × Unit) × (Int × Int × Int × List Int × Unit) × Unit) → T fr_kern_Biasc1 × TH hr_kern_Biasc1 := id
noncomputable def F_kern_Biasc1 (a0 : Int) (a1 : Int) (a2 : Int × Int × Int × List Int × Unit) (a3 : Int × Int × Int × List Int × Unit) : Option ((Int) × ((Int × Int × Int × List Int × Unit) × (Int × Int × Int × List Int × Unit) × Unit)) :=
  let x0 : List Int := a2.2.2.2.1
  let x1 : Int := a2.2.2.1
  let x2 : Int := a3.2.2.1
  let x3 : List Int := a3.2.2.2.1
  bif (a3.2.1 == (0:Int)) then
    none
  else
    bif (decide (((0:Int) ≤ (Int.tmod a0 a3.2.1)) ∧ ((Int.tmod a0 a3.2.1) < (((List.length x0) : Nat) : Int)))) then
      ((F_funcs_Add a1 (List.getD x0 (Int.toNat (Int.tmod a0 a3.2.1)) (0:Int)))).bind fun r4 =>
      (some (r4, ((a2.1, (a2.2.1, (x1, ((List.take (List.length x0) x0), ())))), ((a3.1, (a3.2.1, (x2, ((List.take (List.length x3) x3), ())))), ()))))
    else
      none
noncomputable def G_kern_Biasc1 : T fa_kern_Biasc1 → TH ha_kern_Biasc1 → Option ((Int) × ((Int × Int × Int × List Int × Unit) × (Int × Int × Int × List Int × Unit) × Unit)) := fun x y => F_kern_Biasc1 x.1 x.2.1 y.1 y.2.1
noncomputable def c_kern_Biasc1 : Orc := ent i_kern_Biasc1 [false, false, true, true] 0 (sp fa_kern_Biasc1 ha_kern_Biasc1 fr_kern_Biasc1 hr_kern_Biasc1 G_kern_Biasc1 out_kern_Biasc1)
theorem ok_kern_Biasc1 : OrcOk PR c_kern_Biasc1 := fnT okO_kern_Biasc1 mixed p_kern_Biasc1 (by kernel_rfl) (by kernel_rfl) (L := L_kern_Biasc1) (kp := false) (by kernel_rfl) (inn := inn_kern_Biasc1) (out := out_kern_Biasc1) (fun _ _ => rfl) (loopsL (l := []) (by kernel_rfl) trivial) (fun x y => by kernel_rfl)
noncomputable def O_tensor_Each__kern_Biasc1 : Orc := c_kern_Biasc1
theorem okO_tensor_Each__kern_Biasc1 : OrcOk PR O_tensor_Each__kern_Biasc1 := ok_kern_Biasc1
abbrev fa_tensor_Each__kern_Biasc1 : Fm := (.pair (.agg (.pair (.i .i64) (.pair (.i .i64) (.pair (.i .i64) (.pair (.si .u32) .unit))))) (.pair (.i .i64) (.pair (.fn i_kern_Biasc1 (.pair (.ref 0 1 0) (.pair (.ref 1 1 0) .unit))) .unit)))
abbrev ha_tensor_Each__kern_Biasc1 : List BF := [(.list 1 y_api_Tensor true (.pair (.i .i64) (.pair (.i .i64) (.pair (.i .i64) (.pair (.si .u32) .unit))))), (.list 1 y_api_Tensor true (.pair (.i .i64) (.pair (.i .i64) (.pair (.i .i64) (.pair (.si .u32) .unit)))))]
abbrev fr_tensor_Each__kern_Biasc1 : Fm := (.agg (.pair (.i .i64) (.pair (.i .i64) (.pair (.i .i64) (.pair (.si .u32) .unit)))))
abbrev hr_tensor_Each__kern_Biasc1 : List BF := [(.list 1 y_api_Tensor true (.pair (.i .i64) (.pair (.i .i64) (.pair (.i .i64) (.pair (.si .u32) .unit))))), (.list 1 y_api_Tensor true (.pair (.i .i64) (.pair (.i .i64) (.pair (.i .i64) (.pair (.si .u32) .unit)))))]
abbrev ff_tensor_Each__kern_Biasc1_0 : Fm := (.us 2 (.cst (.fn i_kern_Biasc1 (.cst (.ref 0 1 0) (.cst (.ref 1 1 0) .unit))) (.us 3 (.cst (.ref 2 1 0) (.cst (.ref 3 1 0) (.us 13 (.pair (.si .u32) (.pair (.i .i64) (.pair (.i .i64) (.us 14 .unit))))))))))
abbrev hf_tensor_Each__kern_Biasc1_0 : List BF := [(.list 1 y_api_Tensor true (.pair (.i .i64) (.pair (.i .i64) (.pair (.i .i64) (.pair (.si .u32) .unit))))), (.list 1 y_api_Tensor true (.pair (.i .i64) (.pair (.i .i64) (.pair (.i .i64) (.pair (.si .u32) .unit))))), (.list 1 y_api_Tensor true (.pair (.i .i64) (.pair (.i .i64) (.pair (.i .i64) (.cst .nils .unit))))), (.list 1 y_api_Tensor true (.pair (.i .i64) (.pair (.i .i64) (.pair (.i .i64) (.pair (.own 4 1 0 1) .unit))))), (.ints 1 y_uint32 true .u32)]
abbrev X_tensor_Each__kern_Biasc1_0 : Xs := (.one (.exit 0) [6, 7] (.us 6 (.cst (.ref 2 1 0) (.cst (.ref 3 1 0) (.us 30 .unit)))) [(.list 1 y_api_Tensor true (.pair (.i .i64) (.pair (.i .i64) (.pair (.i .i64) (.pair (.si .u32) .unit))))), (.list 1 y_api_Tensor true (.pair (.i .i64) (.pair (.i .i64) (.pair (.i .i64) (.pair (.si .u32) .unit))))), (.list 1 y_api_Tensor true (.pair (.i .i64) (.pair (.i .i64) (.pair (.i .i64) (.cst .nils .unit))))), (.list 1 y_api_Tensor true (.pair (.i .i64) (.pair (.i .i64) (.pair (.i .i64) (.pair (.own 4 1 0 1) .unit))))), (.ints 1 y_uint32 true .u32)])
abbrev S_tensor_Each__kern_Biasc1_0 : Type := T ff_tensor_Each__kern_Biasc1_0 × TH hf_tensor_Each__kern_Biasc1_0
abbrev E_tensor_Each__kern_Biasc1_0 : Type := TX X_tensor_Each__kern_Biasc1_0
noncomputable def LB_tensor_Each__kern_Biasc1_0 : Lps := L0
noncomputable def st_tensor_Each__kern_Biasc1_0 : StepT S_tensor_Each__kern_Biasc1_0 E_tensor_Each__kern_Biasc1_0 := fun R v kn ko =>
  let x0 : Int := v.1.2.2.1
  let x1 : List Int := v.1.1
  let x2 : Nat := (Int.toNat x0)
  let x3 : List Int := v.2.1.2.2.2.1
  let x4 : List Int := v.2.2.1.2.2.2.1
  bif (decide (x0 < v.1.2.1)) then
    bif (decide (((0:Int) ≤ x0) ∧ (x0 < (((List.length x1) : Nat) : Int)))) then
      ((F_kern_Biasc1 x0 (List.getD x1 x2 (0:Int)) (v.2.1.1, (v.2.1.2.1, (v.2.1.2.2.1, ((List.take (List.length x3) x3), ())))) (v.2.2.1.1, (v.2.2.1.2.1, (v.2.2.1.2.2.1, ((List.take (List.length x4) x4), ())))))).bind fun r5 =>
      let x6 : List Int := r5.2.1.2.2.2.1
      let x7 : List Int := r5.2.2.1.2.2.2.1
      bif (decide (((0:Int) ≤ x0) ∧ (x0 < ((v.2.2.2.2.1.2.2.2.1 : Nat) : Int)))) then
        bif (decide (((0:Nat) + (x2 * (1:Nat))) < (List.length v.2.2.2.2.2.1))) then
          (kn (((List.take (List.length x1) x1), (v.1.2.1, ((IntKind.wrap .i64 (x0 + (1:Int))), ()))), ((r5.2.1.1, (r5.2.1.2.1, (r5.2.1.2.2.1, ((List.take (List.length x6) x6), ())))), ((r5.2.2.1.1, (r5.2.2.1.2.1, (r5.2.2.1.2.2.1, ((List.take (List.length x7) x7), ())))), (v.2.2.2.1, (v.2.2.2.2.1, ((List.set v.2.2.2.2.2.1 ((0:Nat) + (x2 * (1:Nat))) r5.1), ())))))))
        else
          none
      else
        none
    else
      none
  else
    (ko ((), ((v.2.1.1, (v.2.1.2.1, (v.2.1.2.2.1, ((List.take (List.length x3) x3), ())))), ((v.2.2.1.1, (v.2.2.1.2.1, (v.2.2.1.2.2.1, ((List.take (List.length x4) x4), ())))), v.2.2.2))))
noncomputable def ls_tensor_Each__kern_Biasc1_0 : St → LTr := (lsum ff_tensor_Each__kern_Biasc1_0 hf_tensor_Each__kern_Biasc1_0 X_tensor_Each__kern_Biasc1_0 Prod.mk id st_tensor_Each__kern_Biasc1_0 (hd [] [] [2, 6, 7, 21, 22, 23] 2))
theorem lp_tensor_Each__kern_Biasc1_0 : LoopOk PR 2 (lpN f_tensor_Each 0) ls_tensor_Each__kern_Biasc1_0 := loopT okO_tensor_Each__kern_Biasc1 mixed (L := LB_tensor_Each__kern_Biasc1_0) (d := 1) (bs := []) (ks := [2, 6, 7, 21, 22, 23]) (loopsL (l := []) (by kernel_rfl) trivial) (by kernel_rfl) (inS := Prod.mk) (outS := id) (fun _ _ => rfl) (inX := id) (outX := id) (fun _ => rfl) (fun v R kn ko => by kernel_rfl) (hd_wk [] [] [2, 6, 7, 21, 22, 23] 2)
noncomputable def L_tensor_Each__kern_Biasc1 : Lps := (lpB 4 (.by_ ls_tensor_Each__kern_Biasc1_0) L0)
def inn_tensor_Each__kern_Biasc1 : T fr_tensor_Each__kern_Biasc1 → TH hr_tensor_Each__kern_Biasc1 → (Int × Int × Int × List Int × Unit) × ((Int × Int × Int × List Int × Unit) × (Int × Int × Int × List Int × Unit) × Unit) := Prod.mk
def out_tensor_Each__kern_Biasc1 : (Int × Int × Int × List Int × Unit) × ((Int × Int × Int × List Int × Unit) × (Int × Int × Int × List Int × Unit) × Unit) → T fr_tensor_Each__kern_Biasc1 × TH hr_tensor_Each__kern_Biasc1 := id
noncomputable def F_tensor_Each__kern_Biasc1 (a0 : Int × Int × Int × List Int × Unit) (a1 : Int) (a2 : Int × Int × Int × List Int × Unit) (a3 : Int × Int × Int × List Int × Unit) : Option ((Int × Int × Int × List Int × Unit) × ((Int × Int × Int × List Int × Unit) × (Int × Int × Int × List Int × Unit) × Unit)) :=
  let x0 : List Int := a0.2.2.2.1
  let x1 : Nat := (List.length x0)
  let x2 : Int := ((x1 : Nat) : Int)
  let x3 : Int := a2.2.2.1
  let x4 : List Int := a2.2.2.2.1
  let x5 : Int := a3.2.2.1
  let x6 : List Int := a3.2.2.2.1
  let x7 : Nat := (Int.toNat x2)
  bif (decide (((0:Int) ≤ x2) ∧ (x2 ≤ (1073741824:Int)))) then
    ((lim st_tensor_Each__kern_Biasc1_0 (((List.take x1 x0), (x2, ((0:Int), ()))), ((a2.1, (a2.2.1, (x3, ((List.take (List.length x4) x4), ())))), ((a3.1, (a3.2.1, (x5, ((List.take (List.length x6) x6), ())))), (((0:Int), ((0:Int), ((0:Int), ()))), ((a0.1, (a0.2.1, (a1, (x7, ())))), ((List.replicate x7 (0:Int)), ())))))))).bind fun r8 =>
    let x9 : List Int := r8.2.1.2.2.2.1
    let x10 : List Int := r8.2.2.1.2.2.2.1
    (some ((r8.2.2.2.2.1.1, (r8.2.2.2.2.1.2.1, (r8.2.2.2.2.1.2.2.1, ((List.take r8.2.2.2.2.1.2.2.2.1 (List.drop (0:Nat) r8.2.2.2.2.2.1)), ())))), ((r8.2.1.1, (r8.2.1.2.1, (r8.2.1.2.2.1, ((List.take (List.length x9) x9), ())))), ((r8.2.2.1.1, (r8.2.2.1.2.1, (r8.2.2.1.2.2.1, ((List.take (List.length x10) x10), ())))), ()))))
  else
    none
noncomputable def G_tensor_Each__kern_Biasc1 : T fa_tensor_Each__kern_Biasc1 → TH ha_tensor_Each__kern_Biasc1 → Option ((Int × Int × Int × List Int × Unit) × ((Int × Int × Int × List Int × Unit) × (Int × Int × Int × List Int × Unit) × Unit)) := fun x y => F_tensor_Each__kern_Biasc1 x.1 x.2.1 y.1 y.2.1
noncomputable def c_tensor_Each__kern_Biasc1 : Orc := ent i_tensor_Each [false, false, true] 0 (sp fa_tensor_Each__kern_Biasc1 ha_tensor_Each__kern_Biasc1 fr_tensor_Each__kern_Biasc1 hr_tensor_Each__kern_Biasc1 G_tensor_Each__kern_Biasc1 out_tensor_Each__kern_Biasc1)
theorem ok_tensor_Each__kern_Biasc1 : OrcOk PR c_tensor_Each__kern_Biasc1 := fnT okO_tensor_Each__kern_Biasc1 mixed p_tensor_Each (by kernel_rfl) (by kernel_rfl) (L := L_tensor_Each__kern_Biasc1) (kp := false) (by kernel_rfl) (inn := inn_tensor_Each__kern_Biasc1) (out := out_tensor_Each__kern_Biasc1) (fun _ _ => rfl) (loopsL (l := [((lpN f_tensor_Each 0), ls_tensor_Each__kern_Biasc1_0)]) (by kernel_rfl) ⟨lp_tensor_Each__kern_Biasc1_0, trivial⟩) (fun x y => by kernel_rfl)
noncomputable def O_kern_Bias : Orc := (orm c_kern_both (orm c_tensor_Each__kern_Biasc1 c_kern_Biasc1))
theorem okO_kern_Bias : OrcOk PR O_kern_Bias := (orm_ok ok_kern_both (orm_ok ok_tensor_Each__kern_Biasc1 ok_kern_Biasc1))
abbrev fa_kern_Bias : Fm := (.pair (.agg (.pair (.i .i64) (.pair (.i .i64) (.pair (.i .i64) (.pair (.si .u32) .unit))))) (.pair (.agg (.pair (.i .i64) (.pair (.i .i64) (.pair (.i .i64) (.pair (.si .u32) .unit))))) .unit))
abbrev ha_kern_Bias : List BF := []
abbrev fr_kern_Bias : Fm := (.tup (.pair (.agg (.pair (.i .i64) (.pair (.i .i64) (.pair (.i .i64) (.pair (.si .u32) .unit))))) (.pair (.i .i64) .unit)))
abbrev hr_kern_Bias : List BF := []
noncomputable def L_kern_Bias : Lps := L0
def inn_kern_Bias : T fr_kern_Bias → TH hr_kern_Bias → (Int × Int × Int × List Int × Unit) × Int × Unit := (fun z w => z)
def out_kern_Bias : (Int × Int × Int × List Int × Unit) × Int × Unit → T fr_kern_Bias × TH hr_kern_Bias := fun r => (r, ())
noncomputable def F_kern_Bias (a0 : Int × Int × Int × List Int × Unit) (a1 : Int × Int × Int × List Int × Unit) : Option ((Int × Int × Int × List Int × Unit) × Int × Unit) :=
  let x0 : Int := a0.2.2.1
  let x1 : List Int := a0.2.2.2.1
  let x2 : Int := a1.2.2.1
  let x3 : List Int := a1.2.2.2.1
  ((F_kern_both (a0.1, (a0.2.1, (x0, ((List.take (List.length x1) x1), ())))) (a1.1, (a1.2.1, (x2, ((List.take (List.length x3) x3), ())))))).bind fun r4 =>
  let x5 : Bool := r4.2.2.1
  let x6 : Int := r4.2.1.1
  let x7 : Int := r4.1.2.1
  let x8 : Int := r4.2.1.2.1
  let x9 : Int := r4.1.2.2.1
  let x10 : List Int := r4.1.2.2.2.1
  let x11 : Int := r4.2.1.2.2.1
  let x12 : List Int := r4.2.1.2.2.2.1
  bif (!x5) then
    (some (((0:Int), ((0:Int), ((0:Int), ([], ())))), ((21:Int), ())))
  else
    bif (x6 != (1:Int)) then
      (some (((0:Int), ((0:Int), ((0:Int), ([], ())))), ((21:Int), ())))
    else
      bif (x7 != x8) then
        (some (((0:Int), ((0:Int), ((0:Int), ([], ())))), ((21:Int), ())))
      else
        ((F_tensor_Each__kern_Biasc1 (r4.1.1, (x7, (x9, ((List.take (List.length x10) x10), ())))) (2:Int) (x6, (x8, (x11, ((List.take (List.length x12) x12), ())))) (r4.1.1, (x7, (x9, ((List.take (List.length x10) x10), ())))))).bind fun r13 =>
        let x14 : List Int := r13.1.2.2.2.1
        (some ((r13.1.1, (r13.1.2.1, (r13.1.2.2.1, ((List.take (List.length x14) x14), ())))), ((0:Int), ())))
noncomputable def G_kern_Bias : T fa_kern_Bias → TH ha_kern_Bias → Option ((Int × Int × Int × List Int × Unit) × Int × Unit) := fun x y => F_kern_Bias x.1 x.2.1
noncomputable def c_kern_Bias : Orc := ent i_kern_Bias [] 0 (sp fa_kern_Bias ha_kern_Bias fr_kern_Bias hr_kern_Bias G_kern_Bias out_kern_Bias)
theorem ok_kern_Bias : OrcOk PR c_kern_Bias := fnT okO_kern_Bias mixed p_kern_Bias (by kernel_rfl) (by kernel_rfl) (L := L_kern_Bias) (kp := false) (by kernel_rfl) (inn := inn_kern_Bias) (out := out_kern_Bias) (fun _ _ => rfl) (loopsL (l := []) (by kernel_rfl) trivial) (fun x y => by kernel_rfl)
noncomputable def O_kern_pairsc1__funcs_Add : Orc := c_funcs_Add
theorem okO_kern_pairsc1__funcs_Add : OrcOk PR O_kern_pairsc1__funcs_Add := ok_funcs_Add
abbrev fa_kern_pairsc1__funcs_Add : Fm := (.pair (.i .i64) (.pair (.i .u32) (.cst (.ref 0 1 0) (.cst (.ref 1 1 0) .unit))))
abbrev ha_kern_pairsc1__funcs_Add : List BF := [(.list 1 y_func_uint32__uint32__uint32 true (.pair (.fn i_funcs_Add .unit) .unit)), (.list 1 y_api_Tensor true (.pair (.i .i64) (.pair (.i .i64) (.pair (.i .i64) (.pair (.si .u32) .unit)))))]
abbrev fr_kern_pairsc1__funcs_Add : Fm := (.i .u32)
abbrev hr_kern_pairsc1__funcs_Add : List BF := [(.list 1 y_func_uint32__uint32__uint32 true (.pair (.fn i_funcs_Add .unit) .unit)), (.list 1 y_api_Tensor true (.pair (.i .i64) (.pair (.i .i64) (.pair (.i .i64) (.pair (.si .u32) .unit)))))]
noncomputable def L_kern_pairsc1__funcs_Add : Lps := L0
def inn_kern_pairsc1__funcs_Add : T fr_kern_pairsc1__funcs_Add → TH hr_kern_pairsc1__funcs_Add → (Int) × ((Unit × Unit) × (Int × Int × Int × List Int × Unit) × Unit) := Prod.mk
def out_kern_pairsc1__funcs_Add : (Int) × ((Unit × Unit) × (Int × Int × Int × List Int × Unit) × Unit) → T fr_kern_pairsc1__funcs_Add × TH hr_kern_pairsc1__funcs_Add := id
noncomputable def F_kern_pairsc1__funcs_Add (a0 : Int) (a1 : Int) (a2 : Int × Int × Int × List Int × Unit) : Option ((Int) × ((Unit × Unit) × (Int × Int × Int × List Int × Unit) × Unit)) :=
  let x0 : List Int := a2.2.2.2.1
  let x1 : Int := a2.2.2.1
  bif (decide (((0:Int) ≤ a0) ∧ (a0 < (((List.length x0) : Nat) : Int)))) then
    ((F_funcs_Add a1 (List.getD x0 (Int.toNat a0) (0:Int)))).bind fun r2 =>
    (some (r2, (((), ()), ((a2.1, (a2.2.1, (x1, ((List.take (List.length x0) x0), ())))), ()))))
  else
    none
noncomputable def G_kern_pairsc1__funcs_Add : T fa_kern_pairsc1__funcs_Add → TH ha_kern_pairsc1__funcs_Add → Option ((Int) × ((Unit × Unit) × (Int × Int × Int × List Int × Unit) × Unit)) := fun x y => F_kern_pairsc1__funcs_Add x.1 x.2.1 y.2.1
noncomputable def c_kern_pairsc1__funcs_Add : Orc := ent i_kern_pairsc1 [false, false, true, true] 0 (sp fa_kern_pairsc1__funcs_Add ha_kern_pairsc1__funcs_Add fr_kern_pairsc1__funcs_Add hr_kern_pairsc1__funcs_Add G_kern_pairsc1__funcs_Add out_kern_pairsc1__funcs_Add)
theorem ok_kern_pairsc1__funcs_Add : OrcOk PR c_kern_pairsc1__funcs_Add := fnT okO_kern_pairsc1__funcs_Add mixed p_kern_pairsc1 (by kernel_rfl) (by kernel_rfl) (L := L_kern_pairsc1__funcs_Add) (kp := false) (by kernel_rfl) (inn := inn_kern_pairsc1__funcs_Add) (out := out_kern_pairsc1__funcs_Add) (fun _ _ => rfl) (loopsL (l := []) (by kernel_rfl) trivial) (fun x y => by kernel_rfl)
noncomputable def O_tensor_Each__pairs_Add : Orc := c_kern_pairsc1__funcs_Add
theorem okO_tensor_Each__pairs_Add : OrcOk PR O_tensor_Each__pairs_Add := ok_kern_pairsc1__funcs_Add
abbrev fa_tensor_Each__pairs_Add : Fm := (.pair (.agg (.pair (.i .i64) (.pair (.i .i64) (.pair (.i .i64) (.pair (.si .u32) .unit))))) (.pair (.i .i64) (.pair (.fn i_kern_pairsc1 (.pair (.ref 0 1 0) (.pair (.ref 1 1 0) .unit))) .unit)))
abbrev ha_tensor_Each__pairs_Add : List BF := [(.list 1 y_func_uint32__uint32__uint32 true (.pair (.fn i_funcs_Add .unit) .unit)), (.list 1 y_api_Tensor true (.pair (.i .i64) (.pair (.i .i64) (.pair (.i .i64) (.pair (.si .u32) .unit)))))]
abbrev fr_tensor_Each__pairs_Add : Fm := (.agg (.pair (.i .i64) (.pair (.i .i64) (.pair (.i .i64) (.pair (.si .u32) .unit)))))
abbrev hr_tensor_Each__pairs_Add : List BF := [(.list 1 y_func_uint32__uint32__uint32 true (.pair (.fn i_funcs_Add .unit) .unit)), (.list 1 y_api_Tensor true (.pair (.i .i64) (.pair (.i .i64) (.pair (.i .i64) (.pair (.si .u32) .unit)))))]
abbrev ff_tensor_Each__pairs_Add_0 : Fm := (.us 2 (.cst (.fn i_kern_pairsc1 (.cst (.ref 0 1 0) (.cst (.ref 1 1 0) .unit))) (.us 3 (.cst (.ref 2 1 0) (.cst (.ref 3 1 0) (.us 13 (.pair (.si .u32) (.pair (.i .i64) (.pair (.i .i64) (.us 14 .unit))))))))))
abbrev hf_tensor_Each__pairs_Add_0 : List BF := [(.list 1 y_func_uint32__uint32__uint32 true (.cst (.fn i_funcs_Add .unit) .unit)), (.list 1 y_api_Tensor true (.pair (.i .i64) (.pair (.i .i64) (.pair (.i .i64) (.pair (.si .u32) .unit))))), (.list 1 y_api_Tensor true (.pair (.i .i64) (.pair (.i .i64) (.pair (.i .i64) (.cst .nils .unit))))), (.list 1 y_api_Tensor true (.pair (.i .i64) (.pair (.i .i64) (.pair (.i .i64) (.pair (.own 4 1 0 1) .unit))))), (.ints 1 y_uint32 true .u32)]
abbrev X_tensor_Each__pairs_Add_0 : Xs := (.one (.exit 0) [6, 7] (.us 6 (.cst (.ref 2 1 0) (.cst (.ref 3 1 0) (.us 30 .unit)))) [(.list 1 y_func_uint32__uint32__uint32 true (.cst (.fn i_funcs_Add .unit) .unit)), (.list 1 y_api_Tensor true (.pair (.i .i64) (.pair (.i .i64) (.pair (.i .i64) (.pair (.si .u32) .unit))))), (.list 1 y_api_Tensor true (.pair (.i .i64) (.pair (.i .i64) (.pair (.i .i64) (.cst .nils .unit))))), (.list 1 y_api_Tensor true (.pair (.i .i64) (.pair (.i .i64) (.pair (.i .i64) (.pair (.own 4 1 0 1) .unit))))), (.ints 1 y_uint32 true .u32)])
abbrev S_tensor_Each__pairs_Add_0 : Type := T ff_tensor_Each__pairs_Add_0 × TH hf_tensor_Each__pairs_Add_0
abbrev E_tensor_Each__pairs_Add_0 : Type := TX X_tensor_Each__pairs_Add_0
noncomputable def LB_tensor_Each__pairs_Add_0 : Lps := L0
noncomputable def st_tensor_Each__pairs_Add_0 : StepT S_tensor_Each__pairs_Add_0 E_tensor_Each__pairs_Add_0 := fun R v kn ko =>
  let x0 : Int := v.1.2.2.1
  let x1 : List Int := v.1.1
  let x2 : Nat := (Int.toNat x0)
  let x3 : List Int := v.2.2.1.2.2.2.1
  bif (decide (x0 < v.1.2.1)) then
    bif (decide (((0:Int) ≤ x0) ∧ (x0 < (((List.length x1) : Nat) : Int)))) then
      ((F_kern_pairsc1__funcs_Add x0 (List.getD x1 x2 (0:Int)) (v.2.2.1.1, (v.2.2.1.2.1, (v.2.2.1.2.2.1, ((List.take (List.length x3) x3), ())))))).bind fun r4 =>
      let x5 : List Int := r4.2.2.1.2.2.2.1
      bif (decide (((0:Int) ≤ x0) ∧ (x0 < ((v.2.2.2.2.1.2.2.2.1 : Nat) : Int)))) then
        bif (decide (((0:Nat) + (x2 * (1:Nat))) < (List.length v.2.2.2.2.2.1))) then
          (kn (((List.take (List.length x1) x1), (v.1.2.1, ((IntKind.wrap .i64 (x0 + (1:Int))), ()))), ((), ((r4.2.2.1.1, (r4.2.2.1.2.1, (r4.2.2.1.2.2.1, ((List.take (List.length x5) x5), ())))), (v.2.2.2.1, (v.2.2.2.2.1, ((List.set v.2.2.2.2.2.1 ((0:Nat) + (x2 * (1:Nat))) r4.1), ())))))))
        else
          none
      else
        none
    else
      none
  else
    (ko ((), ((), ((v.2.2.1.1, (v.2.2.1.2.1, (v.2.2.1.2.2.1, ((List.take (List.length x3) x3), ())))), v.2.2.2))))
noncomputable def ls_tensor_Each__pairs_Add_0 : St → LTr := (lsum ff_tensor_Each__pairs_Add_0 hf_tensor_Each__pairs_Add_0 X_tensor_Each__pairs_Add_0 Prod.mk id st_tensor_Each__pairs_Add_0 (hd [] [] [2, 6, 7, 21, 22, 23] 2))
theorem lp_tensor_Each__pairs_Add_0 : LoopOk PR 2 (lpN f_tensor_Each 0) ls_tensor_Each__pairs_Add_0 := loopT okO_tensor_Each__pairs_Add mixed (L := LB_tensor_Each__pairs_Add_0) (d := 1) (bs := []) (ks := [2, 6, 7, 21, 22, 23]) (loopsL (l := []) (by kernel_rfl) trivial) (by kernel_rfl) (inS := Prod.mk) (outS := id) (fun _ _ => rfl) (inX := id) (outX := id) (fun _ => rfl) (fun v R kn ko => by kernel_rfl) (hd_wk [] [] [2, 6, 7, 21, 22, 23] 2)
noncomputable def L_tensor_Each__pairs_Add : Lps := (lpB 4 (.by_ ls_tensor_Each__pairs_Add_0) L0)
def inn_tensor_Each__pairs_Add : T fr_tensor_Each__pairs_Add → TH hr_tensor_Each__pairs_Add → (Int × Int × Int × List Int × Unit) × ((Unit × Unit) × (Int × Int × Int × List Int × Unit) × Unit) := Prod.mk
def out_tensor_Each__pairs_Add : (Int × Int × Int × List Int × Unit) × ((Unit × Unit) × (Int × Int × Int × List Int × Unit) × Unit) → T fr_tensor_Each__pairs_Add × TH hr_tensor_Each__pairs_Add := id
noncomputable def F_tensor_Each__pairs_Add (a0 : Int × Int × Int × List Int × Unit) (a1 : Int) (a2 : Int × Int × Int × List Int × Unit) : Option ((Int × Int × Int × List Int × Unit) × ((Unit × Unit) × (Int × Int × Int × List Int × Unit) × Unit)) :=
  let x0 : List Int := a0.2.2.2.1
  let x1 : Nat := (List.length x0)
  let x2 : Int := ((x1 : Nat) : Int)
  let x3 : Int := a2.2.2.1
  let x4 : List Int := a2.2.2.2.1
  let x5 : Nat := (Int.toNat x2)
  bif (decide (((0:Int) ≤ x2) ∧ (x2 ≤ (1073741824:Int)))) then
    ((lim st_tensor_Each__pairs_Add_0 (((List.take x1 x0), (x2, ((0:Int), ()))), ((), ((a2.1, (a2.2.1, (x3, ((List.take (List.length x4) x4), ())))), (((0:Int), ((0:Int), ((0:Int), ()))), ((a0.1, (a0.2.1, (a1, (x5, ())))), ((List.replicate x5 (0:Int)), ())))))))).bind fun r6 =>
    let x7 : List Int := r6.2.2.1.2.2.2.1
    (some ((r6.2.2.2.2.1.1, (r6.2.2.2.2.1.2.1, (r6.2.2.2.2.1.2.2.1, ((List.take r6.2.2.2.2.1.2.2.2.1 (List.drop (0:Nat) r6.2.2.2.2.2.1)), ())))), (((), ()), ((r6.2.2.1.1, (r6.2.2.1.2.1, (r6.2.2.1.2.2.1, ((List.take (List.length x7) x7), ())))), ()))))
  else
    none
noncomputable def G_tensor_Each__pairs_Add : T fa_tensor_Each__pairs_Add → TH ha_tensor_Each__pairs_Add → Option ((Int × Int × Int × List Int × Unit) × ((Unit × Unit) × (Int × Int × Int × List Int × Unit) × Unit)) := fun x y => F_tensor_Each__pairs_Add x.1 x.2.1 y.2.1
noncomputable def c_tensor_Each__pairs_Add : Orc := ent i_tensor_Each [false, false, true] 0 (sp fa_tensor_Each__pairs_Add ha_tensor_Each__pairs_Add fr_tensor_Each__pairs_Add hr_tensor_Each__pairs_Add G_tensor_Each__pairs_Add out_tensor_Each__pairs_Add)
theorem ok_tensor_Each__pairs_Add : OrcOk PR c_tensor_Each__pairs_Add := fnT okO_tensor_Each__pairs_Add mixed p_tensor_Each (by kernel_rfl) (by kernel_rfl) (L := L_tensor_Each__pairs_Add) (kp := false) (by kernel_rfl) (inn := inn_tensor_Each__pairs_Add) (out := out_tensor_Each__pairs_Add) (fun _ _ => rfl) (loopsL (l := [((lpN f_tensor_Each 0), ls_tensor_Each__pairs_Add_0)]) (by kernel_rfl) ⟨lp_tensor_Each__pairs_Add_0, trivial⟩) (fun x y => by kernel_rfl)
noncomputable def O_kern_pairs__funcs_Add : Orc := (orm c_kern_both c_tensor_Each__pairs_Add)
theorem okO_kern_pairs__funcs_Add : OrcOk PR O_kern_pairs__funcs_Add := (orm_ok ok_kern_both ok_tensor_Each__pairs_Add)
abbrev fa_kern_pairs__funcs_Add : Fm := (.pair (.agg (.pair (.i .i64) (.pair (.i .i64) (.pair (.i .i64) (.pair (.si .u32) .unit))))) (.pair (.agg (.pair (.i .i64) (.pair (.i .i64) (.pair (.i .i64) (.pair (.si .u32) .unit))))) (.cst (.fn i_funcs_Add .unit) .unit)))
abbrev ha_kern_pairs__funcs_Add : List BF := []
abbrev fr_kern_pairs__funcs_Add : Fm := (.tup (.pair (.agg (.pair (.i .i64) (.pair (.i .i64) (.pair (.i .i64) (.pair (.si .u32) .unit))))) (.pair (.i .i64) .unit)))
abbrev hr_kern_pairs__funcs_Add : List BF := []
noncomputable def L_kern_pairs__funcs_Add : Lps := L0
def inn_kern_pairs__funcs_Add : T fr_kern_pairs__funcs_Add → TH hr_kern_pairs__funcs_Add → (Int × Int × Int × List Int × Unit) × Int × Unit := (fun z w => z)
def out_kern_pairs__funcs_Add : (Int × Int × Int × List Int × Unit) × Int × Unit → T fr_kern_pairs__funcs_Add × TH hr_kern_pairs__funcs_Add := fun r => (r, ())
noncomputable def F_kern_pairs__funcs_Add (a0 : Int × Int × Int × List Int × Unit) (a1 : Int × Int × Int × List Int × Unit) : Option ((Int × Int × Int × List Int × Unit) × Int × Unit) :=
  let x0 : Int := a0.2.2.1
  let x1 : List Int := a0.2.2.2.1
  let x2 : Int := a1.2.2.1
  let x3 : List Int := a1.2.2.2.1
  ((F_kern_both (a0.1, (a0.2.1, (x0, ((List.take (List.length x1) x1), ())))) (a1.1, (a1.2.1, (x2, ((List.take (List.length x3) x3), ())))))).bind fun r4 =>
  let x5 : Bool := r4.2.2.1
  let x6 : Int := r4.2.1.1
  let x7 : Int := r4.1.2.1
  let x8 : Int := r4.2.1.2.1
  let x9 : Int := r4.1.2.2.1
  let x10 : List Int := r4.1.2.2.2.1
  let x11 : Int := r4.2.1.2.2.1
  let x12 : List Int := r4.2.1.2.2.2.1
  bif (!x5) then
    (some (((0:Int), ((0:Int), ((0:Int), ([], ())))), ((21:Int), ())))
  else
    bif (r4.1.1 != x6) then
      (some (((0:Int), ((0:Int), ((0:Int), ([], ())))), ((21:Int), ())))
    else
      bif (x7 != x8) then
        (some (((0:Int), ((0:Int), ((0:Int), ([], ())))), ((21:Int), ())))
      else
        ((F_tensor_Each__pairs_Add (r4.1.1, (x7, (x9, ((List.take (List.length x10) x10), ())))) (2:Int) (x6, (x8, (x11, ((List.take (List.length x12) x12), ())))))).bind fun r13 =>
        let x14 : List Int := r13.1.2.2.2.1
        (some ((r13.1.1, (r13.1.2.1, (r13.1.2.2.1, ((List.take (List.length x14) x14), ())))), ((0:Int), ())))
noncomputable def G_kern_pairs__funcs_Add : T fa_kern_pairs__funcs_Add → TH ha_kern_pairs__funcs_Add → Option ((Int × Int × Int × List Int × Unit) × Int × Unit) := fun x y => F_kern_pairs__funcs_Add x.1 x.2.1
noncomputable def c_kern_pairs__funcs_Add : Orc := ent i_kern_pairs [false, false, true] 0 (sp fa_kern_pairs__funcs_Add ha_kern_pairs__funcs_Add fr_kern_pairs__funcs_Add hr_kern_pairs__funcs_Add G_kern_pairs__funcs_Add out_kern_pairs__funcs_Add)
theorem ok_kern_pairs__funcs_Add : OrcOk PR c_kern_pairs__funcs_Add := fnT okO_kern_pairs__funcs_Add mixed p_kern_pairs (by kernel_rfl) (by kernel_rfl) (L := L_kern_pairs__funcs_Add) (kp := false) (by kernel_rfl) (inn := inn_kern_pairs__funcs_Add) (out := out_kern_pairs__funcs_Add) (fun _ _ => rfl) (loopsL (l := []) (by kernel_rfl) trivial) (fun x y => by kernel_rfl)
noncomputable def O_kern_Add : Orc := (orm c_kern_pairs__funcs_Add c_funcs_Add)
theorem okO_kern_Add : OrcOk PR O_kern_Add := (orm_ok ok_kern_pairs__funcs_Add ok_funcs_Add)
abbrev fa_kern_Add : Fm := (.pair (.agg (.pair (.i .i64) (.pair (.i .i64) (.pair (.i .i64) (.pair (.si .u32) .unit))))) (.pair (.agg (.pair (.i .i64) (.pair (.i .i64) (.pair (.i .i64) (.pair (.si .u32) .unit))))) .unit))
abbrev ha_kern_Add : List BF := []
abbrev fr_kern_Add : Fm := (.tup (.pair (.agg (.pair (.i .i64) (.pair (.i .i64) (.pair (.i .i64) (.pair (.si .u32) .unit))))) (.pair (.i .i64) .unit)))
abbrev hr_kern_Add : List BF := []
noncomputable def L_kern_Add : Lps := L0
def inn_kern_Add : T fr_kern_Add → TH hr_kern_Add → (Int × Int × Int × List Int × Unit) × Int × Unit := (fun z w => z)
def out_kern_Add : (Int × Int × Int × List Int × Unit) × Int × Unit → T fr_kern_Add × TH hr_kern_Add := fun r => (r, ())
noncomputable def F_kern_Add (a0 : Int × Int × Int × List Int × Unit) (a1 : Int × Int × Int × List Int × Unit) : Option ((Int × Int × Int × List Int × Unit) × Int × Unit) :=
  let x0 : Int := a0.2.2.1
  let x1 : List Int := a0.2.2.2.1
  let x2 : Int := a1.2.2.1
  let x3 : List Int := a1.2.2.2.1
  ((F_kern_pairs__funcs_Add (a0.1, (a0.2.1, (x0, ((List.take (List.length x1) x1), ())))) (a1.1, (a1.2.1, (x2, ((List.take (List.length x3) x3), ())))))).bind fun r4 =>
  let x5 : Int := r4.1.2.1
  let x6 : Int := r4.1.2.2.1
  let x7 : List Int := r4.1.2.2.2.1
  (some ((r4.1.1, (x5, (x6, ((List.take (List.length x7) x7), ())))), r4.2))
noncomputable def G_kern_Add : T fa_kern_Add → TH ha_kern_Add → Option ((Int × Int × Int × List Int × Unit) × Int × Unit) := fun x y => F_kern_Add x.1 x.2.1
noncomputable def c_kern_Add : Orc := ent i_kern_Add [] 0 (sp fa_kern_Add ha_kern_Add fr_kern_Add hr_kern_Add G_kern_Add out_kern_Add)
theorem ok_kern_Add : OrcOk PR c_kern_Add := fnT okO_kern_Add mixed p_kern_Add (by kernel_rfl) (by kernel_rfl) (L := L_kern_Add) (kp := false) (by kernel_rfl) (inn := inn_kern_Add) (out := out_kern_Add) (fun _ _ => rfl) (loopsL (l := []) (by kernel_rfl) trivial) (fun x y => by kernel_rfl)
noncomputable def O_annealhelp_Nums : Orc := orn
theorem okO_annealhelp_Nums : OrcOk PR O_annealhelp_Nums := (orn_ok _)
abbrev fa_annealhelp_Nums : Fm := (.pair (.si .u32) (.pair (.si .u32) .unit))
abbrev ha_annealhelp_Nums : List BF := []
abbrev fr_annealhelp_Nums : Fm := .b
abbrev hr_annealhelp_Nums : List BF := []
abbrev ff_annealhelp_Nums_0 : Fm := (.pair (.si .u32) (.pair (.si .u32) (.us 3 (.pair (.i .i64) (.us 20 .unit)))))
abbrev hf_annealhelp_Nums_0 : List BF := []
abbrev X_annealhelp_Nums_0 : Xs := (.alt (.exit 0) [] (.us 26 .unit) [] (.one .ret [4] (.us 4 (.pair .b (.us 21 .unit))) []))
abbrev S_annealhelp_Nums_0 : Type := T ff_annealhelp_Nums_0 × TH hf_annealhelp_Nums_0
abbrev E_annealhelp_Nums_0 : Type := TX X_annealhelp_Nums_0
noncomputable def LB_annealhelp_Nums_0 : Lps := L0
noncomputable def st_annealhelp_Nums_0 : StepT S_annealhelp_Nums_0 E_annealhelp_Nums_0 := fun R v kn ko =>
  let x0 : List Int := v.1.1
  let x1 : Int := v.1.2.2.1
  let x2 : Nat := (Int.toNat x1)
  let x3 : List Int := v.1.2.1
  bif (decide (x1 < (((List.length x0) : Nat) : Int))) then
    bif (decide (((0:Int) ≤ x1) ∧ (x1 < (((List.length x0) : Nat) : Int)))) then
      bif (decide (((0:Int) ≤ x1) ∧ (x1 < (((List.length x3) : Nat) : Int)))) then
        bif ((List.getD x0 x2 (0:Int)) != (List.getD x3 x2 (0:Int))) then
          (ko (Sum.inr ((false, ()), ())))
        else
          (kn (((List.take (List.length x0) x0), ((List.take (List.length x3) x3), ((IntKind.wrap .i64 (x1 + (1:Int))), ()))), ()))
      else
        none
    else
      none
  else
    (ko (Sum.inl ((), ())))
noncomputable def ls_annealhelp_Nums_0 : St → LTr := (lsum ff_annealhelp_Nums_0 hf_annealhelp_Nums_0 X_annealhelp_Nums_0 Prod.mk id st_annealhelp_Nums_0 (hd [] [] [0, 1, 5] 0))
theorem lp_annealhelp_Nums_0 : LoopOk PR 0 (lpN f_annealhelp_Nums 0) ls_annealhelp_Nums_0 := loopT okO_annealhelp_Nums mixed (L := LB_annealhelp_Nums_0) (d := 1) (bs := []) (ks := [0, 1, 5]) (loopsL (l := []) (by kernel_rfl) trivial) (by kernel_rfl) (inS := Prod.mk) (outS := id) (fun _ _ => rfl) (inX := id) (outX := id) (fun _ => rfl) (fun v R kn ko => by kernel_rfl) (hd_wk [] [] [0, 1, 5] 0)
noncomputable def L_annealhelp_Nums : Lps := (lpB 5 (.by_ ls_annealhelp_Nums_0) L0)
def inn_annealhelp_Nums : T fr_annealhelp_Nums → TH hr_annealhelp_Nums → Bool := (fun z w => z)
def out_annealhelp_Nums : Bool → T fr_annealhelp_Nums × TH hr_annealhelp_Nums := fun r => (r, ())
noncomputable def F_annealhelp_Nums (a0 : List Int) (a1 : List Int) : Option (Bool) :=
  bif ((((List.length a0) : Nat) : Int) != (((List.length a1) : Nat) : Int)) then
    (some false)
  else
    ((lim st_annealhelp_Nums_0 (((List.take (List.length a0) a0), ((List.take (List.length a1) a1), ((0:Int), ()))), ()))).bind fun r0 =>
    els (fun l1 =>
      (some true)) (fun r2 =>
      (some r2.1.1)) r0
noncomputable def G_annealhelp_Nums : T fa_annealhelp_Nums → TH ha_annealhelp_Nums → Option (Bool) := fun x y => F_annealhelp_Nums x.1 x.2.1
noncomputable def c_annealhelp_Nums : Orc := ent i_annealhelp_Nums [] 0 (sp fa_annealhelp_Nums ha_annealhelp_Nums fr_annealhelp_Nums hr_annealhelp_Nums G_annealhelp_Nums out_annealhelp_Nums)
theorem ok_annealhelp_Nums : OrcOk PR c_annealhelp_Nums := fnT okO_annealhelp_Nums mixed p_annealhelp_Nums (by kernel_rfl) (by kernel_rfl) (L := L_annealhelp_Nums) (kp := false) (by kernel_rfl) (inn := inn_annealhelp_Nums) (out := out_annealhelp_Nums) (fun _ _ => rfl) (loopsL (l := [((lpN f_annealhelp_Nums 0), ls_annealhelp_Nums_0)]) (by kernel_rfl) ⟨lp_annealhelp_Nums_0, trivial⟩) (fun x y => by kernel_rfl)
noncomputable def O_annealhelp_Tensor : Orc := c_annealhelp_Nums
theorem okO_annealhelp_Tensor : OrcOk PR O_annealhelp_Tensor := ok_annealhelp_Nums
abbrev fa_annealhelp_Tensor : Fm := (.pair (.agg (.pair (.i .i64) (.pair (.i .i64) (.pair (.i .i64) (.pair (.si .u32) .unit))))) (.pair (.agg (.pair (.i .i64) (.pair (.i .i64) (.pair (.i .i64) (.pair (.si .u32) .unit))))) .unit))
abbrev ha_annealhelp_Tensor : List BF := []
abbrev fr_annealhelp_Tensor : Fm := .b
abbrev hr_annealhelp_Tensor : List BF := []
noncomputable def L_annealhelp_Tensor : Lps := L0
def inn_annealhelp_Tensor : T fr_annealhelp_Tensor → TH hr_annealhelp_Tensor → Bool := (fun z w => z)
def out_annealhelp_Tensor : Bool → T fr_annealhelp_Tensor × TH hr_annealhelp_Tensor := fun r => (r, ())
noncomputable def F_annealhelp_Tensor (a0 : Int × Int × Int × List Int × Unit) (a1 : Int × Int × Int × List Int × Unit) : Option (Bool) :=
  let x0 : Int := a0.2.2.1
  let x1 : Int := a1.2.2.1
  let x2 : List Int := a0.2.2.2.1
  let x3 : List Int := a1.2.2.2.1
  bif (a0.1 == a1.1) then
    bif (a0.2.1 == a1.2.1) then
      bif (x0 == x1) then
        ((F_annealhelp_Nums (List.take (List.length x2) x2) (List.take (List.length x3) x3))).bind fun r4 =>
        (some r4)
      else
        (some false)
    else
      (some false)
  else
    (some false)
noncomputable def G_annealhelp_Tensor : T fa_annealhelp_Tensor → TH ha_annealhelp_Tensor → Option (Bool) := fun x y => F_annealhelp_Tensor x.1 x.2.1
noncomputable def c_annealhelp_Tensor : Orc := ent i_annealhelp_Tensor [] 0 (sp fa_annealhelp_Tensor ha_annealhelp_Tensor fr_annealhelp_Tensor hr_annealhelp_Tensor G_annealhelp_Tensor out_annealhelp_Tensor)
theorem ok_annealhelp_Tensor : OrcOk PR c_annealhelp_Tensor := fnT okO_annealhelp_Tensor mixed p_annealhelp_Tensor (by kernel_rfl) (by kernel_rfl) (L := L_annealhelp_Tensor) (kp := false) (by kernel_rfl) (inn := inn_annealhelp_Tensor) (out := out_annealhelp_Tensor) (fun _ _ => rfl) (loopsL (l := []) (by kernel_rfl) trivial) (fun x y => by kernel_rfl)
noncomputable def O_annealseat_Tensor : Orc := (orm c_annealseat_Mild c_annealseat_Num)
theorem okO_annealseat_Tensor : OrcOk PR O_annealseat_Tensor := (orm_ok ok_annealseat_Mild ok_annealseat_Num)
abbrev fa_annealseat_Tensor : Fm := (.pair (.i .i64) (.pair (.i .i64) (.pair (.i .i64) (.pair (.si .u32) (.pair .b .unit)))))
abbrev ha_annealseat_Tensor : List BF := []
abbrev fr_annealseat_Tensor : Fm := (.agg (.pair (.i .i64) (.pair (.i .i64) (.pair (.i .i64) (.pair (.si .u32) .unit)))))
abbrev hr_annealseat_Tensor : List BF := []
abbrev ff_annealseat_Tensor_0 : Fm := (.pair (.i .i64) (.pair (.i .i64) (.pair (.i .i64) (.pair (.si .u32) (.pair .b (.us 5 (.cst (.ref 0 1 0) (.cst (.ref 1 1 0) (.pair (.i .i64) (.us 50 .unit))))))))))
abbrev hf_annealseat_Tensor_0 : List BF := [(.list 1 y_api_Tensor true (.pair (.i .i64) (.pair (.i .i64) (.pair (.i .i64) (.cst .nils .unit))))), (.list 1 y_api_Tensor true (.pair (.i .i64) (.pair (.i .i64) (.pair (.i .i64) (.pair (.own 2 1 0 1) .unit))))), (.ints 1 y_uint32 true .u32)]
abbrev X_annealseat_Tensor_0 : Xs := (.one (.exit 0) [10, 11] (.us 10 (.cst (.ref 0 1 0) (.cst (.ref 1 1 0) (.us 51 .unit)))) [(.list 1 y_api_Tensor true (.pair (.i .i64) (.pair (.i .i64) (.pair (.i .i64) (.cst .nils .unit))))), (.list 1 y_api_Tensor true (.pair (.i .i64) (.pair (.i .i64) (.pair (.i .i64) (.pair (.own 2 1 0 1) .unit))))), (.ints 1 y_uint32 true .u32)])
abbrev S_annealseat_Tensor_0 : Type := T ff_annealseat_Tensor_0 × TH hf_annealseat_Tensor_0
abbrev E_annealseat_Tensor_0 : Type := TX X_annealseat_Tensor_0
noncomputable def LB_annealseat_Tensor_0 : Lps := L0
noncomputable def st_annealseat_Tensor_0 : StepT S_annealseat_Tensor_0 E_annealseat_Tensor_0 := fun R v kn ko =>
  let x0 : List Int := v.1.2.2.2.1
  let x1 : Nat := (List.length x0)
  let x2 : Int := ((x1 : Nat) : Int)
  let x3 : Bool := (x2 == (0:Int))
  let x4 : Bool := v.1.2.2.2.2.1
  let x5 : Int := v.1.2.2.1
  let x6 : Int := v.1.2.2.2.2.2.1
  let x7 : Int := (IntKind.wrap .u32 ((List.getD x0 (Int.toNat (Int.tmod x6 x2)) (0:Int)) + (IntKind.wrap .u32 ((IntKind.wrap .u32 (IntKind.wrap .i64 (Int.tdiv x6 x2))) * (40503:Int)))))
  let x8 : Nat := v.2.2.1.2.2.2.1
  let x9 : List Int := (List.take x8 v.2.2.2.1)
  let x10 : Int := (IntKind.wrap .u32 ((IntKind.wrap .u32 x6) * (2654435761:Int)))
  bif (decide (x6 < (IntKind.wrap .i64 (v.1.1 * v.1.2.1)))) then
    bif (decide (x2 > (0:Int))) then
      bif x3 then
        none
      else
        bif (decide (((0:Int) ≤ (Int.tmod x6 x2)) ∧ ((Int.tmod x6 x2) < x2))) then
          bif x3 then
            none
          else
            bif x4 then
              ((F_annealseat_Mild x5 x7)).bind fun r11 =>
              bif (decide ((x8 + (1:Nat)) ≤ (1073741824:Nat))) then
                (kn ((v.1.1, (v.1.2.1, (x5, ((List.take x1 x0), (x4, ((IntKind.wrap .i64 (x6 + (1:Int))), ())))))), (v.2.1, ((v.2.2.1.1, (v.2.2.1.2.1, (v.2.2.1.2.2.1, ((x8 + (1:Nat)), ())))), ((x9 ++ [r11]), ())))))
              else
                none
            else
              ((F_annealseat_Num x5 x7)).bind fun r12 =>
              bif (decide ((x8 + (1:Nat)) ≤ (1073741824:Nat))) then
                (kn ((v.1.1, (v.1.2.1, (x5, ((List.take x1 x0), (x4, ((IntKind.wrap .i64 (x6 + (1:Int))), ())))))), (v.2.1, ((v.2.2.1.1, (v.2.2.1.2.1, (v.2.2.1.2.2.1, ((x8 + (1:Nat)), ())))), ((x9 ++ [r12]), ())))))
              else
                none
        else
          none
    else
      bif x4 then
        ((F_annealseat_Mild x5 x10)).bind fun r13 =>
        bif (decide ((x8 + (1:Nat)) ≤ (1073741824:Nat))) then
          (kn ((v.1.1, (v.1.2.1, (x5, ((List.take x1 x0), (x4, ((IntKind.wrap .i64 (x6 + (1:Int))), ())))))), (v.2.1, ((v.2.2.1.1, (v.2.2.1.2.1, (v.2.2.1.2.2.1, ((x8 + (1:Nat)), ())))), ((x9 ++ [r13]), ())))))
        else
          none
      else
        ((F_annealseat_Num x5 x10)).bind fun r14 =>
        bif (decide ((x8 + (1:Nat)) ≤ (1073741824:Nat))) then
          (kn ((v.1.1, (v.1.2.1, (x5, ((List.take x1 x0), (x4, ((IntKind.wrap .i64 (x6 + (1:Int))), ())))))), (v.2.1, ((v.2.2.1.1, (v.2.2.1.2.1, (v.2.2.1.2.2.1, ((x8 + (1:Nat)), ())))), ((x9 ++ [r14]), ())))))
        else
          none
  else
    (ko ((), v.2))
noncomputable def ls_annealseat_Tensor_0 : St → LTr := (lsum ff_annealseat_Tensor_0 hf_annealseat_Tensor_0 X_annealseat_Tensor_0 Prod.mk id st_annealseat_Tensor_0 (hd [(.via 11 3, y_uint32, 0, .ints .u32)] [] [0, 1, 2, 3, 4, 10, 11, 12] 0))
theorem lp_annealseat_Tensor_0 : LoopOk PR 0 (lpN f_annealseat_Tensor 0) ls_annealseat_Tensor_0 := loopT okO_annealseat_Tensor mixed (L := LB_annealseat_Tensor_0) (d := 1) (bs := []) (ks := [0, 1, 2, 3, 4, 10, 11, 12]) (loopsL (l := []) (by kernel_rfl) trivial) (by kernel_rfl) (inS := Prod.mk) (outS := id) (fun _ _ => rfl) (inX := id) (outX := id) (fun _ => rfl) (fun v R kn ko => by kernel_rfl) (hd_wk [(.via 11 3, y_uint32, 0, .ints .u32)] [] [0, 1, 2, 3, 4, 10, 11, 12] 0)
noncomputable def L_annealseat_Tensor : Lps := (lpB 4 (.by_ ls_annealseat_Tensor_0) L0)
def inn_annealseat_Tensor : T fr_annealseat_Tensor → TH hr_annealseat_Tensor → Int × Int × Int × List Int × Unit := (fun z w => z)
def out_annealseat_Tensor : Int × Int × Int × List Int × Unit → T fr_annealseat_Tensor × TH hr_annealseat_Tensor := fun r => (r, ())
noncomputable def F_annealseat_Tensor (a0 : Int) (a1 : Int) (a2 : Int) (a3 : List Int) (a4 : Bool) : Option (Int × Int × Int × List Int × Unit) :=
  ((lim st_annealseat_Tensor_0 ((a0, (a1, (a2, ((List.take (List.length a3) a3), (a4, ((0:Int), ())))))), (((0:Int), ((0:Int), ((0:Int), ()))), ((a0, (a1, (a2, ((0:Nat), ())))), ([], ())))))).bind fun r0 =>
  (some (r0.2.2.1.1, (r0.2.2.1.2.1, (r0.2.2.1.2.2.1, ((List.take r0.2.2.1.2.2.2.1 (List.drop (0:Nat) r0.2.2.2.1)), ())))))
noncomputable def G_annealseat_Tensor : T fa_annealseat_Tensor → TH ha_annealseat_Tensor → Option (Int × Int × Int × List Int × Unit) := fun x y => F_annealseat_Tensor x.1 x.2.1 x.2.2.1 x.2.2.2.1 x.2.2.2.2.1
noncomputable def c_annealseat_Tensor : Orc := ent i_annealseat_Tensor [] 0 (sp fa_annealseat_Tensor ha_annealseat_Tensor fr_annealseat_Tensor hr_annealseat_Tensor G_annealseat_Tensor out_annealseat_Tensor)
theorem ok_annealseat_Tensor : OrcOk PR c_annealseat_Tensor := fnT okO_annealseat_Tensor mixed p_annealseat_Tensor (by kernel_rfl) (by kernel_rfl) (L := L_annealseat_Tensor) (kp := false) (by kernel_rfl) (inn := inn_annealseat_Tensor) (out := out_annealseat_Tensor) (fun _ _ => rfl) (loopsL (l := [((lpN f_annealseat_Tensor 0), ls_annealseat_Tensor_0)]) (by kernel_rfl) ⟨lp_annealseat_Tensor_0, trivial⟩) (fun x y => by kernel_rfl)
end Go.Proofs.Ytkknnloamidaiaa.VI
