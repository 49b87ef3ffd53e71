import Derived.Test.YtkknnloamidaiaaT49935bf6
namespace Go.Proofs.Ytkknnloamidaiaa.VI
set_option linter.unusedVariables false
set_option linter.unusedSimpArgs false
set_option maxRecDepth 100000
set_option linter.unusedSimpArgs false
set_option linter.unusedVariables false
noncomputable def O_annealref13_known : Orc := orn
theorem okO_annealref13_known : OrcOk PR O_annealref13_known := (orn_ok _)
abbrev fa_annealref13_known : Fm := (.pair (.i .i64) .unit)
abbrev ha_annealref13_known : List BF := []
abbrev fr_annealref13_known : Fm := .b
abbrev hr_annealref13_known : List BF := []
noncomputable def L_annealref13_known : Lps := L0
def inn_annealref13_known : T fr_annealref13_known → TH hr_annealref13_known → Bool := (fun z w => z)
def out_annealref13_known : Bool → T fr_annealref13_known × TH hr_annealref13_known := fun r => (r, ())
noncomputable def F_annealref13_known (a0 : Int) : Option (Bool) :=
  bif (a0 == (0:Int)) then
    (some true)
  else
    bif (a0 == (1:Int)) then
      (some true)
    else
      (some (a0 == (2:Int)))
noncomputable def G_annealref13_known : T fa_annealref13_known → TH ha_annealref13_known → Option (Bool) := fun x y => F_annealref13_known x.1
noncomputable def c_annealref13_known : Orc := ent i_annealref13_known [] 0 (sp fa_annealref13_known ha_annealref13_known fr_annealref13_known hr_annealref13_known G_annealref13_known out_annealref13_known)
theorem ok_annealref13_known : OrcOk PR c_annealref13_known := fnT okO_annealref13_known mixed p_annealref13_known (by kernel_rfl) (by kernel_rfl) (L := L_annealref13_known) (kp := false) (by kernel_rfl) (inn := inn_annealref13_known) (out := out_annealref13_known) (fun _ _ => rfl) (loopsL (l := []) (by kernel_rfl) trivial) (fun x y => by kernel_rfl)
noncomputable def O_annealref13_Right : Orc := (orm c_annealref13_known c_annealref1_Mask)
theorem okO_annealref13_Right : OrcOk PR O_annealref13_Right := (orm_ok ok_annealref13_known ok_annealref1_Mask)
abbrev fa_annealref13_Right : Fm := (.pair (.agg (.pair (.i .i64) (.pair (.i .i64) (.pair (.i .i64) (.pair (.si .u32) .unit))))) .unit)
abbrev ha_annealref13_Right : List BF := []
abbrev fr_annealref13_Right : Fm := .b
abbrev hr_annealref13_Right : List BF := []
abbrev ff_annealref13_Right_0 : Fm := (.us 1 (.cst (.ref 0 1 0) (.us 1 (.pair (.i .i64) (.us 52 .unit)))))
abbrev hf_annealref13_Right_0 : List BF := [(.list 1 y_api_Tensor true (.pair (.i .i64) (.pair (.i .i64) (.pair (.i .i64) (.pair (.si .u32) .unit)))))]
abbrev X_annealref13_Right_0 : Xs := (.alt (.exit 0) [] (.us 56 .unit) [] (.one .ret [2] (.us 2 (.pair .b (.us 53 .unit))) []))
abbrev S_annealref13_Right_0 : Type := T ff_annealref13_Right_0 × TH hf_annealref13_Right_0
abbrev E_annealref13_Right_0 : Type := TX X_annealref13_Right_0
noncomputable def LB_annealref13_Right_0 : Lps := L0
noncomputable def st_annealref13_Right_0 : StepT S_annealref13_Right_0 E_annealref13_Right_0 := fun R v kn ko =>
  let x0 : Int := v.2.1.2.2.1
  let x1 : List Int := v.2.1.2.2.2.1
  let x2 : Int := v.1.1
  bif (decide (x2 < (((List.length x1) : Nat) : Int))) then
    bif (decide (((0:Int) ≤ x2) ∧ (x2 < (((List.length x1) : Nat) : Int)))) then
      ((F_annealref1_Mask x0)).bind fun r3 =>
      bif ((bits .andNot .u32 (List.getD x1 (Int.toNat x2) (0:Int)) r3) != (0:Int)) then
        (ko (Sum.inr ((false, ()), ())))
      else
        (kn (((IntKind.wrap .i64 (x2 + (1:Int))), ()), ((v.2.1.1, (v.2.1.2.1, (x0, ((List.take (List.length x1) x1), ())))), ())))
    else
      none
  else
    (ko (Sum.inl ((), ())))
noncomputable def ls_annealref13_Right_0 : St → LTr := (lsum ff_annealref13_Right_0 hf_annealref13_Right_0 X_annealref13_Right_0 Prod.mk id st_annealref13_Right_0 (hd [] [] [1, 3] 0))
theorem lp_annealref13_Right_0 : LoopOk PR 0 (lpN f_annealref13_Right 0) ls_annealref13_Right_0 := loopT okO_annealref13_Right mixed (L := LB_annealref13_Right_0) (d := 1) (bs := []) (ks := [1, 3]) (loopsL (l := []) (by kernel_rfl) trivial) (by kernel_rfl) (inS := Prod.mk) (outS := id) (fun _ _ => rfl) (inX := id) (outX := id) (fun _ => rfl) (fun v R kn ko => by kernel_rfl) (hd_wk [] [] [1, 3] 0)
noncomputable def L_annealref13_Right : Lps := (lpB 5 (.by_ ls_annealref13_Right_0) L0)
def inn_annealref13_Right : T fr_annealref13_Right → TH hr_annealref13_Right → Bool := (fun z w => z)
def out_annealref13_Right : Bool → T fr_annealref13_Right × TH hr_annealref13_Right := fun r => (r, ())
noncomputable def F_annealref13_Right (a0 : Int × Int × Int × List Int × Unit) : Option (Bool) :=
  let x0 : Int := a0.2.2.1
  let x1 : List Int := a0.2.2.2.1
  let x2 : Nat := (List.length x1)
  bif (decide (a0.1 < (0:Int))) then
    (some false)
  else
    bif (decide (a0.1 > (4096:Int))) then
      (some false)
    else
      bif (decide (a0.2.1 < (0:Int))) then
        (some false)
      else
        bif (decide (a0.2.1 > (4096:Int))) then
          (some false)
        else
          ((F_annealref13_known x0)).bind fun r3 =>
          bif (!r3) then
            (some false)
          else
            bif (((x2 : Nat) : Int) != (IntKind.wrap .i64 (a0.1 * a0.2.1))) then
              (some false)
            else
              ((lim st_annealref13_Right_0 (((0:Int), ()), ((a0.1, (a0.2.1, (x0, ((List.take x2 x1), ())))), ())))).bind fun r4 =>
              els (fun l5 =>
                (some true)) (fun r6 =>
                (some r6.1.1)) r4
noncomputable def G_annealref13_Right : T fa_annealref13_Right → TH ha_annealref13_Right → Option (Bool) := fun x y => F_annealref13_Right x.1
noncomputable def c_annealref13_Right : Orc := ent i_annealref13_Right [] 0 (sp fa_annealref13_Right ha_annealref13_Right fr_annealref13_Right hr_annealref13_Right G_annealref13_Right out_annealref13_Right)
theorem ok_annealref13_Right : OrcOk PR c_annealref13_Right := fnT okO_annealref13_Right mixed p_annealref13_Right (by kernel_rfl) (by kernel_rfl) (L := L_annealref13_Right) (kp := false) (by kernel_rfl) (inn := inn_annealref13_Right) (out := out_annealref13_Right) (fun _ _ => rfl) (loopsL (l := [((lpN f_annealref13_Right 0), ls_annealref13_Right_0)]) (by kernel_rfl) ⟨lp_annealref13_Right_0, trivial⟩) (fun x y => by kernel_rfl)
noncomputable def O_annealref13_at : Orc := orn
theorem okO_annealref13_at : OrcOk PR O_annealref13_at := (orn_ok _)
abbrev fa_annealref13_at : Fm := (.pair (.agg (.pair (.i .i64) (.pair (.i .i64) (.pair (.i .i64) (.pair (.si .u32) .unit))))) (.pair (.i .i64) (.pair (.i .i64) .unit)))
abbrev ha_annealref13_at : List BF := []
abbrev fr_annealref13_at : Fm := (.i .u32)
abbrev hr_annealref13_at : List BF := []
noncomputable def L_annealref13_at : Lps := L0
def inn_annealref13_at : T fr_annealref13_at → TH hr_annealref13_at → Int := (fun z w => z)
def out_annealref13_at : Int → T fr_annealref13_at × TH hr_annealref13_at := fun r => (r, ())
noncomputable def F_annealref13_at (a0 : Int × Int × Int × List Int × Unit) (a1 : Int) (a2 : Int) : Option (Int) :=
  let x0 : List Int := a0.2.2.2.1
  bif (decide (((0:Int) ≤ (IntKind.wrap .i64 ((IntKind.wrap .i64 (a1 * a0.2.1)) + a2))) ∧ ((IntKind.wrap .i64 ((IntKind.wrap .i64 (a1 * a0.2.1)) + a2)) < (((List.length x0) : Nat) : Int)))) then
    (some (List.getD x0 (Int.toNat (IntKind.wrap .i64 ((IntKind.wrap .i64 (a1 * a0.2.1)) + a2))) (0:Int)))
  else
    none
noncomputable def G_annealref13_at : T fa_annealref13_at → TH ha_annealref13_at → Option (Int) := fun x y => F_annealref13_at x.1 x.2.1 x.2.2.1
noncomputable def c_annealref13_at : Orc := ent i_annealref13_at [] 0 (sp fa_annealref13_at ha_annealref13_at fr_annealref13_at hr_annealref13_at G_annealref13_at out_annealref13_at)
theorem ok_annealref13_at : OrcOk PR c_annealref13_at := fnT okO_annealref13_at mixed p_annealref13_at (by kernel_rfl) (by kernel_rfl) (L := L_annealref13_at) (kp := false) (by kernel_rfl) (inn := inn_annealref13_at) (out := out_annealref13_at) (fun _ _ => rfl) (loopsL (l := []) (by kernel_rfl) trivial) (fun x y => by kernel_rfl)
noncomputable def O_annealref13_Turn : Orc := (orm c_annealref13_Right c_annealref13_at)
theorem okO_annealref13_Turn : OrcOk PR O_annealref13_Turn := (orm_ok ok_annealref13_Right ok_annealref13_at)
abbrev fa_annealref13_Turn : Fm := (.pair (.agg (.pair (.i .i64) (.pair (.i .i64) (.pair (.i .i64) (.pair (.si .u32) .unit))))) .unit)
abbrev ha_annealref13_Turn : List BF := []
abbrev fr_annealref13_Turn : Fm := (.tup (.pair (.agg (.pair (.i .i64) (.pair (.i .i64) (.pair (.i .i64) (.pair (.si .u32) .unit))))) (.pair (.i .i64) .unit)))
abbrev hr_annealref13_Turn : List BF := []
abbrev ff_annealref13_Turn_1 : Fm := (.us 1 (.cst (.ref 0 1 0) (.cst (.ref 1 1 0) (.us 1 (.cst (.ref 2 1 0) (.pair (.i .i64) (.pair (.i .i64) (.us 41 .unit))))))))
abbrev hf_annealref13_Turn_1 : List BF := [(.list 1 y_api_Tensor true (.pair (.i .i64) (.pair (.i .i64) (.pair (.i .i64) (.pair (.si .u32) .unit))))), (.list 1 y_api_Tensor true (.pair (.i .i64) (.pair (.i .i64) (.pair (.i .i64) (.cst .nils .unit))))), (.list 1 y_api_Tensor true (.pair (.i .i64) (.pair (.i .i64) (.pair (.i .i64) (.pair (.own 3 1 0 1) .unit))))), (.ints 1 y_uint32 true .u32)]
abbrev X_annealref13_Turn_1 : Xs := (.one (.exit 2) [1, 2, 4, 5] (.us 1 (.cst (.ref 0 1 0) (.cst (.ref 1 1 0) (.us 1 (.cst (.ref 2 1 0) (.pair (.i .i64) (.us 42 .unit))))))) [(.list 1 y_api_Tensor true (.pair (.i .i64) (.pair (.i .i64) (.pair (.i .i64) (.pair (.si .u32) .unit))))), (.list 1 y_api_Tensor true (.pair (.i .i64) (.pair (.i .i64) (.pair (.i .i64) (.cst .nils .unit))))), (.list 1 y_api_Tensor true (.pair (.i .i64) (.pair (.i .i64) (.pair (.i .i64) (.pair (.own 3 1 0 1) .unit))))), (.ints 1 y_uint32 true .u32)])
abbrev S_annealref13_Turn_1 : Type := T ff_annealref13_Turn_1 × TH hf_annealref13_Turn_1
abbrev E_annealref13_Turn_1 : Type := TX X_annealref13_Turn_1
noncomputable def LB_annealref13_Turn_1 : Lps := L0
noncomputable def st_annealref13_Turn_1 : StepT S_annealref13_Turn_1 E_annealref13_Turn_1 := fun R v kn ko =>
  let x0 : Int := v.2.1.1
  let x1 : List Int := v.2.1.2.2.2.1
  let x2 : Int := v.1.1
  let x3 : Int := v.1.2.1
  bif (decide (x3 < v.2.1.2.1)) then
    ((F_annealref13_at (x0, (v.2.1.2.1, (v.2.1.2.2.1, ((List.take (List.length x1) x1), ())))) x2 x3)).bind fun r4 =>
    bif (decide (((0:Int) ≤ (IntKind.wrap .i64 ((IntKind.wrap .i64 (x3 * x0)) + x2))) ∧ ((IntKind.wrap .i64 ((IntKind.wrap .i64 (x3 * x0)) + x2)) < ((v.2.2.2.1.2.2.2.1 : Nat) : Int)))) then
      bif (decide (((0:Nat) + ((Int.toNat (IntKind.wrap .i64 ((IntKind.wrap .i64 (x3 * x0)) + x2))) * (1:Nat))) < (List.length v.2.2.2.2.1))) then
        (kn ((x2, ((IntKind.wrap .i64 (x3 + (1:Int))), ())), ((x0, (v.2.1.2.1, (v.2.1.2.2.1, ((List.take (List.length x1) x1), ())))), (v.2.2.1, (v.2.2.2.1, ((List.set v.2.2.2.2.1 ((0:Nat) + ((Int.toNat (IntKind.wrap .i64 ((IntKind.wrap .i64 (x3 * x0)) + x2))) * (1:Nat))) r4), ()))))))
      else
        none
    else
      none
  else
    (ko ((x2, ()), ((x0, (v.2.1.2.1, (v.2.1.2.2.1, ((List.take (List.length x1) x1), ())))), v.2.2)))
noncomputable def ls_annealref13_Turn_1 : St → LTr := (lsum ff_annealref13_Turn_1 hf_annealref13_Turn_1 X_annealref13_Turn_1 Prod.mk id st_annealref13_Turn_1 (hd [] [] [1, 2, 4, 5, 6] 0))
theorem lp_annealref13_Turn_1 : LoopOk PR 0 (lpN f_annealref13_Turn 1) ls_annealref13_Turn_1 := loopT okO_annealref13_Turn mixed (L := LB_annealref13_Turn_1) (d := 2) (bs := []) (ks := [1, 2, 4, 5, 6]) (loopsL (l := []) (by kernel_rfl) trivial) (by kernel_rfl) (inS := Prod.mk) (outS := id) (fun _ _ => rfl) (inX := id) (outX := id) (fun _ => rfl) (fun v R kn ko => by kernel_rfl) (hd_wk [] [] [1, 2, 4, 5, 6] 0)
abbrev ff_annealref13_Turn_0 : Fm := (.us 1 (.cst (.ref 0 1 0) (.cst (.ref 1 1 0) (.us 1 (.cst (.ref 2 1 0) (.pair (.i .i64) (.us 42 .unit)))))))
abbrev hf_annealref13_Turn_0 : List BF := [(.list 1 y_api_Tensor true (.pair (.i .i64) (.pair (.i .i64) (.pair (.i .i64) (.pair (.si .u32) .unit))))), (.list 1 y_api_Tensor true (.pair (.i .i64) (.pair (.i .i64) (.pair (.i .i64) (.cst .nils .unit))))), (.list 1 y_api_Tensor true (.pair (.i .i64) (.pair (.i .i64) (.pair (.i .i64) (.pair (.own 3 1 0 1) .unit))))), (.ints 1 y_uint32 true .u32)]
abbrev X_annealref13_Turn_0 : Xs := (.one (.exit 0) [2, 4] (.us 2 (.cst (.ref 0 1 0) (.us 1 (.cst (.ref 1 1 0) (.us 43 .unit))))) [(.list 1 y_api_Tensor true (.pair (.i .i64) (.pair (.i .i64) (.pair (.i .i64) (.cst .nils .unit))))), (.list 1 y_api_Tensor true (.pair (.i .i64) (.pair (.i .i64) (.pair (.i .i64) (.pair (.own 2 1 0 1) .unit))))), (.ints 1 y_uint32 true .u32)])
abbrev S_annealref13_Turn_0 : Type := T ff_annealref13_Turn_0 × TH hf_annealref13_Turn_0
abbrev E_annealref13_Turn_0 : Type := TX X_annealref13_Turn_0
noncomputable def LB_annealref13_Turn_0 : Lps := (lpB 9 (.by_ ls_annealref13_Turn_1) L0)
noncomputable def st_annealref13_Turn_0 : StepT S_annealref13_Turn_0 E_annealref13_Turn_0 := fun R v kn ko =>
  let x0 : List Int := v.2.1.2.2.2.1
  bif (decide (v.1.1 < v.2.1.1)) then
    ((lim st_annealref13_Turn_1 ((v.1.1, ((0:Int), ())), ((v.2.1.1, (v.2.1.2.1, (v.2.1.2.2.1, ((List.take (List.length x0) x0), ())))), v.2.2)))).bind fun r1 =>
    let x2 : List Int := r1.2.1.2.2.2.1
    (kn (((IntKind.wrap .i64 (r1.1.1 + (1:Int))), ()), ((r1.2.1.1, (r1.2.1.2.1, (r1.2.1.2.2.1, ((List.take (List.length x2) x2), ())))), r1.2.2)))
  else
    (ko ((), v.2.2))
noncomputable def ls_annealref13_Turn_0 : St → LTr := (lsum ff_annealref13_Turn_0 hf_annealref13_Turn_0 X_annealref13_Turn_0 Prod.mk id st_annealref13_Turn_0 (hd [] [] [1, 2, 4, 5] 0))
theorem lp_annealref13_Turn_0 : LoopOk PR 0 (lpN f_annealref13_Turn 0) ls_annealref13_Turn_0 := loopT okO_annealref13_Turn mixed (L := LB_annealref13_Turn_0) (d := 1) (bs := []) (ks := [1, 2, 4, 5]) (loopsL (l := [((lpN f_annealref13_Turn 1), ls_annealref13_Turn_1)]) (by kernel_rfl) ⟨lp_annealref13_Turn_1, trivial⟩) (by kernel_rfl) (inS := Prod.mk) (outS := id) (fun _ _ => rfl) (inX := id) (outX := id) (fun _ => rfl) (fun v R kn ko => by kernel_rfl) (hd_wk [] [] [1, 2, 4, 5] 0)
noncomputable def L_annealref13_Turn : Lps := (lpB 6 (.by_ ls_annealref13_Turn_0) (lpB 9 (.by_ ls_annealref13_Turn_1) L0))
def inn_annealref13_Turn : T fr_annealref13_Turn → TH hr_annealref13_Turn → (Int × Int × Int × List Int × Unit) × Int × Unit := (fun z w => z)
def out_annealref13_Turn : (Int × Int × Int × List Int × Unit) × Int × Unit → T fr_annealref13_Turn × TH hr_annealref13_Turn := fun r => (r, ())
noncomputable def F_annealref13_Turn (a0 : Int × Int × Int × List Int × Unit) : Option ((Int × Int × Int × List Int × Unit) × Int × Unit) :=
  let x0 : Int := a0.2.2.1
  let x1 : List Int := a0.2.2.2.1
  let x2 : Nat := (List.length x1)
  let x3 : Nat := (Int.toNat ((x2 : Nat) : Int))
  ((F_annealref13_Right (a0.1, (a0.2.1, (x0, ((List.take x2 x1), ())))))).bind fun r4 =>
  bif (!r4) then
    (some (((0:Int), ((0:Int), ((0:Int), ([], ())))), ((21:Int), ())))
  else
    bif (decide (((0:Int) ≤ ((x2 : Nat) : Int)) ∧ (((x2 : Nat) : Int) ≤ (1073741824:Int)))) then
      ((lim st_annealref13_Turn_0 (((0:Int), ()), ((a0.1, (a0.2.1, (x0, ((List.take x2 x1), ())))), (((0:Int), ((0:Int), ((0:Int), ()))), ((a0.2.1, (a0.1, (x0, (x3, ())))), ((List.replicate x3 (0:Int)), ()))))))).bind fun r5 =>
      (some ((r5.2.2.1.1, (r5.2.2.1.2.1, (r5.2.2.1.2.2.1, ((List.take r5.2.2.1.2.2.2.1 (List.drop (0:Nat) r5.2.2.2.1)), ())))), ((0:Int), ())))
    else
      none
noncomputable def G_annealref13_Turn : T fa_annealref13_Turn → TH ha_annealref13_Turn → Option ((Int × Int × Int × List Int × Unit) × Int × Unit) := fun x y => F_annealref13_Turn x.1
noncomputable def c_annealref13_Turn : Orc := ent i_annealref13_Turn [] 0 (sp fa_annealref13_Turn ha_annealref13_Turn fr_annealref13_Turn hr_annealref13_Turn G_annealref13_Turn out_annealref13_Turn)
theorem ok_annealref13_Turn : OrcOk PR c_annealref13_Turn := fnT okO_annealref13_Turn mixed p_annealref13_Turn (by kernel_rfl) (by kernel_rfl) (L := L_annealref13_Turn) (kp := false) (by kernel_rfl) (inn := inn_annealref13_Turn) (out := out_annealref13_Turn) (fun _ _ => rfl) (loopsL (l := [((lpN f_annealref13_Turn 0), ls_annealref13_Turn_0)]) (by kernel_rfl) ⟨lp_annealref13_Turn_0, trivial⟩) (fun x y => by kernel_rfl)
noncomputable def O_anneallaw14_known : Orc := (orm c_kern_Dot c_kern_Rows)
theorem okO_anneallaw14_known : OrcOk PR O_anneallaw14_known := (orm_ok ok_kern_Dot ok_kern_Rows)
abbrev fa_anneallaw14_known : Fm := .unit
abbrev ha_anneallaw14_known : List BF := []
abbrev fr_anneallaw14_known : Fm := .b
abbrev hr_anneallaw14_known : List BF := []
noncomputable def L_anneallaw14_known : Lps := L0
def inn_anneallaw14_known : T fr_anneallaw14_known → TH hr_anneallaw14_known → Bool := (fun z w => z)
def out_anneallaw14_known : Bool → T fr_anneallaw14_known × TH hr_anneallaw14_known := fun r => (r, ())
noncomputable def F_anneallaw14_known  : Option (Bool) :=
  ((F_kern_Dot [(1073741824:Int), (1065353216:Int)] [(1077936128:Int), (1065353216:Int)])).bind fun r0 =>
  ((F_kern_Rows ((1:Int), ((1:Int), ((0:Int), ([(16384:Int)], ())))) ((1:Int), ((1:Int), ((1:Int), ([(16384:Int)], ())))))).bind fun r1 =>
  let x2 : List Int := r1.1.2.2.2.1
  let x3 : Int := r1.1.2.2.1
  bif (r0.1 == (1088421888:Int)) then
    bif (r0.2.1 == (0:Int)) then
      bif (r1.2.1 == (0:Int)) then
        bif ((((List.length x2) : Nat) : Int) == (1:Int)) then
          bif (decide (((0:Int) ≤ (0:Int)) ∧ ((0:Int) < (((List.length x2) : Nat) : Int)))) then
            bif ((List.getD x2 (0:Nat) (0:Int)) == (1082130432:Int)) then
              (some (x3 == (2:Int)))
            else
              (some false)
          else
            none
        else
          (some false)
      else
        (some false)
    else
      (some false)
  else
    (some false)
noncomputable def G_anneallaw14_known : T fa_anneallaw14_known → TH ha_anneallaw14_known → Option (Bool) := fun x y => F_anneallaw14_known 
noncomputable def c_anneallaw14_known : Orc := ent i_anneallaw14_known [] 0 (sp fa_anneallaw14_known ha_anneallaw14_known fr_anneallaw14_known hr_anneallaw14_known G_anneallaw14_known out_anneallaw14_known)
theorem ok_anneallaw14_known : OrcOk PR c_anneallaw14_known := fnT okO_anneallaw14_known mixed p_anneallaw14_known (by kernel_rfl) (by kernel_rfl) (L := L_anneallaw14_known) (kp := false) (by kernel_rfl) (inn := inn_anneallaw14_known) (out := out_anneallaw14_known) (fun _ _ => rfl) (loopsL (l := []) (by kernel_rfl) trivial) (fun x y => by kernel_rfl)
noncomputable def O_anneallaw14_KernShapesc1 : Orc := orn
theorem okO_anneallaw14_KernShapesc1 : OrcOk PR O_anneallaw14_KernShapesc1 := (orn_ok _)
abbrev fa_anneallaw14_KernShapesc1 : Fm := (.pair (.i .i64) (.pair (.i .i64) (.pair (.agg (.pair (.i .i64) (.pair (.i .i64) (.pair (.i .i64) (.pair (.si .u32) .unit))))) (.pair (.i .i64) (.pair (.i .i64) .unit)))))
abbrev ha_anneallaw14_KernShapesc1 : List BF := []
abbrev fr_anneallaw14_KernShapesc1 : Fm := .b
abbrev hr_anneallaw14_KernShapesc1 : List BF := []
noncomputable def L_anneallaw14_KernShapesc1 : Lps := L0
def inn_anneallaw14_KernShapesc1 : T fr_anneallaw14_KernShapesc1 → TH hr_anneallaw14_KernShapesc1 → Bool := (fun z w => z)
def out_anneallaw14_KernShapesc1 : Bool → T fr_anneallaw14_KernShapesc1 × TH hr_anneallaw14_KernShapesc1 := fun r => (r, ())
noncomputable def F_anneallaw14_KernShapesc1 (a0 : Int) (a1 : Int) (a2 : Int × Int × Int × List Int × Unit) (a3 : Int) (a4 : Int) : Option (Bool) :=
  let x0 : List Int := a2.2.2.2.1
  let x1 : Int := (((List.length x0) : Nat) : Int)
  bif (a0 == a1) then
    bif (a0 == (0:Int)) then
      bif (a2.1 == a3) then
        bif (a2.2.1 == a4) then
          bif (x1 == (IntKind.wrap .i64 (a3 * a4))) then
            (some true)
          else
            bif (a0 != (0:Int)) then
              (some (x1 == (0:Int)))
            else
              (some false)
        else
          bif (a0 != (0:Int)) then
            (some (x1 == (0:Int)))
          else
            (some false)
      else
        bif (a0 != (0:Int)) then
          (some (x1 == (0:Int)))
        else
          (some false)
    else
      bif (a0 != (0:Int)) then
        (some (x1 == (0:Int)))
      else
        (some false)
  else
    (some false)
noncomputable def G_anneallaw14_KernShapesc1 : T fa_anneallaw14_KernShapesc1 → TH ha_anneallaw14_KernShapesc1 → Option (Bool) := fun x y => F_anneallaw14_KernShapesc1 x.1 x.2.1 x.2.2.1 x.2.2.2.1 x.2.2.2.2.1
noncomputable def c_anneallaw14_KernShapesc1 : Orc := ent i_anneallaw14_KernShapesc1 [] 0 (sp fa_anneallaw14_KernShapesc1 ha_anneallaw14_KernShapesc1 fr_anneallaw14_KernShapesc1 hr_anneallaw14_KernShapesc1 G_anneallaw14_KernShapesc1 out_anneallaw14_KernShapesc1)
theorem ok_anneallaw14_KernShapesc1 : OrcOk PR c_anneallaw14_KernShapesc1 := fnT okO_anneallaw14_KernShapesc1 mixed p_anneallaw14_KernShapesc1 (by kernel_rfl) (by kernel_rfl) (L := L_anneallaw14_KernShapesc1) (kp := false) (by kernel_rfl) (inn := inn_anneallaw14_KernShapesc1) (out := out_anneallaw14_KernShapesc1) (fun _ _ => rfl) (loopsL (l := []) (by kernel_rfl) trivial) (fun x y => by kernel_rfl)
noncomputable def O_anneallaw14_KernShapesc2 : Orc := orn
theorem okO_anneallaw14_KernShapesc2 : OrcOk PR O_anneallaw14_KernShapesc2 := (orn_ok _)
abbrev fa_anneallaw14_KernShapesc2 : Fm := (.pair .b .unit)
abbrev ha_anneallaw14_KernShapesc2 : List BF := []
abbrev fr_anneallaw14_KernShapesc2 : Fm := (.i .i64)
abbrev hr_anneallaw14_KernShapesc2 : List BF := []
noncomputable def L_anneallaw14_KernShapesc2 : Lps := L0
def inn_anneallaw14_KernShapesc2 : T fr_anneallaw14_KernShapesc2 → TH hr_anneallaw14_KernShapesc2 → Int := (fun z w => z)
def out_anneallaw14_KernShapesc2 : Int → T fr_anneallaw14_KernShapesc2 × TH hr_anneallaw14_KernShapesc2 := fun r => (r, ())
noncomputable def F_anneallaw14_KernShapesc2 (a0 : Bool) : Option (Int) :=
  bif a0 then
    (some (0:Int))
  else
    (some (21:Int))
noncomputable def G_anneallaw14_KernShapesc2 : T fa_anneallaw14_KernShapesc2 → TH ha_anneallaw14_KernShapesc2 → Option (Int) := fun x y => F_anneallaw14_KernShapesc2 x.1
noncomputable def c_anneallaw14_KernShapesc2 : Orc := ent i_anneallaw14_KernShapesc2 [] 0 (sp fa_anneallaw14_KernShapesc2 ha_anneallaw14_KernShapesc2 fr_anneallaw14_KernShapesc2 hr_anneallaw14_KernShapesc2 G_anneallaw14_KernShapesc2 out_anneallaw14_KernShapesc2)
theorem ok_anneallaw14_KernShapesc2 : OrcOk PR c_anneallaw14_KernShapesc2 := fnT okO_anneallaw14_KernShapesc2 mixed p_anneallaw14_KernShapesc2 (by kernel_rfl) (by kernel_rfl) (L := L_anneallaw14_KernShapesc2) (kp := false) (by kernel_rfl) (inn := inn_anneallaw14_KernShapesc2) (out := out_anneallaw14_KernShapesc2) (fun _ _ => rfl) (loopsL (l := []) (by kernel_rfl) trivial) (fun x y => by kernel_rfl)
noncomputable def O_anneallaw14_KernShapes : Orc := (orm c_anneallaw14_known (orm c_annealseat_Tensor (orm c_kern_Plain (orm c_kern_Rows (orm c_kern_Cols (orm c_kern_Bias (orm c_kern_Add (orm c_anneallaw14_KernShapesc1 c_anneallaw14_KernShapesc2))))))))
theorem okO_anneallaw14_KernShapes : OrcOk PR O_anneallaw14_KernShapes := (orm_ok ok_anneallaw14_known (orm_ok ok_annealseat_Tensor (orm_ok ok_kern_Plain (orm_ok ok_kern_Rows (orm_ok ok_kern_Cols (orm_ok ok_kern_Bias (orm_ok ok_kern_Add (orm_ok ok_anneallaw14_KernShapesc1 ok_anneallaw14_KernShapesc2))))))))
abbrev fa_anneallaw14_KernShapes : Fm := (.pair (.i .u8) (.pair (.i .u8) (.pair (.i .u8) (.pair (.i .u8) .unit))))
abbrev ha_anneallaw14_KernShapes : List BF := []
abbrev fr_anneallaw14_KernShapes : Fm := .b
abbrev hr_anneallaw14_KernShapes : List BF := []
noncomputable def L_anneallaw14_KernShapes : Lps := L0
def inn_anneallaw14_KernShapes : T fr_anneallaw14_KernShapes → TH hr_anneallaw14_KernShapes → Bool := (fun z w => z)
def out_anneallaw14_KernShapes : Bool → T fr_anneallaw14_KernShapes × TH hr_anneallaw14_KernShapes := fun r => (r, ())
noncomputable def F_anneallaw14_KernShapes (a0 : Int) (a1 : Int) (a2 : Int) (a3 : Int) : Option (Bool) :=
  (F_anneallaw14_known).bind fun r0 =>
  bif (!r0) then
    (some false)
  else
    ((F_annealseat_Tensor (IntKind.wrap .i64 (Int.tmod a0 (4:Int))) (IntKind.wrap .i64 (Int.tmod a1 (4:Int))) (0:Int) [] true)).bind fun r1 =>
    let x2 : Int := r1.2.2.1
    let x3 : List Int := r1.2.2.2.1
    ((F_annealseat_Tensor (IntKind.wrap .i64 (Int.tmod a2 (4:Int))) (IntKind.wrap .i64 (Int.tmod a3 (4:Int))) (1:Int) [] true)).bind fun r4 =>
    let x5 : Int := r4.2.2.1
    let x6 : List Int := r4.2.2.2.1
    let x7 : Bool := (r1.1 == r4.1)
    ((F_kern_Plain (r1.1, (r1.2.1, (x2, ((List.take (List.length x3) x3), ())))) (r4.1, (r4.2.1, (x5, ((List.take (List.length x6) x6), ())))))).bind fun r8 =>
    let x9 : Int := r8.1.2.1
    let x10 : Int := r8.1.2.2.1
    let x11 : List Int := r8.1.2.2.2.1
    ((F_kern_Rows (r1.1, (r1.2.1, (x2, ((List.take (List.length x3) x3), ())))) (r4.1, (r4.2.1, (x5, ((List.take (List.length x6) x6), ())))))).bind fun r12 =>
    let x13 : Int := r12.1.2.1
    let x14 : Int := r12.1.2.2.1
    let x15 : List Int := r12.1.2.2.2.1
    ((F_kern_Cols (r1.1, (r1.2.1, (x2, ((List.take (List.length x3) x3), ())))) (r4.1, (r4.2.1, (x5, ((List.take (List.length x6) x6), ())))))).bind fun r16 =>
    let x17 : Int := r16.1.2.1
    let x18 : Int := r16.1.2.2.1
    let x19 : List Int := r16.1.2.2.2.1
    ((F_kern_Bias (r1.1, (r1.2.1, (x2, ((List.take (List.length x3) x3), ())))) (r4.1, (r4.2.1, (x5, ((List.take (List.length x6) x6), ())))))).bind fun r20 =>
    ((F_kern_Add (r1.1, (r1.2.1, (x2, ((List.take (List.length x3) x3), ())))) (r4.1, (r4.2.1, (x5, ((List.take (List.length x6) x6), ())))))).bind fun r21 =>
    ((F_anneallaw14_KernShapesc2 (r1.2.1 == r4.1))).bind fun r22 =>
    ((F_anneallaw14_KernShapesc1 r8.2.1 r22 (r8.1.1, (x9, (x10, ((List.take (List.length x11) x11), ())))) r1.1 r4.2.1)).bind fun r23 =>
    bif r23 then
      ((F_anneallaw14_KernShapesc2 (r1.2.1 == r4.2.1))).bind fun r24 =>
      ((F_anneallaw14_KernShapesc1 r12.2.1 r24 (r12.1.1, (x13, (x14, ((List.take (List.length x15) x15), ())))) r1.1 r4.1)).bind fun r25 =>
      bif r25 then
        ((F_anneallaw14_KernShapesc2 x7)).bind fun r26 =>
        ((F_anneallaw14_KernShapesc1 r16.2.1 r26 (r16.1.1, (x17, (x18, ((List.take (List.length x19) x19), ())))) r1.2.1 r4.2.1)).bind fun r27 =>
        bif r27 then
          bif (r4.1 == (1:Int)) then
            ((F_anneallaw14_KernShapesc2 (r4.2.1 == r1.2.1))).bind fun r28 =>
            bif (r20.2.1 == r28) then
              bif x7 then
                ((F_anneallaw14_KernShapesc2 (r1.2.1 == r4.2.1))).bind fun r29 =>
                (some (r21.2.1 == r29))
              else
                (some (r21.2.1 == (21:Int)))
            else
              (some false)
          else
            bif (r20.2.1 == (21:Int)) then
              bif x7 then
                ((F_anneallaw14_KernShapesc2 (r1.2.1 == r4.2.1))).bind fun r30 =>
                (some (r21.2.1 == r30))
              else
                (some (r21.2.1 == (21:Int)))
            else
              (some false)
        else
          (some false)
      else
        (some false)
    else
      (some false)
noncomputable def G_anneallaw14_KernShapes : T fa_anneallaw14_KernShapes → TH ha_anneallaw14_KernShapes → Option (Bool) := fun x y => F_anneallaw14_KernShapes x.1 x.2.1 x.2.2.1 x.2.2.2.1
noncomputable def c_anneallaw14_KernShapes : Orc := ent i_anneallaw14_KernShapes [] 0 (sp fa_anneallaw14_KernShapes ha_anneallaw14_KernShapes fr_anneallaw14_KernShapes hr_anneallaw14_KernShapes G_anneallaw14_KernShapes out_anneallaw14_KernShapes)
theorem ok_anneallaw14_KernShapes : OrcOk PR c_anneallaw14_KernShapes := fnT okO_anneallaw14_KernShapes mixed p_anneallaw14_KernShapes (by kernel_rfl) (by kernel_rfl) (L := L_anneallaw14_KernShapes) (kp := false) (by kernel_rfl) (inn := inn_anneallaw14_KernShapes) (out := out_anneallaw14_KernShapes) (fun _ _ => rfl) (loopsL (l := []) (by kernel_rfl) trivial) (fun x y => by kernel_rfl)
noncomputable def O_anneallaw14_KernTurned : Orc := (orm c_anneallaw14_known (orm c_annealseat_Tensor (orm c_annealref13_Turn (orm c_kern_Plain (orm c_kern_Rows (orm c_kern_Cols c_annealhelp_Tensor))))))
theorem okO_anneallaw14_KernTurned : OrcOk PR O_anneallaw14_KernTurned := (orm_ok ok_anneallaw14_known (orm_ok ok_annealseat_Tensor (orm_ok ok_annealref13_Turn (orm_ok ok_kern_Plain (orm_ok ok_kern_Rows (orm_ok ok_kern_Cols ok_annealhelp_Tensor))))))
abbrev fa_anneallaw14_KernTurned : Fm := (.pair (.i .u8) (.pair (.i .u8) (.pair (.i .u8) (.pair (.i .u8) (.pair (.i .u8) (.pair (.si .u32) (.pair (.si .u32) .unit)))))))
abbrev ha_anneallaw14_KernTurned : List BF := []
abbrev fr_anneallaw14_KernTurned : Fm := .b
abbrev hr_anneallaw14_KernTurned : List BF := []
noncomputable def L_anneallaw14_KernTurned : Lps := L0
def inn_anneallaw14_KernTurned : T fr_anneallaw14_KernTurned → TH hr_anneallaw14_KernTurned → Bool := (fun z w => z)
def out_anneallaw14_KernTurned : Bool → T fr_anneallaw14_KernTurned × TH hr_anneallaw14_KernTurned := fun r => (r, ())
noncomputable def F_anneallaw14_KernTurned (a0 : Int) (a1 : Int) (a2 : Int) (a3 : Int) (a4 : Int) (a5 : List Int) (a6 : List Int) : Option (Bool) :=
  let x0 : Int := (IntKind.wrap .i64 (Int.tmod a1 (5:Int)))
  (F_anneallaw14_known).bind fun r1 =>
  bif (!r1) then
    (some false)
  else
    bif (decide ((((List.length a5) : Nat) : Int) > (30:Int))) then
      (some true)
    else
      bif (decide ((((List.length a6) : Nat) : Int) > (30:Int))) then
        (some true)
      else
        ((F_annealseat_Tensor (IntKind.wrap .i64 (Int.tmod a0 (5:Int))) x0 (IntKind.wrap .i64 (Int.tmod a3 (3:Int))) (List.take (List.length a5) a5) true)).bind fun r2 =>
        let x3 : Int := r2.2.2.1
        let x4 : List Int := r2.2.2.2.1
        ((F_annealseat_Tensor x0 (IntKind.wrap .i64 (Int.tmod a2 (5:Int))) (IntKind.wrap .i64 (Int.tmod a4 (3:Int))) (List.take (List.length a6) a6) true)).bind fun r5 =>
        let x6 : Int := r5.2.2.1
        let x7 : List Int := r5.2.2.2.1
        ((F_annealref13_Turn (r2.1, (r2.2.1, (x3, ((List.take (List.length x4) x4), ())))))).bind fun r8 =>
        let x9 : Int := r8.1.2.1
        let x10 : Int := r8.1.2.2.1
        let x11 : List Int := r8.1.2.2.2.1
        ((F_annealref13_Turn (r5.1, (r5.2.1, (x6, ((List.take (List.length x7) x7), ())))))).bind fun r12 =>
        let x13 : Int := r12.1.2.1
        let x14 : Int := r12.1.2.2.1
        let x15 : List Int := r12.1.2.2.2.1
        ((F_kern_Plain (r2.1, (r2.2.1, (x3, ((List.take (List.length x4) x4), ())))) (r5.1, (r5.2.1, (x6, ((List.take (List.length x7) x7), ())))))).bind fun r16 =>
        let x17 : Int := r16.1.2.1
        let x18 : Int := r16.1.2.2.1
        let x19 : List Int := r16.1.2.2.2.1
        ((F_kern_Rows (r2.1, (r2.2.1, (x3, ((List.take (List.length x4) x4), ())))) (r12.1.1, (x13, (x14, ((List.take (List.length x15) x15), ())))))).bind fun r20 =>
        let x21 : Int := r20.1.2.1
        let x22 : Int := r20.1.2.2.1
        let x23 : List Int := r20.1.2.2.2.1
        ((F_kern_Cols (r8.1.1, (x9, (x10, ((List.take (List.length x11) x11), ())))) (r5.1, (r5.2.1, (x6, ((List.take (List.length x7) x7), ())))))).bind fun r24 =>
        let x25 : Int := r24.1.2.1
        let x26 : Int := r24.1.2.2.1
        let x27 : List Int := r24.1.2.2.2.1
        bif (r16.2.1 == (0:Int)) then
          bif (r20.2.1 == (0:Int)) then
            bif (r24.2.1 == (0:Int)) then
              ((F_annealhelp_Tensor (r16.1.1, (x17, (x18, ((List.take (List.length x19) x19), ())))) (r20.1.1, (x21, (x22, ((List.take (List.length x23) x23), ())))))).bind fun r28 =>
              bif r28 then
                ((F_annealhelp_Tensor (r16.1.1, (x17, (x18, ((List.take (List.length x19) x19), ())))) (r24.1.1, (x25, (x26, ((List.take (List.length x27) x27), ())))))).bind fun r29 =>
                (some (bif r29 then true else false))
              else
                (some false)
            else
              (some false)
          else
            (some false)
        else
          (some false)
noncomputable def G_anneallaw14_KernTurned : T fa_anneallaw14_KernTurned → TH ha_anneallaw14_KernTurned → Option (Bool) := fun x y => F_anneallaw14_KernTurned x.1 x.2.1 x.2.2.1 x.2.2.2.1 x.2.2.2.2.1 x.2.2.2.2.2.1 x.2.2.2.2.2.2.1
noncomputable def c_anneallaw14_KernTurned : Orc := ent i_anneallaw14_KernTurned [] 0 (sp fa_anneallaw14_KernTurned ha_anneallaw14_KernTurned fr_anneallaw14_KernTurned hr_anneallaw14_KernTurned G_anneallaw14_KernTurned out_anneallaw14_KernTurned)
theorem ok_anneallaw14_KernTurned : OrcOk PR c_anneallaw14_KernTurned := fnT okO_anneallaw14_KernTurned mixed p_anneallaw14_KernTurned (by kernel_rfl) (by kernel_rfl) (L := L_anneallaw14_KernTurned) (kp := false) (by kernel_rfl) (inn := inn_anneallaw14_KernTurned) (out := out_anneallaw14_KernTurned) (fun _ _ => rfl) (loopsL (l := []) (by kernel_rfl) trivial) (fun x y => by kernel_rfl)
noncomputable def O_anneallaw14_KernUnits : Orc := (orm c_anneallaw14_known (orm c_annealseat_Tensor (orm c_kern_Plain (orm c_kern_Rows c_annealhelp_Tensor))))
theorem okO_anneallaw14_KernUnits : OrcOk PR O_anneallaw14_KernUnits := (orm_ok ok_anneallaw14_known (orm_ok ok_annealseat_Tensor (orm_ok ok_kern_Plain (orm_ok ok_kern_Rows ok_annealhelp_Tensor))))
abbrev fa_anneallaw14_KernUnits : Fm := (.pair (.i .u8) (.pair (.i .u8) (.pair (.si .u32) .unit)))
abbrev ha_anneallaw14_KernUnits : List BF := []
abbrev fr_anneallaw14_KernUnits : Fm := .b
abbrev hr_anneallaw14_KernUnits : List BF := []
abbrev ff_anneallaw14_KernUnits_0 : Fm := (.us 7 (.pair (.i .i64) (.cst (.ref 0 1 0) (.cst (.ref 1 1 0) (.pair (.i .i64) (.us 67 .unit))))))
abbrev hf_anneallaw14_KernUnits_0 : List BF := [(.list 1 y_api_Tensor true (.pair (.i .i64) (.pair (.i .i64) (.pair (.i .i64) (.pair (.si .u32) .unit))))), (.list 1 y_api_Tensor true (.pair (.i .i64) (.pair (.i .i64) (.pair (.i .i64) (.pair (.own 2 1 0 1) .unit))))), (.ints 1 y_uint32 true .u32)]
abbrev X_anneallaw14_KernUnits_0 : Xs := (.one (.exit 0) [8, 9] (.us 8 (.cst (.ref 0 1 0) (.cst (.ref 1 1 0) (.us 68 .unit)))) [(.list 1 y_api_Tensor true (.pair (.i .i64) (.pair (.i .i64) (.pair (.i .i64) (.pair (.si .u32) .unit))))), (.list 1 y_api_Tensor true (.pair (.i .i64) (.pair (.i .i64) (.pair (.i .i64) (.pair (.own 2 1 0 1) .unit))))), (.ints 1 y_uint32 true .u32)])
abbrev S_anneallaw14_KernUnits_0 : Type := T ff_anneallaw14_KernUnits_0 × TH hf_anneallaw14_KernUnits_0
abbrev E_anneallaw14_KernUnits_0 : Type := TX X_anneallaw14_KernUnits_0
noncomputable def LB_anneallaw14_KernUnits_0 : Lps := L0
noncomputable def st_anneallaw14_KernUnits_0 : StepT S_anneallaw14_KernUnits_0 E_anneallaw14_KernUnits_0 := fun R v kn ko =>
  let x0 : Int := v.1.1
  let x1 : Int := v.1.2.1
  let x2 : List Int := v.2.1.2.2.2.1
  bif (decide (x1 < x0)) then
    bif (decide (((0:Int) ≤ (IntKind.wrap .i64 ((IntKind.wrap .i64 (x1 * x0)) + x1))) ∧ ((IntKind.wrap .i64 ((IntKind.wrap .i64 (x1 * x0)) + x1)) < ((v.2.2.1.2.2.2.1 : Nat) : Int)))) then
      bif (decide (((0:Nat) + ((Int.toNat (IntKind.wrap .i64 ((IntKind.wrap .i64 (x1 * x0)) + x1))) * (1:Nat))) < (List.length v.2.2.2.1))) then
        (kn ((x0, ((IntKind.wrap .i64 (x1 + (1:Int))), ())), ((v.2.1.1, (v.2.1.2.1, (v.2.1.2.2.1, ((List.take (List.length x2) x2), ())))), (v.2.2.1, ((List.set v.2.2.2.1 ((0:Nat) + ((Int.toNat (IntKind.wrap .i64 ((IntKind.wrap .i64 (x1 * x0)) + x1))) * (1:Nat))) (1065353216:Int)), ())))))
      else
        none
    else
      none
  else
    (ko ((), ((v.2.1.1, (v.2.1.2.1, (v.2.1.2.2.1, ((List.take (List.length x2) x2), ())))), v.2.2)))
noncomputable def ls_anneallaw14_KernUnits_0 : St → LTr := (lsum ff_anneallaw14_KernUnits_0 hf_anneallaw14_KernUnits_0 X_anneallaw14_KernUnits_0 Prod.mk id st_anneallaw14_KernUnits_0 (hd [] [] [7, 8, 9, 10] 0))
theorem lp_anneallaw14_KernUnits_0 : LoopOk PR 0 (lpN f_anneallaw14_KernUnits 0) ls_anneallaw14_KernUnits_0 := loopT okO_anneallaw14_KernUnits mixed (L := LB_anneallaw14_KernUnits_0) (d := 1) (bs := []) (ks := [7, 8, 9, 10]) (loopsL (l := []) (by kernel_rfl) trivial) (by kernel_rfl) (inS := Prod.mk) (outS := id) (fun _ _ => rfl) (inX := id) (outX := id) (fun _ => rfl) (fun v R kn ko => by kernel_rfl) (hd_wk [] [] [7, 8, 9, 10] 0)
noncomputable def L_anneallaw14_KernUnits : Lps := (lpB 10 (.by_ ls_anneallaw14_KernUnits_0) L0)
def inn_anneallaw14_KernUnits : T fr_anneallaw14_KernUnits → TH hr_anneallaw14_KernUnits → Bool := (fun z w => z)
def out_anneallaw14_KernUnits : Bool → T fr_anneallaw14_KernUnits × TH hr_anneallaw14_KernUnits := fun r => (r, ())
noncomputable def F_anneallaw14_KernUnits (a0 : Int) (a1 : Int) (a2 : List Int) : Option (Bool) :=
  let x0 : Int := (IntKind.wrap .i64 ((IntKind.wrap .i64 (Int.tmod a1 (5:Int))) + (1:Int)))
  let x1 : Nat := (Int.toNat (IntKind.wrap .i64 (x0 * x0)))
  (F_anneallaw14_known).bind fun r2 =>
  bif (!r2) then
    (some false)
  else
    bif (decide ((((List.length a2) : Nat) : Int) > (30:Int))) then
      (some true)
    else
      ((F_annealseat_Tensor (IntKind.wrap .i64 (Int.tmod a0 (5:Int))) x0 (2:Int) (List.take (List.length a2) a2) true)).bind fun r3 =>
      let x4 : Int := r3.2.2.1
      let x5 : List Int := r3.2.2.2.1
      bif (decide (((0:Int) ≤ (IntKind.wrap .i64 (x0 * x0))) ∧ ((IntKind.wrap .i64 (x0 * x0)) ≤ (1073741824:Int)))) then
        ((lim st_anneallaw14_KernUnits_0 ((x0, ((0:Int), ())), ((r3.1, (r3.2.1, (x4, ((List.take (List.length x5) x5), ())))), ((x0, (x0, ((2:Int), (x1, ())))), ((List.replicate x1 (0:Int)), ())))))).bind fun r6 =>
        let x7 : List Int := r6.2.1.2.2.2.1
        ((F_kern_Plain (r6.2.1.1, (r6.2.1.2.1, (r6.2.1.2.2.1, ((List.take (List.length x7) x7), ())))) (r6.2.2.1.1, (r6.2.2.1.2.1, (r6.2.2.1.2.2.1, ((List.take r6.2.2.1.2.2.2.1 (List.drop (0:Nat) r6.2.2.2.1)), ())))))).bind fun r8 =>
        let x9 : Int := r8.1.2.1
        let x10 : Int := r8.1.2.2.1
        let x11 : List Int := r8.1.2.2.2.1
        ((F_kern_Rows (r6.2.1.1, (r6.2.1.2.1, (r6.2.1.2.2.1, ((List.take (List.length x7) x7), ())))) (r6.2.2.1.1, (r6.2.2.1.2.1, (r6.2.2.1.2.2.1, ((List.take r6.2.2.1.2.2.2.1 (List.drop (0:Nat) r6.2.2.2.1)), ())))))).bind fun r12 =>
        let x13 : Int := r12.1.2.1
        let x14 : Int := r12.1.2.2.1
        let x15 : List Int := r12.1.2.2.2.1
        bif (r8.2.1 == (0:Int)) then
          bif (r12.2.1 == (0:Int)) then
            ((F_annealhelp_Tensor (r8.1.1, (x9, (x10, ((List.take (List.length x11) x11), ())))) (r6.2.1.1, (r6.2.1.2.1, (r6.2.1.2.2.1, ((List.take (List.length x7) x7), ())))))).bind fun r16 =>
            bif r16 then
              ((F_annealhelp_Tensor (r12.1.1, (x13, (x14, ((List.take (List.length x15) x15), ())))) (r6.2.1.1, (r6.2.1.2.1, (r6.2.1.2.2.1, ((List.take (List.length x7) x7), ())))))).bind fun r17 =>
              (some r17)
            else
              (some false)
          else
            (some false)
        else
          (some false)
      else
        none
noncomputable def G_anneallaw14_KernUnits : T fa_anneallaw14_KernUnits → TH ha_anneallaw14_KernUnits → Option (Bool) := fun x y => F_anneallaw14_KernUnits x.1 x.2.1 x.2.2.1
noncomputable def c_anneallaw14_KernUnits : Orc := ent i_anneallaw14_KernUnits [] 0 (sp fa_anneallaw14_KernUnits ha_anneallaw14_KernUnits fr_anneallaw14_KernUnits hr_anneallaw14_KernUnits G_anneallaw14_KernUnits out_anneallaw14_KernUnits)
theorem ok_anneallaw14_KernUnits : OrcOk PR c_anneallaw14_KernUnits := fnT okO_anneallaw14_KernUnits mixed p_anneallaw14_KernUnits (by kernel_rfl) (by kernel_rfl) (L := L_anneallaw14_KernUnits) (kp := false) (by kernel_rfl) (inn := inn_anneallaw14_KernUnits) (out := out_anneallaw14_KernUnits) (fun _ _ => rfl) (loopsL (l := [((lpN f_anneallaw14_KernUnits 0), ls_anneallaw14_KernUnits_0)]) (by kernel_rfl) ⟨lp_anneallaw14_KernUnits_0, trivial⟩) (fun x y => by kernel_rfl)
end Go.Proofs.Ytkknnloamidaiaa.VI
