import Derived.Test.YtcpicekmnkjceaaT8821c30e
namespace Go.Proofs.Ytcpicekmnkjceaa.VI
set_option linter.unusedVariables false
set_option linter.unusedSimpArgs false
set_option maxRecDepth 100000
set_option linter.unusedSimpArgs false
set_option linter.unusedVariables false
noncomputable def O_annealref24_in : Orc := orn
theorem okO_annealref24_in : OrcOk PR O_annealref24_in := (orn_ok _)
abbrev fa_annealref24_in : Fm := (.pair (.i .i64) (.pair (.i .i64) (.pair (.i .i64) .unit)))
abbrev ha_annealref24_in : List BF := []
abbrev fr_annealref24_in : Fm := .b
abbrev hr_annealref24_in : List BF := []
noncomputable def L_annealref24_in : Lps := L0
def inn_annealref24_in : T fr_annealref24_in → TH hr_annealref24_in → Bool := (fun z w => z)
def out_annealref24_in : Bool → T fr_annealref24_in × TH hr_annealref24_in := fun r => (r, ())
noncomputable def F_annealref24_in (a0 : Int) (a1 : Int) (a2 : Int) : Option (Bool) :=
  bif (decide (a0 ≥ a1)) then
    (some (decide (a0 ≤ a2)))
  else
    (some false)
noncomputable def G_annealref24_in : T fa_annealref24_in → TH ha_annealref24_in → Option (Bool) := fun x y => F_annealref24_in x.1 x.2.1 x.2.2.1
noncomputable def c_annealref24_in : Orc := ent i_annealref24_in [] 0 (sp fa_annealref24_in ha_annealref24_in fr_annealref24_in hr_annealref24_in G_annealref24_in out_annealref24_in)
theorem ok_annealref24_in : OrcOk PR c_annealref24_in := fnT okO_annealref24_in mixed p_annealref24_in (by kernel_rfl) (by kernel_rfl) (L := L_annealref24_in) (kp := false) (by kernel_rfl) (inn := inn_annealref24_in) (out := out_annealref24_in) (fun _ _ => rfl) (loopsL (l := []) (by kernel_rfl) trivial) (fun x y => by kernel_rfl)
noncomputable def O_annealref1_Widths : Orc := orn
theorem okO_annealref1_Widths : OrcOk PR O_annealref1_Widths := (orn_ok _)
abbrev fa_annealref1_Widths : Fm := (.pair (.i .i64) .unit)
abbrev ha_annealref1_Widths : List BF := []
abbrev fr_annealref1_Widths : Fm := (.tup (.pair (.i .i64) (.pair (.i .i64) .unit)))
abbrev hr_annealref1_Widths : List BF := []
noncomputable def L_annealref1_Widths : Lps := L0
def inn_annealref1_Widths : T fr_annealref1_Widths → TH hr_annealref1_Widths → Int × Int × Unit := (fun z w => z)
def out_annealref1_Widths : Int × Int × Unit → T fr_annealref1_Widths × TH hr_annealref1_Widths := fun r => (r, ())
noncomputable def F_annealref1_Widths (a0 : Int) : Option (Int × Int × Unit) :=
  bif (a0 == (0:Int)) then
    (some ((5:Int), ((10:Int), ())))
  else
    bif (a0 == (1:Int)) then
      (some ((8:Int), ((7:Int), ())))
    else
      (some ((8:Int), ((23:Int), ())))
noncomputable def G_annealref1_Widths : T fa_annealref1_Widths → TH ha_annealref1_Widths → Option (Int × Int × Unit) := fun x y => F_annealref1_Widths x.1
noncomputable def c_annealref1_Widths : Orc := ent i_annealref1_Widths [] 0 (sp fa_annealref1_Widths ha_annealref1_Widths fr_annealref1_Widths hr_annealref1_Widths G_annealref1_Widths out_annealref1_Widths)
theorem ok_annealref1_Widths : OrcOk PR c_annealref1_Widths := fnT okO_annealref1_Widths mixed p_annealref1_Widths (by kernel_rfl) (by kernel_rfl) (L := L_annealref1_Widths) (kp := false) (by kernel_rfl) (inn := inn_annealref1_Widths) (out := out_annealref1_Widths) (fun _ _ => rfl) (loopsL (l := []) (by kernel_rfl) trivial) (fun x y => by kernel_rfl)
noncomputable def O_annealref1_Mask : Orc := c_annealref1_Widths
theorem okO_annealref1_Mask : OrcOk PR O_annealref1_Mask := ok_annealref1_Widths
abbrev fa_annealref1_Mask : Fm := (.pair (.i .i64) .unit)
abbrev ha_annealref1_Mask : List BF := []
abbrev fr_annealref1_Mask : Fm := (.i .u32)
abbrev hr_annealref1_Mask : List BF := []
noncomputable def L_annealref1_Mask : Lps := L0
def inn_annealref1_Mask : T fr_annealref1_Mask → TH hr_annealref1_Mask → Int := (fun z w => z)
def out_annealref1_Mask : Int → T fr_annealref1_Mask × TH hr_annealref1_Mask := fun r => (r, ())
noncomputable def F_annealref1_Mask (a0 : Int) : Option (Int) :=
  ((F_annealref1_Widths a0)).bind fun r0 =>
  bif (decide ((0:Int) ≤ (IntKind.wrap .i64 ((IntKind.wrap .i64 ((1:Int) + r0.1)) + r0.2.1)))) then
    (some (IntKind.wrap .u32 (IntKind.wrap .u64 ((IntKind.wrap .u64 ((1:Int) * ((2:Int) ^ (Min.min (Int.toNat (IntKind.wrap .i64 ((IntKind.wrap .i64 ((1:Int) + r0.1)) + r0.2.1))) (64:Nat))))) - (1:Int)))))
  else
    none
noncomputable def G_annealref1_Mask : T fa_annealref1_Mask → TH ha_annealref1_Mask → Option (Int) := fun x y => F_annealref1_Mask x.1
noncomputable def c_annealref1_Mask : Orc := ent i_annealref1_Mask [] 0 (sp fa_annealref1_Mask ha_annealref1_Mask fr_annealref1_Mask hr_annealref1_Mask G_annealref1_Mask out_annealref1_Mask)
theorem ok_annealref1_Mask : OrcOk PR c_annealref1_Mask := fnT okO_annealref1_Mask mixed p_annealref1_Mask (by kernel_rfl) (by kernel_rfl) (L := L_annealref1_Mask) (kp := false) (by kernel_rfl) (inn := inn_annealref1_Mask) (out := out_annealref1_Mask) (fun _ _ => rfl) (loopsL (l := []) (by kernel_rfl) trivial) (fun x y => by kernel_rfl)
noncomputable def O_annealref1_parts : Orc := (orm c_annealref1_Widths c_annealref1_Mask)
theorem okO_annealref1_parts : OrcOk PR O_annealref1_parts := (orm_ok ok_annealref1_Widths ok_annealref1_Mask)
abbrev fa_annealref1_parts : Fm := (.pair (.i .i64) (.pair (.i .u32) .unit))
abbrev ha_annealref1_parts : List BF := []
abbrev fr_annealref1_parts : Fm := (.tup (.pair .b (.pair (.i .i64) (.pair (.i .u64) .unit))))
abbrev hr_annealref1_parts : List BF := []
noncomputable def L_annealref1_parts : Lps := L0
def inn_annealref1_parts : T fr_annealref1_parts → TH hr_annealref1_parts → Bool × Int × Int × Unit := (fun z w => z)
def out_annealref1_parts : Bool × Int × Int × Unit → T fr_annealref1_parts × TH hr_annealref1_parts := fun r => (r, ())
noncomputable def F_annealref1_parts (a0 : Int) (a1 : Int) : Option (Bool × Int × Int × Unit) :=
  ((F_annealref1_Widths a0)).bind fun r0 =>
  let x1 : Int := ((2:Int) ^ (Min.min (Int.toNat r0.2.1) (32:Nat)))
  ((F_annealref1_Mask a0)).bind fun r2 =>
  let x3 : Int := (bits .and .u32 a1 r2)
  bif (decide ((0:Int) ≤ (IntKind.wrap .i64 (r0.1 + r0.2.1)))) then
    bif (decide ((0:Int) ≤ r0.2.1)) then
      bif (decide ((0:Int) ≤ r0.1)) then
        bif (decide ((0:Int) ≤ r0.2.1)) then
          (some (((x3 / ((2:Int) ^ (Min.min (Int.toNat (IntKind.wrap .i64 (r0.1 + r0.2.1))) (32:Nat)))) == (1:Int)), ((IntKind.wrap .i64 (bits .and .u32 (x3 / x1) (IntKind.wrap .u32 ((IntKind.wrap .u32 ((1:Int) * ((2:Int) ^ (Min.min (Int.toNat r0.1) (32:Nat))))) - (1:Int))))), ((IntKind.wrap .u64 (bits .and .u32 x3 (IntKind.wrap .u32 ((IntKind.wrap .u32 ((1:Int) * x1)) - (1:Int))))), ()))))
        else
          none
      else
        none
    else
      none
  else
    none
noncomputable def G_annealref1_parts : T fa_annealref1_parts → TH ha_annealref1_parts → Option (Bool × Int × Int × Unit) := fun x y => F_annealref1_parts x.1 x.2.1
noncomputable def c_annealref1_parts : Orc := ent i_annealref1_parts [] 0 (sp fa_annealref1_parts ha_annealref1_parts fr_annealref1_parts hr_annealref1_parts G_annealref1_parts out_annealref1_parts)
theorem ok_annealref1_parts : OrcOk PR c_annealref1_parts := fnT okO_annealref1_parts mixed p_annealref1_parts (by kernel_rfl) (by kernel_rfl) (L := L_annealref1_parts) (kp := false) (by kernel_rfl) (inn := inn_annealref1_parts) (out := out_annealref1_parts) (fun _ _ => rfl) (loopsL (l := []) (by kernel_rfl) trivial) (fun x y => by kernel_rfl)
noncomputable def O_annealref1_Class : Orc := (orm c_annealref1_Widths c_annealref1_parts)
theorem okO_annealref1_Class : OrcOk PR O_annealref1_Class := (orm_ok ok_annealref1_Widths ok_annealref1_parts)
abbrev fa_annealref1_Class : Fm := (.pair (.i .i64) (.pair (.i .u32) .unit))
abbrev ha_annealref1_Class : List BF := []
abbrev fr_annealref1_Class : Fm := (.i .i64)
abbrev hr_annealref1_Class : List BF := []
noncomputable def L_annealref1_Class : Lps := L0
def inn_annealref1_Class : T fr_annealref1_Class → TH hr_annealref1_Class → Int := (fun z w => z)
def out_annealref1_Class : Int → T fr_annealref1_Class × TH hr_annealref1_Class := fun r => (r, ())
noncomputable def F_annealref1_Class (a0 : Int) (a1 : Int) : Option (Int) :=
  ((F_annealref1_Widths a0)).bind fun r0 =>
  ((F_annealref1_parts a0 a1)).bind fun r1 =>
  let x2 : Bool := (r1.2.1 == (0:Int))
  let x3 : Int := r1.2.2.1
  let x4 : Bool := (x3 == (0:Int))
  let x5 : Bool := ((x3 / ((2:Int) ^ (Min.min (Int.toNat (IntKind.wrap .i64 (r0.2.1 - (1:Int)))) (64:Nat)))) == (1:Int))
  bif x2 then
    bif x4 then
      (some (0:Int))
    else
      bif x2 then
        (some (1:Int))
      else
        bif (decide ((0:Int) ≤ r0.1)) then
          bif (decide (r1.2.1 < (IntKind.wrap .i64 ((IntKind.wrap .i64 ((1:Int) * ((2:Int) ^ (Min.min (Int.toNat r0.1) (64:Nat))))) - (1:Int))))) then
            (some (2:Int))
          else
            bif x4 then
              (some (3:Int))
            else
              bif (decide ((0:Int) ≤ (IntKind.wrap .i64 (r0.2.1 - (1:Int))))) then
                bif x5 then
                  (some (4:Int))
                else
                  (some (5:Int))
              else
                none
        else
          none
  else
    bif x2 then
      (some (1:Int))
    else
      bif (decide ((0:Int) ≤ r0.1)) then
        bif (decide (r1.2.1 < (IntKind.wrap .i64 ((IntKind.wrap .i64 ((1:Int) * ((2:Int) ^ (Min.min (Int.toNat r0.1) (64:Nat))))) - (1:Int))))) then
          (some (2:Int))
        else
          bif x4 then
            (some (3:Int))
          else
            bif (decide ((0:Int) ≤ (IntKind.wrap .i64 (r0.2.1 - (1:Int))))) then
              bif x5 then
                (some (4:Int))
              else
                (some (5:Int))
            else
              none
      else
        none
noncomputable def G_annealref1_Class : T fa_annealref1_Class → TH ha_annealref1_Class → Option (Int) := fun x y => F_annealref1_Class x.1 x.2.1
noncomputable def c_annealref1_Class : Orc := ent i_annealref1_Class [] 0 (sp fa_annealref1_Class ha_annealref1_Class fr_annealref1_Class hr_annealref1_Class G_annealref1_Class out_annealref1_Class)
theorem ok_annealref1_Class : OrcOk PR c_annealref1_Class := fnT okO_annealref1_Class mixed p_annealref1_Class (by kernel_rfl) (by kernel_rfl) (L := L_annealref1_Class) (kp := false) (by kernel_rfl) (inn := inn_annealref1_Class) (out := out_annealref1_Class) (fun _ _ => rfl) (loopsL (l := []) (by kernel_rfl) trivial) (fun x y => by kernel_rfl)
noncomputable def O_annealref1_Finite : Orc := c_annealref1_Class
theorem okO_annealref1_Finite : OrcOk PR O_annealref1_Finite := ok_annealref1_Class
abbrev fa_annealref1_Finite : Fm := (.pair (.i .i64) (.pair (.i .u32) .unit))
abbrev ha_annealref1_Finite : List BF := []
abbrev fr_annealref1_Finite : Fm := .b
abbrev hr_annealref1_Finite : List BF := []
noncomputable def L_annealref1_Finite : Lps := L0
def inn_annealref1_Finite : T fr_annealref1_Finite → TH hr_annealref1_Finite → Bool := (fun z w => z)
def out_annealref1_Finite : Bool → T fr_annealref1_Finite × TH hr_annealref1_Finite := fun r => (r, ())
noncomputable def F_annealref1_Finite (a0 : Int) (a1 : Int) : Option (Bool) :=
  ((F_annealref1_Class a0 a1)).bind fun r0 =>
  (some (decide (r0 < (3:Int))))
noncomputable def G_annealref1_Finite : T fa_annealref1_Finite → TH ha_annealref1_Finite → Option (Bool) := fun x y => F_annealref1_Finite x.1 x.2.1
noncomputable def c_annealref1_Finite : Orc := ent i_annealref1_Finite [] 0 (sp fa_annealref1_Finite ha_annealref1_Finite fr_annealref1_Finite hr_annealref1_Finite G_annealref1_Finite out_annealref1_Finite)
theorem ok_annealref1_Finite : OrcOk PR c_annealref1_Finite := fnT okO_annealref1_Finite mixed p_annealref1_Finite (by kernel_rfl) (by kernel_rfl) (L := L_annealref1_Finite) (kp := false) (by kernel_rfl) (inn := inn_annealref1_Finite) (out := out_annealref1_Finite) (fun _ _ => rfl) (loopsL (l := []) (by kernel_rfl) trivial) (fun x y => by kernel_rfl)
noncomputable def O_annealref24_plus : Orc := c_annealref1_Finite
theorem okO_annealref24_plus : OrcOk PR O_annealref24_plus := ok_annealref1_Finite
abbrev fa_annealref24_plus : Fm := (.pair (.i .u32) .unit)
abbrev ha_annealref24_plus : List BF := []
abbrev fr_annealref24_plus : Fm := .b
abbrev hr_annealref24_plus : List BF := []
noncomputable def L_annealref24_plus : Lps := L0
def inn_annealref24_plus : T fr_annealref24_plus → TH hr_annealref24_plus → Bool := (fun z w => z)
def out_annealref24_plus : Bool → T fr_annealref24_plus × TH hr_annealref24_plus := fun r => (r, ())
noncomputable def F_annealref24_plus (a0 : Int) : Option (Bool) :=
  bif ((a0 / (2147483648:Int)) == (0:Int)) then
    ((F_annealref1_Finite (2:Int) a0)).bind fun r0 =>
    (some r0)
  else
    (some false)
noncomputable def G_annealref24_plus : T fa_annealref24_plus → TH ha_annealref24_plus → Option (Bool) := fun x y => F_annealref24_plus x.1
noncomputable def c_annealref24_plus : Orc := ent i_annealref24_plus [] 0 (sp fa_annealref24_plus ha_annealref24_plus fr_annealref24_plus hr_annealref24_plus G_annealref24_plus out_annealref24_plus)
theorem ok_annealref24_plus : OrcOk PR c_annealref24_plus := fnT okO_annealref24_plus mixed p_annealref24_plus (by kernel_rfl) (by kernel_rfl) (L := L_annealref24_plus) (kp := false) (by kernel_rfl) (inn := inn_annealref24_plus) (out := out_annealref24_plus) (fun _ _ => rfl) (loopsL (l := []) (by kernel_rfl) trivial) (fun x y => by kernel_rfl)
noncomputable def O_annealref24_params : Orc := orn
theorem okO_annealref24_params : OrcOk PR O_annealref24_params := (orn_ok _)
abbrev fa_annealref24_params : Fm := (.pair (.si .i64) .unit)
abbrev ha_annealref24_params : List BF := []
abbrev fr_annealref24_params : Fm := (.i .i64)
abbrev hr_annealref24_params : List BF := []
abbrev ff_annealref24_params_0 : Fm := (.pair (.si .i64) (.us 2 (.pair (.i .i64) (.pair (.i .i64) (.us 21 .unit)))))
abbrev hf_annealref24_params_0 : List BF := []
abbrev X_annealref24_params_0 : Xs := (.one (.exit 0) [3] (.us 3 (.pair (.i .i64) (.us 22 .unit))) [])
abbrev S_annealref24_params_0 : Type := T ff_annealref24_params_0 × TH hf_annealref24_params_0
abbrev E_annealref24_params_0 : Type := TX X_annealref24_params_0
noncomputable def LB_annealref24_params_0 : Lps := L0
noncomputable def st_annealref24_params_0 : StepT S_annealref24_params_0 E_annealref24_params_0 := fun R v kn ko =>
  let x0 : List Int := v.1.1
  let x1 : Int := v.1.2.1
  let x2 : Int := v.1.2.2.1
  let x3 : Int := (IntKind.wrap .i64 (x2 + (1:Int)))
  bif (decide (x3 < (((List.length x0) : Nat) : Int))) then
    bif (decide (((0:Int) ≤ x2) ∧ (x2 < (((List.length x0) : Nat) : Int)))) then
      bif (decide (((0:Int) ≤ x3) ∧ (x3 < (((List.length x0) : Nat) : Int)))) then
        (kn (((List.take (List.length x0) x0), ((IntKind.wrap .i64 (x1 + (IntKind.wrap .i64 ((IntKind.wrap .i64 ((List.getD x0 (Int.toNat x2) (0:Int)) + (1:Int))) * (List.getD x0 (Int.toNat x3) (0:Int)))))), (x3, ()))), ()))
      else
        none
    else
      none
  else
    (ko ((x1, ()), ()))
noncomputable def ls_annealref24_params_0 : St → LTr := (lsum ff_annealref24_params_0 hf_annealref24_params_0 X_annealref24_params_0 Prod.mk id st_annealref24_params_0 (hd [] [] [0, 3, 4] 0))
theorem lp_annealref24_params_0 : LoopOk PR 0 (lpN f_annealref24_params 0) ls_annealref24_params_0 := loopT okO_annealref24_params mixed (L := LB_annealref24_params_0) (d := 1) (bs := []) (ks := [0, 3, 4]) (loopsL (l := []) (by kernel_rfl) trivial) (by kernel_rfl) (inS := Prod.mk) (outS := id) (fun _ _ => rfl) (inX := id) (outX := id) (fun _ => rfl) (fun v R kn ko => by kernel_rfl) (hd_wk [] [] [0, 3, 4] 0)
noncomputable def L_annealref24_params : Lps := (lpB 4 (.by_ ls_annealref24_params_0) L0)
def inn_annealref24_params : T fr_annealref24_params → TH hr_annealref24_params → Int := (fun z w => z)
def out_annealref24_params : Int → T fr_annealref24_params × TH hr_annealref24_params := fun r => (r, ())
noncomputable def F_annealref24_params (a0 : List Int) : Option (Int) :=
  ((lim st_annealref24_params_0 (((List.take (List.length a0) a0), ((0:Int), ((0:Int), ()))), ()))).bind fun r0 =>
  (some r0.1.1)
noncomputable def G_annealref24_params : T fa_annealref24_params → TH ha_annealref24_params → Option (Int) := fun x y => F_annealref24_params x.1
noncomputable def c_annealref24_params : Orc := ent i_annealref24_params [] 0 (sp fa_annealref24_params ha_annealref24_params fr_annealref24_params hr_annealref24_params G_annealref24_params out_annealref24_params)
theorem ok_annealref24_params : OrcOk PR c_annealref24_params := fnT okO_annealref24_params mixed p_annealref24_params (by kernel_rfl) (by kernel_rfl) (L := L_annealref24_params) (kp := false) (by kernel_rfl) (inn := inn_annealref24_params) (out := out_annealref24_params) (fun _ _ => rfl) (loopsL (l := [((lpN f_annealref24_params 0), ls_annealref24_params_0)]) (by kernel_rfl) ⟨lp_annealref24_params_0, trivial⟩) (fun x y => by kernel_rfl)
noncomputable def O_annealref24_Check : Orc := (orm c_annealref24_in (orm c_annealref24_plus c_annealref24_params))
theorem okO_annealref24_Check : OrcOk PR O_annealref24_Check := (orm_ok ok_annealref24_in (orm_ok ok_annealref24_plus ok_annealref24_params))
abbrev fa_annealref24_Check : Fm := (.pair (.agg (.pair (.si .i64) (.pair (.i .i64) (.pair (.i .i64) (.pair (.i .i64) (.pair (.i .i64) (.pair (.i .i64) (.pair (.i .u32) (.pair (.i .u32) (.pair (.i .u32) (.pair (.i .u32) (.pair (.i .u32) (.pair (.i .u32) (.pair (.i .i64) (.pair (.i .i64) (.pair (.i .i64) (.pair (.i .i64) (.pair (.i .u64) (.pair (.i .u32) (.pair .b (.pair (.i .i64) (.pair (.i .i64) (.pair (.i .i64) (.pair (.i .i64) (.pair (.i .i64) (.pair (.i .i64) (.pair (.i .i64) .unit))))))))))))))))))))))))))) .unit)
abbrev ha_annealref24_Check : List BF := []
abbrev fr_annealref24_Check : Fm := (.i .i64)
abbrev hr_annealref24_Check : List BF := []
abbrev ff_annealref24_Check_0 : Fm := (.us 1 (.cst (.ref 0 1 0) (.us 1 (.pair (.i .i64) (.us 180 .unit)))))
abbrev hf_annealref24_Check_0 : List BF := [(.list 1 y_api_Config true (.pair (.si .i64) (.pair (.i .i64) (.pair (.i .i64) (.pair (.i .i64) (.pair (.i .i64) (.pair (.i .i64) (.pair (.i .u32) (.pair (.i .u32) (.pair (.i .u32) (.pair (.i .u32) (.pair (.i .u32) (.pair (.i .u32) (.pair (.i .i64) (.pair (.i .i64) (.pair (.i .i64) (.pair (.i .i64) (.pair (.i .u64) (.pair (.i .u32) (.pair .b (.pair (.i .i64) (.pair (.i .i64) (.pair (.i .i64) (.pair (.i .i64) (.pair (.i .i64) (.pair (.i .i64) (.pair (.i .i64) .unit)))))))))))))))))))))))))))]
abbrev X_annealref24_Check_0 : Xs := (.alt (.exit 0) [1] (.us 1 (.cst (.ref 0 1 0) (.us 182 .unit))) [(.list 1 y_api_Config true (.pair (.si .i64) (.pair (.i .i64) (.pair (.i .i64) (.pair (.i .i64) (.pair (.i .i64) (.pair (.i .i64) (.pair (.i .u32) (.pair (.i .u32) (.pair (.i .u32) (.pair (.i .u32) (.pair (.i .u32) (.pair (.i .u32) (.pair (.i .i64) (.pair (.i .i64) (.pair (.i .i64) (.pair (.i .i64) (.pair (.i .u64) (.pair (.i .u32) (.pair .b (.pair (.i .i64) (.pair (.i .i64) (.pair (.i .i64) (.pair (.i .i64) (.pair (.i .i64) (.pair (.i .i64) (.pair (.i .i64) .unit)))))))))))))))))))))))))))] (.one .ret [2] (.us 2 (.pair (.i .i64) (.us 181 .unit))) []))
abbrev S_annealref24_Check_0 : Type := T ff_annealref24_Check_0 × TH hf_annealref24_Check_0
abbrev E_annealref24_Check_0 : Type := TX X_annealref24_Check_0
noncomputable def LB_annealref24_Check_0 : Lps := L0
noncomputable def st_annealref24_Check_0 : StepT S_annealref24_Check_0 E_annealref24_Check_0 := fun R v kn ko =>
  let x0 : List Int := v.2.1.1
  let x1 : Int := v.1.1
  bif (decide (x1 < (((List.length x0) : Nat) : Int))) then
    bif (decide (((0:Int) ≤ x1) ∧ (x1 < (((List.length x0) : Nat) : Int)))) then
      ((F_annealref24_in (List.getD x0 (Int.toNat x1) (0:Int)) (1:Int) (4096:Int))).bind fun r2 =>
      bif (!r2) then
        (ko (Sum.inr (((24:Int), ()), ())))
      else
        ((F_annealref24_in v.2.1.2.2.2.2.2.2.2.2.2.2.2.2.2.2.1 (1:Int) (256:Int))).bind fun r3 =>
        bif (!r3) then
          (ko (Sum.inr (((24:Int), ()), ())))
        else
          bif (decide (((0:Int) ≤ x1) ∧ (x1 < (((List.length x0) : Nat) : Int)))) then
            bif (decide ((IntKind.wrap .i64 (v.2.1.2.2.2.2.2.2.2.2.2.2.2.2.2.2.1 * (List.getD x0 (Int.toNat x1) (0:Int)))) > (262144:Int))) then
              (ko (Sum.inr (((24:Int), ()), ())))
            else
              (kn (((IntKind.wrap .i64 (x1 + (1:Int))), ()), (((List.take (List.length x0) x0), v.2.1.2), ())))
          else
            none
    else
      none
  else
    (ko (Sum.inl ((), (((List.take (List.length x0) x0), v.2.1.2), ()))))
noncomputable def ls_annealref24_Check_0 : St → LTr := (lsum ff_annealref24_Check_0 hf_annealref24_Check_0 X_annealref24_Check_0 Prod.mk id st_annealref24_Check_0 (hd [] [] [1, 3] 0))
theorem lp_annealref24_Check_0 : LoopOk PR 0 (lpN f_annealref24_Check 0) ls_annealref24_Check_0 := loopT okO_annealref24_Check mixed (L := LB_annealref24_Check_0) (d := 1) (bs := []) (ks := [1, 3]) (loopsL (l := []) (by kernel_rfl) trivial) (by kernel_rfl) (inS := Prod.mk) (outS := id) (fun _ _ => rfl) (inX := id) (outX := id) (fun _ => rfl) (fun v R kn ko => by kernel_rfl) (hd_wk [] [] [1, 3] 0)
noncomputable def L_annealref24_Check : Lps := (lpB 11 (.un 7 [1, 4, 5]) (lpB 5 (.by_ ls_annealref24_Check_0) L0))
def inn_annealref24_Check : T fr_annealref24_Check → TH hr_annealref24_Check → Int := (fun z w => z)
def out_annealref24_Check : Int → T fr_annealref24_Check × TH hr_annealref24_Check := fun r => (r, ())
noncomputable def F_annealref24_Check (a0 : List Int × Int × Int × Int × Int × Int × Int × Int × Int × Int × Int × Int × Int × Int × Int × Int × Int × Int × Bool × Int × Int × Int × Int × Int × Int × Int × Unit) : Option (Int) :=
  ((F_annealref24_in (((List.length a0.1) : Nat) : Int) (2:Int) (65:Int))).bind fun r0 =>
  bif (!r0) then
    (some (24:Int))
  else
    ((lim st_annealref24_Check_0 (((0:Int), ()), (((List.take (List.length a0.1) a0.1), a0.2), ())))).bind fun r1 =>
    els (fun l2 =>
      let x4 : Int := l2.2.1.2.2.2.2.2.2.1
      let x5 : Int := l2.2.1.2.2.2.2.2.2.2.1
      let x6 : Int := l2.2.1.2.2.2.2.2.2.2.2.1
      let x7 : Int := l2.2.1.2.2.2.2.2.2.2.2.2.1
      let x8 : Int := l2.2.1.2.2.2.2.2.2.2.2.2.2.1
      let x9 : Int := l2.2.1.2.2.2.2.2.2.2.2.2.2.2.1
      let x10 : List Int := [x4, x5, x6, x7, x8, x9]
      let x11 : List Int := l2.2.1.1
      let x12 : Int := l2.2.1.2.1
      let x13 : Int := l2.2.1.2.2.1
      let x14 : Int := l2.2.1.2.2.2.1
      let x15 : Int := l2.2.1.2.2.2.2.1
      let x16 : Int := l2.2.1.2.2.2.2.2.1
      let x17 : Int := l2.2.1.2.2.2.2.2.2.2.2.2.2.2.2.2.1
      let x18 : Int := l2.2.1.2.2.2.2.2.2.2.2.2.2.2.2.1
      let x19 : Int := l2.2.1.2.2.2.2.2.2.2.2.2.2.2.2.2.2.1
      let x20 : Int := l2.2.1.2.2.2.2.2.2.2.2.2.2.2.2.2.2.2.1
      let x21 : Int := l2.2.1.2.2.2.2.2.2.2.2.2.2.2.2.2.2.2.2.2.2.2.1
      let x22 : Int := l2.2.1.2.2.2.2.2.2.2.2.2.2.2.2.2.2.2.2.2.2.2.2.1
      let x23 : Int := l2.2.1.2.2.2.2.2.2.2.2.2.2.2.2.2.2.2.2.2.2.2.2.2.1
      let x24 : Int := l2.2.1.2.2.2.2.2.2.2.2.2.2.2.2.2.2.2.2.2.2.2.2.2.2.1
      let x25 : Int := l2.2.1.2.2.2.2.2.2.2.2.2.2.2.2.2.2.2.2.2.2.2.2.2.2.2.1
      let x26 : Int := l2.2.1.2.2.2.2.2.2.2.2.2.2.2.2.2.2.2.2.2.2.2.2.2.2.2.2.1
      let x27 : Int := l2.2.1.2.2.2.2.2.2.2.2.2.2.2.2.2.2.2.2.2.2.2.2.2.2.2.2.2.1
      ((F_annealref24_plus (List.getD x10 (0:Nat) (0:Int)))).bind fun r28 =>
      bif (!r28) then
        (some (24:Int))
      else
        ((F_annealref24_plus (List.getD x10 (1:Nat) (0:Int)))).bind fun r29 =>
        bif (!r29) then
          (some (24:Int))
        else
          ((F_annealref24_plus (List.getD x10 (2:Nat) (0:Int)))).bind fun r30 =>
          bif (!r30) then
            (some (24:Int))
          else
            ((F_annealref24_plus (List.getD x10 (3:Nat) (0:Int)))).bind fun r31 =>
            bif (!r31) then
              (some (24:Int))
            else
              ((F_annealref24_plus (List.getD x10 (4:Nat) (0:Int)))).bind fun r32 =>
              bif (!r32) then
                (some (24:Int))
              else
                ((F_annealref24_plus (List.getD x10 (5:Nat) (0:Int)))).bind fun r33 =>
                bif (!r33) then
                  (some (24:Int))
                else
                  ((F_annealref24_params (List.take (List.length x11) x11))).bind fun r34 =>
                  bif (decide (r34 ≤ (65536:Int))) then
                    ((F_annealref24_in x12 (0:Int) (2:Int))).bind fun r35 =>
                    bif r35 then
                      ((F_annealref24_in x13 (0:Int) (3:Int))).bind fun r36 =>
                      bif r36 then
                        ((F_annealref24_in x14 (0:Int) (1:Int))).bind fun r37 =>
                        bif r37 then
                          ((F_annealref24_in x15 (0:Int) (3:Int))).bind fun r38 =>
                          bif r38 then
                            ((F_annealref24_in x16 (0:Int) (2:Int))).bind fun r39 =>
                            bif r39 then
                              bif (decide (x5 < (1065353216:Int))) then
                                bif (decide (x6 < (1065353216:Int))) then
                                  bif (decide (x7 > (0:Int))) then
                                    ((F_annealref24_in x17 (1:Int) (1073741824:Int))).bind fun r40 =>
                                    bif r40 then
                                      ((F_annealref24_in x18 (0:Int) x17)).bind fun r41 =>
                                      bif r41 then
                                        ((F_annealref24_in x19 (1:Int) (256:Int))).bind fun r42 =>
                                        bif r42 then
                                          ((F_annealref24_in x20 (1:Int) (16:Int))).bind fun r43 =>
                                          bif r43 then
                                            bif (decide (x22 ≥ (0:Int))) then
                                              bif (decide (x23 ≤ (30:Int))) then
                                                ((F_annealref24_in x21 x22 x23)).bind fun r44 =>
                                                bif r44 then
                                                  ((F_annealref24_in x24 (1:Int) (8:Int))).bind fun r45 =>
                                                  bif r45 then
                                                    ((F_annealref24_in x25 (1:Int) (8:Int))).bind fun r46 =>
                                                    bif r46 then
                                                      ((F_annealref24_in x26 (1:Int) (1073741824:Int))).bind fun r47 =>
                                                      bif r47 then
                                                        ((F_annealref24_in x27 (0:Int) (1073741824:Int))).bind fun r48 =>
                                                        bif r48 then
                                                          bif (!(decide (l2.2.1.2.2.2.2.2.2.2.2.2.2.2.2.2.2.2.2.2.1 < (2147483648:Int)))) then
                                                            (some (24:Int))
                                                          else
                                                            (some (0:Int))
                                                        else
                                                          (some (24:Int))
                                                      else
                                                        (some (24:Int))
                                                    else
                                                      (some (24:Int))
                                                  else
                                                    (some (24:Int))
                                                else
                                                  (some (24:Int))
                                              else
                                                (some (24:Int))
                                            else
                                              (some (24:Int))
                                          else
                                            (some (24:Int))
                                        else
                                          (some (24:Int))
                                      else
                                        (some (24:Int))
                                    else
                                      (some (24:Int))
                                  else
                                    (some (24:Int))
                                else
                                  (some (24:Int))
                              else
                                (some (24:Int))
                            else
                              (some (24:Int))
                          else
                            (some (24:Int))
                        else
                          (some (24:Int))
                      else
                        (some (24:Int))
                    else
                      (some (24:Int))
                  else
                    (some (24:Int))) (fun r3 =>
      (some r3.1.1)) r1
noncomputable def G_annealref24_Check : T fa_annealref24_Check → TH ha_annealref24_Check → Option (Int) := fun x y => F_annealref24_Check x.1
noncomputable def c_annealref24_Check : Orc := ent i_annealref24_Check [] 0 (sp fa_annealref24_Check ha_annealref24_Check fr_annealref24_Check hr_annealref24_Check G_annealref24_Check out_annealref24_Check)
theorem ok_annealref24_Check : OrcOk PR c_annealref24_Check := fnT okO_annealref24_Check mixed p_annealref24_Check (by kernel_rfl) (by kernel_rfl) (L := L_annealref24_Check) (kp := false) (by kernel_rfl) (inn := inn_annealref24_Check) (out := out_annealref24_Check) (fun _ _ => rfl) (loopsL (l := [((lpN f_annealref24_Check 0), ls_annealref24_Check_0)]) (by kernel_rfl) ⟨lp_annealref24_Check_0, trivial⟩) (fun x y => by kernel_rfl)
noncomputable def O_annealref24_Params : Orc := (orm c_annealref24_Check c_annealref24_params)
theorem okO_annealref24_Params : OrcOk PR O_annealref24_Params := (orm_ok ok_annealref24_Check ok_annealref24_params)
abbrev fa_annealref24_Params : Fm := (.pair (.agg (.pair (.si .i64) (.pair (.i .i64) (.pair (.i .i64) (.pair (.i .i64) (.pair (.i .i64) (.pair (.i .i64) (.pair (.i .u32) (.pair (.i .u32) (.pair (.i .u32) (.pair (.i .u32) (.pair (.i .u32) (.pair (.i .u32) (.pair (.i .i64) (.pair (.i .i64) (.pair (.i .i64) (.pair (.i .i64) (.pair (.i .u64) (.pair (.i .u32) (.pair .b (.pair (.i .i64) (.pair (.i .i64) (.pair (.i .i64) (.pair (.i .i64) (.pair (.i .i64) (.pair (.i .i64) (.pair (.i .i64) .unit))))))))))))))))))))))))))) .unit)
abbrev ha_annealref24_Params : List BF := []
abbrev fr_annealref24_Params : Fm := (.i .i64)
abbrev hr_annealref24_Params : List BF := []
noncomputable def L_annealref24_Params : Lps := L0
def inn_annealref24_Params : T fr_annealref24_Params → TH hr_annealref24_Params → Int := (fun z w => z)
def out_annealref24_Params : Int → T fr_annealref24_Params × TH hr_annealref24_Params := fun r => (r, ())
noncomputable def F_annealref24_Params (a0 : List Int × Int × Int × Int × Int × Int × Int × Int × Int × Int × Int × Int × Int × Int × Int × Int × Int × Int × Bool × Int × Int × Int × Int × Int × Int × Int × Unit) : Option (Int) :=
  let x0 : List Int := (List.take (List.length a0.1) a0.1)
  ((F_annealref24_Check (x0, a0.2))).bind fun r1 =>
  bif (r1 != (0:Int)) then
    (some (0:Int))
  else
    ((F_annealref24_params x0)).bind fun r2 =>
    (some r2)
noncomputable def G_annealref24_Params : T fa_annealref24_Params → TH ha_annealref24_Params → Option (Int) := fun x y => F_annealref24_Params x.1
noncomputable def c_annealref24_Params : Orc := ent i_annealref24_Params [] 0 (sp fa_annealref24_Params ha_annealref24_Params fr_annealref24_Params hr_annealref24_Params G_annealref24_Params out_annealref24_Params)
theorem ok_annealref24_Params : OrcOk PR c_annealref24_Params := fnT okO_annealref24_Params mixed p_annealref24_Params (by kernel_rfl) (by kernel_rfl) (L := L_annealref24_Params) (kp := false) (by kernel_rfl) (inn := inn_annealref24_Params) (out := out_annealref24_Params) (fun _ _ => rfl) (loopsL (l := []) (by kernel_rfl) trivial) (fun x y => by kernel_rfl)
noncomputable def O_config_Params : Orc := (orm c_config_Check c_config_params)
theorem okO_config_Params : OrcOk PR O_config_Params := (orm_ok ok_config_Check ok_config_params)
abbrev fa_config_Params : Fm := (.pair (.agg (.pair (.si .i64) (.pair (.i .i64) (.pair (.i .i64) (.pair (.i .i64) (.pair (.i .i64) (.pair (.i .i64) (.pair (.i .u32) (.pair (.i .u32) (.pair (.i .u32) (.pair (.i .u32) (.pair (.i .u32) (.pair (.i .u32) (.pair (.i .i64) (.pair (.i .i64) (.pair (.i .i64) (.pair (.i .i64) (.pair (.i .u64) (.pair (.i .u32) (.pair .b (.pair (.i .i64) (.pair (.i .i64) (.pair (.i .i64) (.pair (.i .i64) (.pair (.i .i64) (.pair (.i .i64) (.pair (.i .i64) .unit))))))))))))))))))))))))))) .unit)
abbrev ha_config_Params : List BF := []
abbrev fr_config_Params : Fm := (.i .i64)
abbrev hr_config_Params : List BF := []
noncomputable def L_config_Params : Lps := L0
def inn_config_Params : T fr_config_Params → TH hr_config_Params → Int := (fun z w => z)
def out_config_Params : Int → T fr_config_Params × TH hr_config_Params := fun r => (r, ())
noncomputable def F_config_Params (a0 : List Int × Int × Int × Int × Int × Int × Int × Int × Int × Int × Int × Int × Int × Int × Int × Int × Int × Int × Bool × Int × Int × Int × Int × Int × Int × Int × Unit) : Option (Int) :=
  let x0 : List Int := (List.take (List.length a0.1) a0.1)
  ((F_config_Check (x0, a0.2))).bind fun r1 =>
  bif (r1 != (0:Int)) then
    (some (0:Int))
  else
    ((F_config_params x0)).bind fun r2 =>
    (some r2.1)
noncomputable def G_config_Params : T fa_config_Params → TH ha_config_Params → Option (Int) := fun x y => F_config_Params x.1
noncomputable def c_config_Params : Orc := ent i_config_Params [] 0 (sp fa_config_Params ha_config_Params fr_config_Params hr_config_Params G_config_Params out_config_Params)
theorem ok_config_Params : OrcOk PR c_config_Params := fnT okO_config_Params mixed p_config_Params (by kernel_rfl) (by kernel_rfl) (L := L_config_Params) (kp := false) (by kernel_rfl) (inn := inn_config_Params) (out := out_config_Params) (fun _ _ => rfl) (loopsL (l := []) (by kernel_rfl) trivial) (fun x y => by kernel_rfl)
noncomputable def O_config_flag : Orc := orn
theorem okO_config_flag : OrcOk PR O_config_flag := (orn_ok _)
abbrev fa_config_flag : Fm := (.pair .b .unit)
abbrev ha_config_flag : List BF := []
abbrev fr_config_flag : Fm := (.i .i64)
abbrev hr_config_flag : List BF := []
noncomputable def L_config_flag : Lps := L0
def inn_config_flag : T fr_config_flag → TH hr_config_flag → Int := (fun z w => z)
def out_config_flag : Int → T fr_config_flag × TH hr_config_flag := fun r => (r, ())
noncomputable def F_config_flag (a0 : Bool) : Option (Int) :=
  bif a0 then
    (some (1:Int))
  else
    (some (0:Int))
noncomputable def G_config_flag : T fa_config_flag → TH ha_config_flag → Option (Int) := fun x y => F_config_flag x.1
noncomputable def c_config_flag : Orc := ent i_config_flag [] 0 (sp fa_config_flag ha_config_flag fr_config_flag hr_config_flag G_config_flag out_config_flag)
theorem ok_config_flag : OrcOk PR c_config_flag := fnT okO_config_flag mixed p_config_flag (by kernel_rfl) (by kernel_rfl) (L := L_config_flag) (kp := false) (by kernel_rfl) (inn := inn_config_flag) (out := out_config_flag) (fun _ _ => rfl) (loopsL (l := []) (by kernel_rfl) trivial) (fun x y => by kernel_rfl)
noncomputable def O_config_lay : Orc := orn
theorem okO_config_lay : OrcOk PR O_config_lay := (orn_ok _)
abbrev fa_config_lay : Fm := (.pair (.own 0 1 0 1) (.pair (.i .u64) (.pair (.i .i64) .unit)))
abbrev ha_config_lay : List BF := [(.ints 1 y_uint8 true .u8)]
abbrev fr_config_lay : Fm := (.own 0 2 0 1)
abbrev hr_config_lay : List BF := [(.ints 2 y_uint8 true .u8)]
abbrev ff_config_lay_0 : Fm := (.pair (.own 0 2 0 1) (.pair (.i .u64) (.us 6 (.pair (.i .i64) (.pair (.i .i64) (.us 13 .unit))))))
abbrev hf_config_lay_0 : List BF := [(.ints 2 y_uint8 true .u8)]
abbrev X_config_lay_0 : Xs := (.one (.exit 0) [0] (.pair (.own 0 2 0 1) (.us 22 .unit)) [(.ints 2 y_uint8 true .u8)])
abbrev S_config_lay_0 : Type := T ff_config_lay_0 × TH hf_config_lay_0
abbrev E_config_lay_0 : Type := TX X_config_lay_0
noncomputable def LB_config_lay_0 : Lps := L0
noncomputable def st_config_lay_0 : StepT S_config_lay_0 E_config_lay_0 := fun R v kn ko =>
  let x0 : Nat := v.1.1
  let x1 : Int := v.1.2.1
  let x2 : Int := v.1.2.2.2.1
  bif (decide (x2 < v.1.2.2.1)) then
    bif (decide ((0:Int) ≤ (IntKind.wrap .u64 (IntKind.wrap .i64 ((8:Int) * x2))))) then
      bif (decide ((x0 + (1:Nat)) ≤ (1073741824:Nat))) then
        (kn (((x0 + (1:Nat)), (x1, (v.1.2.2.1, ((IntKind.wrap .i64 (x2 + (1:Int))), ())))), (((List.take x0 v.2.1) ++ [(IntKind.wrap .u8 (x1 / ((2:Int) ^ (Min.min (Int.toNat (IntKind.wrap .u64 (IntKind.wrap .i64 ((8:Int) * x2)))) (64:Nat)))))]), ())))
      else
        none
    else
      none
  else
    (ko ((x0, ()), v.2))
noncomputable def ls_config_lay_0 : St → LTr := (lsum ff_config_lay_0 hf_config_lay_0 X_config_lay_0 Prod.mk id st_config_lay_0 (hd [] [0] [0, 1, 8, 9] 1))
theorem lp_config_lay_0 : LoopOk PR 1 (lpN f_config_lay 0) ls_config_lay_0 := loopT okO_config_lay mixed (L := LB_config_lay_0) (d := 1) (bs := [0]) (ks := [0, 1, 8, 9]) (loopsL (l := []) (by kernel_rfl) trivial) (by kernel_rfl) (inS := Prod.mk) (outS := id) (fun _ _ => rfl) (inX := id) (outX := id) (fun _ => rfl) (fun v R kn ko => by kernel_rfl) (hd_wk [] [0] [0, 1, 8, 9] 1)
noncomputable def L_config_lay : Lps := (lpB 3 (.by_ ls_config_lay_0) L0)
def inn_config_lay : T fr_config_lay → TH hr_config_lay → (Nat) × (List Int × Unit) := Prod.mk
def out_config_lay : (Nat) × (List Int × Unit) → T fr_config_lay × TH hr_config_lay := id
noncomputable def F_config_lay (a0 : Nat) (a1 : Int) (a2 : Int) (a3 : List Int) : Option ((Nat) × (List Int × Unit)) :=
  ((lim st_config_lay_0 ((a0, (a1, (a2, ((0:Int), ())))), (a3, ())))).bind fun r0 =>
  (some (r0.1.1, r0.2))
noncomputable def G_config_lay : T fa_config_lay → TH ha_config_lay → Option ((Nat) × (List Int × Unit)) := fun x y => F_config_lay x.1 x.2.1 x.2.2.1 y.1
noncomputable def c_config_lay : Orc := ent i_config_lay [true] 0 (sp fa_config_lay ha_config_lay fr_config_lay hr_config_lay G_config_lay out_config_lay)
theorem ok_config_lay : OrcOk PR c_config_lay := fnT okO_config_lay mixed p_config_lay (by kernel_rfl) (by kernel_rfl) (L := L_config_lay) (kp := false) (by kernel_rfl) (inn := inn_config_lay) (out := out_config_lay) (fun _ _ => rfl) (loopsL (l := [((lpN f_config_lay 0), ls_config_lay_0)]) (by kernel_rfl) ⟨lp_config_lay_0, trivial⟩) (fun x y => by kernel_rfl)
noncomputable def O_annealref24_put : Orc := orn
theorem okO_annealref24_put : OrcOk PR O_annealref24_put := (orn_ok _)
abbrev fa_annealref24_put : Fm := (.pair (.own 0 1 0 1) (.pair (.i .u64) (.pair (.i .i64) .unit)))
abbrev ha_annealref24_put : List BF := [(.ints 1 y_uint8 true .u8)]
abbrev fr_annealref24_put : Fm := (.own 0 2 0 1)
abbrev hr_annealref24_put : List BF := [(.ints 2 y_uint8 true .u8)]
abbrev ff_annealref24_put_0 : Fm := (.pair (.own 0 2 0 1) (.pair (.i .u64) (.pair (.i .i64) (.us 4 (.pair (.i .i64) (.us 14 .unit))))))
abbrev hf_annealref24_put_0 : List BF := [(.ints 2 y_uint8 true .u8)]
abbrev X_annealref24_put_0 : Xs := (.one (.exit 0) [0] (.pair (.own 0 2 0 1) (.us 21 .unit)) [(.ints 2 y_uint8 true .u8)])
abbrev S_annealref24_put_0 : Type := T ff_annealref24_put_0 × TH hf_annealref24_put_0
abbrev E_annealref24_put_0 : Type := TX X_annealref24_put_0
noncomputable def LB_annealref24_put_0 : Lps := L0
noncomputable def st_annealref24_put_0 : StepT S_annealref24_put_0 E_annealref24_put_0 := fun R v kn ko =>
  let x0 : Nat := v.1.1
  let x1 : Int := v.1.2.1
  let x2 : Int := v.1.2.2.2.1
  bif (decide (x2 < v.1.2.2.1)) then
    bif (decide ((0:Int) ≤ (IntKind.wrap .i64 ((8:Int) * x2)))) then
      bif (decide ((x0 + (1:Nat)) ≤ (1073741824:Nat))) then
        (kn (((x0 + (1:Nat)), (x1, (v.1.2.2.1, ((IntKind.wrap .i64 (x2 + (1:Int))), ())))), (((List.take x0 v.2.1) ++ [(IntKind.wrap .u8 (x1 / ((2:Int) ^ (Min.min (Int.toNat (IntKind.wrap .i64 ((8:Int) * x2))) (64:Nat)))))]), ())))
      else
        none
    else
      none
  else
    (ko ((x0, ()), v.2))
noncomputable def ls_annealref24_put_0 : St → LTr := (lsum ff_annealref24_put_0 hf_annealref24_put_0 X_annealref24_put_0 Prod.mk id st_annealref24_put_0 (hd [] [0] [0, 1, 2, 7] 1))
theorem lp_annealref24_put_0 : LoopOk PR 1 (lpN f_annealref24_put 0) ls_annealref24_put_0 := loopT okO_annealref24_put mixed (L := LB_annealref24_put_0) (d := 1) (bs := [0]) (ks := [0, 1, 2, 7]) (loopsL (l := []) (by kernel_rfl) trivial) (by kernel_rfl) (inS := Prod.mk) (outS := id) (fun _ _ => rfl) (inX := id) (outX := id) (fun _ => rfl) (fun v R kn ko => by kernel_rfl) (hd_wk [] [0] [0, 1, 2, 7] 1)
noncomputable def L_annealref24_put : Lps := (lpB 3 (.by_ ls_annealref24_put_0) L0)
def inn_annealref24_put : T fr_annealref24_put → TH hr_annealref24_put → (Nat) × (List Int × Unit) := Prod.mk
def out_annealref24_put : (Nat) × (List Int × Unit) → T fr_annealref24_put × TH hr_annealref24_put := id
noncomputable def F_annealref24_put (a0 : Nat) (a1 : Int) (a2 : Int) (a3 : List Int) : Option ((Nat) × (List Int × Unit)) :=
  ((lim st_annealref24_put_0 ((a0, (a1, (a2, ((0:Int), ())))), (a3, ())))).bind fun r0 =>
  (some (r0.1.1, r0.2))
noncomputable def G_annealref24_put : T fa_annealref24_put → TH ha_annealref24_put → Option ((Nat) × (List Int × Unit)) := fun x y => F_annealref24_put x.1 x.2.1 x.2.2.1 y.1
noncomputable def c_annealref24_put : Orc := ent i_annealref24_put [true] 0 (sp fa_annealref24_put ha_annealref24_put fr_annealref24_put hr_annealref24_put G_annealref24_put out_annealref24_put)
theorem ok_annealref24_put : OrcOk PR c_annealref24_put := fnT okO_annealref24_put mixed p_annealref24_put (by kernel_rfl) (by kernel_rfl) (L := L_annealref24_put) (kp := false) (by kernel_rfl) (inn := inn_annealref24_put) (out := out_annealref24_put) (fun _ _ => rfl) (loopsL (l := [((lpN f_annealref24_put 0), ls_annealref24_put_0)]) (by kernel_rfl) ⟨lp_annealref24_put_0, trivial⟩) (fun x y => by kernel_rfl)
end Go.Proofs.Ytcpicekmnkjceaa.VI
