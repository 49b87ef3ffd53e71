import Derived.Test.YtkknnloamidaiaaTa477b6f9
namespace Go.Proofs.Ytkknnloamidaiaa.VI
set_option linter.unusedVariables false
set_option linter.unusedSimpArgs false
set_option maxRecDepth 100000
set_option linter.unusedSimpArgs false
set_option linter.unusedVariables false
noncomputable def O_sum_Nans : Orc := (orm c_format_Class c_format_Nan)
theorem okO_sum_Nans : OrcOk PR O_sum_Nans := (orm_ok ok_format_Class ok_format_Nan)
abbrev fa_sum_Nans : Fm := (.pair (.i .i64) (.pair (.si .u32) .unit))
abbrev ha_sum_Nans : List BF := []
abbrev fr_sum_Nans : Fm := (.tup (.pair (.i .u32) (.pair (.agg (.pair .b (.pair .b (.pair .b (.pair .b (.pair .b .unit)))))) (.pair .b .unit))))
abbrev hr_sum_Nans : List BF := []
abbrev ff_sum_Nans_0 : Fm := (.pair (.i .i64) (.us 4 (.cst (.ref 0 1 0) (.us 1 (.pair .b (.cst (.ref 1 1 0) (.us 3 (.pair (.si .u32) (.pair (.i .i64) (.pair (.i .i64) (.us 23 .unit)))))))))))
abbrev hf_sum_Nans_0 : List BF := [(.list 1 y_api_Exc true (.pair .b (.pair .b (.pair .b (.pair .b (.pair .b .unit)))))), (.list 1 y_api_Exc true (.pair .b (.pair .b (.pair .b (.pair .b (.pair .b .unit))))))]
abbrev X_sum_Nans_0 : Xs := (.one (.exit 0) [0, 5, 7, 8] (.pair (.i .i64) (.us 4 (.cst (.ref 0 1 0) (.us 1 (.pair .b (.cst (.ref 1 1 0) (.us 29 .unit))))))) [(.list 1 y_api_Exc true (.pair .b (.pair .b (.pair .b (.pair .b (.pair .b .unit)))))), (.list 1 y_api_Exc true (.pair .b (.pair .b (.pair .b (.pair .b (.pair .b .unit))))))])
abbrev S_sum_Nans_0 : Type := T ff_sum_Nans_0 × TH hf_sum_Nans_0
abbrev E_sum_Nans_0 : Type := TX X_sum_Nans_0
noncomputable def LB_sum_Nans_0 : Lps := L0
noncomputable def st_sum_Nans_0 : StepT S_sum_Nans_0 E_sum_Nans_0 := fun R v kn ko =>
  let x0 : Int := v.1.1
  let x1 : List Int := v.1.2.2.1
  let x2 : Int := v.1.2.2.2.2.1
  let x3 : Bool := v.1.2.1
  let x4 : Bool := v.2.2.1.1
  bif (decide (x2 < v.1.2.2.2.1)) then
    bif (decide (((0:Int) ≤ x2) ∧ (x2 < (((List.length x1) : Nat) : Int)))) then
      ((F_format_Class x0 (List.getD x1 (Int.toNat x2) (0:Int)))).bind fun r5 =>
      bif x3 then
        bif x4 then
          (kn ((x0, (true, ((List.take (List.length x1) x1), (v.1.2.2.2.1, ((IntKind.wrap .i64 (x2 + (1:Int))), ()))))), (v.2.1, ((true, v.2.2.1.2), ()))))
        else
          (kn ((x0, (true, ((List.take (List.length x1) x1), (v.1.2.2.2.1, ((IntKind.wrap .i64 (x2 + (1:Int))), ()))))), (v.2.1, (((r5 == (5:Int)), v.2.2.1.2), ()))))
      else
        bif x4 then
          (kn ((x0, ((decide (r5 ≥ (4:Int))), ((List.take (List.length x1) x1), (v.1.2.2.2.1, ((IntKind.wrap .i64 (x2 + (1:Int))), ()))))), (v.2.1, ((true, v.2.2.1.2), ()))))
        else
          (kn ((x0, ((decide (r5 ≥ (4:Int))), ((List.take (List.length x1) x1), (v.1.2.2.2.1, ((IntKind.wrap .i64 (x2 + (1:Int))), ()))))), (v.2.1, (((r5 == (5:Int)), v.2.2.1.2), ()))))
    else
      none
  else
    (ko ((x0, (x3, ())), v.2))
noncomputable def ls_sum_Nans_0 : St → LTr := (lsum ff_sum_Nans_0 hf_sum_Nans_0 X_sum_Nans_0 Prod.mk id st_sum_Nans_0 (hd [] [] [0, 5, 7, 8, 12, 13, 14] 0))
theorem lp_sum_Nans_0 : LoopOk PR 0 (lpN f_sum_Nans 0) ls_sum_Nans_0 := loopT okO_sum_Nans mixed (L := LB_sum_Nans_0) (d := 1) (bs := []) (ks := [0, 5, 7, 8, 12, 13, 14]) (loopsL (l := []) (by kernel_rfl) trivial) (by kernel_rfl) (inS := Prod.mk) (outS := id) (fun _ _ => rfl) (inX := id) (outX := id) (fun _ => rfl) (fun v R kn ko => by kernel_rfl) (hd_wk [] [] [0, 5, 7, 8, 12, 13, 14] 0)
noncomputable def L_sum_Nans : Lps := (lpB 5 (.by_ ls_sum_Nans_0) L0)
def inn_sum_Nans : T fr_sum_Nans → TH hr_sum_Nans → Int × (Bool × Bool × Bool × Bool × Bool × Unit) × Bool × Unit := (fun z w => z)
def out_sum_Nans : Int × (Bool × Bool × Bool × Bool × Bool × Unit) × Bool × Unit → T fr_sum_Nans × TH hr_sum_Nans := fun r => (r, ())
noncomputable def F_sum_Nans (a0 : Int) (a1 : List Int) : Option (Int × (Bool × Bool × Bool × Bool × Bool × Unit) × Bool × Unit) :=
  ((lim st_sum_Nans_0 ((a0, (false, ((List.take (List.length a1) a1), ((((List.length a1) : Nat) : Int), ((0:Int), ()))))), ((false, (false, (false, (false, (false, ()))))), ((false, (false, (false, (false, (false, ()))))), ()))))).bind fun r0 =>
  ((F_format_Nan r0.1.1)).bind fun r1 =>
  (some (r1, (r0.2.2.1, r0.1.2)))
noncomputable def G_sum_Nans : T fa_sum_Nans → TH ha_sum_Nans → Option (Int × (Bool × Bool × Bool × Bool × Bool × Unit) × Bool × Unit) := fun x y => F_sum_Nans x.1 x.2.1
noncomputable def c_sum_Nans : Orc := ent i_sum_Nans [] 0 (sp fa_sum_Nans ha_sum_Nans fr_sum_Nans hr_sum_Nans G_sum_Nans out_sum_Nans)
theorem ok_sum_Nans : OrcOk PR c_sum_Nans := fnT okO_sum_Nans mixed p_sum_Nans (by kernel_rfl) (by kernel_rfl) (L := L_sum_Nans) (kp := false) (by kernel_rfl) (inn := inn_sum_Nans) (out := out_sum_Nans) (fun _ _ => rfl) (loopsL (l := [((lpN f_sum_Nans 0), ls_sum_Nans_0)]) (by kernel_rfl) ⟨lp_sum_Nans_0, trivial⟩) (fun x y => by kernel_rfl)
noncomputable def O_sum_Bad : Orc := c_format_Nan
theorem okO_sum_Bad : OrcOk PR O_sum_Bad := ok_format_Nan
abbrev fa_sum_Bad : Fm := (.pair (.i .i64) .unit)
abbrev ha_sum_Bad : List BF := []
abbrev fr_sum_Bad : Fm := (.tup (.pair (.i .u32) (.pair (.agg (.pair .b (.pair .b (.pair .b (.pair .b (.pair .b .unit)))))) .unit)))
abbrev hr_sum_Bad : List BF := []
noncomputable def L_sum_Bad : Lps := L0
def inn_sum_Bad : T fr_sum_Bad → TH hr_sum_Bad → Int × (Bool × Bool × Bool × Bool × Bool × Unit) × Unit := (fun z w => z)
def out_sum_Bad : Int × (Bool × Bool × Bool × Bool × Bool × Unit) × Unit → T fr_sum_Bad × TH hr_sum_Bad := fun r => (r, ())
noncomputable def F_sum_Bad (a0 : Int) : Option (Int × (Bool × Bool × Bool × Bool × Bool × Unit) × Unit) :=
  ((F_format_Nan a0)).bind fun r0 =>
  (some (r0, ((true, (false, (false, (false, (false, ()))))), ())))
noncomputable def G_sum_Bad : T fa_sum_Bad → TH ha_sum_Bad → Option (Int × (Bool × Bool × Bool × Bool × Bool × Unit) × Unit) := fun x y => F_sum_Bad x.1
noncomputable def c_sum_Bad : Orc := ent i_sum_Bad [] 0 (sp fa_sum_Bad ha_sum_Bad fr_sum_Bad hr_sum_Bad G_sum_Bad out_sum_Bad)
theorem ok_sum_Bad : OrcOk PR c_sum_Bad := fnT okO_sum_Bad mixed p_sum_Bad (by kernel_rfl) (by kernel_rfl) (L := L_sum_Bad) (kp := false) (by kernel_rfl) (inn := inn_sum_Bad) (out := out_sum_Bad) (fun _ _ => rfl) (loopsL (l := []) (by kernel_rfl) trivial) (fun x y => by kernel_rfl)
noncomputable def O_prod_torn : Orc := (orm c_format_IsZero c_format_IsInf)
theorem okO_prod_torn : OrcOk PR O_prod_torn := (orm_ok ok_format_IsZero ok_format_IsInf)
abbrev fa_prod_torn : Fm := (.pair (.i .i64) (.pair (.i .u32) (.pair (.i .u32) .unit)))
abbrev ha_prod_torn : List BF := []
abbrev fr_prod_torn : Fm := .b
abbrev hr_prod_torn : List BF := []
noncomputable def L_prod_torn : Lps := L0
def inn_prod_torn : T fr_prod_torn → TH hr_prod_torn → Bool := (fun z w => z)
def out_prod_torn : Bool → T fr_prod_torn × TH hr_prod_torn := fun r => (r, ())
noncomputable def F_prod_torn (a0 : Int) (a1 : Int) (a2 : Int) : Option (Bool) :=
  ((F_format_IsZero a0 a1)).bind fun r0 =>
  bif r0 then
    ((F_format_IsInf a0 a2)).bind fun r1 =>
    bif r1 then
      (some true)
    else
      ((F_format_IsInf a0 a1)).bind fun r2 =>
      bif r2 then
        ((F_format_IsZero a0 a2)).bind fun r3 =>
        (some r3)
      else
        (some false)
  else
    ((F_format_IsInf a0 a1)).bind fun r4 =>
    bif r4 then
      ((F_format_IsZero a0 a2)).bind fun r5 =>
      (some r5)
    else
      (some false)
noncomputable def G_prod_torn : T fa_prod_torn → TH ha_prod_torn → Option (Bool) := fun x y => F_prod_torn x.1 x.2.1 x.2.2.1
noncomputable def c_prod_torn : Orc := ent i_prod_torn [] 0 (sp fa_prod_torn ha_prod_torn fr_prod_torn hr_prod_torn G_prod_torn out_prod_torn)
theorem ok_prod_torn : OrcOk PR c_prod_torn := fnT okO_prod_torn mixed p_prod_torn (by kernel_rfl) (by kernel_rfl) (L := L_prod_torn) (kp := false) (by kernel_rfl) (inn := inn_prod_torn) (out := out_prod_torn) (fun _ _ => rfl) (loopsL (l := []) (by kernel_rfl) trivial) (fun x y => by kernel_rfl)
noncomputable def O_sum_Of : Orc := c_format_Unpack
theorem okO_sum_Of : OrcOk PR O_sum_Of := ok_format_Unpack
abbrev fa_sum_Of : Fm := (.pair (.i .i64) (.pair (.i .u32) .unit))
abbrev ha_sum_Of : List BF := []
abbrev fr_sum_Of : Fm := (.agg (.pair .b (.pair (.i .i64) (.pair (.i .u64) (.pair .b .unit)))))
abbrev hr_sum_Of : List BF := []
noncomputable def L_sum_Of : Lps := L0
def inn_sum_Of : T fr_sum_Of → TH hr_sum_Of → Bool × Int × Int × Bool × Unit := (fun z w => z)
def out_sum_Of : Bool × Int × Int × Bool × Unit → T fr_sum_Of × TH hr_sum_Of := fun r => (r, ())
noncomputable def F_sum_Of (a0 : Int) (a1 : Int) : Option (Bool × Int × Int × Bool × Unit) :=
  ((F_format_Unpack a0 a1)).bind fun r0 =>
  let x1 : Int := r0.2.2.1
  (some (r0.1, (r0.2.1, (x1, (false, ())))))
noncomputable def G_sum_Of : T fa_sum_Of → TH ha_sum_Of → Option (Bool × Int × Int × Bool × Unit) := fun x y => F_sum_Of x.1 x.2.1
noncomputable def c_sum_Of : Orc := ent i_sum_Of [] 0 (sp fa_sum_Of ha_sum_Of fr_sum_Of hr_sum_Of G_sum_Of out_sum_Of)
theorem ok_sum_Of : OrcOk PR c_sum_Of := fnT okO_sum_Of mixed p_sum_Of (by kernel_rfl) (by kernel_rfl) (L := L_sum_Of) (kp := false) (by kernel_rfl) (inn := inn_sum_Of) (out := out_sum_Of) (fun _ _ => rfl) (loopsL (l := []) (by kernel_rfl) trivial) (fun x y => by kernel_rfl)
noncomputable def O_prod_product : Orc := c_sum_Of
theorem okO_prod_product : OrcOk PR O_prod_product := ok_sum_Of
abbrev fa_prod_product : Fm := (.pair (.i .i64) (.pair (.i .u32) (.pair (.i .u32) .unit)))
abbrev ha_prod_product : List BF := []
abbrev fr_prod_product : Fm := (.agg (.pair .b (.pair (.i .i64) (.pair (.i .u64) (.pair .b .unit)))))
abbrev hr_prod_product : List BF := []
noncomputable def L_prod_product : Lps := L0
def inn_prod_product : T fr_prod_product → TH hr_prod_product → Bool × Int × Int × Bool × Unit := (fun z w => z)
def out_prod_product : Bool × Int × Int × Bool × Unit → T fr_prod_product × TH hr_prod_product := fun r => (r, ())
noncomputable def F_prod_product (a0 : Int) (a1 : Int) (a2 : Int) : Option (Bool × Int × Int × Bool × Unit) :=
  ((F_sum_Of a0 a1)).bind fun r0 =>
  let x1 : Int := r0.2.2.1
  ((F_sum_Of a0 a2)).bind fun r2 =>
  let x3 : Int := r2.2.2.1
  (some ((!(r0.1 == r2.1)), ((IntKind.wrap .i64 (r0.2.1 + r2.2.1)), ((IntKind.wrap .u64 (x1 * x3)), (false, ())))))
noncomputable def G_prod_product : T fa_prod_product → TH ha_prod_product → Option (Bool × Int × Int × Bool × Unit) := fun x y => F_prod_product x.1 x.2.1 x.2.2.1
noncomputable def c_prod_product : Orc := ent i_prod_product [] 0 (sp fa_prod_product ha_prod_product fr_prod_product hr_prod_product G_prod_product out_prod_product)
theorem ok_prod_product : OrcOk PR c_prod_product := fnT okO_prod_product mixed p_prod_product (by kernel_rfl) (by kernel_rfl) (L := L_prod_product) (kp := false) (by kernel_rfl) (inn := inn_prod_product) (out := out_prod_product) (fun _ _ => rfl) (loopsL (l := []) (by kernel_rfl) trivial) (fun x y => by kernel_rfl)
noncomputable def O_prod_Mul : Orc := (orm c_sum_Nans (orm c_prod_torn (orm c_sum_Bad (orm c_format_Neg (orm c_format_IsInf (orm c_format_Inf (orm c_prod_product c_round_Pack)))))))
theorem okO_prod_Mul : OrcOk PR O_prod_Mul := (orm_ok ok_sum_Nans (orm_ok ok_prod_torn (orm_ok ok_sum_Bad (orm_ok ok_format_Neg (orm_ok ok_format_IsInf (orm_ok ok_format_Inf (orm_ok ok_prod_product ok_round_Pack)))))))
abbrev fa_prod_Mul : Fm := (.pair (.i .i64) (.pair (.i .i64) (.pair (.i .u32) (.pair (.i .u32) .unit))))
abbrev ha_prod_Mul : List BF := []
abbrev fr_prod_Mul : Fm := (.tup (.pair (.i .u32) (.pair (.agg (.pair .b (.pair .b (.pair .b (.pair .b (.pair .b .unit)))))) .unit)))
abbrev hr_prod_Mul : List BF := []
noncomputable def L_prod_Mul : Lps := L0
def inn_prod_Mul : T fr_prod_Mul → TH hr_prod_Mul → Int × (Bool × Bool × Bool × Bool × Bool × Unit) × Unit := (fun z w => z)
def out_prod_Mul : Int × (Bool × Bool × Bool × Bool × Bool × Unit) × Unit → T fr_prod_Mul × TH hr_prod_Mul := fun r => (r, ())
noncomputable def F_prod_Mul (a0 : Int) (a1 : Int) (a2 : Int) (a3 : Int) : Option (Int × (Bool × Bool × Bool × Bool × Bool × Unit) × Unit) :=
  ((F_sum_Nans a0 [a2, a3])).bind fun r0 =>
  let x1 : Bool := r0.2.2.1
  bif x1 then
    (some (r0.1, (r0.2.1, ())))
  else
    ((F_prod_torn a0 a2 a3)).bind fun r2 =>
    bif r2 then
      ((F_sum_Bad a0)).bind fun r3 =>
      (some r3)
    else
      ((F_format_Neg a0 a2)).bind fun r4 =>
      ((F_format_Neg a0 a3)).bind fun r5 =>
      let x6 : Bool := (!(r4 == r5))
      ((F_format_IsInf a0 a2)).bind fun r7 =>
      bif r7 then
        ((F_format_Inf a0 x6)).bind fun r8 =>
        (some (r8, ((false, (false, (false, (false, (false, ()))))), ())))
      else
        ((F_format_IsInf a0 a3)).bind fun r9 =>
        bif r9 then
          ((F_format_Inf a0 x6)).bind fun r10 =>
          (some (r10, ((false, (false, (false, (false, (false, ()))))), ())))
        else
          ((F_prod_product a0 a2 a3)).bind fun r11 =>
          let x12 : Int := r11.2.2.1
          ((F_round_Pack a0 a1 x6 r11.2.1 x12 false)).bind fun r13 =>
          (some r13)
noncomputable def G_prod_Mul : T fa_prod_Mul → TH ha_prod_Mul → Option (Int × (Bool × Bool × Bool × Bool × Bool × Unit) × Unit) := fun x y => F_prod_Mul x.1 x.2.1 x.2.2.1 x.2.2.2.1
noncomputable def c_prod_Mul : Orc := ent i_prod_Mul [] 0 (sp fa_prod_Mul ha_prod_Mul fr_prod_Mul hr_prod_Mul G_prod_Mul out_prod_Mul)
theorem ok_prod_Mul : OrcOk PR c_prod_Mul := fnT okO_prod_Mul mixed p_prod_Mul (by kernel_rfl) (by kernel_rfl) (L := L_prod_Mul) (kp := false) (by kernel_rfl) (inn := inn_prod_Mul) (out := out_prod_Mul) (fun _ _ => rfl) (loopsL (l := []) (by kernel_rfl) trivial) (fun x y => by kernel_rfl)
noncomputable def O_funcs_Mul : Orc := c_prod_Mul
theorem okO_funcs_Mul : OrcOk PR O_funcs_Mul := ok_prod_Mul
abbrev fa_funcs_Mul : Fm := (.pair (.i .u32) (.pair (.i .u32) .unit))
abbrev ha_funcs_Mul : List BF := []
abbrev fr_funcs_Mul : Fm := (.i .u32)
abbrev hr_funcs_Mul : List BF := []
noncomputable def L_funcs_Mul : Lps := L0
def inn_funcs_Mul : T fr_funcs_Mul → TH hr_funcs_Mul → Int := (fun z w => z)
def out_funcs_Mul : Int → T fr_funcs_Mul × TH hr_funcs_Mul := fun r => (r, ())
noncomputable def F_funcs_Mul (a0 : Int) (a1 : Int) : Option (Int) :=
  ((F_prod_Mul (2:Int) (0:Int) a0 a1)).bind fun r0 =>
  (some r0.1)
noncomputable def G_funcs_Mul : T fa_funcs_Mul → TH ha_funcs_Mul → Option (Int) := fun x y => F_funcs_Mul x.1 x.2.1
noncomputable def c_funcs_Mul : Orc := ent i_funcs_Mul [] 0 (sp fa_funcs_Mul ha_funcs_Mul fr_funcs_Mul hr_funcs_Mul G_funcs_Mul out_funcs_Mul)
theorem ok_funcs_Mul : OrcOk PR c_funcs_Mul := fnT okO_funcs_Mul mixed p_funcs_Mul (by kernel_rfl) (by kernel_rfl) (L := L_funcs_Mul) (kp := false) (by kernel_rfl) (inn := inn_funcs_Mul) (out := out_funcs_Mul) (fun _ _ => rfl) (loopsL (l := []) (by kernel_rfl) trivial) (fun x y => by kernel_rfl)
noncomputable def O_sum_Infinite : Orc := (orm c_sum_Bad c_format_Inf)
theorem okO_sum_Infinite : OrcOk PR O_sum_Infinite := (orm_ok ok_sum_Bad ok_format_Inf)
abbrev fa_sum_Infinite : Fm := (.pair (.i .i64) (.pair .b (.pair .b (.pair .b (.pair .b .unit)))))
abbrev ha_sum_Infinite : List BF := []
abbrev fr_sum_Infinite : Fm := (.tup (.pair (.i .u32) (.pair (.agg (.pair .b (.pair .b (.pair .b (.pair .b (.pair .b .unit)))))) .unit)))
abbrev hr_sum_Infinite : List BF := []
noncomputable def L_sum_Infinite : Lps := L0
def inn_sum_Infinite : T fr_sum_Infinite → TH hr_sum_Infinite → Int × (Bool × Bool × Bool × Bool × Bool × Unit) × Unit := (fun z w => z)
def out_sum_Infinite : Int × (Bool × Bool × Bool × Bool × Bool × Unit) × Unit → T fr_sum_Infinite × TH hr_sum_Infinite := fun r => (r, ())
noncomputable def F_sum_Infinite (a0 : Int) (a1 : Bool) (a2 : Bool) (a3 : Bool) (a4 : Bool) : Option (Int × (Bool × Bool × Bool × Bool × Bool × Unit) × Unit) :=
  bif a3 then
    bif a4 then
      bif (!(a1 == a2)) then
        ((F_sum_Bad a0)).bind fun r0 =>
        (some r0)
      else
        bif a3 then
          ((F_format_Inf a0 a1)).bind fun r1 =>
          (some (r1, ((false, (false, (false, (false, (false, ()))))), ())))
        else
          ((F_format_Inf a0 a2)).bind fun r2 =>
          (some (r2, ((false, (false, (false, (false, (false, ()))))), ())))
    else
      bif a3 then
        ((F_format_Inf a0 a1)).bind fun r3 =>
        (some (r3, ((false, (false, (false, (false, (false, ()))))), ())))
      else
        ((F_format_Inf a0 a2)).bind fun r4 =>
        (some (r4, ((false, (false, (false, (false, (false, ()))))), ())))
  else
    bif a3 then
      ((F_format_Inf a0 a1)).bind fun r5 =>
      (some (r5, ((false, (false, (false, (false, (false, ()))))), ())))
    else
      ((F_format_Inf a0 a2)).bind fun r6 =>
      (some (r6, ((false, (false, (false, (false, (false, ()))))), ())))
noncomputable def G_sum_Infinite : T fa_sum_Infinite → TH ha_sum_Infinite → Option (Int × (Bool × Bool × Bool × Bool × Bool × Unit) × Unit) := fun x y => F_sum_Infinite x.1 x.2.1 x.2.2.1 x.2.2.2.1 x.2.2.2.2.1
noncomputable def c_sum_Infinite : Orc := ent i_sum_Infinite [] 0 (sp fa_sum_Infinite ha_sum_Infinite fr_sum_Infinite hr_sum_Infinite G_sum_Infinite out_sum_Infinite)
theorem ok_sum_Infinite : OrcOk PR c_sum_Infinite := fnT okO_sum_Infinite mixed p_sum_Infinite (by kernel_rfl) (by kernel_rfl) (L := L_sum_Infinite) (kp := false) (by kernel_rfl) (inn := inn_sum_Infinite) (out := out_sum_Infinite) (fun _ _ => rfl) (loopsL (l := []) (by kernel_rfl) trivial) (fun x y => by kernel_rfl)
noncomputable def O_sum_full : Orc := (orm c_bits_Len c_bits_Shift)
theorem okO_sum_full : OrcOk PR O_sum_full := (orm_ok ok_bits_Len ok_bits_Shift)
abbrev fa_sum_full : Fm := (.pair (.agg (.pair .b (.pair (.i .i64) (.pair (.i .u64) (.pair .b .unit))))) .unit)
abbrev ha_sum_full : List BF := []
abbrev fr_sum_full : Fm := (.agg (.pair .b (.pair (.i .i64) (.pair (.i .u64) (.pair .b .unit)))))
abbrev hr_sum_full : List BF := []
noncomputable def L_sum_full : Lps := L0
def inn_sum_full : T fr_sum_full → TH hr_sum_full → Bool × Int × Int × Bool × Unit := (fun z w => z)
def out_sum_full : Bool × Int × Int × Bool × Unit → T fr_sum_full × TH hr_sum_full := fun r => (r, ())
noncomputable def F_sum_full (a0 : Bool × Int × Int × Bool × Unit) : Option (Bool × Int × Int × Bool × Unit) :=
  let x0 : Int := a0.2.2.1
  ((F_bits_Len x0)).bind fun r1 =>
  let x2 : Int := (IntKind.wrap .i64 ((62:Int) - r1))
  ((F_bits_Shift x0 (IntKind.wrap .i64 ((0:Int) - x2)))).bind fun r3 =>
  (some (a0.1, ((IntKind.wrap .i64 (a0.2.1 - x2)), (r3.1, a0.2.2.2))))
noncomputable def G_sum_full : T fa_sum_full → TH ha_sum_full → Option (Bool × Int × Int × Bool × Unit) := fun x y => F_sum_full x.1
noncomputable def c_sum_full : Orc := ent i_sum_full [] 0 (sp fa_sum_full ha_sum_full fr_sum_full hr_sum_full G_sum_full out_sum_full)
theorem ok_sum_full : OrcOk PR c_sum_full := fnT okO_sum_full mixed p_sum_full (by kernel_rfl) (by kernel_rfl) (L := L_sum_full) (kp := false) (by kernel_rfl) (inn := inn_sum_full) (out := out_sum_full) (fun _ _ => rfl) (loopsL (l := []) (by kernel_rfl) trivial) (fun x y => by kernel_rfl)
noncomputable def O_sum_Exact : Orc := (orm c_sum_full c_bits_Shift)
theorem okO_sum_Exact : OrcOk PR O_sum_Exact := (orm_ok ok_sum_full ok_bits_Shift)
abbrev fa_sum_Exact : Fm := (.pair (.agg (.pair .b (.pair (.i .i64) (.pair (.i .u64) (.pair .b .unit))))) (.pair (.agg (.pair .b (.pair (.i .i64) (.pair (.i .u64) (.pair .b .unit))))) .unit))
abbrev ha_sum_Exact : List BF := []
abbrev fr_sum_Exact : Fm := (.agg (.pair .b (.pair (.i .i64) (.pair (.i .u64) (.pair .b .unit)))))
abbrev hr_sum_Exact : List BF := []
noncomputable def L_sum_Exact : Lps := L0
def inn_sum_Exact : T fr_sum_Exact → TH hr_sum_Exact → Bool × Int × Int × Bool × Unit := (fun z w => z)
def out_sum_Exact : Bool × Int × Int × Bool × Unit → T fr_sum_Exact × TH hr_sum_Exact := fun r => (r, ())
noncomputable def F_sum_Exact (a0 : Bool × Int × Int × Bool × Unit) (a1 : Bool × Int × Int × Bool × Unit) : Option (Bool × Int × Int × Bool × Unit) :=
  let x0 : Int := a0.2.2.1
  let x1 : Int := a1.2.2.1
  bif (x0 == (0:Int)) then
    (some a1)
  else
    bif (x1 == (0:Int)) then
      (some a0)
    else
      ((F_sum_full a0)).bind fun r2 =>
      let x3 : Int := r2.2.2.1
      ((F_sum_full a1)).bind fun r4 =>
      let x5 : Bool := (r4.1 == r2.1)
      let x6 : Int := r4.2.2.1
      let x7 : Bool := (r2.1 == r4.1)
      bif (decide (r2.2.1 < r4.2.1)) then
        ((F_bits_Shift x3 (IntKind.wrap .i64 (r4.2.1 - r2.2.1)))).bind fun r8 =>
        let x9 : Int := (IntKind.wrap .u64 (x6 - r8.1))
        bif x5 then
          (some (r4.1, (r4.2.1, ((IntKind.wrap .u64 (x6 + r8.1)), r8.2))))
        else
          bif r8.2.1 then
            (some (r4.1, (r4.2.1, ((IntKind.wrap .u64 (x9 - (1:Int))), r8.2))))
          else
            (some (r4.1, (r4.2.1, (x9, r8.2))))
      else
        bif (r2.2.1 == r4.2.1) then
          bif (decide (x3 < x6)) then
            ((F_bits_Shift x3 (IntKind.wrap .i64 (r4.2.1 - r2.2.1)))).bind fun r10 =>
            let x11 : Int := (IntKind.wrap .u64 (x6 - r10.1))
            bif x5 then
              (some (r4.1, (r4.2.1, ((IntKind.wrap .u64 (x6 + r10.1)), r10.2))))
            else
              bif r10.2.1 then
                (some (r4.1, (r4.2.1, ((IntKind.wrap .u64 (x11 - (1:Int))), r10.2))))
              else
                (some (r4.1, (r4.2.1, (x11, r10.2))))
          else
            ((F_bits_Shift x6 (IntKind.wrap .i64 (r2.2.1 - r4.2.1)))).bind fun r12 =>
            let x13 : Int := (IntKind.wrap .u64 (x3 - r12.1))
            bif x7 then
              (some (r2.1, (r2.2.1, ((IntKind.wrap .u64 (x3 + r12.1)), r12.2))))
            else
              bif r12.2.1 then
                (some (r2.1, (r2.2.1, ((IntKind.wrap .u64 (x13 - (1:Int))), r12.2))))
              else
                (some (r2.1, (r2.2.1, (x13, r12.2))))
        else
          ((F_bits_Shift x6 (IntKind.wrap .i64 (r2.2.1 - r4.2.1)))).bind fun r14 =>
          let x15 : Int := (IntKind.wrap .u64 (x3 - r14.1))
          bif x7 then
            (some (r2.1, (r2.2.1, ((IntKind.wrap .u64 (x3 + r14.1)), r14.2))))
          else
            bif r14.2.1 then
              (some (r2.1, (r2.2.1, ((IntKind.wrap .u64 (x15 - (1:Int))), r14.2))))
            else
              (some (r2.1, (r2.2.1, (x15, r14.2))))
noncomputable def G_sum_Exact : T fa_sum_Exact → TH ha_sum_Exact → Option (Bool × Int × Int × Bool × Unit) := fun x y => F_sum_Exact x.1 x.2.1
noncomputable def c_sum_Exact : Orc := ent i_sum_Exact [] 0 (sp fa_sum_Exact ha_sum_Exact fr_sum_Exact hr_sum_Exact G_sum_Exact out_sum_Exact)
theorem ok_sum_Exact : OrcOk PR c_sum_Exact := fnT okO_sum_Exact mixed p_sum_Exact (by kernel_rfl) (by kernel_rfl) (L := L_sum_Exact) (kp := false) (by kernel_rfl) (inn := inn_sum_Exact) (out := out_sum_Exact) (fun _ _ => rfl) (loopsL (l := []) (by kernel_rfl) trivial) (fun x y => by kernel_rfl)
noncomputable def O_sum_Nought : Orc := c_format_Zero
theorem okO_sum_Nought : OrcOk PR O_sum_Nought := ok_format_Zero
abbrev fa_sum_Nought : Fm := (.pair (.i .i64) (.pair (.i .i64) (.pair .b (.pair .b .unit))))
abbrev ha_sum_Nought : List BF := []
abbrev fr_sum_Nought : Fm := (.i .u32)
abbrev hr_sum_Nought : List BF := []
noncomputable def L_sum_Nought : Lps := L0
def inn_sum_Nought : T fr_sum_Nought → TH hr_sum_Nought → Int := (fun z w => z)
def out_sum_Nought : Int → T fr_sum_Nought × TH hr_sum_Nought := fun r => (r, ())
noncomputable def F_sum_Nought (a0 : Int) (a1 : Int) (a2 : Bool) (a3 : Bool) : Option (Int) :=
  bif (a2 == a3) then
    ((F_format_Zero a0 a2)).bind fun r0 =>
    (some r0)
  else
    ((F_format_Zero a0 (a1 == (3:Int)))).bind fun r1 =>
    (some r1)
noncomputable def G_sum_Nought : T fa_sum_Nought → TH ha_sum_Nought → Option (Int) := fun x y => F_sum_Nought x.1 x.2.1 x.2.2.1 x.2.2.2.1
noncomputable def c_sum_Nought : Orc := ent i_sum_Nought [] 0 (sp fa_sum_Nought ha_sum_Nought fr_sum_Nought hr_sum_Nought G_sum_Nought out_sum_Nought)
theorem ok_sum_Nought : OrcOk PR c_sum_Nought := fnT okO_sum_Nought mixed p_sum_Nought (by kernel_rfl) (by kernel_rfl) (L := L_sum_Nought) (kp := false) (by kernel_rfl) (inn := inn_sum_Nought) (out := out_sum_Nought) (fun _ _ => rfl) (loopsL (l := []) (by kernel_rfl) trivial) (fun x y => by kernel_rfl)
noncomputable def O_prod_Fma : Orc := (orm c_prod_torn (orm c_sum_Nans (orm c_sum_Bad (orm c_format_Neg (orm c_format_IsInf (orm c_sum_Infinite (orm c_prod_product (orm c_sum_Of (orm c_sum_Exact (orm c_sum_Nought c_round_Pack))))))))))
theorem okO_prod_Fma : OrcOk PR O_prod_Fma := (orm_ok ok_prod_torn (orm_ok ok_sum_Nans (orm_ok ok_sum_Bad (orm_ok ok_format_Neg (orm_ok ok_format_IsInf (orm_ok ok_sum_Infinite (orm_ok ok_prod_product (orm_ok ok_sum_Of (orm_ok ok_sum_Exact (orm_ok ok_sum_Nought ok_round_Pack))))))))))
abbrev fa_prod_Fma : Fm := (.pair (.i .i64) (.pair (.i .i64) (.pair (.i .u32) (.pair (.i .u32) (.pair (.i .u32) .unit)))))
abbrev ha_prod_Fma : List BF := []
abbrev fr_prod_Fma : Fm := (.tup (.pair (.i .u32) (.pair (.agg (.pair .b (.pair .b (.pair .b (.pair .b (.pair .b .unit)))))) .unit)))
abbrev hr_prod_Fma : List BF := []
noncomputable def L_prod_Fma : Lps := L0
def inn_prod_Fma : T fr_prod_Fma → TH hr_prod_Fma → Int × (Bool × Bool × Bool × Bool × Bool × Unit) × Unit := (fun z w => z)
def out_prod_Fma : Int × (Bool × Bool × Bool × Bool × Bool × Unit) × Unit → T fr_prod_Fma × TH hr_prod_Fma := fun r => (r, ())
noncomputable def F_prod_Fma (a0 : Int) (a1 : Int) (a2 : Int) (a3 : Int) (a4 : Int) : Option (Int × (Bool × Bool × Bool × Bool × Bool × Unit) × Unit) :=
  ((F_prod_torn a0 a2 a3)).bind fun r0 =>
  ((F_sum_Nans a0 [a2, a3, a4])).bind fun r1 =>
  let x2 : Bool := r1.2.2.1
  let x3 : Bool := r1.2.1.1
  bif x2 then
    bif x3 then
      (some (r1.1, ((true, r1.2.1.2), ())))
    else
      (some (r1.1, ((r0, r1.2.1.2), ())))
  else
    bif r0 then
      ((F_sum_Bad a0)).bind fun r4 =>
      (some r4)
    else
      ((F_format_Neg a0 a2)).bind fun r5 =>
      ((F_format_Neg a0 a3)).bind fun r6 =>
      let x7 : Bool := (!(r5 == r6))
      ((F_format_IsInf a0 a2)).bind fun r8 =>
      bif r8 then
        ((F_format_IsInf a0 a4)).bind fun r9 =>
        ((F_format_Neg a0 a4)).bind fun r10 =>
        ((F_sum_Infinite a0 x7 r10 true r9)).bind fun r11 =>
        (some r11)
      else
        ((F_format_IsInf a0 a3)).bind fun r12 =>
        ((F_format_IsInf a0 a4)).bind fun r13 =>
        bif r12 then
          ((F_format_Neg a0 a4)).bind fun r14 =>
          ((F_sum_Infinite a0 x7 r14 r12 r13)).bind fun r15 =>
          (some r15)
        else
          bif r13 then
            ((F_format_Neg a0 a4)).bind fun r16 =>
            ((F_sum_Infinite a0 x7 r16 r12 r13)).bind fun r17 =>
            (some r17)
          else
            ((F_prod_product a0 a2 a3)).bind fun r18 =>
            ((F_sum_Of a0 a4)).bind fun r19 =>
            ((F_sum_Exact r18 r19)).bind fun r20 =>
            let x21 : Int := r20.2.2.1
            let x22 : Bool := r20.2.2.2.1
            bif (x21 == (0:Int)) then
              bif (!x22) then
                ((F_sum_Nought a0 a1 x7 r19.1)).bind fun r23 =>
                (some (r23, ((false, (false, (false, (false, (false, ()))))), ())))
              else
                ((F_round_Pack a0 a1 r20.1 r20.2.1 x21 x22)).bind fun r24 =>
                (some r24)
            else
              ((F_round_Pack a0 a1 r20.1 r20.2.1 x21 x22)).bind fun r25 =>
              (some r25)
noncomputable def G_prod_Fma : T fa_prod_Fma → TH ha_prod_Fma → Option (Int × (Bool × Bool × Bool × Bool × Bool × Unit) × Unit) := fun x y => F_prod_Fma x.1 x.2.1 x.2.2.1 x.2.2.2.1 x.2.2.2.2.1
noncomputable def c_prod_Fma : Orc := ent i_prod_Fma [] 0 (sp fa_prod_Fma ha_prod_Fma fr_prod_Fma hr_prod_Fma G_prod_Fma out_prod_Fma)
theorem ok_prod_Fma : OrcOk PR c_prod_Fma := fnT okO_prod_Fma mixed p_prod_Fma (by kernel_rfl) (by kernel_rfl) (L := L_prod_Fma) (kp := false) (by kernel_rfl) (inn := inn_prod_Fma) (out := out_prod_Fma) (fun _ _ => rfl) (loopsL (l := []) (by kernel_rfl) trivial) (fun x y => by kernel_rfl)
noncomputable def O_funcs_Fma : Orc := c_prod_Fma
theorem okO_funcs_Fma : OrcOk PR O_funcs_Fma := ok_prod_Fma
abbrev fa_funcs_Fma : Fm := (.pair (.i .u32) (.pair (.i .u32) (.pair (.i .u32) .unit)))
abbrev ha_funcs_Fma : List BF := []
abbrev fr_funcs_Fma : Fm := (.i .u32)
abbrev hr_funcs_Fma : List BF := []
noncomputable def L_funcs_Fma : Lps := L0
def inn_funcs_Fma : T fr_funcs_Fma → TH hr_funcs_Fma → Int := (fun z w => z)
def out_funcs_Fma : Int → T fr_funcs_Fma × TH hr_funcs_Fma := fun r => (r, ())
noncomputable def F_funcs_Fma (a0 : Int) (a1 : Int) (a2 : Int) : Option (Int) :=
  ((F_prod_Fma (2:Int) (0:Int) a0 a1 a2)).bind fun r0 =>
  (some r0.1)
noncomputable def G_funcs_Fma : T fa_funcs_Fma → TH ha_funcs_Fma → Option (Int) := fun x y => F_funcs_Fma x.1 x.2.1 x.2.2.1
noncomputable def c_funcs_Fma : Orc := ent i_funcs_Fma [] 0 (sp fa_funcs_Fma ha_funcs_Fma fr_funcs_Fma hr_funcs_Fma G_funcs_Fma out_funcs_Fma)
theorem ok_funcs_Fma : OrcOk PR c_funcs_Fma := fnT okO_funcs_Fma mixed p_funcs_Fma (by kernel_rfl) (by kernel_rfl) (L := L_funcs_Fma) (kp := false) (by kernel_rfl) (inn := inn_funcs_Fma) (out := out_funcs_Fma) (fun _ _ => rfl) (loopsL (l := []) (by kernel_rfl) trivial) (fun x y => by kernel_rfl)
noncomputable def O_sum_Add : Orc := (orm c_sum_Nans (orm c_format_IsInf (orm c_format_Neg (orm c_sum_Infinite (orm c_sum_Of (orm c_sum_Exact (orm c_sum_Nought c_round_Pack)))))))
theorem okO_sum_Add : OrcOk PR O_sum_Add := (orm_ok ok_sum_Nans (orm_ok ok_format_IsInf (orm_ok ok_format_Neg (orm_ok ok_sum_Infinite (orm_ok ok_sum_Of (orm_ok ok_sum_Exact (orm_ok ok_sum_Nought ok_round_Pack)))))))
abbrev fa_sum_Add : Fm := (.pair (.i .i64) (.pair (.i .i64) (.pair (.i .u32) (.pair (.i .u32) .unit))))
abbrev ha_sum_Add : List BF := []
abbrev fr_sum_Add : Fm := (.tup (.pair (.i .u32) (.pair (.agg (.pair .b (.pair .b (.pair .b (.pair .b (.pair .b .unit)))))) .unit)))
abbrev hr_sum_Add : List BF := []
noncomputable def L_sum_Add : Lps := L0
def inn_sum_Add : T fr_sum_Add → TH hr_sum_Add → Int × (Bool × Bool × Bool × Bool × Bool × Unit) × Unit := (fun z w => z)
def out_sum_Add : Int × (Bool × Bool × Bool × Bool × Bool × Unit) × Unit → T fr_sum_Add × TH hr_sum_Add := fun r => (r, ())
noncomputable def F_sum_Add (a0 : Int) (a1 : Int) (a2 : Int) (a3 : Int) : Option (Int × (Bool × Bool × Bool × Bool × Bool × Unit) × Unit) :=
  ((F_sum_Nans a0 [a2, a3])).bind fun r0 =>
  let x1 : Bool := r0.2.2.1
  bif x1 then
    (some (r0.1, (r0.2.1, ())))
  else
    ((F_format_IsInf a0 a2)).bind fun r2 =>
    ((F_format_IsInf a0 a3)).bind fun r3 =>
    bif r2 then
      ((F_format_Neg a0 a2)).bind fun r4 =>
      ((F_format_Neg a0 a3)).bind fun r5 =>
      ((F_sum_Infinite a0 r4 r5 r2 r3)).bind fun r6 =>
      (some r6)
    else
      bif r3 then
        ((F_format_Neg a0 a2)).bind fun r7 =>
        ((F_format_Neg a0 a3)).bind fun r8 =>
        ((F_sum_Infinite a0 r7 r8 r2 r3)).bind fun r9 =>
        (some r9)
      else
        ((F_sum_Of a0 a2)).bind fun r10 =>
        ((F_sum_Of a0 a3)).bind fun r11 =>
        ((F_sum_Exact r10 r11)).bind fun r12 =>
        let x13 : Int := r12.2.2.1
        let x14 : Bool := r12.2.2.2.1
        bif (x13 == (0:Int)) then
          bif (!x14) then
            ((F_sum_Nought a0 a1 r10.1 r11.1)).bind fun r15 =>
            (some (r15, ((false, (false, (false, (false, (false, ()))))), ())))
          else
            ((F_round_Pack a0 a1 r12.1 r12.2.1 x13 x14)).bind fun r16 =>
            (some r16)
        else
          ((F_round_Pack a0 a1 r12.1 r12.2.1 x13 x14)).bind fun r17 =>
          (some r17)
noncomputable def G_sum_Add : T fa_sum_Add → TH ha_sum_Add → Option (Int × (Bool × Bool × Bool × Bool × Bool × Unit) × Unit) := fun x y => F_sum_Add x.1 x.2.1 x.2.2.1 x.2.2.2.1
noncomputable def c_sum_Add : Orc := ent i_sum_Add [] 0 (sp fa_sum_Add ha_sum_Add fr_sum_Add hr_sum_Add G_sum_Add out_sum_Add)
theorem ok_sum_Add : OrcOk PR c_sum_Add := fnT okO_sum_Add mixed p_sum_Add (by kernel_rfl) (by kernel_rfl) (L := L_sum_Add) (kp := false) (by kernel_rfl) (inn := inn_sum_Add) (out := out_sum_Add) (fun _ _ => rfl) (loopsL (l := []) (by kernel_rfl) trivial) (fun x y => by kernel_rfl)
noncomputable def O_sum_Sub : Orc := (orm c_sum_Nans (orm c_format_Turn c_sum_Add))
theorem okO_sum_Sub : OrcOk PR O_sum_Sub := (orm_ok ok_sum_Nans (orm_ok ok_format_Turn ok_sum_Add))
abbrev fa_sum_Sub : Fm := (.pair (.i .i64) (.pair (.i .i64) (.pair (.i .u32) (.pair (.i .u32) .unit))))
abbrev ha_sum_Sub : List BF := []
abbrev fr_sum_Sub : Fm := (.tup (.pair (.i .u32) (.pair (.agg (.pair .b (.pair .b (.pair .b (.pair .b (.pair .b .unit)))))) .unit)))
abbrev hr_sum_Sub : List BF := []
noncomputable def L_sum_Sub : Lps := L0
def inn_sum_Sub : T fr_sum_Sub → TH hr_sum_Sub → Int × (Bool × Bool × Bool × Bool × Bool × Unit) × Unit := (fun z w => z)
def out_sum_Sub : Int × (Bool × Bool × Bool × Bool × Bool × Unit) × Unit → T fr_sum_Sub × TH hr_sum_Sub := fun r => (r, ())
noncomputable def F_sum_Sub (a0 : Int) (a1 : Int) (a2 : Int) (a3 : Int) : Option (Int × (Bool × Bool × Bool × Bool × Bool × Unit) × Unit) :=
  ((F_sum_Nans a0 [a2, a3])).bind fun r0 =>
  let x1 : Bool := r0.2.2.1
  bif x1 then
    (some (r0.1, (r0.2.1, ())))
  else
    ((F_format_Turn a0 a3)).bind fun r2 =>
    ((F_sum_Add a0 a1 a2 r2)).bind fun r3 =>
    (some r3)
noncomputable def G_sum_Sub : T fa_sum_Sub → TH ha_sum_Sub → Option (Int × (Bool × Bool × Bool × Bool × Bool × Unit) × Unit) := fun x y => F_sum_Sub x.1 x.2.1 x.2.2.1 x.2.2.2.1
noncomputable def c_sum_Sub : Orc := ent i_sum_Sub [] 0 (sp fa_sum_Sub ha_sum_Sub fr_sum_Sub hr_sum_Sub G_sum_Sub out_sum_Sub)
theorem ok_sum_Sub : OrcOk PR c_sum_Sub := fnT okO_sum_Sub mixed p_sum_Sub (by kernel_rfl) (by kernel_rfl) (L := L_sum_Sub) (kp := false) (by kernel_rfl) (inn := inn_sum_Sub) (out := out_sum_Sub) (fun _ _ => rfl) (loopsL (l := []) (by kernel_rfl) trivial) (fun x y => by kernel_rfl)
noncomputable def O_funcs_Add : Orc := c_sum_Add
theorem okO_funcs_Add : OrcOk PR O_funcs_Add := ok_sum_Add
abbrev fa_funcs_Add : Fm := (.pair (.i .u32) (.pair (.i .u32) .unit))
abbrev ha_funcs_Add : List BF := []
abbrev fr_funcs_Add : Fm := (.i .u32)
abbrev hr_funcs_Add : List BF := []
noncomputable def L_funcs_Add : Lps := L0
def inn_funcs_Add : T fr_funcs_Add → TH hr_funcs_Add → Int := (fun z w => z)
def out_funcs_Add : Int → T fr_funcs_Add × TH hr_funcs_Add := fun r => (r, ())
noncomputable def F_funcs_Add (a0 : Int) (a1 : Int) : Option (Int) :=
  ((F_sum_Add (2:Int) (0:Int) a0 a1)).bind fun r0 =>
  (some r0.1)
noncomputable def G_funcs_Add : T fa_funcs_Add → TH ha_funcs_Add → Option (Int) := fun x y => F_funcs_Add x.1 x.2.1
noncomputable def c_funcs_Add : Orc := ent i_funcs_Add [] 0 (sp fa_funcs_Add ha_funcs_Add fr_funcs_Add hr_funcs_Add G_funcs_Add out_funcs_Add)
theorem ok_funcs_Add : OrcOk PR c_funcs_Add := fnT okO_funcs_Add mixed p_funcs_Add (by kernel_rfl) (by kernel_rfl) (L := L_funcs_Add) (kp := false) (by kernel_rfl) (inn := inn_funcs_Add) (out := out_funcs_Add) (fun _ _ => rfl) (loopsL (l := []) (by kernel_rfl) trivial) (fun x y => by kernel_rfl)
noncomputable def O_funcs_Sub : Orc := c_sum_Sub
theorem okO_funcs_Sub : OrcOk PR O_funcs_Sub := ok_sum_Sub
abbrev fa_funcs_Sub : Fm := (.pair (.i .u32) (.pair (.i .u32) .unit))
abbrev ha_funcs_Sub : List BF := []
abbrev fr_funcs_Sub : Fm := (.i .u32)
abbrev hr_funcs_Sub : List BF := []
noncomputable def L_funcs_Sub : Lps := L0
def inn_funcs_Sub : T fr_funcs_Sub → TH hr_funcs_Sub → Int := (fun z w => z)
def out_funcs_Sub : Int → T fr_funcs_Sub × TH hr_funcs_Sub := fun r => (r, ())
noncomputable def F_funcs_Sub (a0 : Int) (a1 : Int) : Option (Int) :=
  ((F_sum_Sub (2:Int) (0:Int) a0 a1)).bind fun r0 =>
  (some r0.1)
noncomputable def G_funcs_Sub : T fa_funcs_Sub → TH ha_funcs_Sub → Option (Int) := fun x y => F_funcs_Sub x.1 x.2.1
noncomputable def c_funcs_Sub : Orc := ent i_funcs_Sub [] 0 (sp fa_funcs_Sub ha_funcs_Sub fr_funcs_Sub hr_funcs_Sub G_funcs_Sub out_funcs_Sub)
theorem ok_funcs_Sub : OrcOk PR c_funcs_Sub := fnT okO_funcs_Sub mixed p_funcs_Sub (by kernel_rfl) (by kernel_rfl) (L := L_funcs_Sub) (kp := false) (by kernel_rfl) (inn := inn_funcs_Sub) (out := out_funcs_Sub) (fun _ _ => rfl) (loopsL (l := []) (by kernel_rfl) trivial) (fun x y => by kernel_rfl)
noncomputable def O_whole_units : Orc := (orm c_bits_Len (orm c_round_Units c_round_Up))
theorem okO_whole_units : OrcOk PR O_whole_units := (orm_ok ok_bits_Len (orm_ok ok_round_Units ok_round_Up))
abbrev fa_whole_units : Fm := (.pair (.agg (.pair .b (.pair (.i .i64) (.pair (.i .u64) (.pair .b .unit))))) (.pair (.i .i64) .unit))
abbrev ha_whole_units : List BF := []
abbrev fr_whole_units : Fm := (.tup (.pair (.i .u64) (.pair .b .unit)))
abbrev hr_whole_units : List BF := []
noncomputable def L_whole_units : Lps := L0
def inn_whole_units : T fr_whole_units → TH hr_whole_units → Int × Bool × Unit := (fun z w => z)
def out_whole_units : Int × Bool × Unit → T fr_whole_units × TH hr_whole_units := fun r => (r, ())
noncomputable def F_whole_units (a0 : Bool × Int × Int × Bool × Unit) (a1 : Int) : Option (Int × Bool × Unit) :=
  let x0 : Int := a0.2.2.1
  ((F_bits_Len x0)).bind fun r1 =>
  bif (decide ((IntKind.wrap .i64 (a0.2.1 + r1)) > (40:Int))) then
    (some ((1099511627776:Int), (false, ())))
  else
    ((F_round_Units x0 (IntKind.wrap .i64 ((0:Int) - a0.2.1)) false)).bind fun r2 =>
    ((F_round_Up a1 a0.1 r2.1 r2.2.1)).bind fun r3 =>
    (some ((bif r3 then (IntKind.wrap .u64 (r2.1 + (1:Int))) else r2.1), ((r2.2.1 != (0:Int)), ())))
noncomputable def G_whole_units : T fa_whole_units → TH ha_whole_units → Option (Int × Bool × Unit) := fun x y => F_whole_units x.1 x.2.1
noncomputable def c_whole_units : Orc := ent i_whole_units [] 0 (sp fa_whole_units ha_whole_units fr_whole_units hr_whole_units G_whole_units out_whole_units)
theorem ok_whole_units : OrcOk PR c_whole_units := fnT okO_whole_units mixed p_whole_units (by kernel_rfl) (by kernel_rfl) (L := L_whole_units) (kp := false) (by kernel_rfl) (inn := inn_whole_units) (out := out_whole_units) (fun _ _ => rfl) (loopsL (l := []) (by kernel_rfl) trivial) (fun x y => by kernel_rfl)
noncomputable def O_whole_ToInt : Orc := (orm c_format_Finite (orm c_sum_Of c_whole_units))
theorem okO_whole_ToInt : OrcOk PR O_whole_ToInt := (orm_ok ok_format_Finite (orm_ok ok_sum_Of ok_whole_units))
abbrev fa_whole_ToInt : Fm := (.pair (.i .i64) (.pair (.i .i64) (.pair (.i .u32) .unit)))
abbrev ha_whole_ToInt : List BF := []
abbrev fr_whole_ToInt : Fm := (.tup (.pair (.i .i32) (.pair (.agg (.pair .b (.pair .b (.pair .b (.pair .b (.pair .b .unit)))))) .unit)))
abbrev hr_whole_ToInt : List BF := []
noncomputable def L_whole_ToInt : Lps := L0
def inn_whole_ToInt : T fr_whole_ToInt → TH hr_whole_ToInt → Int × (Bool × Bool × Bool × Bool × Bool × Unit) × Unit := (fun z w => z)
def out_whole_ToInt : Int × (Bool × Bool × Bool × Bool × Bool × Unit) × Unit → T fr_whole_ToInt × TH hr_whole_ToInt := fun r => (r, ())
noncomputable def F_whole_ToInt (a0 : Int) (a1 : Int) (a2 : Int) : Option (Int × (Bool × Bool × Bool × Bool × Bool × Unit) × Unit) :=
  ((F_format_Finite a0 a2)).bind fun r0 =>
  bif r0 then
    ((F_sum_Of a0 a2)).bind fun r1 =>
    ((F_whole_units r1 a1)).bind fun r2 =>
    let x3 : Int := (IntKind.wrap .i64 r2.1)
    let x4 : Int := (bif r1.1 then (IntKind.wrap .i64 ((0:Int) - x3)) else x3)
    let x5 : Int := (IntKind.wrap .i32 x4)
    bif (x4 == (IntKind.wrap .i64 x5)) then
      (some (x5, ((false, (false, (false, (false, r2.2)))), ())))
    else
      (some ((-(2147483648:Int)), ((true, (false, (false, (false, (false, ()))))), ())))
  else
    (some ((-(2147483648:Int)), ((true, (false, (false, (false, (false, ()))))), ())))
noncomputable def G_whole_ToInt : T fa_whole_ToInt → TH ha_whole_ToInt → Option (Int × (Bool × Bool × Bool × Bool × Bool × Unit) × Unit) := fun x y => F_whole_ToInt x.1 x.2.1 x.2.2.1
noncomputable def c_whole_ToInt : Orc := ent i_whole_ToInt [] 0 (sp fa_whole_ToInt ha_whole_ToInt fr_whole_ToInt hr_whole_ToInt G_whole_ToInt out_whole_ToInt)
theorem ok_whole_ToInt : OrcOk PR c_whole_ToInt := fnT okO_whole_ToInt mixed p_whole_ToInt (by kernel_rfl) (by kernel_rfl) (L := L_whole_ToInt) (kp := false) (by kernel_rfl) (inn := inn_whole_ToInt) (out := out_whole_ToInt) (fun _ _ => rfl) (loopsL (l := []) (by kernel_rfl) trivial) (fun x y => by kernel_rfl)
noncomputable def O_whole_amount : Orc := orn
theorem okO_whole_amount : OrcOk PR O_whole_amount := (orn_ok _)
abbrev fa_whole_amount : Fm := (.pair (.i .i64) .unit)
abbrev ha_whole_amount : List BF := []
abbrev fr_whole_amount : Fm := (.i .u64)
abbrev hr_whole_amount : List BF := []
noncomputable def L_whole_amount : Lps := L0
def inn_whole_amount : T fr_whole_amount → TH hr_whole_amount → Int := (fun z w => z)
def out_whole_amount : Int → T fr_whole_amount × TH hr_whole_amount := fun r => (r, ())
noncomputable def F_whole_amount (a0 : Int) : Option (Int) :=
  bif (decide (a0 < (0:Int))) then
    (some (IntKind.wrap .u64 ((0:Int) - (IntKind.wrap .u64 a0))))
  else
    (some (IntKind.wrap .u64 a0))
noncomputable def G_whole_amount : T fa_whole_amount → TH ha_whole_amount → Option (Int) := fun x y => F_whole_amount x.1
noncomputable def c_whole_amount : Orc := ent i_whole_amount [] 0 (sp fa_whole_amount ha_whole_amount fr_whole_amount hr_whole_amount G_whole_amount out_whole_amount)
theorem ok_whole_amount : OrcOk PR c_whole_amount := fnT okO_whole_amount mixed p_whole_amount (by kernel_rfl) (by kernel_rfl) (L := L_whole_amount) (kp := false) (by kernel_rfl) (inn := inn_whole_amount) (out := out_whole_amount) (fun _ _ => rfl) (loopsL (l := []) (by kernel_rfl) trivial) (fun x y => by kernel_rfl)
noncomputable def O_whole_FromInt : Orc := (orm c_whole_amount c_round_Pack)
theorem okO_whole_FromInt : OrcOk PR O_whole_FromInt := (orm_ok ok_whole_amount ok_round_Pack)
abbrev fa_whole_FromInt : Fm := (.pair (.i .i64) (.pair (.i .i64) (.pair (.i .i64) .unit)))
abbrev ha_whole_FromInt : List BF := []
abbrev fr_whole_FromInt : Fm := (.tup (.pair (.i .u32) (.pair (.agg (.pair .b (.pair .b (.pair .b (.pair .b (.pair .b .unit)))))) .unit)))
abbrev hr_whole_FromInt : List BF := []
noncomputable def L_whole_FromInt : Lps := L0
def inn_whole_FromInt : T fr_whole_FromInt → TH hr_whole_FromInt → Int × (Bool × Bool × Bool × Bool × Bool × Unit) × Unit := (fun z w => z)
def out_whole_FromInt : Int × (Bool × Bool × Bool × Bool × Bool × Unit) × Unit → T fr_whole_FromInt × TH hr_whole_FromInt := fun r => (r, ())
noncomputable def F_whole_FromInt (a0 : Int) (a1 : Int) (a2 : Int) : Option (Int × (Bool × Bool × Bool × Bool × Bool × Unit) × Unit) :=
  ((F_whole_amount a2)).bind fun r0 =>
  ((F_round_Pack a0 a1 (decide (a2 < (0:Int))) (0:Int) r0 false)).bind fun r1 =>
  (some r1)
noncomputable def G_whole_FromInt : T fa_whole_FromInt → TH ha_whole_FromInt → Option (Int × (Bool × Bool × Bool × Bool × Bool × Unit) × Unit) := fun x y => F_whole_FromInt x.1 x.2.1 x.2.2.1
noncomputable def c_whole_FromInt : Orc := ent i_whole_FromInt [] 0 (sp fa_whole_FromInt ha_whole_FromInt fr_whole_FromInt hr_whole_FromInt G_whole_FromInt out_whole_FromInt)
theorem ok_whole_FromInt : OrcOk PR c_whole_FromInt := fnT okO_whole_FromInt mixed p_whole_FromInt (by kernel_rfl) (by kernel_rfl) (L := L_whole_FromInt) (kp := false) (by kernel_rfl) (inn := inn_whole_FromInt) (out := out_whole_FromInt) (fun _ _ => rfl) (loopsL (l := []) (by kernel_rfl) trivial) (fun x y => by kernel_rfl)
noncomputable def O_funcs_Int : Orc := c_whole_FromInt
theorem okO_funcs_Int : OrcOk PR O_funcs_Int := ok_whole_FromInt
abbrev fa_funcs_Int : Fm := (.pair (.i .i64) .unit)
abbrev ha_funcs_Int : List BF := []
abbrev fr_funcs_Int : Fm := (.i .u32)
abbrev hr_funcs_Int : List BF := []
noncomputable def L_funcs_Int : Lps := L0
def inn_funcs_Int : T fr_funcs_Int → TH hr_funcs_Int → Int := (fun z w => z)
def out_funcs_Int : Int → T fr_funcs_Int × TH hr_funcs_Int := fun r => (r, ())
noncomputable def F_funcs_Int (a0 : Int) : Option (Int) :=
  ((F_whole_FromInt (2:Int) (0:Int) a0)).bind fun r0 =>
  (some r0.1)
noncomputable def G_funcs_Int : T fa_funcs_Int → TH ha_funcs_Int → Option (Int) := fun x y => F_funcs_Int x.1
noncomputable def c_funcs_Int : Orc := ent i_funcs_Int [] 0 (sp fa_funcs_Int ha_funcs_Int fr_funcs_Int hr_funcs_Int G_funcs_Int out_funcs_Int)
theorem ok_funcs_Int : OrcOk PR c_funcs_Int := fnT okO_funcs_Int mixed p_funcs_Int (by kernel_rfl) (by kernel_rfl) (L := L_funcs_Int) (kp := false) (by kernel_rfl) (inn := inn_funcs_Int) (out := out_funcs_Int) (fun _ _ => rfl) (loopsL (l := []) (by kernel_rfl) trivial) (fun x y => by kernel_rfl)
noncomputable def O_whole_apart : Orc := (orm c_sum_Nans (orm c_format_Mask (orm c_format_IsInf c_format_IsZero)))
theorem okO_whole_apart : OrcOk PR O_whole_apart := (orm_ok ok_sum_Nans (orm_ok ok_format_Mask (orm_ok ok_format_IsInf ok_format_IsZero)))
abbrev fa_whole_apart : Fm := (.pair (.i .i64) (.pair (.i .u32) .unit))
abbrev ha_whole_apart : List BF := []
abbrev fr_whole_apart : Fm := (.tup (.pair (.i .u32) (.pair (.agg (.pair .b (.pair .b (.pair .b (.pair .b (.pair .b .unit)))))) (.pair .b .unit))))
abbrev hr_whole_apart : List BF := []
noncomputable def L_whole_apart : Lps := L0
def inn_whole_apart : T fr_whole_apart → TH hr_whole_apart → Int × (Bool × Bool × Bool × Bool × Bool × Unit) × Bool × Unit := (fun z w => z)
def out_whole_apart : Int × (Bool × Bool × Bool × Bool × Bool × Unit) × Bool × Unit → T fr_whole_apart × TH hr_whole_apart := fun r => (r, ())
noncomputable def F_whole_apart (a0 : Int) (a1 : Int) : Option (Int × (Bool × Bool × Bool × Bool × Bool × Unit) × Bool × Unit) :=
  ((F_sum_Nans a0 [a1])).bind fun r0 =>
  let x1 : Bool := r0.2.2.1
  bif x1 then
    (some (r0.1, (r0.2.1, (true, ()))))
  else
    ((F_format_Mask a0)).bind fun r2 =>
    let x3 : Int := (bits .and .u32 a1 r2)
    ((F_format_IsInf a0 a1)).bind fun r4 =>
    bif r4 then
      (some (x3, ((false, (false, (false, (false, (false, ()))))), (true, ()))))
    else
      ((F_format_IsZero a0 a1)).bind fun r5 =>
      (some (x3, ((false, (false, (false, (false, (false, ()))))), (r5, ()))))
noncomputable def G_whole_apart : T fa_whole_apart → TH ha_whole_apart → Option (Int × (Bool × Bool × Bool × Bool × Bool × Unit) × Bool × Unit) := fun x y => F_whole_apart x.1 x.2.1
noncomputable def c_whole_apart : Orc := ent i_whole_apart [] 0 (sp fa_whole_apart ha_whole_apart fr_whole_apart hr_whole_apart G_whole_apart out_whole_apart)
theorem ok_whole_apart : OrcOk PR c_whole_apart := fnT okO_whole_apart mixed p_whole_apart (by kernel_rfl) (by kernel_rfl) (L := L_whole_apart) (kp := false) (by kernel_rfl) (inn := inn_whole_apart) (out := out_whole_apart) (fun _ _ => rfl) (loopsL (l := []) (by kernel_rfl) trivial) (fun x y => by kernel_rfl)
noncomputable def O_whole_Scale : Orc := (orm c_whole_apart (orm c_sum_Of c_round_Pack))
theorem okO_whole_Scale : OrcOk PR O_whole_Scale := (orm_ok ok_whole_apart (orm_ok ok_sum_Of ok_round_Pack))
abbrev fa_whole_Scale : Fm := (.pair (.i .i64) (.pair (.i .i64) (.pair (.i .u32) (.pair (.i .i64) .unit))))
abbrev ha_whole_Scale : List BF := []
abbrev fr_whole_Scale : Fm := (.tup (.pair (.i .u32) (.pair (.agg (.pair .b (.pair .b (.pair .b (.pair .b (.pair .b .unit)))))) .unit)))
abbrev hr_whole_Scale : List BF := []
noncomputable def L_whole_Scale : Lps := L0
def inn_whole_Scale : T fr_whole_Scale → TH hr_whole_Scale → Int × (Bool × Bool × Bool × Bool × Bool × Unit) × Unit := (fun z w => z)
def out_whole_Scale : Int × (Bool × Bool × Bool × Bool × Bool × Unit) × Unit → T fr_whole_Scale × TH hr_whole_Scale := fun r => (r, ())
noncomputable def F_whole_Scale (a0 : Int) (a1 : Int) (a2 : Int) (a3 : Int) : Option (Int × (Bool × Bool × Bool × Bool × Bool × Unit) × Unit) :=
  ((F_whole_apart a0 a2)).bind fun r0 =>
  let x1 : Bool := r0.2.2.1
  bif x1 then
    (some (r0.1, (r0.2.1, ())))
  else
    ((F_sum_Of a0 a2)).bind fun r2 =>
    let x3 : Int := r2.2.2.1
    ((F_round_Pack a0 a1 r2.1 (IntKind.wrap .i64 (r2.2.1 + (mn (mx a3 (-(5000:Int))) (5000:Int)))) x3 false)).bind fun r4 =>
    (some r4)
noncomputable def G_whole_Scale : T fa_whole_Scale → TH ha_whole_Scale → Option (Int × (Bool × Bool × Bool × Bool × Bool × Unit) × Unit) := fun x y => F_whole_Scale x.1 x.2.1 x.2.2.1 x.2.2.2.1
noncomputable def c_whole_Scale : Orc := ent i_whole_Scale [] 0 (sp fa_whole_Scale ha_whole_Scale fr_whole_Scale hr_whole_Scale G_whole_Scale out_whole_Scale)
theorem ok_whole_Scale : OrcOk PR c_whole_Scale := fnT okO_whole_Scale mixed p_whole_Scale (by kernel_rfl) (by kernel_rfl) (L := L_whole_Scale) (kp := false) (by kernel_rfl) (inn := inn_whole_Scale) (out := out_whole_Scale) (fun _ _ => rfl) (loopsL (l := []) (by kernel_rfl) trivial) (fun x y => by kernel_rfl)
noncomputable def O_funcs_Scale : Orc := c_whole_Scale
theorem okO_funcs_Scale : OrcOk PR O_funcs_Scale := ok_whole_Scale
abbrev fa_funcs_Scale : Fm := (.pair (.i .u32) (.pair (.i .i64) .unit))
abbrev ha_funcs_Scale : List BF := []
abbrev fr_funcs_Scale : Fm := (.i .u32)
abbrev hr_funcs_Scale : List BF := []
noncomputable def L_funcs_Scale : Lps := L0
def inn_funcs_Scale : T fr_funcs_Scale → TH hr_funcs_Scale → Int := (fun z w => z)
def out_funcs_Scale : Int → T fr_funcs_Scale × TH hr_funcs_Scale := fun r => (r, ())
noncomputable def F_funcs_Scale (a0 : Int) (a1 : Int) : Option (Int) :=
  ((F_whole_Scale (2:Int) (0:Int) a0 a1)).bind fun r0 =>
  (some r0.1)
noncomputable def G_funcs_Scale : T fa_funcs_Scale → TH ha_funcs_Scale → Option (Int) := fun x y => F_funcs_Scale x.1 x.2.1
noncomputable def c_funcs_Scale : Orc := ent i_funcs_Scale [] 0 (sp fa_funcs_Scale ha_funcs_Scale fr_funcs_Scale hr_funcs_Scale G_funcs_Scale out_funcs_Scale)
theorem ok_funcs_Scale : OrcOk PR c_funcs_Scale := fnT okO_funcs_Scale mixed p_funcs_Scale (by kernel_rfl) (by kernel_rfl) (L := L_funcs_Scale) (kp := false) (by kernel_rfl) (inn := inn_funcs_Scale) (out := out_funcs_Scale) (fun _ _ => rfl) (loopsL (l := []) (by kernel_rfl) trivial) (fun x y => by kernel_rfl)
noncomputable def O_quot_Div : Orc := (orm c_sum_Nans (orm c_format_Neg (orm c_format_Class (orm c_sum_Bad (orm c_format_Inf (orm c_format_Zero (orm c_sum_Of (orm c_bits_Len (orm c_bits_Shift c_round_Pack)))))))))
theorem okO_quot_Div : OrcOk PR O_quot_Div := (orm_ok ok_sum_Nans (orm_ok ok_format_Neg (orm_ok ok_format_Class (orm_ok ok_sum_Bad (orm_ok ok_format_Inf (orm_ok ok_format_Zero (orm_ok ok_sum_Of (orm_ok ok_bits_Len (orm_ok ok_bits_Shift ok_round_Pack)))))))))
abbrev fa_quot_Div : Fm := (.pair (.i .i64) (.pair (.i .i64) (.pair (.i .u32) (.pair (.i .u32) .unit))))
abbrev ha_quot_Div : List BF := []
abbrev fr_quot_Div : Fm := (.tup (.pair (.i .u32) (.pair (.agg (.pair .b (.pair .b (.pair .b (.pair .b (.pair .b .unit)))))) .unit)))
abbrev hr_quot_Div : List BF := []
noncomputable def L_quot_Div : Lps := L0
def inn_quot_Div : T fr_quot_Div → TH hr_quot_Div → Int × (Bool × Bool × Bool × Bool × Bool × Unit) × Unit := (fun z w => z)
def out_quot_Div : Int × (Bool × Bool × Bool × Bool × Bool × Unit) × Unit → T fr_quot_Div × TH hr_quot_Div := fun r => (r, ())
noncomputable def F_quot_Div (a0 : Int) (a1 : Int) (a2 : Int) (a3 : Int) : Option (Int × (Bool × Bool × Bool × Bool × Bool × Unit) × Unit) :=
  ((F_sum_Nans a0 [a2, a3])).bind fun r0 =>
  let x1 : Bool := r0.2.2.1
  bif x1 then
    (some (r0.1, (r0.2.1, ())))
  else
    ((F_format_Neg a0 a2)).bind fun r2 =>
    ((F_format_Neg a0 a3)).bind fun r3 =>
    let x4 : Bool := (!(r2 == r3))
    ((F_format_Class a0 a2)).bind fun r5 =>
    ((F_format_Class a0 a3)).bind fun r6 =>
    bif (r5 == r6) then
      bif (r5 == (0:Int)) then
        ((F_sum_Bad a0)).bind fun r7 =>
        (some r7)
      else
        bif (r5 == (3:Int)) then
          ((F_sum_Bad a0)).bind fun r8 =>
          (some r8)
        else
          bif (r5 == (3:Int)) then
            ((F_format_Inf a0 x4)).bind fun r9 =>
            (some (r9, ((false, (false, (false, (false, (false, ()))))), ())))
          else
            bif (r6 == (3:Int)) then
              ((F_format_Zero a0 x4)).bind fun r10 =>
              (some (r10, ((false, (false, (false, (false, (false, ()))))), ())))
            else
              bif (r5 == (0:Int)) then
                ((F_format_Zero a0 x4)).bind fun r11 =>
                (some (r11, ((false, (false, (false, (false, (false, ()))))), ())))
              else
                bif (r6 == (0:Int)) then
                  ((F_format_Inf a0 x4)).bind fun r12 =>
                  (some (r12, ((false, (true, (false, (false, (false, ()))))), ())))
                else
                  ((F_sum_Of a0 a2)).bind fun r13 =>
                  let x14 : Int := r13.2.2.1
                  ((F_sum_Of a0 a3)).bind fun r15 =>
                  let x16 : Int := r15.2.2.1
                  let x17 : Bool := (x16 == (0:Int))
                  ((F_bits_Len x14)).bind fun r18 =>
                  let x19 : Int := (IntKind.wrap .i64 ((62:Int) - r18))
                  ((F_bits_Shift x14 (IntKind.wrap .i64 ((0:Int) - x19)))).bind fun r20 =>
                  bif x17 then
                    none
                  else
                    bif x17 then
                      none
                    else
                      ((F_round_Pack a0 a1 x4 (IntKind.wrap .i64 ((IntKind.wrap .i64 (r13.2.1 - x19)) - r15.2.1)) (IntKind.wrap .u64 (Int.tdiv r20.1 x16)) ((Int.tmod r20.1 x16) != (0:Int)))).bind fun r21 =>
                      (some r21)
    else
      bif (r5 == (3:Int)) then
        ((F_format_Inf a0 x4)).bind fun r22 =>
        (some (r22, ((false, (false, (false, (false, (false, ()))))), ())))
      else
        bif (r6 == (3:Int)) then
          ((F_format_Zero a0 x4)).bind fun r23 =>
          (some (r23, ((false, (false, (false, (false, (false, ()))))), ())))
        else
          bif (r5 == (0:Int)) then
            ((F_format_Zero a0 x4)).bind fun r24 =>
            (some (r24, ((false, (false, (false, (false, (false, ()))))), ())))
          else
            bif (r6 == (0:Int)) then
              ((F_format_Inf a0 x4)).bind fun r25 =>
              (some (r25, ((false, (true, (false, (false, (false, ()))))), ())))
            else
              ((F_sum_Of a0 a2)).bind fun r26 =>
              let x27 : Int := r26.2.2.1
              ((F_sum_Of a0 a3)).bind fun r28 =>
              let x29 : Int := r28.2.2.1
              let x30 : Bool := (x29 == (0:Int))
              ((F_bits_Len x27)).bind fun r31 =>
              let x32 : Int := (IntKind.wrap .i64 ((62:Int) - r31))
              ((F_bits_Shift x27 (IntKind.wrap .i64 ((0:Int) - x32)))).bind fun r33 =>
              bif x30 then
                none
              else
                bif x30 then
                  none
                else
                  ((F_round_Pack a0 a1 x4 (IntKind.wrap .i64 ((IntKind.wrap .i64 (r26.2.1 - x32)) - r28.2.1)) (IntKind.wrap .u64 (Int.tdiv r33.1 x29)) ((Int.tmod r33.1 x29) != (0:Int)))).bind fun r34 =>
                  (some r34)
noncomputable def G_quot_Div : T fa_quot_Div → TH ha_quot_Div → Option (Int × (Bool × Bool × Bool × Bool × Bool × Unit) × Unit) := fun x y => F_quot_Div x.1 x.2.1 x.2.2.1 x.2.2.2.1
noncomputable def c_quot_Div : Orc := ent i_quot_Div [] 0 (sp fa_quot_Div ha_quot_Div fr_quot_Div hr_quot_Div G_quot_Div out_quot_Div)
theorem ok_quot_Div : OrcOk PR c_quot_Div := fnT okO_quot_Div mixed p_quot_Div (by kernel_rfl) (by kernel_rfl) (L := L_quot_Div) (kp := false) (by kernel_rfl) (inn := inn_quot_Div) (out := out_quot_Div) (fun _ _ => rfl) (loopsL (l := []) (by kernel_rfl) trivial) (fun x y => by kernel_rfl)
noncomputable def O_funcs_Div : Orc := c_quot_Div
theorem okO_funcs_Div : OrcOk PR O_funcs_Div := ok_quot_Div
abbrev fa_funcs_Div : Fm := (.pair (.i .u32) (.pair (.i .u32) .unit))
abbrev ha_funcs_Div : List BF := []
abbrev fr_funcs_Div : Fm := (.i .u32)
abbrev hr_funcs_Div : List BF := []
noncomputable def L_funcs_Div : Lps := L0
def inn_funcs_Div : T fr_funcs_Div → TH hr_funcs_Div → Int := (fun z w => z)
def out_funcs_Div : Int → T fr_funcs_Div × TH hr_funcs_Div := fun r => (r, ())
noncomputable def F_funcs_Div (a0 : Int) (a1 : Int) : Option (Int) :=
  ((F_quot_Div (2:Int) (0:Int) a0 a1)).bind fun r0 =>
  (some r0.1)
noncomputable def G_funcs_Div : T fa_funcs_Div → TH ha_funcs_Div → Option (Int) := fun x y => F_funcs_Div x.1 x.2.1
noncomputable def c_funcs_Div : Orc := ent i_funcs_Div [] 0 (sp fa_funcs_Div ha_funcs_Div fr_funcs_Div hr_funcs_Div G_funcs_Div out_funcs_Div)
theorem ok_funcs_Div : OrcOk PR c_funcs_Div := fnT okO_funcs_Div mixed p_funcs_Div (by kernel_rfl) (by kernel_rfl) (L := L_funcs_Div) (kp := false) (by kernel_rfl) (inn := inn_funcs_Div) (out := out_funcs_Div) (fun _ _ => rfl) (loopsL (l := []) (by kernel_rfl) trivial) (fun x y => by kernel_rfl)
noncomputable def O_conv_To : Orc := (orm c_format_Class (orm c_format_Nan (orm c_sum_Bad (orm c_format_Neg (orm c_format_Inf (orm c_sum_Of c_round_Pack))))))
theorem okO_conv_To : OrcOk PR O_conv_To := (orm_ok ok_format_Class (orm_ok ok_format_Nan (orm_ok ok_sum_Bad (orm_ok ok_format_Neg (orm_ok ok_format_Inf (orm_ok ok_sum_Of ok_round_Pack))))))
abbrev fa_conv_To : Fm := (.pair (.i .i64) (.pair (.i .i64) (.pair (.i .i64) (.pair (.i .u32) .unit))))
abbrev ha_conv_To : List BF := []
abbrev fr_conv_To : Fm := (.tup (.pair (.i .u32) (.pair (.agg (.pair .b (.pair .b (.pair .b (.pair .b (.pair .b .unit)))))) .unit)))
abbrev hr_conv_To : List BF := []
noncomputable def L_conv_To : Lps := L0
def inn_conv_To : T fr_conv_To → TH hr_conv_To → Int × (Bool × Bool × Bool × Bool × Bool × Unit) × Unit := (fun z w => z)
def out_conv_To : Int × (Bool × Bool × Bool × Bool × Bool × Unit) × Unit → T fr_conv_To × TH hr_conv_To := fun r => (r, ())
noncomputable def F_conv_To (a0 : Int) (a1 : Int) (a2 : Int) (a3 : Int) : Option (Int × (Bool × Bool × Bool × Bool × Bool × Unit) × Unit) :=
  ((F_format_Class a0 a3)).bind fun r0 =>
  bif (r0 == (4:Int)) then
    ((F_format_Nan a1)).bind fun r1 =>
    (some (r1, ((false, (false, (false, (false, (false, ()))))), ())))
  else
    bif (r0 == (5:Int)) then
      ((F_sum_Bad a1)).bind fun r2 =>
      (some r2)
    else
      bif (r0 == (3:Int)) then
        ((F_format_Neg a0 a3)).bind fun r3 =>
        ((F_format_Inf a1 r3)).bind fun r4 =>
        (some (r4, ((false, (false, (false, (false, (false, ()))))), ())))
      else
        ((F_sum_Of a0 a3)).bind fun r5 =>
        let x6 : Int := r5.2.2.1
        ((F_round_Pack a1 a2 r5.1 r5.2.1 x6 false)).bind fun r7 =>
        (some r7)
noncomputable def G_conv_To : T fa_conv_To → TH ha_conv_To → Option (Int × (Bool × Bool × Bool × Bool × Bool × Unit) × Unit) := fun x y => F_conv_To x.1 x.2.1 x.2.2.1 x.2.2.2.1
noncomputable def c_conv_To : Orc := ent i_conv_To [] 0 (sp fa_conv_To ha_conv_To fr_conv_To hr_conv_To G_conv_To out_conv_To)
theorem ok_conv_To : OrcOk PR c_conv_To := fnT okO_conv_To mixed p_conv_To (by kernel_rfl) (by kernel_rfl) (L := L_conv_To) (kp := false) (by kernel_rfl) (inn := inn_conv_To) (out := out_conv_To) (fun _ _ => rfl) (loopsL (l := []) (by kernel_rfl) trivial) (fun x y => by kernel_rfl)
noncomputable def O_conv_Widen : Orc := c_conv_To
theorem okO_conv_Widen : OrcOk PR O_conv_Widen := ok_conv_To
abbrev fa_conv_Widen : Fm := (.pair (.i .i64) (.pair (.i .u32) .unit))
abbrev ha_conv_Widen : List BF := []
abbrev fr_conv_Widen : Fm := (.i .u32)
abbrev hr_conv_Widen : List BF := []
noncomputable def L_conv_Widen : Lps := L0
def inn_conv_Widen : T fr_conv_Widen → TH hr_conv_Widen → Int := (fun z w => z)
def out_conv_Widen : Int → T fr_conv_Widen × TH hr_conv_Widen := fun r => (r, ())
noncomputable def F_conv_Widen (a0 : Int) (a1 : Int) : Option (Int) :=
  ((F_conv_To a0 (2:Int) (0:Int) a1)).bind fun r0 =>
  (some r0.1)
noncomputable def G_conv_Widen : T fa_conv_Widen → TH ha_conv_Widen → Option (Int) := fun x y => F_conv_Widen x.1 x.2.1
noncomputable def c_conv_Widen : Orc := ent i_conv_Widen [] 0 (sp fa_conv_Widen ha_conv_Widen fr_conv_Widen hr_conv_Widen G_conv_Widen out_conv_Widen)
theorem ok_conv_Widen : OrcOk PR c_conv_Widen := fnT okO_conv_Widen mixed p_conv_Widen (by kernel_rfl) (by kernel_rfl) (L := L_conv_Widen) (kp := false) (by kernel_rfl) (inn := inn_conv_Widen) (out := out_conv_Widen) (fun _ _ => rfl) (loopsL (l := []) (by kernel_rfl) trivial) (fun x y => by kernel_rfl)
noncomputable def O_funcs_IsNan : Orc := c_format_IsNan
theorem okO_funcs_IsNan : OrcOk PR O_funcs_IsNan := ok_format_IsNan
abbrev fa_funcs_IsNan : Fm := (.pair (.i .u32) .unit)
abbrev ha_funcs_IsNan : List BF := []
abbrev fr_funcs_IsNan : Fm := .b
abbrev hr_funcs_IsNan : List BF := []
noncomputable def L_funcs_IsNan : Lps := L0
def inn_funcs_IsNan : T fr_funcs_IsNan → TH hr_funcs_IsNan → Bool := (fun z w => z)
def out_funcs_IsNan : Bool → T fr_funcs_IsNan × TH hr_funcs_IsNan := fun r => (r, ())
noncomputable def F_funcs_IsNan (a0 : Int) : Option (Bool) :=
  ((F_format_IsNan (2:Int) a0)).bind fun r0 =>
  (some r0)
noncomputable def G_funcs_IsNan : T fa_funcs_IsNan → TH ha_funcs_IsNan → Option (Bool) := fun x y => F_funcs_IsNan x.1
noncomputable def c_funcs_IsNan : Orc := ent i_funcs_IsNan [] 0 (sp fa_funcs_IsNan ha_funcs_IsNan fr_funcs_IsNan hr_funcs_IsNan G_funcs_IsNan out_funcs_IsNan)
theorem ok_funcs_IsNan : OrcOk PR c_funcs_IsNan := fnT okO_funcs_IsNan mixed p_funcs_IsNan (by kernel_rfl) (by kernel_rfl) (L := L_funcs_IsNan) (kp := false) (by kernel_rfl) (inn := inn_funcs_IsNan) (out := out_funcs_IsNan) (fun _ _ => rfl) (loopsL (l := []) (by kernel_rfl) trivial) (fun x y => by kernel_rfl)
noncomputable def O_funcs_plain : Orc := c_format_Nan
theorem okO_funcs_plain : OrcOk PR O_funcs_plain := ok_format_Nan
abbrev fa_funcs_plain : Fm := .unit
abbrev ha_funcs_plain : List BF := []
abbrev fr_funcs_plain : Fm := (.i .u32)
abbrev hr_funcs_plain : List BF := []
noncomputable def L_funcs_plain : Lps := L0
def inn_funcs_plain : T fr_funcs_plain → TH hr_funcs_plain → Int := (fun z w => z)
def out_funcs_plain : Int → T fr_funcs_plain × TH hr_funcs_plain := fun r => (r, ())
noncomputable def F_funcs_plain  : Option (Int) :=
  (some (2143289344:Int))
noncomputable def G_funcs_plain : T fa_funcs_plain → TH ha_funcs_plain → Option (Int) := fun x y => F_funcs_plain 
noncomputable def c_funcs_plain : Orc := ent i_funcs_plain [] 0 (sp fa_funcs_plain ha_funcs_plain fr_funcs_plain hr_funcs_plain G_funcs_plain out_funcs_plain)
theorem ok_funcs_plain : OrcOk PR c_funcs_plain := fnT okO_funcs_plain mixed p_funcs_plain (by kernel_rfl) (by kernel_rfl) (L := L_funcs_plain) (kp := false) (by kernel_rfl) (inn := inn_funcs_plain) (out := out_funcs_plain) (fun _ _ => rfl) (loopsL (l := []) (by kernel_rfl) trivial) (fun x y => by kernel_rfl)
noncomputable def O_funcs_Minus : Orc := c_format_Turn
theorem okO_funcs_Minus : OrcOk PR O_funcs_Minus := ok_format_Turn
abbrev fa_funcs_Minus : Fm := (.pair (.i .u32) .unit)
abbrev ha_funcs_Minus : List BF := []
abbrev fr_funcs_Minus : Fm := (.i .u32)
abbrev hr_funcs_Minus : List BF := []
noncomputable def L_funcs_Minus : Lps := L0
def inn_funcs_Minus : T fr_funcs_Minus → TH hr_funcs_Minus → Int := (fun z w => z)
def out_funcs_Minus : Int → T fr_funcs_Minus × TH hr_funcs_Minus := fun r => (r, ())
noncomputable def F_funcs_Minus (a0 : Int) : Option (Int) :=
  (some (bits .xor .u32 (bits .and .u32 a0 (4294967295:Int)) (2147483648:Int)))
noncomputable def G_funcs_Minus : T fa_funcs_Minus → TH ha_funcs_Minus → Option (Int) := fun x y => F_funcs_Minus x.1
noncomputable def c_funcs_Minus : Orc := ent i_funcs_Minus [] 0 (sp fa_funcs_Minus ha_funcs_Minus fr_funcs_Minus hr_funcs_Minus G_funcs_Minus out_funcs_Minus)
theorem ok_funcs_Minus : OrcOk PR c_funcs_Minus := fnT okO_funcs_Minus mixed p_funcs_Minus (by kernel_rfl) (by kernel_rfl) (L := L_funcs_Minus) (kp := false) (by kernel_rfl) (inn := inn_funcs_Minus) (out := out_funcs_Minus) (fun _ _ => rfl) (loopsL (l := []) (by kernel_rfl) trivial) (fun x y => by kernel_rfl)
noncomputable def O_funcs_Above : Orc := c_order_Less
theorem okO_funcs_Above : OrcOk PR O_funcs_Above := ok_order_Less
abbrev fa_funcs_Above : Fm := (.pair (.i .u32) (.pair (.i .u32) .unit))
abbrev ha_funcs_Above : List BF := []
abbrev fr_funcs_Above : Fm := .b
abbrev hr_funcs_Above : List BF := []
noncomputable def L_funcs_Above : Lps := L0
def inn_funcs_Above : T fr_funcs_Above → TH hr_funcs_Above → Bool := (fun z w => z)
def out_funcs_Above : Bool → T fr_funcs_Above × TH hr_funcs_Above := fun r => (r, ())
noncomputable def F_funcs_Above (a0 : Int) (a1 : Int) : Option (Bool) :=
  ((F_order_Less (2:Int) a1 a0)).bind fun r0 =>
  (some r0)
noncomputable def G_funcs_Above : T fa_funcs_Above → TH ha_funcs_Above → Option (Bool) := fun x y => F_funcs_Above x.1 x.2.1
noncomputable def c_funcs_Above : Orc := ent i_funcs_Above [] 0 (sp fa_funcs_Above ha_funcs_Above fr_funcs_Above hr_funcs_Above G_funcs_Above out_funcs_Above)
theorem ok_funcs_Above : OrcOk PR c_funcs_Above := fnT okO_funcs_Above mixed p_funcs_Above (by kernel_rfl) (by kernel_rfl) (L := L_funcs_Above) (kp := false) (by kernel_rfl) (inn := inn_funcs_Above) (out := out_funcs_Above) (fun _ _ => rfl) (loopsL (l := []) (by kernel_rfl) trivial) (fun x y => by kernel_rfl)
end Go.Proofs.Ytkknnloamidaiaa.VI
