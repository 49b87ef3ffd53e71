import Derived.Test.YtkknnloamidaiaaGreatTc9422205
namespace Go.Proofs.YtkknnloamidaiaaGreat.VI
set_option linter.unusedVariables false
set_option linter.unusedSimpArgs false
set_option maxRecDepth 100000
set_option linter.unusedSimpArgs false
set_option linter.unusedVariables false
noncomputable def O_sum_Nans : Orc := (orm c_format_Class c_format_Nan)
theorem okO_sum_Nans : OrcOk PR O_sum_Nans := (orm_ok ok_format_Class ok_format_Nan)
abbrev fa_sum_Nans : Fm := (.pair (.i .i64) (.pair (.si .u32) .unit))
abbrev ha_sum_Nans : List BF := []
abbrev fr_sum_Nans : Fm := (.tup (.pair (.i .u32) (.pair (.agg (.pair .b (.pair .b (.pair .b (.pair .b (.pair .b .unit)))))) (.pair .b .unit))))
abbrev hr_sum_Nans : List BF := []
abbrev ff_sum_Nans_0 : Fm := (.pair (.i .i64) (.us 4 (.cst (.ref 0 1 0) (.us 1 (.pair .b (.cst (.ref 1 1 0) (.us 3 (.pair (.si .u32) (.pair (.i .i64) (.pair (.i .i64) (.us 23 .unit)))))))))))
abbrev hf_sum_Nans_0 : List BF := [(.list 1 y_api_Exc true (.pair .b (.pair .b (.pair .b (.pair .b (.pair .b .unit)))))), (.list 1 y_api_Exc true (.pair .b (.pair .b (.pair .b (.pair .b (.pair .b .unit))))))]
abbrev X_sum_Nans_0 : Xs := (.one (.exit 0) [0, 5, 7, 8] (.pair (.i .i64) (.us 4 (.cst (.ref 0 1 0) (.us 1 (.pair .b (.cst (.ref 1 1 0) (.us 29 .unit))))))) [(.list 1 y_api_Exc true (.pair .b (.pair .b (.pair .b (.pair .b (.pair .b .unit)))))), (.list 1 y_api_Exc true (.pair .b (.pair .b (.pair .b (.pair .b (.pair .b .unit))))))])
abbrev S_sum_Nans_0 : Type := T ff_sum_Nans_0 × TH hf_sum_Nans_0
abbrev E_sum_Nans_0 : Type := TX X_sum_Nans_0
noncomputable def LB_sum_Nans_0 : Lps := L0
noncomputable def st_sum_Nans_0 : StepT S_sum_Nans_0 E_sum_Nans_0 := fun R v kn ko =>
 let x0 : Int := v.1.1
 let x1 : List Int := v.1.2.2.1
 let x2 : Int := v.1.2.2.2.2.1
 let x3 : Bool := v.1.2.1
 let x4 : Bool := v.2.2.1.1
 bif (decide (x2 < v.1.2.2.2.1)) then
 bif (decide (((0:Int) ≤ x2) ∧ (x2 < (((List.length x1) : Nat) : Int)))) then
 ((F_format_Class x0 (List.getD x1 (Int.toNat x2) (0:Int)))).bind fun r5 =>
 bif x3 then
 bif x4 then
 (kn ((x0, (true, ((List.take (List.length x1) x1), (v.1.2.2.2.1, ((IntKind.wrap .i64 (x2 + (1:Int))), ()))))), (v.2.1, ((true, v.2.2.1.2), ()))))
 else
 (kn ((x0, (true, ((List.take (List.length x1) x1), (v.1.2.2.2.1, ((IntKind.wrap .i64 (x2 + (1:Int))), ()))))), (v.2.1, (((r5 == (5:Int)), v.2.2.1.2), ()))))
 else
 bif x4 then
 (kn ((x0, ((decide (r5 ≥ (4:Int))), ((List.take (List.length x1) x1), (v.1.2.2.2.1, ((IntKind.wrap .i64 (x2 + (1:Int))), ()))))), (v.2.1, ((true, v.2.2.1.2), ()))))
 else
 (kn ((x0, ((decide (r5 ≥ (4:Int))), ((List.take (List.length x1) x1), (v.1.2.2.2.1, ((IntKind.wrap .i64 (x2 + (1:Int))), ()))))), (v.2.1, (((r5 == (5:Int)), v.2.2.1.2), ()))))
 else
 none
 else
 (ko ((x0, (x3, ())), v.2))
noncomputable def ls_sum_Nans_0 : St → LTr := (lsum ff_sum_Nans_0 hf_sum_Nans_0 X_sum_Nans_0 Prod.mk id st_sum_Nans_0 (hd [] [] [0, 5, 7, 8, 12, 13, 14] 0))
theorem lp_sum_Nans_0 : LoopOk PR 0 (lpN f_sum_Nans 0) ls_sum_Nans_0 := loopT okO_sum_Nans mixed (L := LB_sum_Nans_0) (d := 1) (bs := []) (ks := [0, 5, 7, 8, 12, 13, 14]) (loopsL (l := []) (by kernel_rfl) trivial) (by kernel_rfl) (inS := Prod.mk) (outS := id) (fun _ _ => rfl) (inX := id) (outX := id) (fun _ => rfl) (fun v R kn ko => by kernel_rfl) (hd_wk [] [] [0, 5, 7, 8, 12, 13, 14] 0)
noncomputable def L_sum_Nans : Lps := (lpB 5 (.by_ ls_sum_Nans_0) L0)
def inn_sum_Nans : T fr_sum_Nans → TH hr_sum_Nans → Int × (Bool × Bool × Bool × Bool × Bool × Unit) × Bool × Unit := (fun z w => z)
def out_sum_Nans : Int × (Bool × Bool × Bool × Bool × Bool × Unit) × Bool × Unit → T fr_sum_Nans × TH hr_sum_Nans := fun r => (r, ())
noncomputable def F_sum_Nans (a0 : Int) (a1 : List Int) : Option (Int × (Bool × Bool × Bool × Bool × Bool × Unit) × Bool × Unit) :=
 ((lim st_sum_Nans_0 ((a0, (false, ((List.take (List.length a1) a1), ((((List.length a1) : Nat) : Int), ((0:Int), ()))))), ((false, (false, (false, (false, (false, ()))))), ((false, (false, (false, (false, (false, ()))))), ()))))).bind fun r0 =>
 ((F_format_Nan r0.1.1)).bind fun r1 =>
 (some (r1, (r0.2.2.1, r0.1.2)))
noncomputable def G_sum_Nans : T fa_sum_Nans → TH ha_sum_Nans → Option (Int × (Bool × Bool × Bool × Bool × Bool × Unit) × Bool × Unit) := fun x y => F_sum_Nans x.1 x.2.1
noncomputable def c_sum_Nans : Orc := ent i_sum_Nans [] 0 (sp fa_sum_Nans ha_sum_Nans fr_sum_Nans hr_sum_Nans G_sum_Nans out_sum_Nans)
theorem ok_sum_Nans : OrcOk PR c_sum_Nans := fnT okO_sum_Nans mixed p_sum_Nans (by kernel_rfl) (by kernel_rfl) (L := L_sum_Nans) (kp := false) (by kernel_rfl) (inn := inn_sum_Nans) (out := out_sum_Nans) (fun _ _ => rfl) (loopsL (l := [((lpN f_sum_Nans 0), ls_sum_Nans_0)]) (by kernel_rfl) ⟨lp_sum_Nans_0, trivial⟩) (fun x y => by kernel_rfl)
noncomputable def O_sum_Bad : Orc := c_format_Nan
theorem okO_sum_Bad : OrcOk PR O_sum_Bad := ok_format_Nan
abbrev fa_sum_Bad : Fm := (.pair (.i .i64) .unit)
abbrev ha_sum_Bad : List BF := []
abbrev fr_sum_Bad : Fm := (.tup (.pair (.i .u32) (.pair (.agg (.pair .b (.pair .b (.pair .b (.pair .b (.pair .b .unit)))))) .unit)))
abbrev hr_sum_Bad : List BF := []
noncomputable def L_sum_Bad : Lps := L0
def inn_sum_Bad : T fr_sum_Bad → TH hr_sum_Bad → Int × (Bool × Bool × Bool × Bool × Bool × Unit) × Unit := (fun z w => z)
def out_sum_Bad : Int × (Bool × Bool × Bool × Bool × Bool × Unit) × Unit → T fr_sum_Bad × TH hr_sum_Bad := fun r => (r, ())
noncomputable def F_sum_Bad (a0 : Int) : Option (Int × (Bool × Bool × Bool × Bool × Bool × Unit) × Unit) :=
 ((F_format_Nan a0)).bind fun r0 =>
 (some (r0, ((true, (false, (false, (false, (false, ()))))), ())))
noncomputable def G_sum_Bad : T fa_sum_Bad → TH ha_sum_Bad → Option (Int × (Bool × Bool × Bool × Bool × Bool × Unit) × Unit) := fun x y => F_sum_Bad x.1
noncomputable def c_sum_Bad : Orc := ent i_sum_Bad [] 0 (sp fa_sum_Bad ha_sum_Bad fr_sum_Bad hr_sum_Bad G_sum_Bad out_sum_Bad)
theorem ok_sum_Bad : OrcOk PR c_sum_Bad := fnT okO_sum_Bad mixed p_sum_Bad (by kernel_rfl) (by kernel_rfl) (L := L_sum_Bad) (kp := false) (by kernel_rfl) (inn := inn_sum_Bad) (out := out_sum_Bad) (fun _ _ => rfl) (loopsL (l := []) (by kernel_rfl) trivial) (fun x y => by kernel_rfl)
noncomputable def O_prod_torn : Orc := (orm c_format_IsZero c_format_IsInf)
theorem okO_prod_torn : OrcOk PR O_prod_torn := (orm_ok ok_format_IsZero ok_format_IsInf)
abbrev fa_prod_torn : Fm := (.pair (.i .i64) (.pair (.i .u32) (.pair (.i .u32) .unit)))
abbrev ha_prod_torn : List BF := []
abbrev fr_prod_torn : Fm := .b
abbrev hr_prod_torn : List BF := []
noncomputable def L_prod_torn : Lps := L0
def inn_prod_torn : T fr_prod_torn → TH hr_prod_torn → Bool := (fun z w => z)
def out_prod_torn : Bool → T fr_prod_torn × TH hr_prod_torn := fun r => (r, ())
noncomputable def F_prod_torn (a0 : Int) (a1 : Int) (a2 : Int) : Option (Bool) :=
 ((F_format_IsZero a0 a1)).bind fun r0 =>
 bif r0 then
 ((F_format_IsInf a0 a2)).bind fun r1 =>
 bif r1 then
 (some true)
 else
 ((F_format_IsInf a0 a1)).bind fun r2 =>
 bif r2 then
 ((F_format_IsZero a0 a2)).bind fun r3 =>
 (some r3)
 else
 (some false)
 else
 ((F_format_IsInf a0 a1)).bind fun r4 =>
 bif r4 then
 ((F_format_IsZero a0 a2)).bind fun r5 =>
 (some r5)
 else
 (some false)
noncomputable def G_prod_torn : T fa_prod_torn → TH ha_prod_torn → Option (Bool) := fun x y => F_prod_torn x.1 x.2.1 x.2.2.1
noncomputable def c_prod_torn : Orc := ent i_prod_torn [] 0 (sp fa_prod_torn ha_prod_torn fr_prod_torn hr_prod_torn G_prod_torn out_prod_torn)
theorem ok_prod_torn : OrcOk PR c_prod_torn := fnT okO_prod_torn mixed p_prod_torn (by kernel_rfl) (by kernel_rfl) (L := L_prod_torn) (kp := false) (by kernel_rfl) (inn := inn_prod_torn) (out := out_prod_torn) (fun _ _ => rfl) (loopsL (l := []) (by kernel_rfl) trivial) (fun x y => by kernel_rfl)
noncomputable def O_sum_Of : Orc := c_format_Unpack
theorem okO_sum_Of : OrcOk PR O_sum_Of := ok_format_Unpack
abbrev fa_sum_Of : Fm := (.pair (.i .i64) (.pair (.i .u32) .unit))
abbrev ha_sum_Of : List BF := []
abbrev fr_sum_Of : Fm := (.agg (.pair .b (.pair (.i .i64) (.pair (.i .u64) (.pair .b .unit)))))
abbrev hr_sum_Of : List BF := []
noncomputable def L_sum_Of : Lps := L0
def inn_sum_Of : T fr_sum_Of → TH hr_sum_Of → Bool × Int × Int × Bool × Unit := (fun z w => z)
def out_sum_Of : Bool × Int × Int × Bool × Unit → T fr_sum_Of × TH hr_sum_Of := fun r => (r, ())
noncomputable def F_sum_Of (a0 : Int) (a1 : Int) : Option (Bool × Int × Int × Bool × Unit) :=
 ((F_format_Unpack a0 a1)).bind fun r0 =>
 let x1 : Int := r0.2.2.1
 (some (r0.1, (r0.2.1, (x1, (false, ())))))
noncomputable def G_sum_Of : T fa_sum_Of → TH ha_sum_Of → Option (Bool × Int × Int × Bool × Unit) := fun x y => F_sum_Of x.1 x.2.1
noncomputable def c_sum_Of : Orc := ent i_sum_Of [] 0 (sp fa_sum_Of ha_sum_Of fr_sum_Of hr_sum_Of G_sum_Of out_sum_Of)
theorem ok_sum_Of : OrcOk PR c_sum_Of := fnT okO_sum_Of mixed p_sum_Of (by kernel_rfl) (by kernel_rfl) (L := L_sum_Of) (kp := false) (by kernel_rfl) (inn := inn_sum_Of) (out := out_sum_Of) (fun _ _ => rfl) (loopsL (l := []) (by kernel_rfl) trivial) (fun x y => by kernel_rfl)
noncomputable def O_prod_product : Orc := c_sum_Of
theorem okO_prod_product : OrcOk PR O_prod_product := ok_sum_Of
abbrev fa_prod_product : Fm := (.pair (.i .i64) (.pair (.i .u32) (.pair (.i .u32) .unit)))
abbrev ha_prod_product : List BF := []
abbrev fr_prod_product : Fm := (.agg (.pair .b (.pair (.i .i64) (.pair (.i .u64) (.pair .b .unit)))))
abbrev hr_prod_product : List BF := []
noncomputable def L_prod_product : Lps := L0
def inn_prod_product : T fr_prod_product → TH hr_prod_product → Bool × Int × Int × Bool × Unit := (fun z w => z)
def out_prod_product : Bool × Int × Int × Bool × Unit → T fr_prod_product × TH hr_prod_product := fun r => (r, ())
noncomputable def F_prod_product (a0 : Int) (a1 : Int) (a2 : Int) : Option (Bool × Int × Int × Bool × Unit) :=
 ((F_sum_Of a0 a1)).bind fun r0 =>
 let x1 : Int := r0.2.2.1
 ((F_sum_Of a0 a2)).bind fun r2 =>
 let x3 : Int := r2.2.2.1
 (some ((!(r0.1 == r2.1)), ((IntKind.wrap .i64 (r0.2.1 + r2.2.1)), ((IntKind.wrap .u64 (x1 * x3)), (false, ())))))
noncomputable def G_prod_product : T fa_prod_product → TH ha_prod_product → Option (Bool × Int × Int × Bool × Unit) := fun x y => F_prod_product x.1 x.2.1 x.2.2.1
noncomputable def c_prod_product : Orc := ent i_prod_product [] 0 (sp fa_prod_product ha_prod_product fr_prod_product hr_prod_product G_prod_product out_prod_product)
theorem ok_prod_product : OrcOk PR c_prod_product := fnT okO_prod_product mixed p_prod_product (by kernel_rfl) (by kernel_rfl) (L := L_prod_product) (kp := false) (by kernel_rfl) (inn := inn_prod_product) (out := out_prod_product) (fun _ _ => rfl) (loopsL (l := []) (by kernel_rfl) trivial) (fun x y => by kernel_rfl)
noncomputable def O_prod_Mul : Orc := (orm c_sum_Nans (orm c_prod_torn (orm c_sum_Bad (orm c_format_Neg (orm c_format_IsInf (orm c_format_Inf (orm c_prod_product c_round_Pack)))))))
theorem okO_prod_Mul : OrcOk PR O_prod_Mul := (orm_ok ok_sum_Nans (orm_ok ok_prod_torn (orm_ok ok_sum_Bad (orm_ok ok_format_Neg (orm_ok ok_format_IsInf (orm_ok ok_format_Inf (orm_ok ok_prod_product ok_round_Pack)))))))
abbrev fa_prod_Mul : Fm := (.pair (.i .i64) (.pair (.i .i64) (.pair (.i .u32) (.pair (.i .u32) .unit))))
abbrev ha_prod_Mul : List BF := []
abbrev fr_prod_Mul : Fm := (.tup (.pair (.i .u32) (.pair (.agg (.pair .b (.pair .b (.pair .b (.pair .b (.pair .b .unit)))))) .unit)))
abbrev hr_prod_Mul : List BF := []
noncomputable def L_prod_Mul : Lps := L0
def inn_prod_Mul : T fr_prod_Mul → TH hr_prod_Mul → Int × (Bool × Bool × Bool × Bool × Bool × Unit) × Unit := (fun z w => z)
def out_prod_Mul : Int × (Bool × Bool × Bool × Bool × Bool × Unit) × Unit → T fr_prod_Mul × TH hr_prod_Mul := fun r => (r, ())
noncomputable def F_prod_Mul (a0 : Int) (a1 : Int) (a2 : Int) (a3 : Int) : Option (Int × (Bool × Bool × Bool × Bool × Bool × Unit) × Unit) :=
 ((F_sum_Nans a0 [a2, a3])).bind fun r0 =>
 let x1 : Bool := r0.2.2.1
 bif x1 then
 (some (r0.1, (r0.2.1, ())))
 else
 ((F_prod_torn a0 a2 a3)).bind fun r2 =>
 bif r2 then
 ((F_sum_Bad a0)).bind fun r3 =>
 (some r3)
 else
 ((F_format_Neg a0 a2)).bind fun r4 =>
 ((F_format_Neg a0 a3)).bind fun r5 =>
 let x6 : Bool := (!(r4 == r5))
 ((F_format_IsInf a0 a2)).bind fun r7 =>
 bif r7 then
 ((F_format_Inf a0 x6)).bind fun r8 =>
 (some (r8, ((false, (false, (false, (false, (false, ()))))), ())))
 else
 ((F_format_IsInf a0 a3)).bind fun r9 =>
 bif r9 then
 ((F_format_Inf a0 x6)).bind fun r10 =>
 (some (r10, ((false, (false, (false, (false, (false, ()))))), ())))
 else
 ((F_prod_product a0 a2 a3)).bind fun r11 =>
 let x12 : Int := r11.2.2.1
 ((F_round_Pack a0 a1 x6 r11.2.1 x12 false)).bind fun r13 =>
 (some r13)
noncomputable def G_prod_Mul : T fa_prod_Mul → TH ha_prod_Mul → Option (Int × (Bool × Bool × Bool × Bool × Bool × Unit) × Unit) := fun x y => F_prod_Mul x.1 x.2.1 x.2.2.1 x.2.2.2.1
noncomputable def c_prod_Mul : Orc := ent i_prod_Mul [] 0 (sp fa_prod_Mul ha_prod_Mul fr_prod_Mul hr_prod_Mul G_prod_Mul out_prod_Mul)
theorem ok_prod_Mul : OrcOk PR c_prod_Mul := fnT okO_prod_Mul mixed p_prod_Mul (by kernel_rfl) (by kernel_rfl) (L := L_prod_Mul) (kp := false) (by kernel_rfl) (inn := inn_prod_Mul) (out := out_prod_Mul) (fun _ _ => rfl) (loopsL (l := []) (by kernel_rfl) trivial) (fun x y => by kernel_rfl)
noncomputable def O_funcs_Mul : Orc := c_prod_Mul
theorem okO_funcs_Mul : OrcOk PR O_funcs_Mul := ok_prod_Mul
abbrev fa_funcs_Mul : Fm := (.pair (.i .u32) (.pair (.i .u32) .unit))
abbrev ha_funcs_Mul : List BF := []
abbrev fr_funcs_Mul : Fm := (.i .u32)
abbrev hr_funcs_Mul : List BF := []
noncomputable def L_funcs_Mul : Lps := L0
def inn_funcs_Mul : T fr_funcs_Mul → TH hr_funcs_Mul → Int := (fun z w => z)
def out_funcs_Mul : Int → T fr_funcs_Mul × TH hr_funcs_Mul := fun r => (r, ())
noncomputable def F_funcs_Mul (a0 : Int) (a1 : Int) : Option (Int) :=
 ((F_prod_Mul (2:Int) (0:Int) a0 a1)).bind fun r0 =>
 (some r0.1)
noncomputable def G_funcs_Mul : T fa_funcs_Mul → TH ha_funcs_Mul → Option (Int) := fun x y => F_funcs_Mul x.1 x.2.1
noncomputable def c_funcs_Mul : Orc := ent i_funcs_Mul [] 0 (sp fa_funcs_Mul ha_funcs_Mul fr_funcs_Mul hr_funcs_Mul G_funcs_Mul out_funcs_Mul)
theorem ok_funcs_Mul : OrcOk PR c_funcs_Mul := fnT okO_funcs_Mul mixed p_funcs_Mul (by kernel_rfl) (by kernel_rfl) (L := L_funcs_Mul) (kp := false) (by kernel_rfl) (inn := inn_funcs_Mul) (out := out_funcs_Mul) (fun _ _ => rfl) (loopsL (l := []) (by kernel_rfl) trivial) (fun x y => by kernel_rfl)
noncomputable def O_sum_Infinite : Orc := (orm c_sum_Bad c_format_Inf)
theorem okO_sum_Infinite : OrcOk PR O_sum_Infinite := (orm_ok ok_sum_Bad ok_format_Inf)
abbrev fa_sum_Infinite : Fm := (.pair (.i .i64) (.pair .b (.pair .b (.pair .b (.pair .b .unit)))))
abbrev ha_sum_Infinite : List BF := []
abbrev fr_sum_Infinite : Fm := (.tup (.pair (.i .u32) (.pair (.agg (.pair .b (.pair .b (.pair .b (.pair .b (.pair .b .unit)))))) .unit)))
abbrev hr_sum_Infinite : List BF := []
noncomputable def L_sum_Infinite : Lps := L0
def inn_sum_Infinite : T fr_sum_Infinite → TH hr_sum_Infinite → Int × (Bool × Bool × Bool × Bool × Bool × Unit) × Unit := (fun z w => z)
def out_sum_Infinite : Int × (Bool × Bool × Bool × Bool × Bool × Unit) × Unit → T fr_sum_Infinite × TH hr_sum_Infinite := fun r => (r, ())
noncomputable def F_sum_Infinite (a0 : Int) (a1 : Bool) (a2 : Bool) (a3 : Bool) (a4 : Bool) : Option (Int × (Bool × Bool × Bool × Bool × Bool × Unit) × Unit) :=
 bif a3 then
 bif a4 then
 bif (!(a1 == a2)) then
 ((F_sum_Bad a0)).bind fun r0 =>
 (some r0)
 else
 bif a3 then
 ((F_format_Inf a0 a1)).bind fun r1 =>
 (some (r1, ((false, (false, (false, (false, (false, ()))))), ())))
 else
 ((F_format_Inf a0 a2)).bind fun r2 =>
 (some (r2, ((false, (false, (false, (false, (false, ()))))), ())))
 else
 bif a3 then
 ((F_format_Inf a0 a1)).bind fun r3 =>
 (some (r3, ((false, (false, (false, (false, (false, ()))))), ())))
 else
 ((F_format_Inf a0 a2)).bind fun r4 =>
 (some (r4, ((false, (false, (false, (false, (false, ()))))), ())))
 else
 bif a3 then
 ((F_format_Inf a0 a1)).bind fun r5 =>
 (some (r5, ((false, (false, (false, (false, (false, ()))))), ())))
 else
 ((F_format_Inf a0 a2)).bind fun r6 =>
 (some (r6, ((false, (false, (false, (false, (false, ()))))), ())))
noncomputable def G_sum_Infinite : T fa_sum_Infinite → TH ha_sum_Infinite → Option (Int × (Bool × Bool × Bool × Bool × Bool × Unit) × Unit) := fun x y => F_sum_Infinite x.1 x.2.1 x.2.2.1 x.2.2.2.1 x.2.2.2.2.1
noncomputable def c_sum_Infinite : Orc := ent i_sum_Infinite [] 0 (sp fa_sum_Infinite ha_sum_Infinite fr_sum_Infinite hr_sum_Infinite G_sum_Infinite out_sum_Infinite)
theorem ok_sum_Infinite : OrcOk PR c_sum_Infinite := fnT okO_sum_Infinite mixed p_sum_Infinite (by kernel_rfl) (by kernel_rfl) (L := L_sum_Infinite) (kp := false) (by kernel_rfl) (inn := inn_sum_Infinite) (out := out_sum_Infinite) (fun _ _ => rfl) (loopsL (l := []) (by kernel_rfl) trivial) (fun x y => by kernel_rfl)
noncomputable def O_sum_full : Orc := (orm c_bits_Len c_bits_Shift)
theorem okO_sum_full : OrcOk PR O_sum_full := (orm_ok ok_bits_Len ok_bits_Shift)
abbrev fa_sum_full : Fm := (.pair (.agg (.pair .b (.pair (.i .i64) (.pair (.i .u64) (.pair .b .unit))))) .unit)
abbrev ha_sum_full : List BF := []
abbrev fr_sum_full : Fm := (.agg (.pair .b (.pair (.i .i64) (.pair (.i .u64) (.pair .b .unit)))))
abbrev hr_sum_full : List BF := []
noncomputable def L_sum_full : Lps := L0
def inn_sum_full : T fr_sum_full → TH hr_sum_full → Bool × Int × Int × Bool × Unit := (fun z w => z)
def out_sum_full : Bool × Int × Int × Bool × Unit → T fr_sum_full × TH hr_sum_full := fun r => (r, ())
noncomputable def F_sum_full (a0 : Bool × Int × Int × Bool × Unit) : Option (Bool × Int × Int × Bool × Unit) :=
 let x0 : Int := a0.2.2.1
 ((F_bits_Len x0)).bind fun r1 =>
 let x2 : Int := (IntKind.wrap .i64 ((62:Int) - r1))
 ((F_bits_Shift x0 (IntKind.wrap .i64 ((0:Int) - x2)))).bind fun r3 =>
 (some (a0.1, ((IntKind.wrap .i64 (a0.2.1 - x2)), (r3.1, a0.2.2.2))))
noncomputable def G_sum_full : T fa_sum_full → TH ha_sum_full → Option (Bool × Int × Int × Bool × Unit) := fun x y => F_sum_full x.1
noncomputable def c_sum_full : Orc := ent i_sum_full [] 0 (sp fa_sum_full ha_sum_full fr_sum_full hr_sum_full G_sum_full out_sum_full)
theorem ok_sum_full : OrcOk PR c_sum_full := fnT okO_sum_full mixed p_sum_full (by kernel_rfl) (by kernel_rfl) (L := L_sum_full) (kp := false) (by kernel_rfl) (inn := inn_sum_full) (out := out_sum_full) (fun _ _ => rfl) (loopsL (l := []) (by kernel_rfl) trivial) (fun x y => by kernel_rfl)
noncomputable def O_sum_Exact : Orc := (orm c_sum_full c_bits_Shift)
theorem okO_sum_Exact : OrcOk PR O_sum_Exact := (orm_ok ok_sum_full ok_bits_Shift)
abbrev fa_sum_Exact : Fm := (.pair (.agg (.pair .b (.pair (.i .i64) (.pair (.i .u64) (.pair .b .unit))))) (.pair (.agg (.pair .b (.pair (.i .i64) (.pair (.i .u64) (.pair .b .unit))))) .unit))
abbrev ha_sum_Exact : List BF := []
abbrev fr_sum_Exact : Fm := (.agg (.pair .b (.pair (.i .i64) (.pair (.i .u64) (.pair .b .unit)))))
abbrev hr_sum_Exact : List BF := []
noncomputable def L_sum_Exact : Lps := L0
def inn_sum_Exact : T fr_sum_Exact → TH hr_sum_Exact → Bool × Int × Int × Bool × Unit := (fun z w => z)
def out_sum_Exact : Bool × Int × Int × Bool × Unit → T fr_sum_Exact × TH hr_sum_Exact := fun r => (r, ())
noncomputable def F_sum_Exact (a0 : Bool × Int × Int × Bool × Unit) (a1 : Bool × Int × Int × Bool × Unit) : Option (Bool × Int × Int × Bool × Unit) :=
 let x0 : Int := a0.2.2.1
 let x1 : Int := a1.2.2.1
 bif (x0 == (0:Int)) then
 (some a1)
 else
 bif (x1 == (0:Int)) then
 (some a0)
 else
 ((F_sum_full a0)).bind fun r2 =>
 let x3 : Int := r2.2.2.1
 ((F_sum_full a1)).bind fun r4 =>
 let x5 : Bool := (r4.1 == r2.1)
 let x6 : Int := r4.2.2.1
 let x7 : Bool := (r2.1 == r4.1)
 bif (decide (r2.2.1 < r4.2.1)) then
 ((F_bits_Shift x3 (IntKind.wrap .i64 (r4.2.1 - r2.2.1)))).bind fun r8 =>
 let x9 : Int := (IntKind.wrap .u64 (x6 - r8.1))
 bif x5 then
 (some (r4.1, (r4.2.1, ((IntKind.wrap .u64 (x6 + r8.1)), r8.2))))
 else
 bif r8.2.1 then
 (some (r4.1, (r4.2.1, ((IntKind.wrap .u64 (x9 - (1:Int))), r8.2))))
 else
 (some (r4.1, (r4.2.1, (x9, r8.2))))
 else
 bif (r2.2.1 == r4.2.1) then
 bif (decide (x3 < x6)) then
 ((F_bits_Shift x3 (IntKind.wrap .i64 (r4.2.1 - r2.2.1)))).bind fun r10 =>
 let x11 : Int := (IntKind.wrap .u64 (x6 - r10.1))
 bif x5 then
 (some (r4.1, (r4.2.1, ((IntKind.wrap .u64 (x6 + r10.1)), r10.2))))
 else
 bif r10.2.1 then
 (some (r4.1, (r4.2.1, ((IntKind.wrap .u64 (x11 - (1:Int))), r10.2))))
 else
 (some (r4.1, (r4.2.1, (x11, r10.2))))
 else
 ((F_bits_Shift x6 (IntKind.wrap .i64 (r2.2.1 - r4.2.1)))).bind fun r12 =>
 let x13 : Int := (IntKind.wrap .u64 (x3 - r12.1))
 bif x7 then
 (some (r2.1, (r2.2.1, ((IntKind.wrap .u64 (x3 + r12.1)), r12.2))))
 else
 bif r12.2.1 then
 (some (r2.1, (r2.2.1, ((IntKind.wrap .u64 (x13 - (1:Int))), r12.2))))
 else
 (some (r2.1, (r2.2.1, (x13, r12.2))))
 else
 ((F_bits_Shift x6 (IntKind.wrap .i64 (r2.2.1 - r4.2.1)))).bind fun r14 =>
 let x15 : Int := (IntKind.wrap .u64 (x3 - r14.1))
 bif x7 then
 (some (r2.1, (r2.2.1, ((IntKind.wrap .u64 (x3 + r14.1)), r14.2))))
 else
 bif r14.2.1 then
 (some (r2.1, (r2.2.1, ((IntKind.wrap .u64 (x15 - (1:Int))), r14.2))))
 else
 (some (r2.1, (r2.2.1, (x15, r14.2))))
noncomputable def G_sum_Exact : T fa_sum_Exact → TH ha_sum_Exact → Option (Bool × Int × Int × Bool × Unit) := fun x y => F_sum_Exact x.1 x.2.1
noncomputable def c_sum_Exact : Orc := ent i_sum_Exact [] 0 (sp fa_sum_Exact ha_sum_Exact fr_sum_Exact hr_sum_Exact G_sum_Exact out_sum_Exact)
theorem ok_sum_Exact : OrcOk PR c_sum_Exact := fnT okO_sum_Exact mixed p_sum_Exact (by kernel_rfl) (by kernel_rfl) (L := L_sum_Exact) (kp := false) (by kernel_rfl) (inn := inn_sum_Exact) (out := out_sum_Exact) (fun _ _ => rfl) (loopsL (l := []) (by kernel_rfl) trivial) (fun x y => by kernel_rfl)
noncomputable def O_sum_Nought : Orc := c_format_Zero
theorem okO_sum_Nought : OrcOk PR O_sum_Nought := ok_format_Zero
abbrev fa_sum_Nought : Fm := (.pair (.i .i64) (.pair (.i .i64) (.pair .b (.pair .b .unit))))
abbrev ha_sum_Nought : List BF := []
abbrev fr_sum_Nought : Fm := (.i .u32)
abbrev hr_sum_Nought : List BF := []
noncomputable def L_sum_Nought : Lps := L0
def inn_sum_Nought : T fr_sum_Nought → TH hr_sum_Nought → Int := (fun z w => z)
def out_sum_Nought : Int → T fr_sum_Nought × TH hr_sum_Nought := fun r => (r, ())
noncomputable def F_sum_Nought (a0 : Int) (a1 : Int) (a2 : Bool) (a3 : Bool) : Option (Int) :=
 bif (a2 == a3) then
 ((F_format_Zero a0 a2)).bind fun r0 =>
 (some r0)
 else
 ((F_format_Zero a0 (a1 == (3:Int)))).bind fun r1 =>
 (some r1)
noncomputable def G_sum_Nought : T fa_sum_Nought → TH ha_sum_Nought → Option (Int) := fun x y => F_sum_Nought x.1 x.2.1 x.2.2.1 x.2.2.2.1
noncomputable def c_sum_Nought : Orc := ent i_sum_Nought [] 0 (sp fa_sum_Nought ha_sum_Nought fr_sum_Nought hr_sum_Nought G_sum_Nought out_sum_Nought)
theorem ok_sum_Nought : OrcOk PR c_sum_Nought := fnT okO_sum_Nought mixed p_sum_Nought (by kernel_rfl) (by kernel_rfl) (L := L_sum_Nought) (kp := false) (by kernel_rfl) (inn := inn_sum_Nought) (out := out_sum_Nought) (fun _ _ => rfl) (loopsL (l := []) (by kernel_rfl) trivial) (fun x y => by kernel_rfl)
noncomputable def O_prod_Fma : Orc := (orm c_prod_torn (orm c_sum_Nans (orm c_sum_Bad (orm c_format_Neg (orm c_format_IsInf (orm c_sum_Infinite (orm c_prod_product (orm c_sum_Of (orm c_sum_Exact (orm c_sum_Nought c_round_Pack))))))))))
theorem okO_prod_Fma : OrcOk PR O_prod_Fma := (orm_ok ok_prod_torn (orm_ok ok_sum_Nans (orm_ok ok_sum_Bad (orm_ok ok_format_Neg (orm_ok ok_format_IsInf (orm_ok ok_sum_Infinite (orm_ok ok_prod_product (orm_ok ok_sum_Of (orm_ok ok_sum_Exact (orm_ok ok_sum_Nought ok_round_Pack))))))))))
abbrev fa_prod_Fma : Fm := (.pair (.i .i64) (.pair (.i .i64) (.pair (.i .u32) (.pair (.i .u32) (.pair (.i .u32) .unit)))))
abbrev ha_prod_Fma : List BF := []
abbrev fr_prod_Fma : Fm := (.tup (.pair (.i .u32) (.pair (.agg (.pair .b (.pair .b (.pair .b (.pair .b (.pair .b .unit)))))) .unit)))
abbrev hr_prod_Fma : List BF := []
noncomputable def L_prod_Fma : Lps := L0
def inn_prod_Fma : T fr_prod_Fma → TH hr_prod_Fma → Int × (Bool × Bool × Bool × Bool × Bool × Unit) × Unit := (fun z w => z)
def out_prod_Fma : Int × (Bool × Bool × Bool × Bool × Bool × Unit) × Unit → T fr_prod_Fma × TH hr_prod_Fma := fun r => (r, ())
noncomputable def F_prod_Fma (a0 : Int) (a1 : Int) (a2 : Int) (a3 : Int) (a4 : Int) : Option (Int × (Bool × Bool × Bool × Bool × Bool × Unit) × Unit) :=
 ((F_prod_torn a0 a2 a3)).bind fun r0 =>
 ((F_sum_Nans a0 [a2, a3, a4])).bind fun r1 =>
 let x2 : Bool := r1.2.2.1
 let x3 : Bool := r1.2.1.1
 bif x2 then
 bif x3 then
 (some (r1.1, ((true, r1.2.1.2), ())))
 else
 (some (r1.1, ((r0, r1.2.1.2), ())))
 else
 bif r0 then
 ((F_sum_Bad a0)).bind fun r4 =>
 (some r4)
 else
 ((F_format_Neg a0 a2)).bind fun r5 =>
 ((F_format_Neg a0 a3)).bind fun r6 =>
 let x7 : Bool := (!(r5 == r6))
 ((F_format_IsInf a0 a2)).bind fun r8 =>
 bif r8 then
 ((F_format_IsInf a0 a4)).bind fun r9 =>
 ((F_format_Neg a0 a4)).bind fun r10 =>
 ((F_sum_Infinite a0 x7 r10 true r9)).bind fun r11 =>
 (some r11)
 else
 ((F_format_IsInf a0 a3)).bind fun r12 =>
 ((F_format_IsInf a0 a4)).bind fun r13 =>
 bif r12 then
 ((F_format_Neg a0 a4)).bind fun r14 =>
 ((F_sum_Infinite a0 x7 r14 r12 r13)).bind fun r15 =>
 (some r15)
 else
 bif r13 then
 ((F_format_Neg a0 a4)).bind fun r16 =>
 ((F_sum_Infinite a0 x7 r16 r12 r13)).bind fun r17 =>
 (some r17)
 else
 ((F_prod_product a0 a2 a3)).bind fun r18 =>
 ((F_sum_Of a0 a4)).bind fun r19 =>
 ((F_sum_Exact r18 r19)).bind fun r20 =>
 let x21 : Int := r20.2.2.1
 let x22 : Bool := r20.2.2.2.1
 bif (x21 == (0:Int)) then
 bif (!x22) then
 ((F_sum_Nought a0 a1 x7 r19.1)).bind fun r23 =>
 (some (r23, ((false, (false, (false, (false, (false, ()))))), ())))
 else
 ((F_round_Pack a0 a1 r20.1 r20.2.1 x21 x22)).bind fun r24 =>
 (some r24)
 else
 ((F_round_Pack a0 a1 r20.1 r20.2.1 x21 x22)).bind fun r25 =>
 (some r25)
noncomputable def G_prod_Fma : T fa_prod_Fma → TH ha_prod_Fma → Option (Int × (Bool × Bool × Bool × Bool × Bool × Unit) × Unit) := fun x y => F_prod_Fma x.1 x.2.1 x.2.2.1 x.2.2.2.1 x.2.2.2.2.1
noncomputable def c_prod_Fma : Orc := ent i_prod_Fma [] 0 (sp fa_prod_Fma ha_prod_Fma fr_prod_Fma hr_prod_Fma G_prod_Fma out_prod_Fma)
theorem ok_prod_Fma : OrcOk PR c_prod_Fma := fnT okO_prod_Fma mixed p_prod_Fma (by kernel_rfl) (by kernel_rfl) (L := L_prod_Fma) (kp := false) (by kernel_rfl) (inn := inn_prod_Fma) (out := out_prod_Fma) (fun _ _ => rfl) (loopsL (l := []) (by kernel_rfl) trivial) (fun x y => by kernel_rfl)
noncomputable def O_funcs_Fma : Orc := c_prod_Fma
theorem okO_funcs_Fma : OrcOk PR O_funcs_Fma := ok_prod_Fma
abbrev fa_funcs_Fma : Fm := (.pair (.i .u32) (.pair (.i .u32) (.pair (.i .u32) .unit)))
abbrev ha_funcs_Fma : List BF := []
abbrev fr_funcs_Fma : Fm := (.i .u32)
abbrev hr_funcs_Fma : List BF := []
noncomputable def L_funcs_Fma : Lps := L0
def inn_funcs_Fma : T fr_funcs_Fma → TH hr_funcs_Fma → Int := (fun z w => z)
def out_funcs_Fma : Int → T fr_funcs_Fma × TH hr_funcs_Fma := fun r => (r, ())
noncomputable def F_funcs_Fma (a0 : Int) (a1 : Int) (a2 : Int) : Option (Int) :=
 ((F_prod_Fma (2:Int) (0:Int) a0 a1 a2)).bind fun r0 =>
 (some r0.1)
noncomputable def G_funcs_Fma : T fa_funcs_Fma → TH ha_funcs_Fma → Option (Int) := fun x y => F_funcs_Fma x.1 x.2.1 x.2.2.1
noncomputable def c_funcs_Fma : Orc := ent i_funcs_Fma [] 0 (sp fa_funcs_Fma ha_funcs_Fma fr_funcs_Fma hr_funcs_Fma G_funcs_Fma out_funcs_Fma)
theorem ok_funcs_Fma : OrcOk PR c_funcs_Fma := fnT okO_funcs_Fma mixed p_funcs_Fma (by kernel_rfl) (by kernel_rfl) (L := L_funcs_Fma) (kp := false) (by kernel_rfl) (inn := inn_funcs_Fma) (out := out_funcs_Fma) (fun _ _ => rfl) (loopsL (l := []) (by kernel_rfl) trivial) (fun x y => by kernel_rfl)
noncomputable def O_sum_Add : Orc := (orm c_sum_Nans (orm c_format_IsInf (orm c_format_Neg (orm c_sum_Infinite (orm c_sum_Of (orm c_sum_Exact (orm c_sum_Nought c_round_Pack)))))))
theorem okO_sum_Add : OrcOk PR O_sum_Add := (orm_ok ok_sum_Nans (orm_ok ok_format_IsInf (orm_ok ok_format_Neg (orm_ok ok_sum_Infinite (orm_ok ok_sum_Of (orm_ok ok_sum_Exact (orm_ok ok_sum_Nought ok_round_Pack)))))))
abbrev fa_sum_Add : Fm := (.pair (.i .i64) (.pair (.i .i64) (.pair (.i .u32) (.pair (.i .u32) .unit))))
abbrev ha_sum_Add : List BF := []
abbrev fr_sum_Add : Fm := (.tup (.pair (.i .u32) (.pair (.agg (.pair .b (.pair .b (.pair .b (.pair .b (.pair .b .unit)))))) .unit)))
abbrev hr_sum_Add : List BF := []
noncomputable def L_sum_Add : Lps := L0
def inn_sum_Add : T fr_sum_Add → TH hr_sum_Add → Int × (Bool × Bool × Bool × Bool × Bool × Unit) × Unit := (fun z w => z)
def out_sum_Add : Int × (Bool × Bool × Bool × Bool × Bool × Unit) × Unit → T fr_sum_Add × TH hr_sum_Add := fun r => (r, ())
noncomputable def F_sum_Add (a0 : Int) (a1 : Int) (a2 : Int) (a3 : Int) : Option (Int × (Bool × Bool × Bool × Bool × Bool × Unit) × Unit) :=
 ((F_sum_Nans a0 [a2, a3])).bind fun r0 =>
 let x1 : Bool := r0.2.2.1
 bif x1 then
 (some (r0.1, (r0.2.1, ())))
 else
 ((F_format_IsInf a0 a2)).bind fun r2 =>
 ((F_format_IsInf a0 a3)).bind fun r3 =>
 bif r2 then
 ((F_format_Neg a0 a2)).bind fun r4 =>
 ((F_format_Neg a0 a3)).bind fun r5 =>
 ((F_sum_Infinite a0 r4 r5 r2 r3)).bind fun r6 =>
 (some r6)
 else
 bif r3 then
 ((F_format_Neg a0 a2)).bind fun r7 =>
 ((F_format_Neg a0 a3)).bind fun r8 =>
 ((F_sum_Infinite a0 r7 r8 r2 r3)).bind fun r9 =>
 (some r9)
 else
 ((F_sum_Of a0 a2)).bind fun r10 =>
 ((F_sum_Of a0 a3)).bind fun r11 =>
 ((F_sum_Exact r10 r11)).bind fun r12 =>
 let x13 : Int := r12.2.2.1
 let x14 : Bool := r12.2.2.2.1
 bif (x13 == (0:Int)) then
 bif (!x14) then
 ((F_sum_Nought a0 a1 r10.1 r11.1)).bind fun r15 =>
 (some (r15, ((false, (false, (false, (false, (false, ()))))), ())))
 else
 ((F_round_Pack a0 a1 r12.1 r12.2.1 x13 x14)).bind fun r16 =>
 (some r16)
 else
 ((F_round_Pack a0 a1 r12.1 r12.2.1 x13 x14)).bind fun r17 =>
 (some r17)
noncomputable def G_sum_Add : T fa_sum_Add → TH ha_sum_Add → Option (Int × (Bool × Bool × Bool × Bool × Bool × Unit) × Unit) := fun x y => F_sum_Add x.1 x.2.1 x.2.2.1 x.2.2.2.1
noncomputable def c_sum_Add : Orc := ent i_sum_Add [] 0 (sp fa_sum_Add ha_sum_Add fr_sum_Add hr_sum_Add G_sum_Add out_sum_Add)
theorem ok_sum_Add : OrcOk PR c_sum_Add := fnT okO_sum_Add mixed p_sum_Add (by kernel_rfl) (by kernel_rfl) (L := L_sum_Add) (kp := false) (by kernel_rfl) (inn := inn_sum_Add) (out := out_sum_Add) (fun _ _ => rfl) (loopsL (l := []) (by kernel_rfl) trivial) (fun x y => by kernel_rfl)
noncomputable def O_funcs_Add : Orc := c_sum_Add
theorem okO_funcs_Add : OrcOk PR O_funcs_Add := ok_sum_Add
abbrev fa_funcs_Add : Fm := (.pair (.i .u32) (.pair (.i .u32) .unit))
abbrev ha_funcs_Add : List BF := []
abbrev fr_funcs_Add : Fm := (.i .u32)
abbrev hr_funcs_Add : List BF := []
noncomputable def L_funcs_Add : Lps := L0
def inn_funcs_Add : T fr_funcs_Add → TH hr_funcs_Add → Int := (fun z w => z)
def out_funcs_Add : Int → T fr_funcs_Add × TH hr_funcs_Add := fun r => (r, ())
noncomputable def F_funcs_Add (a0 : Int) (a1 : Int) : Option (Int) :=
 ((F_sum_Add (2:Int) (0:Int) a0 a1)).bind fun r0 =>
 (some r0.1)
noncomputable def G_funcs_Add : T fa_funcs_Add → TH ha_funcs_Add → Option (Int) := fun x y => F_funcs_Add x.1 x.2.1
noncomputable def c_funcs_Add : Orc := ent i_funcs_Add [] 0 (sp fa_funcs_Add ha_funcs_Add fr_funcs_Add hr_funcs_Add G_funcs_Add out_funcs_Add)
theorem ok_funcs_Add : OrcOk PR c_funcs_Add := fnT okO_funcs_Add mixed p_funcs_Add (by kernel_rfl) (by kernel_rfl) (L := L_funcs_Add) (kp := false) (by kernel_rfl) (inn := inn_funcs_Add) (out := out_funcs_Add) (fun _ _ => rfl) (loopsL (l := []) (by kernel_rfl) trivial) (fun x y => by kernel_rfl)
noncomputable def O_conv_To : Orc := (orm c_format_Class (orm c_format_Nan (orm c_sum_Bad (orm c_format_Neg (orm c_format_Inf (orm c_sum_Of c_round_Pack))))))
theorem okO_conv_To : OrcOk PR O_conv_To := (orm_ok ok_format_Class (orm_ok ok_format_Nan (orm_ok ok_sum_Bad (orm_ok ok_format_Neg (orm_ok ok_format_Inf (orm_ok ok_sum_Of ok_round_Pack))))))
abbrev fa_conv_To : Fm := (.pair (.i .i64) (.pair (.i .i64) (.pair (.i .i64) (.pair (.i .u32) .unit))))
abbrev ha_conv_To : List BF := []
abbrev fr_conv_To : Fm := (.tup (.pair (.i .u32) (.pair (.agg (.pair .b (.pair .b (.pair .b (.pair .b (.pair .b .unit)))))) .unit)))
abbrev hr_conv_To : List BF := []
noncomputable def L_conv_To : Lps := L0
def inn_conv_To : T fr_conv_To → TH hr_conv_To → Int × (Bool × Bool × Bool × Bool × Bool × Unit) × Unit := (fun z w => z)
def out_conv_To : Int × (Bool × Bool × Bool × Bool × Bool × Unit) × Unit → T fr_conv_To × TH hr_conv_To := fun r => (r, ())
noncomputable def F_conv_To (a0 : Int) (a1 : Int) (a2 : Int) (a3 : Int) : Option (Int × (Bool × Bool × Bool × Bool × Bool × Unit) × Unit) :=
 ((F_format_Class a0 a3)).bind fun r0 =>
 bif (r0 == (4:Int)) then
 ((F_format_Nan a1)).bind fun r1 =>
 (some (r1, ((false, (false, (false, (false, (false, ()))))), ())))
 else
 bif (r0 == (5:Int)) then
 ((F_sum_Bad a1)).bind fun r2 =>
 (some r2)
 else
 bif (r0 == (3:Int)) then
 ((F_format_Neg a0 a3)).bind fun r3 =>
 ((F_format_Inf a1 r3)).bind fun r4 =>
 (some (r4, ((false, (false, (false, (false, (false, ()))))), ())))
 else
 ((F_sum_Of a0 a3)).bind fun r5 =>
 let x6 : Int := r5.2.2.1
 ((F_round_Pack a1 a2 r5.1 r5.2.1 x6 false)).bind fun r7 =>
 (some r7)
noncomputable def G_conv_To : T fa_conv_To → TH ha_conv_To → Option (Int × (Bool × Bool × Bool × Bool × Bool × Unit) × Unit) := fun x y => F_conv_To x.1 x.2.1 x.2.2.1 x.2.2.2.1
noncomputable def c_conv_To : Orc := ent i_conv_To [] 0 (sp fa_conv_To ha_conv_To fr_conv_To hr_conv_To G_conv_To out_conv_To)
theorem ok_conv_To : OrcOk PR c_conv_To := fnT okO_conv_To mixed p_conv_To (by kernel_rfl) (by kernel_rfl) (L := L_conv_To) (kp := false) (by kernel_rfl) (inn := inn_conv_To) (out := out_conv_To) (fun _ _ => rfl) (loopsL (l := []) (by kernel_rfl) trivial) (fun x y => by kernel_rfl)
noncomputable def O_conv_Widen : Orc := c_conv_To
theorem okO_conv_Widen : OrcOk PR O_conv_Widen := ok_conv_To
abbrev fa_conv_Widen : Fm := (.pair (.i .i64) (.pair (.i .u32) .unit))
abbrev ha_conv_Widen : List BF := []
abbrev fr_conv_Widen : Fm := (.i .u32)
abbrev hr_conv_Widen : List BF := []
noncomputable def L_conv_Widen : Lps := L0
def inn_conv_Widen : T fr_conv_Widen → TH hr_conv_Widen → Int := (fun z w => z)
def out_conv_Widen : Int → T fr_conv_Widen × TH hr_conv_Widen := fun r => (r, ())
noncomputable def F_conv_Widen (a0 : Int) (a1 : Int) : Option (Int) :=
 ((F_conv_To a0 (2:Int) (0:Int) a1)).bind fun r0 =>
 (some r0.1)
noncomputable def G_conv_Widen : T fa_conv_Widen → TH ha_conv_Widen → Option (Int) := fun x y => F_conv_Widen x.1 x.2.1
noncomputable def c_conv_Widen : Orc := ent i_conv_Widen [] 0 (sp fa_conv_Widen ha_conv_Widen fr_conv_Widen hr_conv_Widen G_conv_Widen out_conv_Widen)
theorem ok_conv_Widen : OrcOk PR c_conv_Widen := fnT okO_conv_Widen mixed p_conv_Widen (by kernel_rfl) (by kernel_rfl) (L := L_conv_Widen) (kp := false) (by kernel_rfl) (inn := inn_conv_Widen) (out := out_conv_Widen) (fun _ _ => rfl) (loopsL (l := []) (by kernel_rfl) trivial) (fun x y => by kernel_rfl)
end Go.Proofs.YtkknnloamidaiaaGreat.VI
