import Derived.Test.YtkknnloamidaiaaTedcfc3a5
namespace Go.Proofs.Ytkknnloamidaiaa.VI
set_option linter.unusedVariables false
set_option linter.unusedSimpArgs false
set_option maxRecDepth 100000
set_option linter.unusedSimpArgs false
set_option linter.unusedVariables false
noncomputable def O_funcs_poly : Orc := c_funcs_Fma
theorem okO_funcs_poly : OrcOk PR O_funcs_poly := ok_funcs_Fma
abbrev fa_funcs_poly : Fm := (.pair (.i .u32) (.pair (.i .u32) (.pair (.si .u32) .unit)))
abbrev ha_funcs_poly : List BF := []
abbrev fr_funcs_poly : Fm := (.i .u32)
abbrev hr_funcs_poly : List BF := []
abbrev ff_funcs_poly_0 : Fm := (.pair (.i .u32) (.pair (.i .u32) (.us 7 (.pair (.si .u32) (.pair (.i .i64) (.pair (.i .i64) (.us 9 .unit)))))))
abbrev hf_funcs_poly_0 : List BF := []
abbrev X_funcs_poly_0 : Xs := (.one (.exit 0) [1] (.us 1 (.pair (.i .u32) (.us 19 .unit))) [])
abbrev S_funcs_poly_0 : Type := T ff_funcs_poly_0 × TH hf_funcs_poly_0
abbrev E_funcs_poly_0 : Type := TX X_funcs_poly_0
noncomputable def LB_funcs_poly_0 : Lps := L0
noncomputable def st_funcs_poly_0 : StepT S_funcs_poly_0 E_funcs_poly_0 := fun R v kn ko =>
  let x0 : Int := v.1.2.1
  let x1 : Int := v.1.1
  let x2 : List Int := v.1.2.2.1
  let x3 : Int := v.1.2.2.2.2.1
  bif (decide (x3 < v.1.2.2.2.1)) then
    bif (decide (((0:Int) ≤ x3) ∧ (x3 < (((List.length x2) : Nat) : Int)))) then
      ((F_funcs_Fma x0 x1 (List.getD x2 (Int.toNat x3) (0:Int)))).bind fun r4 =>
      (kn ((x1, (r4, ((List.take (List.length x2) x2), (v.1.2.2.2.1, ((IntKind.wrap .i64 (x3 + (1:Int))), ()))))), ()))
    else
      none
  else
    (ko ((x0, ()), ()))
noncomputable def ls_funcs_poly_0 : St → LTr := (lsum ff_funcs_poly_0 hf_funcs_poly_0 X_funcs_poly_0 Prod.mk id st_funcs_poly_0 (hd [] [] [0, 1, 9, 10, 11] 0))
theorem lp_funcs_poly_0 : LoopOk PR 0 (lpN f_funcs_poly 0) ls_funcs_poly_0 := loopT okO_funcs_poly mixed (L := LB_funcs_poly_0) (d := 1) (bs := []) (ks := [0, 1, 9, 10, 11]) (loopsL (l := []) (by kernel_rfl) trivial) (by kernel_rfl) (inS := Prod.mk) (outS := id) (fun _ _ => rfl) (inX := id) (outX := id) (fun _ => rfl) (fun v R kn ko => by kernel_rfl) (hd_wk [] [] [0, 1, 9, 10, 11] 0)
noncomputable def L_funcs_poly : Lps := (lpB 3 (.by_ ls_funcs_poly_0) L0)
def inn_funcs_poly : T fr_funcs_poly → TH hr_funcs_poly → Int := (fun z w => z)
def out_funcs_poly : Int → T fr_funcs_poly × TH hr_funcs_poly := fun r => (r, ())
noncomputable def F_funcs_poly (a0 : Int) (a1 : Int) (a2 : List Int) : Option (Int) :=
  ((lim st_funcs_poly_0 ((a0, (a1, ((List.take (List.length a2) a2), ((((List.length a2) : Nat) : Int), ((0:Int), ()))))), ()))).bind fun r0 =>
  (some r0.1.1)
noncomputable def G_funcs_poly : T fa_funcs_poly → TH ha_funcs_poly → Option (Int) := fun x y => F_funcs_poly x.1 x.2.1 x.2.2.1
noncomputable def c_funcs_poly : Orc := ent i_funcs_poly [] 0 (sp fa_funcs_poly ha_funcs_poly fr_funcs_poly hr_funcs_poly G_funcs_poly out_funcs_poly)
theorem ok_funcs_poly : OrcOk PR c_funcs_poly := fnT okO_funcs_poly mixed p_funcs_poly (by kernel_rfl) (by kernel_rfl) (L := L_funcs_poly) (kp := false) (by kernel_rfl) (inn := inn_funcs_poly) (out := out_funcs_poly) (fun _ _ => rfl) (loopsL (l := [((lpN f_funcs_poly 0), ls_funcs_poly_0)]) (by kernel_rfl) ⟨lp_funcs_poly_0, trivial⟩) (fun x y => by kernel_rfl)
noncomputable def O_funcs_Exp : Orc := (orm c_funcs_IsNan (orm c_funcs_plain (orm c_funcs_Above (orm c_format_Inf (orm c_funcs_Mul (orm c_whole_ToInt (orm c_funcs_Int (orm c_funcs_Minus (orm c_funcs_Fma (orm c_funcs_poly c_funcs_Scale))))))))))
theorem okO_funcs_Exp : OrcOk PR O_funcs_Exp := (orm_ok ok_funcs_IsNan (orm_ok ok_funcs_plain (orm_ok ok_funcs_Above (orm_ok ok_format_Inf (orm_ok ok_funcs_Mul (orm_ok ok_whole_ToInt (orm_ok ok_funcs_Int (orm_ok ok_funcs_Minus (orm_ok ok_funcs_Fma (orm_ok ok_funcs_poly ok_funcs_Scale))))))))))
abbrev fa_funcs_Exp : Fm := (.pair (.i .u32) .unit)
abbrev ha_funcs_Exp : List BF := []
abbrev fr_funcs_Exp : Fm := (.i .u32)
abbrev hr_funcs_Exp : List BF := []
noncomputable def L_funcs_Exp : Lps := L0
def inn_funcs_Exp : T fr_funcs_Exp → TH hr_funcs_Exp → Int := (fun z w => z)
def out_funcs_Exp : Int → T fr_funcs_Exp × TH hr_funcs_Exp := fun r => (r, ())
noncomputable def F_funcs_Exp (a0 : Int) : Option (Int) :=
  ((F_funcs_IsNan a0)).bind fun r0 =>
  bif r0 then
    (some (2143289344:Int))
  else
    ((F_funcs_Above a0 (1118925336:Int))).bind fun r1 =>
    bif r1 then
      (some (2139095040:Int))
    else
      ((F_funcs_Above (3268407733:Int) a0)).bind fun r2 =>
      bif r2 then
        (some (0:Int))
      else
        ((F_funcs_Mul a0 (1069066811:Int))).bind fun r3 =>
        ((F_whole_ToInt (2:Int) (0:Int) r3)).bind fun r4 =>
        let x5 : Int := (IntKind.wrap .i64 r4.1)
        ((F_funcs_Int x5)).bind fun r6 =>
        let x7 : Int := (bits .xor .u32 (bits .and .u32 r6 (4294967295:Int)) (2147483648:Int))
        ((F_funcs_Fma x7 (1060205056:Int) a0)).bind fun r8 =>
        ((F_funcs_Fma x7 (901758606:Int) r8)).bind fun r9 =>
        ((F_funcs_poly r9 (985008993:Int) [(1007192201:Int), (1026206379:Int), (1042983595:Int), (1056964608:Int), (1065353216:Int), (1065353216:Int)])).bind fun r10 =>
        ((F_funcs_Scale r10 x5)).bind fun r11 =>
        (some r11)
noncomputable def G_funcs_Exp : T fa_funcs_Exp → TH ha_funcs_Exp → Option (Int) := fun x y => F_funcs_Exp x.1
noncomputable def c_funcs_Exp : Orc := ent i_funcs_Exp [] 0 (sp fa_funcs_Exp ha_funcs_Exp fr_funcs_Exp hr_funcs_Exp G_funcs_Exp out_funcs_Exp)
theorem ok_funcs_Exp : OrcOk PR c_funcs_Exp := fnT okO_funcs_Exp mixed p_funcs_Exp (by kernel_rfl) (by kernel_rfl) (L := L_funcs_Exp) (kp := false) (by kernel_rfl) (inn := inn_funcs_Exp) (out := out_funcs_Exp) (fun _ _ => rfl) (loopsL (l := []) (by kernel_rfl) trivial) (fun x y => by kernel_rfl)
noncomputable def O_funcs_Log : Orc := (orm c_funcs_IsNan (orm c_funcs_plain (orm c_format_IsZero (orm c_format_Inf (orm c_format_Neg (orm c_format_IsInf (orm c_format_Unpack (orm c_bits_Len (orm c_funcs_Scale (orm c_funcs_Above (orm c_funcs_Sub (orm c_funcs_Add (orm c_funcs_Div (orm c_funcs_Mul (orm c_funcs_poly (orm c_funcs_Fma c_funcs_Int))))))))))))))))
theorem okO_funcs_Log : OrcOk PR O_funcs_Log := (orm_ok ok_funcs_IsNan (orm_ok ok_funcs_plain (orm_ok ok_format_IsZero (orm_ok ok_format_Inf (orm_ok ok_format_Neg (orm_ok ok_format_IsInf (orm_ok ok_format_Unpack (orm_ok ok_bits_Len (orm_ok ok_funcs_Scale (orm_ok ok_funcs_Above (orm_ok ok_funcs_Sub (orm_ok ok_funcs_Add (orm_ok ok_funcs_Div (orm_ok ok_funcs_Mul (orm_ok ok_funcs_poly (orm_ok ok_funcs_Fma ok_funcs_Int))))))))))))))))
abbrev fa_funcs_Log : Fm := (.pair (.i .u32) .unit)
abbrev ha_funcs_Log : List BF := []
abbrev fr_funcs_Log : Fm := (.i .u32)
abbrev hr_funcs_Log : List BF := []
noncomputable def L_funcs_Log : Lps := L0
def inn_funcs_Log : T fr_funcs_Log → TH hr_funcs_Log → Int := (fun z w => z)
def out_funcs_Log : Int → T fr_funcs_Log × TH hr_funcs_Log := fun r => (r, ())
noncomputable def F_funcs_Log (a0 : Int) : Option (Int) :=
  let x0 : List Int := [(1049774373:Int), (1053609165:Int), (1059760811:Int)]
  ((F_funcs_IsNan a0)).bind fun r1 =>
  bif r1 then
    (some (2143289344:Int))
  else
    ((F_format_IsZero (2:Int) a0)).bind fun r2 =>
    bif r2 then
      (some (4286578688:Int))
    else
      bif ((bits .and .u32 (a0 / (2147483648:Int)) (1:Int)) == (1:Int)) then
        (some (2143289344:Int))
      else
        ((F_format_IsInf (2:Int) a0)).bind fun r3 =>
        bif r3 then
          (some a0)
        else
          ((F_format_Unpack (2:Int) a0)).bind fun r4 =>
          let x5 : Int := r4.2.2.1
          ((F_bits_Len x5)).bind fun r6 =>
          let x7 : Int := (IntKind.wrap .i64 ((IntKind.wrap .i64 (r4.2.1 + r6)) - (1:Int)))
          ((F_funcs_Scale a0 (IntKind.wrap .i64 ((0:Int) - x7)))).bind fun r8 =>
          ((F_funcs_Above r8 (1068827891:Int))).bind fun r9 =>
          bif r9 then
            ((F_funcs_Scale r8 (-(1:Int)))).bind fun r10 =>
            ((F_funcs_Sub r10 (1065353216:Int))).bind fun r11 =>
            ((F_funcs_Add (1073741824:Int) r11)).bind fun r12 =>
            ((F_funcs_Div r11 r12)).bind fun r13 =>
            ((F_funcs_Mul r13 r13)).bind fun r14 =>
            ((F_funcs_poly r14 (1046711865:Int) x0)).bind fun r15 =>
            ((F_funcs_Mul r15 r14)).bind fun r16 =>
            ((F_funcs_Add r13 r13)).bind fun r17 =>
            ((F_funcs_Fma r13 r16 r17)).bind fun r18 =>
            ((F_funcs_Int (IntKind.wrap .i64 (x7 + (1:Int))))).bind fun r19 =>
            ((F_funcs_Fma r19 (901758606:Int) r18)).bind fun r20 =>
            ((F_funcs_Fma r19 (1060205056:Int) r20)).bind fun r21 =>
            (some r21)
          else
            ((F_funcs_Sub r8 (1065353216:Int))).bind fun r22 =>
            ((F_funcs_Add (1073741824:Int) r22)).bind fun r23 =>
            ((F_funcs_Div r22 r23)).bind fun r24 =>
            ((F_funcs_Mul r24 r24)).bind fun r25 =>
            ((F_funcs_poly r25 (1046711865:Int) x0)).bind fun r26 =>
            ((F_funcs_Mul r26 r25)).bind fun r27 =>
            ((F_funcs_Add r24 r24)).bind fun r28 =>
            ((F_funcs_Fma r24 r27 r28)).bind fun r29 =>
            ((F_funcs_Int x7)).bind fun r30 =>
            ((F_funcs_Fma r30 (901758606:Int) r29)).bind fun r31 =>
            ((F_funcs_Fma r30 (1060205056:Int) r31)).bind fun r32 =>
            (some r32)
noncomputable def G_funcs_Log : T fa_funcs_Log → TH ha_funcs_Log → Option (Int) := fun x y => F_funcs_Log x.1
noncomputable def c_funcs_Log : Orc := ent i_funcs_Log [] 0 (sp fa_funcs_Log ha_funcs_Log fr_funcs_Log hr_funcs_Log G_funcs_Log out_funcs_Log)
theorem ok_funcs_Log : OrcOk PR c_funcs_Log := fnT okO_funcs_Log mixed p_funcs_Log (by kernel_rfl) (by kernel_rfl) (L := L_funcs_Log) (kp := false) (by kernel_rfl) (inn := inn_funcs_Log) (out := out_funcs_Log) (fun _ _ => rfl) (loopsL (l := []) (by kernel_rfl) trivial) (fun x y => by kernel_rfl)
noncomputable def O_funcs_Tanh : Orc := (orm c_funcs_IsNan (orm c_funcs_plain (orm c_format_IsZero (orm c_format_Neg (orm c_funcs_Minus (orm c_funcs_Above (orm c_funcs_Add (orm c_funcs_Exp (orm c_funcs_Div c_funcs_Sub)))))))))
theorem okO_funcs_Tanh : OrcOk PR O_funcs_Tanh := (orm_ok ok_funcs_IsNan (orm_ok ok_funcs_plain (orm_ok ok_format_IsZero (orm_ok ok_format_Neg (orm_ok ok_funcs_Minus (orm_ok ok_funcs_Above (orm_ok ok_funcs_Add (orm_ok ok_funcs_Exp (orm_ok ok_funcs_Div ok_funcs_Sub)))))))))
abbrev fa_funcs_Tanh : Fm := (.pair (.i .u32) .unit)
abbrev ha_funcs_Tanh : List BF := []
abbrev fr_funcs_Tanh : Fm := (.i .u32)
abbrev hr_funcs_Tanh : List BF := []
noncomputable def L_funcs_Tanh : Lps := L0
def inn_funcs_Tanh : T fr_funcs_Tanh → TH hr_funcs_Tanh → Int := (fun z w => z)
def out_funcs_Tanh : Int → T fr_funcs_Tanh × TH hr_funcs_Tanh := fun r => (r, ())
noncomputable def F_funcs_Tanh (a0 : Int) : Option (Int) :=
  let x0 : Bool := ((bits .and .u32 (a0 / (2147483648:Int)) (1:Int)) == (1:Int))
  let x1 : Int := (bits .xor .u32 (bits .and .u32 a0 (4294967295:Int)) (2147483648:Int))
  ((F_funcs_IsNan a0)).bind fun r2 =>
  bif r2 then
    (some (2143289344:Int))
  else
    ((F_format_IsZero (2:Int) a0)).bind fun r3 =>
    bif r3 then
      (some a0)
    else
      bif x0 then
        ((F_funcs_Above x1 (1091579060:Int))).bind fun r4 =>
        bif (!r4) then
          ((F_funcs_Add x1 x1)).bind fun r5 =>
          ((F_funcs_Exp r5)).bind fun r6 =>
          ((F_funcs_Add r6 (1065353216:Int))).bind fun r7 =>
          ((F_funcs_Div (1073741824:Int) r7)).bind fun r8 =>
          ((F_funcs_Sub (1065353216:Int) r8)).bind fun r9 =>
          bif x0 then
            (some (bits .xor .u32 (bits .and .u32 r9 (4294967295:Int)) (2147483648:Int)))
          else
            (some r9)
        else
          bif x0 then
            (some (3212836864:Int))
          else
            (some (1065353216:Int))
      else
        ((F_funcs_Above a0 (1091579060:Int))).bind fun r10 =>
        bif (!r10) then
          ((F_funcs_Add a0 a0)).bind fun r11 =>
          ((F_funcs_Exp r11)).bind fun r12 =>
          ((F_funcs_Add r12 (1065353216:Int))).bind fun r13 =>
          ((F_funcs_Div (1073741824:Int) r13)).bind fun r14 =>
          ((F_funcs_Sub (1065353216:Int) r14)).bind fun r15 =>
          bif x0 then
            (some (bits .xor .u32 (bits .and .u32 r15 (4294967295:Int)) (2147483648:Int)))
          else
            (some r15)
        else
          bif x0 then
            (some (3212836864:Int))
          else
            (some (1065353216:Int))
noncomputable def G_funcs_Tanh : T fa_funcs_Tanh → TH ha_funcs_Tanh → Option (Int) := fun x y => F_funcs_Tanh x.1
noncomputable def c_funcs_Tanh : Orc := ent i_funcs_Tanh [] 0 (sp fa_funcs_Tanh ha_funcs_Tanh fr_funcs_Tanh hr_funcs_Tanh G_funcs_Tanh out_funcs_Tanh)
theorem ok_funcs_Tanh : OrcOk PR c_funcs_Tanh := fnT okO_funcs_Tanh mixed p_funcs_Tanh (by kernel_rfl) (by kernel_rfl) (L := L_funcs_Tanh) (kp := false) (by kernel_rfl) (inn := inn_funcs_Tanh) (out := out_funcs_Tanh) (fun _ _ => rfl) (loopsL (l := []) (by kernel_rfl) trivial) (fun x y => by kernel_rfl)
noncomputable def O_funcs_Sigmoid : Orc := (orm c_funcs_Minus (orm c_funcs_Exp (orm c_funcs_Add c_funcs_Div)))
theorem okO_funcs_Sigmoid : OrcOk PR O_funcs_Sigmoid := (orm_ok ok_funcs_Minus (orm_ok ok_funcs_Exp (orm_ok ok_funcs_Add ok_funcs_Div)))
abbrev fa_funcs_Sigmoid : Fm := (.pair (.i .u32) .unit)
abbrev ha_funcs_Sigmoid : List BF := []
abbrev fr_funcs_Sigmoid : Fm := (.i .u32)
abbrev hr_funcs_Sigmoid : List BF := []
noncomputable def L_funcs_Sigmoid : Lps := L0
def inn_funcs_Sigmoid : T fr_funcs_Sigmoid → TH hr_funcs_Sigmoid → Int := (fun z w => z)
def out_funcs_Sigmoid : Int → T fr_funcs_Sigmoid × TH hr_funcs_Sigmoid := fun r => (r, ())
noncomputable def F_funcs_Sigmoid (a0 : Int) : Option (Int) :=
  ((F_funcs_Exp (bits .xor .u32 (bits .and .u32 a0 (4294967295:Int)) (2147483648:Int)))).bind fun r0 =>
  ((F_funcs_Add (1065353216:Int) r0)).bind fun r1 =>
  ((F_funcs_Div (1065353216:Int) r1)).bind fun r2 =>
  (some r2)
noncomputable def G_funcs_Sigmoid : T fa_funcs_Sigmoid → TH ha_funcs_Sigmoid → Option (Int) := fun x y => F_funcs_Sigmoid x.1
noncomputable def c_funcs_Sigmoid : Orc := ent i_funcs_Sigmoid [] 0 (sp fa_funcs_Sigmoid ha_funcs_Sigmoid fr_funcs_Sigmoid hr_funcs_Sigmoid G_funcs_Sigmoid out_funcs_Sigmoid)
theorem ok_funcs_Sigmoid : OrcOk PR c_funcs_Sigmoid := fnT okO_funcs_Sigmoid mixed p_funcs_Sigmoid (by kernel_rfl) (by kernel_rfl) (L := L_funcs_Sigmoid) (kp := false) (by kernel_rfl) (inn := inn_funcs_Sigmoid) (out := out_funcs_Sigmoid) (fun _ _ => rfl) (loopsL (l := []) (by kernel_rfl) trivial) (fun x y => by kernel_rfl)
noncomputable def O_funcs_inner : Orc := (orm c_funcs_Mul c_funcs_Fma)
theorem okO_funcs_inner : OrcOk PR O_funcs_inner := (orm_ok ok_funcs_Mul ok_funcs_Fma)
abbrev fa_funcs_inner : Fm := (.pair (.i .u32) .unit)
abbrev ha_funcs_inner : List BF := []
abbrev fr_funcs_inner : Fm := (.i .u32)
abbrev hr_funcs_inner : List BF := []
noncomputable def L_funcs_inner : Lps := L0
def inn_funcs_inner : T fr_funcs_inner → TH hr_funcs_inner → Int := (fun z w => z)
def out_funcs_inner : Int → T fr_funcs_inner × TH hr_funcs_inner := fun r => (r, ())
noncomputable def F_funcs_inner (a0 : Int) : Option (Int) :=
  ((F_funcs_Mul a0 a0)).bind fun r0 =>
  ((F_funcs_Mul r0 a0)).bind fun r1 =>
  ((F_funcs_Fma (1027024659:Int) r1 a0)).bind fun r2 =>
  ((F_funcs_Mul (1061962282:Int) r2)).bind fun r3 =>
  (some r3)
noncomputable def G_funcs_inner : T fa_funcs_inner → TH ha_funcs_inner → Option (Int) := fun x y => F_funcs_inner x.1
noncomputable def c_funcs_inner : Orc := ent i_funcs_inner [] 0 (sp fa_funcs_inner ha_funcs_inner fr_funcs_inner hr_funcs_inner G_funcs_inner out_funcs_inner)
theorem ok_funcs_inner : OrcOk PR c_funcs_inner := fnT okO_funcs_inner mixed p_funcs_inner (by kernel_rfl) (by kernel_rfl) (L := L_funcs_inner) (kp := false) (by kernel_rfl) (inn := inn_funcs_inner) (out := out_funcs_inner) (fun _ _ => rfl) (loopsL (l := []) (by kernel_rfl) trivial) (fun x y => by kernel_rfl)
noncomputable def O_funcs_Gelu : Orc := (orm c_funcs_Mul (orm c_funcs_inner (orm c_funcs_Tanh c_funcs_Add)))
theorem okO_funcs_Gelu : OrcOk PR O_funcs_Gelu := (orm_ok ok_funcs_Mul (orm_ok ok_funcs_inner (orm_ok ok_funcs_Tanh ok_funcs_Add)))
abbrev fa_funcs_Gelu : Fm := (.pair (.i .u32) .unit)
abbrev ha_funcs_Gelu : List BF := []
abbrev fr_funcs_Gelu : Fm := (.i .u32)
abbrev hr_funcs_Gelu : List BF := []
noncomputable def L_funcs_Gelu : Lps := L0
def inn_funcs_Gelu : T fr_funcs_Gelu → TH hr_funcs_Gelu → Int := (fun z w => z)
def out_funcs_Gelu : Int → T fr_funcs_Gelu × TH hr_funcs_Gelu := fun r => (r, ())
noncomputable def F_funcs_Gelu (a0 : Int) : Option (Int) :=
  ((F_funcs_Mul (1056964608:Int) a0)).bind fun r0 =>
  ((F_funcs_inner a0)).bind fun r1 =>
  ((F_funcs_Tanh r1)).bind fun r2 =>
  ((F_funcs_Add (1065353216:Int) r2)).bind fun r3 =>
  ((F_funcs_Mul r0 r3)).bind fun r4 =>
  (some r4)
noncomputable def G_funcs_Gelu : T fa_funcs_Gelu → TH ha_funcs_Gelu → Option (Int) := fun x y => F_funcs_Gelu x.1
noncomputable def c_funcs_Gelu : Orc := ent i_funcs_Gelu [] 0 (sp fa_funcs_Gelu ha_funcs_Gelu fr_funcs_Gelu hr_funcs_Gelu G_funcs_Gelu out_funcs_Gelu)
theorem ok_funcs_Gelu : OrcOk PR c_funcs_Gelu := fnT okO_funcs_Gelu mixed p_funcs_Gelu (by kernel_rfl) (by kernel_rfl) (L := L_funcs_Gelu) (kp := false) (by kernel_rfl) (inn := inn_funcs_Gelu) (out := out_funcs_Gelu) (fun _ _ => rfl) (loopsL (l := []) (by kernel_rfl) trivial) (fun x y => by kernel_rfl)
noncomputable def O_funcs_Slope : Orc := (orm c_funcs_inner (orm c_funcs_Tanh (orm c_funcs_Mul (orm c_funcs_Fma (orm c_funcs_Sub c_funcs_Add)))))
theorem okO_funcs_Slope : OrcOk PR O_funcs_Slope := (orm_ok ok_funcs_inner (orm_ok ok_funcs_Tanh (orm_ok ok_funcs_Mul (orm_ok ok_funcs_Fma (orm_ok ok_funcs_Sub ok_funcs_Add)))))
abbrev fa_funcs_Slope : Fm := (.pair (.i .u32) .unit)
abbrev ha_funcs_Slope : List BF := []
abbrev fr_funcs_Slope : Fm := (.i .u32)
abbrev hr_funcs_Slope : List BF := []
noncomputable def L_funcs_Slope : Lps := L0
def inn_funcs_Slope : T fr_funcs_Slope → TH hr_funcs_Slope → Int := (fun z w => z)
def out_funcs_Slope : Int → T fr_funcs_Slope × TH hr_funcs_Slope := fun r => (r, ())
noncomputable def F_funcs_Slope (a0 : Int) : Option (Int) :=
  ((F_funcs_inner a0)).bind fun r0 =>
  ((F_funcs_Tanh r0)).bind fun r1 =>
  ((F_funcs_Mul a0 a0)).bind fun r2 =>
  ((F_funcs_Fma (1040801103:Int) r2 (1065353216:Int))).bind fun r3 =>
  ((F_funcs_Mul (1061962282:Int) r3)).bind fun r4 =>
  ((F_funcs_Mul (1056964608:Int) a0)).bind fun r5 =>
  ((F_funcs_Mul r1 r1)).bind fun r6 =>
  ((F_funcs_Sub (1065353216:Int) r6)).bind fun r7 =>
  ((F_funcs_Mul r5 r7)).bind fun r8 =>
  ((F_funcs_Add (1065353216:Int) r1)).bind fun r9 =>
  ((F_funcs_Mul (1056964608:Int) r9)).bind fun r10 =>
  ((F_funcs_Fma r8 r4 r10)).bind fun r11 =>
  (some r11)
noncomputable def G_funcs_Slope : T fa_funcs_Slope → TH ha_funcs_Slope → Option (Int) := fun x y => F_funcs_Slope x.1
noncomputable def c_funcs_Slope : Orc := ent i_funcs_Slope [] 0 (sp fa_funcs_Slope ha_funcs_Slope fr_funcs_Slope hr_funcs_Slope G_funcs_Slope out_funcs_Slope)
theorem ok_funcs_Slope : OrcOk PR c_funcs_Slope := fnT okO_funcs_Slope mixed p_funcs_Slope (by kernel_rfl) (by kernel_rfl) (L := L_funcs_Slope) (kp := false) (by kernel_rfl) (inn := inn_funcs_Slope) (out := out_funcs_Slope) (fun _ _ => rfl) (loopsL (l := []) (by kernel_rfl) trivial) (fun x y => by kernel_rfl)
noncomputable def O_funcs_Cospi : Orc := (orm c_funcs_IsNan (orm c_funcs_plain (orm c_funcs_Sub (orm c_funcs_Mul (orm c_funcs_poly c_funcs_Minus)))))
theorem okO_funcs_Cospi : OrcOk PR O_funcs_Cospi := (orm_ok ok_funcs_IsNan (orm_ok ok_funcs_plain (orm_ok ok_funcs_Sub (orm_ok ok_funcs_Mul (orm_ok ok_funcs_poly ok_funcs_Minus)))))
abbrev fa_funcs_Cospi : Fm := (.pair (.i .u32) .unit)
abbrev ha_funcs_Cospi : List BF := []
abbrev fr_funcs_Cospi : Fm := (.i .u32)
abbrev hr_funcs_Cospi : List BF := []
noncomputable def L_funcs_Cospi : Lps := L0
def inn_funcs_Cospi : T fr_funcs_Cospi → TH hr_funcs_Cospi → Int := (fun z w => z)
def out_funcs_Cospi : Int → T fr_funcs_Cospi × TH hr_funcs_Cospi := fun r => (r, ())
noncomputable def F_funcs_Cospi (a0 : Int) : Option (Int) :=
  ((F_funcs_IsNan a0)).bind fun r0 =>
  bif r0 then
    (some (2143289344:Int))
  else
    ((F_funcs_Sub a0 (1056964608:Int))).bind fun r1 =>
    ((F_funcs_Mul (1078530011:Int) r1)).bind fun r2 =>
    ((F_funcs_Mul r2 r2)).bind fun r3 =>
    ((F_funcs_poly r3 (3109031169:Int) [(1007192201:Int), (3190467243:Int), (1065353216:Int)])).bind fun r4 =>
    ((F_funcs_Mul r2 r4)).bind fun r5 =>
    (some (bits .xor .u32 (bits .and .u32 r5 (4294967295:Int)) (2147483648:Int)))
noncomputable def G_funcs_Cospi : T fa_funcs_Cospi → TH ha_funcs_Cospi → Option (Int) := fun x y => F_funcs_Cospi x.1
noncomputable def c_funcs_Cospi : Orc := ent i_funcs_Cospi [] 0 (sp fa_funcs_Cospi ha_funcs_Cospi fr_funcs_Cospi hr_funcs_Cospi G_funcs_Cospi out_funcs_Cospi)
theorem ok_funcs_Cospi : OrcOk PR c_funcs_Cospi := fnT okO_funcs_Cospi mixed p_funcs_Cospi (by kernel_rfl) (by kernel_rfl) (L := L_funcs_Cospi) (kp := false) (by kernel_rfl) (inn := inn_funcs_Cospi) (out := out_funcs_Cospi) (fun _ _ => rfl) (loopsL (l := []) (by kernel_rfl) trivial) (fun x y => by kernel_rfl)
noncomputable def O_anneallaw12_known : Orc := (orm c_funcs_Exp (orm c_funcs_Log (orm c_funcs_Tanh (orm c_funcs_Sigmoid c_funcs_Gelu))))
theorem okO_anneallaw12_known : OrcOk PR O_anneallaw12_known := (orm_ok ok_funcs_Exp (orm_ok ok_funcs_Log (orm_ok ok_funcs_Tanh (orm_ok ok_funcs_Sigmoid ok_funcs_Gelu))))
abbrev fa_anneallaw12_known : Fm := .unit
abbrev ha_anneallaw12_known : List BF := []
abbrev fr_anneallaw12_known : Fm := .b
abbrev hr_anneallaw12_known : List BF := []
noncomputable def L_anneallaw12_known : Lps := L0
def inn_anneallaw12_known : T fr_anneallaw12_known → TH hr_anneallaw12_known → Bool := (fun z w => z)
def out_anneallaw12_known : Bool → T fr_anneallaw12_known × TH hr_anneallaw12_known := fun r => (r, ())
noncomputable def F_anneallaw12_known  : Option (Bool) :=
  ((F_funcs_Exp (0:Int))).bind fun r0 =>
  bif (r0 == (1065353216:Int)) then
    ((F_funcs_Log (1065353216:Int))).bind fun r1 =>
    bif (r1 == (0:Int)) then
      ((F_funcs_Sigmoid (0:Int))).bind fun r2 =>
      bif (r2 == (1056964608:Int)) then
        ((F_funcs_Gelu (0:Int))).bind fun r3 =>
        (some (r3 == (0:Int)))
      else
        (some false)
    else
      (some false)
  else
    (some false)
noncomputable def G_anneallaw12_known : T fa_anneallaw12_known → TH ha_anneallaw12_known → Option (Bool) := fun x y => F_anneallaw12_known 
noncomputable def c_anneallaw12_known : Orc := ent i_anneallaw12_known [] 0 (sp fa_anneallaw12_known ha_anneallaw12_known fr_anneallaw12_known hr_anneallaw12_known G_anneallaw12_known out_anneallaw12_known)
theorem ok_anneallaw12_known : OrcOk PR c_anneallaw12_known := fnT okO_anneallaw12_known mixed p_anneallaw12_known (by kernel_rfl) (by kernel_rfl) (L := L_anneallaw12_known) (kp := false) (by kernel_rfl) (inn := inn_anneallaw12_known) (out := out_anneallaw12_known) (fun _ _ => rfl) (loopsL (l := []) (by kernel_rfl) trivial) (fun x y => by kernel_rfl)
noncomputable def O_act_plain : Orc := c_format_Nan
theorem okO_act_plain : OrcOk PR O_act_plain := ok_format_Nan
abbrev fa_act_plain : Fm := .unit
abbrev ha_act_plain : List BF := []
abbrev fr_act_plain : Fm := (.i .u32)
abbrev hr_act_plain : List BF := []
noncomputable def L_act_plain : Lps := L0
def inn_act_plain : T fr_act_plain → TH hr_act_plain → Int := (fun z w => z)
def out_act_plain : Int → T fr_act_plain × TH hr_act_plain := fun r => (r, ())
noncomputable def F_act_plain  : Option (Int) :=
  (some (2143289344:Int))
noncomputable def G_act_plain : T fa_act_plain → TH ha_act_plain → Option (Int) := fun x y => F_act_plain 
noncomputable def c_act_plain : Orc := ent i_act_plain [] 0 (sp fa_act_plain ha_act_plain fr_act_plain hr_act_plain G_act_plain out_act_plain)
theorem ok_act_plain : OrcOk PR c_act_plain := fnT okO_act_plain mixed p_act_plain (by kernel_rfl) (by kernel_rfl) (L := L_act_plain) (kp := false) (by kernel_rfl) (inn := inn_act_plain) (out := out_act_plain) (fun _ _ => rfl) (loopsL (l := []) (by kernel_rfl) trivial) (fun x y => by kernel_rfl)
noncomputable def O_act_known : Orc := orn
theorem okO_act_known : OrcOk PR O_act_known := (orn_ok _)
abbrev fa_act_known : Fm := (.pair (.i .i64) .unit)
abbrev ha_act_known : List BF := []
abbrev fr_act_known : Fm := .b
abbrev hr_act_known : List BF := []
noncomputable def L_act_known : Lps := L0
def inn_act_known : T fr_act_known → TH hr_act_known → Bool := (fun z w => z)
def out_act_known : Bool → T fr_act_known × TH hr_act_known := fun r => (r, ())
noncomputable def F_act_known (a0 : Int) : Option (Bool) :=
  bif (decide (a0 ≥ (0:Int))) then
    (some (decide (a0 ≤ (3:Int))))
  else
    (some false)
noncomputable def G_act_known : T fa_act_known → TH ha_act_known → Option (Bool) := fun x y => F_act_known x.1
noncomputable def c_act_known : Orc := ent i_act_known [] 0 (sp fa_act_known ha_act_known fr_act_known hr_act_known G_act_known out_act_known)
theorem ok_act_known : OrcOk PR c_act_known := fnT okO_act_known mixed p_act_known (by kernel_rfl) (by kernel_rfl) (L := L_act_known) (kp := false) (by kernel_rfl) (inn := inn_act_known) (out := out_act_known) (fun _ _ => rfl) (loopsL (l := []) (by kernel_rfl) trivial) (fun x y => by kernel_rfl)
noncomputable def O_act_Value : Orc := (orm c_funcs_IsNan (orm c_act_plain (orm c_funcs_Above (orm c_funcs_Tanh c_funcs_Gelu))))
theorem okO_act_Value : OrcOk PR O_act_Value := (orm_ok ok_funcs_IsNan (orm_ok ok_act_plain (orm_ok ok_funcs_Above (orm_ok ok_funcs_Tanh ok_funcs_Gelu))))
abbrev fa_act_Value : Fm := (.pair (.i .i64) (.pair (.i .u32) .unit))
abbrev ha_act_Value : List BF := []
abbrev fr_act_Value : Fm := (.i .u32)
abbrev hr_act_Value : List BF := []
noncomputable def L_act_Value : Lps := L0
def inn_act_Value : T fr_act_Value → TH hr_act_Value → Int := (fun z w => z)
def out_act_Value : Int → T fr_act_Value × TH hr_act_Value := fun r => (r, ())
noncomputable def F_act_Value (a0 : Int) (a1 : Int) : Option (Int) :=
  bif (a0 == (0:Int)) then
    (some a1)
  else
    bif (a0 == (1:Int)) then
      ((F_funcs_IsNan a1)).bind fun r0 =>
      bif r0 then
        (some (2143289344:Int))
      else
        ((F_funcs_Above a1 (0:Int))).bind fun r1 =>
        bif r1 then
          (some a1)
        else
          (some (0:Int))
    else
      bif (a0 == (2:Int)) then
        ((F_funcs_Tanh a1)).bind fun r2 =>
        (some r2)
      else
        bif (a0 == (3:Int)) then
          ((F_funcs_Gelu a1)).bind fun r3 =>
          (some r3)
        else
          (some (2143289344:Int))
noncomputable def G_act_Value : T fa_act_Value → TH ha_act_Value → Option (Int) := fun x y => F_act_Value x.1 x.2.1
noncomputable def c_act_Value : Orc := ent i_act_Value [] 0 (sp fa_act_Value ha_act_Value fr_act_Value hr_act_Value G_act_Value out_act_Value)
theorem ok_act_Value : OrcOk PR c_act_Value := fnT okO_act_Value mixed p_act_Value (by kernel_rfl) (by kernel_rfl) (L := L_act_Value) (kp := false) (by kernel_rfl) (inn := inn_act_Value) (out := out_act_Value) (fun _ _ => rfl) (loopsL (l := []) (by kernel_rfl) trivial) (fun x y => by kernel_rfl)
noncomputable def O_act_Slope : Orc := (orm c_funcs_Above (orm c_funcs_Tanh (orm c_funcs_Mul (orm c_funcs_Sub (orm c_funcs_Slope c_act_plain)))))
theorem okO_act_Slope : OrcOk PR O_act_Slope := (orm_ok ok_funcs_Above (orm_ok ok_funcs_Tanh (orm_ok ok_funcs_Mul (orm_ok ok_funcs_Sub (orm_ok ok_funcs_Slope ok_act_plain)))))
abbrev fa_act_Slope : Fm := (.pair (.i .i64) (.pair (.i .u32) .unit))
abbrev ha_act_Slope : List BF := []
abbrev fr_act_Slope : Fm := (.i .u32)
abbrev hr_act_Slope : List BF := []
noncomputable def L_act_Slope : Lps := L0
def inn_act_Slope : T fr_act_Slope → TH hr_act_Slope → Int := (fun z w => z)
def out_act_Slope : Int → T fr_act_Slope × TH hr_act_Slope := fun r => (r, ())
noncomputable def F_act_Slope (a0 : Int) (a1 : Int) : Option (Int) :=
  bif (a0 == (0:Int)) then
    (some (1065353216:Int))
  else
    bif (a0 == (1:Int)) then
      ((F_funcs_Above a1 (0:Int))).bind fun r0 =>
      bif r0 then
        (some (1065353216:Int))
      else
        (some (0:Int))
    else
      bif (a0 == (2:Int)) then
        ((F_funcs_Tanh a1)).bind fun r1 =>
        ((F_funcs_Mul r1 r1)).bind fun r2 =>
        ((F_funcs_Sub (1065353216:Int) r2)).bind fun r3 =>
        (some r3)
      else
        bif (a0 == (3:Int)) then
          ((F_funcs_Slope a1)).bind fun r4 =>
          (some r4)
        else
          (some (2143289344:Int))
noncomputable def G_act_Slope : T fa_act_Slope → TH ha_act_Slope → Option (Int) := fun x y => F_act_Slope x.1 x.2.1
noncomputable def c_act_Slope : Orc := ent i_act_Slope [] 0 (sp fa_act_Slope ha_act_Slope fr_act_Slope hr_act_Slope G_act_Slope out_act_Slope)
theorem ok_act_Slope : OrcOk PR c_act_Slope := fnT okO_act_Slope mixed p_act_Slope (by kernel_rfl) (by kernel_rfl) (L := L_act_Slope) (kp := false) (by kernel_rfl) (inn := inn_act_Slope) (out := out_act_Slope) (fun _ _ => rfl) (loopsL (l := []) (by kernel_rfl) trivial) (fun x y => by kernel_rfl)
end Go.Proofs.Ytkknnloamidaiaa.VI
