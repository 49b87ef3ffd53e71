import Derived.Test.YtkknnloamidaiaaT7bd01152
namespace Go.Proofs.Ytkknnloamidaiaa.VI
set_option linter.unusedVariables false
set_option linter.unusedSimpArgs false
set_option maxRecDepth 100000
set_option linter.unusedSimpArgs false
set_option linter.unusedVariables false
noncomputable def O_format_Widths : Orc := orn
theorem okO_format_Widths : OrcOk PR O_format_Widths := (orn_ok _)
abbrev fa_format_Widths : Fm := (.pair (.i .i64) .unit)
abbrev ha_format_Widths : List BF := []
abbrev fr_format_Widths : Fm := (.tup (.pair (.i .i64) (.pair (.i .i64) .unit)))
abbrev hr_format_Widths : List BF := []
noncomputable def L_format_Widths : Lps := L0
def inn_format_Widths : T fr_format_Widths → TH hr_format_Widths → Int × Int × Unit := (fun z w => z)
def out_format_Widths : Int × Int × Unit → T fr_format_Widths × TH hr_format_Widths := fun r => (r, ())
noncomputable def F_format_Widths (a0 : Int) : Option (Int × Int × Unit) :=
  bif (a0 == (0:Int)) then
    (some ((5:Int), ((10:Int), ())))
  else
    bif (a0 == (1:Int)) then
      (some ((8:Int), ((7:Int), ())))
    else
      (some ((8:Int), ((23:Int), ())))
noncomputable def G_format_Widths : T fa_format_Widths → TH ha_format_Widths → Option (Int × Int × Unit) := fun x y => F_format_Widths x.1
noncomputable def c_format_Widths : Orc := ent i_format_Widths [] 0 (sp fa_format_Widths ha_format_Widths fr_format_Widths hr_format_Widths G_format_Widths out_format_Widths)
theorem ok_format_Widths : OrcOk PR c_format_Widths := fnT okO_format_Widths mixed p_format_Widths (by kernel_rfl) (by kernel_rfl) (L := L_format_Widths) (kp := false) (by kernel_rfl) (inn := inn_format_Widths) (out := out_format_Widths) (fun _ _ => rfl) (loopsL (l := []) (by kernel_rfl) trivial) (fun x y => by kernel_rfl)
noncomputable def O_format_Parts : Orc := c_format_Widths
theorem okO_format_Parts : OrcOk PR O_format_Parts := ok_format_Widths
abbrev fa_format_Parts : Fm := (.pair (.i .i64) (.pair (.i .u32) .unit))
abbrev ha_format_Parts : List BF := []
abbrev fr_format_Parts : Fm := (.tup (.pair .b (.pair (.i .i64) (.pair (.i .u32) .unit))))
abbrev hr_format_Parts : List BF := []
noncomputable def L_format_Parts : Lps := L0
def inn_format_Parts : T fr_format_Parts → TH hr_format_Parts → Bool × Int × Int × Unit := (fun z w => z)
def out_format_Parts : Bool × Int × Int × Unit → T fr_format_Parts × TH hr_format_Parts := fun r => (r, ())
noncomputable def F_format_Parts (a0 : Int) (a1 : Int) : Option (Bool × Int × Int × Unit) :=
  ((F_format_Widths a0)).bind fun r0 =>
  let x1 : Int := ((2:Int) ^ (Min.min (Int.toNat (IntKind.wrap .u64 r0.2.1)) (32:Nat)))
  bif (decide ((0:Int) ≤ (IntKind.wrap .u64 (IntKind.wrap .i64 (r0.1 + r0.2.1))))) then
    bif (decide ((0:Int) ≤ (IntKind.wrap .u64 r0.2.1))) then
      bif (decide ((0:Int) ≤ (IntKind.wrap .u64 r0.1))) then
        bif (decide ((0:Int) ≤ (IntKind.wrap .u64 r0.2.1))) then
          (some (((bits .and .u32 (a1 / ((2:Int) ^ (Min.min (Int.toNat (IntKind.wrap .u64 (IntKind.wrap .i64 (r0.1 + r0.2.1)))) (32:Nat)))) (1:Int)) == (1:Int)), ((IntKind.wrap .i64 (bits .and .u32 (a1 / x1) (IntKind.wrap .u32 ((IntKind.wrap .u32 ((1:Int) * ((2:Int) ^ (Min.min (Int.toNat (IntKind.wrap .u64 r0.1)) (32:Nat))))) - (1:Int))))), ((bits .and .u32 a1 (IntKind.wrap .u32 ((IntKind.wrap .u32 ((1:Int) * x1)) - (1:Int)))), ()))))
        else
          none
      else
        none
    else
      none
  else
    none
noncomputable def G_format_Parts : T fa_format_Parts → TH ha_format_Parts → Option (Bool × Int × Int × Unit) := fun x y => F_format_Parts x.1 x.2.1
noncomputable def c_format_Parts : Orc := ent i_format_Parts [] 0 (sp fa_format_Parts ha_format_Parts fr_format_Parts hr_format_Parts G_format_Parts out_format_Parts)
theorem ok_format_Parts : OrcOk PR c_format_Parts := fnT okO_format_Parts mixed p_format_Parts (by kernel_rfl) (by kernel_rfl) (L := L_format_Parts) (kp := false) (by kernel_rfl) (inn := inn_format_Parts) (out := out_format_Parts) (fun _ _ => rfl) (loopsL (l := []) (by kernel_rfl) trivial) (fun x y => by kernel_rfl)
noncomputable def O_format_Top : Orc := c_format_Widths
theorem okO_format_Top : OrcOk PR O_format_Top := ok_format_Widths
abbrev fa_format_Top : Fm := (.pair (.i .i64) .unit)
abbrev ha_format_Top : List BF := []
abbrev fr_format_Top : Fm := (.i .i64)
abbrev hr_format_Top : List BF := []
noncomputable def L_format_Top : Lps := L0
def inn_format_Top : T fr_format_Top → TH hr_format_Top → Int := (fun z w => z)
def out_format_Top : Int → T fr_format_Top × TH hr_format_Top := fun r => (r, ())
noncomputable def F_format_Top (a0 : Int) : Option (Int) :=
  ((F_format_Widths a0)).bind fun r0 =>
  bif (decide ((0:Int) ≤ (IntKind.wrap .u64 r0.1))) then
    (some (IntKind.wrap .i64 ((IntKind.wrap .i64 ((1:Int) * ((2:Int) ^ (Min.min (Int.toNat (IntKind.wrap .u64 r0.1)) (64:Nat))))) - (1:Int))))
  else
    none
noncomputable def G_format_Top : T fa_format_Top → TH ha_format_Top → Option (Int) := fun x y => F_format_Top x.1
noncomputable def c_format_Top : Orc := ent i_format_Top [] 0 (sp fa_format_Top ha_format_Top fr_format_Top hr_format_Top G_format_Top out_format_Top)
theorem ok_format_Top : OrcOk PR c_format_Top := fnT okO_format_Top mixed p_format_Top (by kernel_rfl) (by kernel_rfl) (L := L_format_Top) (kp := false) (by kernel_rfl) (inn := inn_format_Top) (out := out_format_Top) (fun _ _ => rfl) (loopsL (l := []) (by kernel_rfl) trivial) (fun x y => by kernel_rfl)
noncomputable def O_format_Class : Orc := (orm c_format_Widths (orm c_format_Parts c_format_Top))
theorem okO_format_Class : OrcOk PR O_format_Class := (orm_ok ok_format_Widths (orm_ok ok_format_Parts ok_format_Top))
abbrev fa_format_Class : Fm := (.pair (.i .i64) (.pair (.i .u32) .unit))
abbrev ha_format_Class : List BF := []
abbrev fr_format_Class : Fm := (.i .i64)
abbrev hr_format_Class : List BF := []
noncomputable def L_format_Class : Lps := L0
def inn_format_Class : T fr_format_Class → TH hr_format_Class → Int := (fun z w => z)
def out_format_Class : Int → T fr_format_Class × TH hr_format_Class := fun r => (r, ())
noncomputable def F_format_Class (a0 : Int) (a1 : Int) : Option (Int) :=
  ((F_format_Widths a0)).bind fun r0 =>
  ((F_format_Parts a0 a1)).bind fun r1 =>
  let x2 : Bool := (r1.2.1 == (0:Int))
  let x3 : Int := r1.2.2.1
  let x4 : Bool := (x3 == (0:Int))
  let x5 : Bool := ((x3 / ((2:Int) ^ (Min.min (Int.toNat (IntKind.wrap .u64 (IntKind.wrap .i64 (r0.2.1 - (1:Int))))) (32:Nat)))) == (1:Int))
  bif x2 then
    bif x4 then
      (some (0:Int))
    else
      bif x2 then
        (some (1:Int))
      else
        ((F_format_Top a0)).bind fun r6 =>
        bif (decide (r1.2.1 < r6)) then
          (some (2:Int))
        else
          bif x4 then
            (some (3:Int))
          else
            bif (decide ((0:Int) ≤ (IntKind.wrap .u64 (IntKind.wrap .i64 (r0.2.1 - (1:Int)))))) then
              bif x5 then
                (some (4:Int))
              else
                (some (5:Int))
            else
              none
  else
    bif x2 then
      (some (1:Int))
    else
      ((F_format_Top a0)).bind fun r7 =>
      bif (decide (r1.2.1 < r7)) then
        (some (2:Int))
      else
        bif x4 then
          (some (3:Int))
        else
          bif (decide ((0:Int) ≤ (IntKind.wrap .u64 (IntKind.wrap .i64 (r0.2.1 - (1:Int)))))) then
            bif x5 then
              (some (4:Int))
            else
              (some (5:Int))
          else
            none
noncomputable def G_format_Class : T fa_format_Class → TH ha_format_Class → Option (Int) := fun x y => F_format_Class x.1 x.2.1
noncomputable def c_format_Class : Orc := ent i_format_Class [] 0 (sp fa_format_Class ha_format_Class fr_format_Class hr_format_Class G_format_Class out_format_Class)
theorem ok_format_Class : OrcOk PR c_format_Class := fnT okO_format_Class mixed p_format_Class (by kernel_rfl) (by kernel_rfl) (L := L_format_Class) (kp := false) (by kernel_rfl) (inn := inn_format_Class) (out := out_format_Class) (fun _ _ => rfl) (loopsL (l := []) (by kernel_rfl) trivial) (fun x y => by kernel_rfl)
noncomputable def O_format_IsNan : Orc := c_format_Class
theorem okO_format_IsNan : OrcOk PR O_format_IsNan := ok_format_Class
abbrev fa_format_IsNan : Fm := (.pair (.i .i64) (.pair (.i .u32) .unit))
abbrev ha_format_IsNan : List BF := []
abbrev fr_format_IsNan : Fm := .b
abbrev hr_format_IsNan : List BF := []
noncomputable def L_format_IsNan : Lps := L0
def inn_format_IsNan : T fr_format_IsNan → TH hr_format_IsNan → Bool := (fun z w => z)
def out_format_IsNan : Bool → T fr_format_IsNan × TH hr_format_IsNan := fun r => (r, ())
noncomputable def F_format_IsNan (a0 : Int) (a1 : Int) : Option (Bool) :=
  ((F_format_Class a0 a1)).bind fun r0 =>
  (some (decide (r0 ≥ (4:Int))))
noncomputable def G_format_IsNan : T fa_format_IsNan → TH ha_format_IsNan → Option (Bool) := fun x y => F_format_IsNan x.1 x.2.1
noncomputable def c_format_IsNan : Orc := ent i_format_IsNan [] 0 (sp fa_format_IsNan ha_format_IsNan fr_format_IsNan hr_format_IsNan G_format_IsNan out_format_IsNan)
theorem ok_format_IsNan : OrcOk PR c_format_IsNan := fnT okO_format_IsNan mixed p_format_IsNan (by kernel_rfl) (by kernel_rfl) (L := L_format_IsNan) (kp := false) (by kernel_rfl) (inn := inn_format_IsNan) (out := out_format_IsNan) (fun _ _ => rfl) (loopsL (l := []) (by kernel_rfl) trivial) (fun x y => by kernel_rfl)
noncomputable def O_format_Mask : Orc := c_format_Widths
theorem okO_format_Mask : OrcOk PR O_format_Mask := ok_format_Widths
abbrev fa_format_Mask : Fm := (.pair (.i .i64) .unit)
abbrev ha_format_Mask : List BF := []
abbrev fr_format_Mask : Fm := (.i .u32)
abbrev hr_format_Mask : List BF := []
noncomputable def L_format_Mask : Lps := L0
def inn_format_Mask : T fr_format_Mask → TH hr_format_Mask → Int := (fun z w => z)
def out_format_Mask : Int → T fr_format_Mask × TH hr_format_Mask := fun r => (r, ())
noncomputable def F_format_Mask (a0 : Int) : Option (Int) :=
  ((F_format_Widths a0)).bind fun r0 =>
  bif (decide ((0:Int) ≤ (IntKind.wrap .u64 (IntKind.wrap .i64 ((IntKind.wrap .i64 (r0.1 + r0.2.1)) + (1:Int)))))) then
    (some (IntKind.wrap .u32 ((IntKind.wrap .u32 ((1:Int) * ((2:Int) ^ (Min.min (Int.toNat (IntKind.wrap .u64 (IntKind.wrap .i64 ((IntKind.wrap .i64 (r0.1 + r0.2.1)) + (1:Int))))) (32:Nat))))) - (1:Int))))
  else
    none
noncomputable def G_format_Mask : T fa_format_Mask → TH ha_format_Mask → Option (Int) := fun x y => F_format_Mask x.1
noncomputable def c_format_Mask : Orc := ent i_format_Mask [] 0 (sp fa_format_Mask ha_format_Mask fr_format_Mask hr_format_Mask G_format_Mask out_format_Mask)
theorem ok_format_Mask : OrcOk PR c_format_Mask := fnT okO_format_Mask mixed p_format_Mask (by kernel_rfl) (by kernel_rfl) (L := L_format_Mask) (kp := false) (by kernel_rfl) (inn := inn_format_Mask) (out := out_format_Mask) (fun _ _ => rfl) (loopsL (l := []) (by kernel_rfl) trivial) (fun x y => by kernel_rfl)
noncomputable def O_format_Neg : Orc := c_format_Parts
theorem okO_format_Neg : OrcOk PR O_format_Neg := ok_format_Parts
abbrev fa_format_Neg : Fm := (.pair (.i .i64) (.pair (.i .u32) .unit))
abbrev ha_format_Neg : List BF := []
abbrev fr_format_Neg : Fm := .b
abbrev hr_format_Neg : List BF := []
noncomputable def L_format_Neg : Lps := L0
def inn_format_Neg : T fr_format_Neg → TH hr_format_Neg → Bool := (fun z w => z)
def out_format_Neg : Bool → T fr_format_Neg × TH hr_format_Neg := fun r => (r, ())
noncomputable def F_format_Neg (a0 : Int) (a1 : Int) : Option (Bool) :=
  ((F_format_Parts a0 a1)).bind fun r0 =>
  (some r0.1)
noncomputable def G_format_Neg : T fa_format_Neg → TH ha_format_Neg → Option (Bool) := fun x y => F_format_Neg x.1 x.2.1
noncomputable def c_format_Neg : Orc := ent i_format_Neg [] 0 (sp fa_format_Neg ha_format_Neg fr_format_Neg hr_format_Neg G_format_Neg out_format_Neg)
theorem ok_format_Neg : OrcOk PR c_format_Neg := fnT okO_format_Neg mixed p_format_Neg (by kernel_rfl) (by kernel_rfl) (L := L_format_Neg) (kp := false) (by kernel_rfl) (inn := inn_format_Neg) (out := out_format_Neg) (fun _ _ => rfl) (loopsL (l := []) (by kernel_rfl) trivial) (fun x y => by kernel_rfl)
noncomputable def O_format_Turn : Orc := (orm c_format_Widths c_format_Mask)
theorem okO_format_Turn : OrcOk PR O_format_Turn := (orm_ok ok_format_Widths ok_format_Mask)
abbrev fa_format_Turn : Fm := (.pair (.i .i64) (.pair (.i .u32) .unit))
abbrev ha_format_Turn : List BF := []
abbrev fr_format_Turn : Fm := (.i .u32)
abbrev hr_format_Turn : List BF := []
noncomputable def L_format_Turn : Lps := L0
def inn_format_Turn : T fr_format_Turn → TH hr_format_Turn → Int := (fun z w => z)
def out_format_Turn : Int → T fr_format_Turn × TH hr_format_Turn := fun r => (r, ())
noncomputable def F_format_Turn (a0 : Int) (a1 : Int) : Option (Int) :=
  ((F_format_Widths a0)).bind fun r0 =>
  ((F_format_Mask a0)).bind fun r1 =>
  bif (decide ((0:Int) ≤ (IntKind.wrap .u64 (IntKind.wrap .i64 (r0.1 + r0.2.1))))) then
    (some (bits .xor .u32 (bits .and .u32 a1 r1) (IntKind.wrap .u32 ((1:Int) * ((2:Int) ^ (Min.min (Int.toNat (IntKind.wrap .u64 (IntKind.wrap .i64 (r0.1 + r0.2.1)))) (32:Nat)))))))
  else
    none
noncomputable def G_format_Turn : T fa_format_Turn → TH ha_format_Turn → Option (Int) := fun x y => F_format_Turn x.1 x.2.1
noncomputable def c_format_Turn : Orc := ent i_format_Turn [] 0 (sp fa_format_Turn ha_format_Turn fr_format_Turn hr_format_Turn G_format_Turn out_format_Turn)
theorem ok_format_Turn : OrcOk PR c_format_Turn := fnT okO_format_Turn mixed p_format_Turn (by kernel_rfl) (by kernel_rfl) (L := L_format_Turn) (kp := false) (by kernel_rfl) (inn := inn_format_Turn) (out := out_format_Turn) (fun _ _ => rfl) (loopsL (l := []) (by kernel_rfl) trivial) (fun x y => by kernel_rfl)
noncomputable def O_order_Key : Orc := (orm c_format_Mask (orm c_format_Neg c_format_Turn))
theorem okO_order_Key : OrcOk PR O_order_Key := (orm_ok ok_format_Mask (orm_ok ok_format_Neg ok_format_Turn))
abbrev fa_order_Key : Fm := (.pair (.i .i64) (.pair (.i .u32) .unit))
abbrev ha_order_Key : List BF := []
abbrev fr_order_Key : Fm := (.i .i64)
abbrev hr_order_Key : List BF := []
noncomputable def L_order_Key : Lps := L0
def inn_order_Key : T fr_order_Key → TH hr_order_Key → Int := (fun z w => z)
def out_order_Key : Int → T fr_order_Key × TH hr_order_Key := fun r => (r, ())
noncomputable def F_order_Key (a0 : Int) (a1 : Int) : Option (Int) :=
  ((F_format_Mask a0)).bind fun r0 =>
  ((F_format_Neg a0 a1)).bind fun r1 =>
  bif (!r1) then
    (some (IntKind.wrap .i64 (bits .and .u32 a1 r0)))
  else
    ((F_format_Turn a0 a1)).bind fun r2 =>
    (some (IntKind.wrap .i64 ((-(1:Int)) - (IntKind.wrap .i64 r2))))
noncomputable def G_order_Key : T fa_order_Key → TH ha_order_Key → Option (Int) := fun x y => F_order_Key x.1 x.2.1
noncomputable def c_order_Key : Orc := ent i_order_Key [] 0 (sp fa_order_Key ha_order_Key fr_order_Key hr_order_Key G_order_Key out_order_Key)
theorem ok_order_Key : OrcOk PR c_order_Key := fnT okO_order_Key mixed p_order_Key (by kernel_rfl) (by kernel_rfl) (L := L_order_Key) (kp := false) (by kernel_rfl) (inn := inn_order_Key) (out := out_order_Key) (fun _ _ => rfl) (loopsL (l := []) (by kernel_rfl) trivial) (fun x y => by kernel_rfl)
noncomputable def O_format_IsZero : Orc := c_format_Class
theorem okO_format_IsZero : OrcOk PR O_format_IsZero := ok_format_Class
abbrev fa_format_IsZero : Fm := (.pair (.i .i64) (.pair (.i .u32) .unit))
abbrev ha_format_IsZero : List BF := []
abbrev fr_format_IsZero : Fm := .b
abbrev hr_format_IsZero : List BF := []
noncomputable def L_format_IsZero : Lps := L0
def inn_format_IsZero : T fr_format_IsZero → TH hr_format_IsZero → Bool := (fun z w => z)
def out_format_IsZero : Bool → T fr_format_IsZero × TH hr_format_IsZero := fun r => (r, ())
noncomputable def F_format_IsZero (a0 : Int) (a1 : Int) : Option (Bool) :=
  ((F_format_Class a0 a1)).bind fun r0 =>
  (some (r0 == (0:Int)))
noncomputable def G_format_IsZero : T fa_format_IsZero → TH ha_format_IsZero → Option (Bool) := fun x y => F_format_IsZero x.1 x.2.1
noncomputable def c_format_IsZero : Orc := ent i_format_IsZero [] 0 (sp fa_format_IsZero ha_format_IsZero fr_format_IsZero hr_format_IsZero G_format_IsZero out_format_IsZero)
theorem ok_format_IsZero : OrcOk PR c_format_IsZero := fnT okO_format_IsZero mixed p_format_IsZero (by kernel_rfl) (by kernel_rfl) (L := L_format_IsZero) (kp := false) (by kernel_rfl) (inn := inn_format_IsZero) (out := out_format_IsZero) (fun _ _ => rfl) (loopsL (l := []) (by kernel_rfl) trivial) (fun x y => by kernel_rfl)
noncomputable def O_order_Compare : Orc := (orm c_format_IsNan (orm c_order_Key c_format_IsZero))
theorem okO_order_Compare : OrcOk PR O_order_Compare := (orm_ok ok_format_IsNan (orm_ok ok_order_Key ok_format_IsZero))
abbrev fa_order_Compare : Fm := (.pair (.i .i64) (.pair (.i .u32) (.pair (.i .u32) .unit)))
abbrev ha_order_Compare : List BF := []
abbrev fr_order_Compare : Fm := (.tup (.pair (.i .i64) (.pair .b .unit)))
abbrev hr_order_Compare : List BF := []
noncomputable def L_order_Compare : Lps := L0
def inn_order_Compare : T fr_order_Compare → TH hr_order_Compare → Int × Bool × Unit := (fun z w => z)
def out_order_Compare : Int × Bool × Unit → T fr_order_Compare × TH hr_order_Compare := fun r => (r, ())
noncomputable def F_order_Compare (a0 : Int) (a1 : Int) (a2 : Int) : Option (Int × Bool × Unit) :=
  ((F_format_IsNan a0 a1)).bind fun r0 =>
  bif r0 then
    (some ((0:Int), (false, ())))
  else
    ((F_format_IsNan a0 a2)).bind fun r1 =>
    bif r1 then
      (some ((0:Int), (false, ())))
    else
      ((F_order_Key a0 a1)).bind fun r2 =>
      ((F_order_Key a0 a2)).bind fun r3 =>
      ((F_format_IsZero a0 a1)).bind fun r4 =>
      bif r4 then
        ((F_format_IsZero a0 a2)).bind fun r5 =>
        bif r5 then
          (some ((0:Int), (true, ())))
        else
          bif (decide (r2 < r3)) then
            (some ((-(1:Int)), (true, ())))
          else
            bif (decide (r2 > r3)) then
              (some ((1:Int), (true, ())))
            else
              (some ((0:Int), (true, ())))
      else
        bif (decide (r2 < r3)) then
          (some ((-(1:Int)), (true, ())))
        else
          bif (decide (r2 > r3)) then
            (some ((1:Int), (true, ())))
          else
            (some ((0:Int), (true, ())))
noncomputable def G_order_Compare : T fa_order_Compare → TH ha_order_Compare → Option (Int × Bool × Unit) := fun x y => F_order_Compare x.1 x.2.1 x.2.2.1
noncomputable def c_order_Compare : Orc := ent i_order_Compare [] 0 (sp fa_order_Compare ha_order_Compare fr_order_Compare hr_order_Compare G_order_Compare out_order_Compare)
theorem ok_order_Compare : OrcOk PR c_order_Compare := fnT okO_order_Compare mixed p_order_Compare (by kernel_rfl) (by kernel_rfl) (L := L_order_Compare) (kp := false) (by kernel_rfl) (inn := inn_order_Compare) (out := out_order_Compare) (fun _ _ => rfl) (loopsL (l := []) (by kernel_rfl) trivial) (fun x y => by kernel_rfl)
noncomputable def O_order_Less : Orc := c_order_Compare
theorem okO_order_Less : OrcOk PR O_order_Less := ok_order_Compare
abbrev fa_order_Less : Fm := (.pair (.i .i64) (.pair (.i .u32) (.pair (.i .u32) .unit)))
abbrev ha_order_Less : List BF := []
abbrev fr_order_Less : Fm := .b
abbrev hr_order_Less : List BF := []
noncomputable def L_order_Less : Lps := L0
def inn_order_Less : T fr_order_Less → TH hr_order_Less → Bool := (fun z w => z)
def out_order_Less : Bool → T fr_order_Less × TH hr_order_Less := fun r => (r, ())
noncomputable def F_order_Less (a0 : Int) (a1 : Int) (a2 : Int) : Option (Bool) :=
  ((F_order_Compare a0 a1 a2)).bind fun r0 =>
  (some (decide (r0.1 < (0:Int))))
noncomputable def G_order_Less : T fa_order_Less → TH ha_order_Less → Option (Bool) := fun x y => F_order_Less x.1 x.2.1 x.2.2.1
noncomputable def c_order_Less : Orc := ent i_order_Less [] 0 (sp fa_order_Less ha_order_Less fr_order_Less hr_order_Less G_order_Less out_order_Less)
theorem ok_order_Less : OrcOk PR c_order_Less := fnT okO_order_Less mixed p_order_Less (by kernel_rfl) (by kernel_rfl) (L := L_order_Less) (kp := false) (by kernel_rfl) (inn := inn_order_Less) (out := out_order_Less) (fun _ _ => rfl) (loopsL (l := []) (by kernel_rfl) trivial) (fun x y => by kernel_rfl)
noncomputable def O_format_Join : Orc := c_format_Widths
theorem okO_format_Join : OrcOk PR O_format_Join := ok_format_Widths
abbrev fa_format_Join : Fm := (.pair (.i .i64) (.pair .b (.pair (.i .i64) (.pair (.i .u32) .unit))))
abbrev ha_format_Join : List BF := []
abbrev fr_format_Join : Fm := (.i .u32)
abbrev hr_format_Join : List BF := []
noncomputable def L_format_Join : Lps := L0
def inn_format_Join : T fr_format_Join → TH hr_format_Join → Int := (fun z w => z)
def out_format_Join : Int → T fr_format_Join × TH hr_format_Join := fun r => (r, ())
noncomputable def F_format_Join (a0 : Int) (a1 : Bool) (a2 : Int) (a3 : Int) : Option (Int) :=
  ((F_format_Widths a0)).bind fun r0 =>
  let x1 : Int := (bits .or .u32 (IntKind.wrap .u32 ((IntKind.wrap .u32 a2) * ((2:Int) ^ (Min.min (Int.toNat (IntKind.wrap .u64 r0.2.1)) (32:Nat))))) a3)
  bif (decide ((0:Int) ≤ (IntKind.wrap .u64 r0.2.1))) then
    bif a1 then
      bif (decide ((0:Int) ≤ (IntKind.wrap .u64 (IntKind.wrap .i64 (r0.1 + r0.2.1))))) then
        (some (bits .or .u32 x1 (IntKind.wrap .u32 ((1:Int) * ((2:Int) ^ (Min.min (Int.toNat (IntKind.wrap .u64 (IntKind.wrap .i64 (r0.1 + r0.2.1)))) (32:Nat)))))))
      else
        none
    else
      (some x1)
  else
    none
noncomputable def G_format_Join : T fa_format_Join → TH ha_format_Join → Option (Int) := fun x y => F_format_Join x.1 x.2.1 x.2.2.1 x.2.2.2.1
noncomputable def c_format_Join : Orc := ent i_format_Join [] 0 (sp fa_format_Join ha_format_Join fr_format_Join hr_format_Join G_format_Join out_format_Join)
theorem ok_format_Join : OrcOk PR c_format_Join := fnT okO_format_Join mixed p_format_Join (by kernel_rfl) (by kernel_rfl) (L := L_format_Join) (kp := false) (by kernel_rfl) (inn := inn_format_Join) (out := out_format_Join) (fun _ _ => rfl) (loopsL (l := []) (by kernel_rfl) trivial) (fun x y => by kernel_rfl)
noncomputable def O_format_Nan : Orc := (orm c_format_Widths (orm c_format_Top c_format_Join))
theorem okO_format_Nan : OrcOk PR O_format_Nan := (orm_ok ok_format_Widths (orm_ok ok_format_Top ok_format_Join))
abbrev fa_format_Nan : Fm := (.pair (.i .i64) .unit)
abbrev ha_format_Nan : List BF := []
abbrev fr_format_Nan : Fm := (.i .u32)
abbrev hr_format_Nan : List BF := []
noncomputable def L_format_Nan : Lps := L0
def inn_format_Nan : T fr_format_Nan → TH hr_format_Nan → Int := (fun z w => z)
def out_format_Nan : Int → T fr_format_Nan × TH hr_format_Nan := fun r => (r, ())
noncomputable def F_format_Nan (a0 : Int) : Option (Int) :=
  ((F_format_Widths a0)).bind fun r0 =>
  ((F_format_Top a0)).bind fun r1 =>
  bif (decide ((0:Int) ≤ (IntKind.wrap .u64 (IntKind.wrap .i64 (r0.2.1 - (1:Int)))))) then
    ((F_format_Join a0 false r1 (IntKind.wrap .u32 ((1:Int) * ((2:Int) ^ (Min.min (Int.toNat (IntKind.wrap .u64 (IntKind.wrap .i64 (r0.2.1 - (1:Int))))) (32:Nat))))))).bind fun r2 =>
    (some r2)
  else
    none
noncomputable def G_format_Nan : T fa_format_Nan → TH ha_format_Nan → Option (Int) := fun x y => F_format_Nan x.1
noncomputable def c_format_Nan : Orc := ent i_format_Nan [] 0 (sp fa_format_Nan ha_format_Nan fr_format_Nan hr_format_Nan G_format_Nan out_format_Nan)
theorem ok_format_Nan : OrcOk PR c_format_Nan := fnT okO_format_Nan mixed p_format_Nan (by kernel_rfl) (by kernel_rfl) (L := L_format_Nan) (kp := false) (by kernel_rfl) (inn := inn_format_Nan) (out := out_format_Nan) (fun _ _ => rfl) (loopsL (l := []) (by kernel_rfl) trivial) (fun x y => by kernel_rfl)
noncomputable def O_annealref1_Widths : Orc := orn
theorem okO_annealref1_Widths : OrcOk PR O_annealref1_Widths := (orn_ok _)
abbrev fa_annealref1_Widths : Fm := (.pair (.i .i64) .unit)
abbrev ha_annealref1_Widths : List BF := []
abbrev fr_annealref1_Widths : Fm := (.tup (.pair (.i .i64) (.pair (.i .i64) .unit)))
abbrev hr_annealref1_Widths : List BF := []
noncomputable def L_annealref1_Widths : Lps := L0
def inn_annealref1_Widths : T fr_annealref1_Widths → TH hr_annealref1_Widths → Int × Int × Unit := (fun z w => z)
def out_annealref1_Widths : Int × Int × Unit → T fr_annealref1_Widths × TH hr_annealref1_Widths := fun r => (r, ())
noncomputable def F_annealref1_Widths (a0 : Int) : Option (Int × Int × Unit) :=
  bif (a0 == (0:Int)) then
    (some ((5:Int), ((10:Int), ())))
  else
    bif (a0 == (1:Int)) then
      (some ((8:Int), ((7:Int), ())))
    else
      (some ((8:Int), ((23:Int), ())))
noncomputable def G_annealref1_Widths : T fa_annealref1_Widths → TH ha_annealref1_Widths → Option (Int × Int × Unit) := fun x y => F_annealref1_Widths x.1
noncomputable def c_annealref1_Widths : Orc := ent i_annealref1_Widths [] 0 (sp fa_annealref1_Widths ha_annealref1_Widths fr_annealref1_Widths hr_annealref1_Widths G_annealref1_Widths out_annealref1_Widths)
theorem ok_annealref1_Widths : OrcOk PR c_annealref1_Widths := fnT okO_annealref1_Widths mixed p_annealref1_Widths (by kernel_rfl) (by kernel_rfl) (L := L_annealref1_Widths) (kp := false) (by kernel_rfl) (inn := inn_annealref1_Widths) (out := out_annealref1_Widths) (fun _ _ => rfl) (loopsL (l := []) (by kernel_rfl) trivial) (fun x y => by kernel_rfl)
noncomputable def O_annealref1_Mask : Orc := c_annealref1_Widths
theorem okO_annealref1_Mask : OrcOk PR O_annealref1_Mask := ok_annealref1_Widths
abbrev fa_annealref1_Mask : Fm := (.pair (.i .i64) .unit)
abbrev ha_annealref1_Mask : List BF := []
abbrev fr_annealref1_Mask : Fm := (.i .u32)
abbrev hr_annealref1_Mask : List BF := []
noncomputable def L_annealref1_Mask : Lps := L0
def inn_annealref1_Mask : T fr_annealref1_Mask → TH hr_annealref1_Mask → Int := (fun z w => z)
def out_annealref1_Mask : Int → T fr_annealref1_Mask × TH hr_annealref1_Mask := fun r => (r, ())
noncomputable def F_annealref1_Mask (a0 : Int) : Option (Int) :=
  ((F_annealref1_Widths a0)).bind fun r0 =>
  bif (decide ((0:Int) ≤ (IntKind.wrap .i64 ((IntKind.wrap .i64 ((1:Int) + r0.1)) + r0.2.1)))) then
    (some (IntKind.wrap .u32 (IntKind.wrap .u64 ((IntKind.wrap .u64 ((1:Int) * ((2:Int) ^ (Min.min (Int.toNat (IntKind.wrap .i64 ((IntKind.wrap .i64 ((1:Int) + r0.1)) + r0.2.1))) (64:Nat))))) - (1:Int)))))
  else
    none
noncomputable def G_annealref1_Mask : T fa_annealref1_Mask → TH ha_annealref1_Mask → Option (Int) := fun x y => F_annealref1_Mask x.1
noncomputable def c_annealref1_Mask : Orc := ent i_annealref1_Mask [] 0 (sp fa_annealref1_Mask ha_annealref1_Mask fr_annealref1_Mask hr_annealref1_Mask G_annealref1_Mask out_annealref1_Mask)
theorem ok_annealref1_Mask : OrcOk PR c_annealref1_Mask := fnT okO_annealref1_Mask mixed p_annealref1_Mask (by kernel_rfl) (by kernel_rfl) (L := L_annealref1_Mask) (kp := false) (by kernel_rfl) (inn := inn_annealref1_Mask) (out := out_annealref1_Mask) (fun _ _ => rfl) (loopsL (l := []) (by kernel_rfl) trivial) (fun x y => by kernel_rfl)
noncomputable def O_annealref1_sign : Orc := c_annealref1_Widths
theorem okO_annealref1_sign : OrcOk PR O_annealref1_sign := ok_annealref1_Widths
abbrev fa_annealref1_sign : Fm := (.pair (.i .i64) (.pair .b .unit))
abbrev ha_annealref1_sign : List BF := []
abbrev fr_annealref1_sign : Fm := (.i .u32)
abbrev hr_annealref1_sign : List BF := []
noncomputable def L_annealref1_sign : Lps := L0
def inn_annealref1_sign : T fr_annealref1_sign → TH hr_annealref1_sign → Int := (fun z w => z)
def out_annealref1_sign : Int → T fr_annealref1_sign × TH hr_annealref1_sign := fun r => (r, ())
noncomputable def F_annealref1_sign (a0 : Int) (a1 : Bool) : Option (Int) :=
  ((F_annealref1_Widths a0)).bind fun r0 =>
  bif a1 then
    bif (decide ((0:Int) ≤ (IntKind.wrap .i64 (r0.1 + r0.2.1)))) then
      (some (IntKind.wrap .u32 ((1:Int) * ((2:Int) ^ (Min.min (Int.toNat (IntKind.wrap .i64 (r0.1 + r0.2.1))) (32:Nat))))))
    else
      none
  else
    (some (0:Int))
noncomputable def G_annealref1_sign : T fa_annealref1_sign → TH ha_annealref1_sign → Option (Int) := fun x y => F_annealref1_sign x.1 x.2.1
noncomputable def c_annealref1_sign : Orc := ent i_annealref1_sign [] 0 (sp fa_annealref1_sign ha_annealref1_sign fr_annealref1_sign hr_annealref1_sign G_annealref1_sign out_annealref1_sign)
theorem ok_annealref1_sign : OrcOk PR c_annealref1_sign := fnT okO_annealref1_sign mixed p_annealref1_sign (by kernel_rfl) (by kernel_rfl) (L := L_annealref1_sign) (kp := false) (by kernel_rfl) (inn := inn_annealref1_sign) (out := out_annealref1_sign) (fun _ _ => rfl) (loopsL (l := []) (by kernel_rfl) trivial) (fun x y => by kernel_rfl)
noncomputable def O_annealref1_parts : Orc := (orm c_annealref1_Widths c_annealref1_Mask)
theorem okO_annealref1_parts : OrcOk PR O_annealref1_parts := (orm_ok ok_annealref1_Widths ok_annealref1_Mask)
abbrev fa_annealref1_parts : Fm := (.pair (.i .i64) (.pair (.i .u32) .unit))
abbrev ha_annealref1_parts : List BF := []
abbrev fr_annealref1_parts : Fm := (.tup (.pair .b (.pair (.i .i64) (.pair (.i .u64) .unit))))
abbrev hr_annealref1_parts : List BF := []
noncomputable def L_annealref1_parts : Lps := L0
def inn_annealref1_parts : T fr_annealref1_parts → TH hr_annealref1_parts → Bool × Int × Int × Unit := (fun z w => z)
def out_annealref1_parts : Bool × Int × Int × Unit → T fr_annealref1_parts × TH hr_annealref1_parts := fun r => (r, ())
noncomputable def F_annealref1_parts (a0 : Int) (a1 : Int) : Option (Bool × Int × Int × Unit) :=
  ((F_annealref1_Widths a0)).bind fun r0 =>
  let x1 : Int := ((2:Int) ^ (Min.min (Int.toNat r0.2.1) (32:Nat)))
  ((F_annealref1_Mask a0)).bind fun r2 =>
  let x3 : Int := (bits .and .u32 a1 r2)
  bif (decide ((0:Int) ≤ (IntKind.wrap .i64 (r0.1 + r0.2.1)))) then
    bif (decide ((0:Int) ≤ r0.2.1)) then
      bif (decide ((0:Int) ≤ r0.1)) then
        bif (decide ((0:Int) ≤ r0.2.1)) then
          (some (((x3 / ((2:Int) ^ (Min.min (Int.toNat (IntKind.wrap .i64 (r0.1 + r0.2.1))) (32:Nat)))) == (1:Int)), ((IntKind.wrap .i64 (bits .and .u32 (x3 / x1) (IntKind.wrap .u32 ((IntKind.wrap .u32 ((1:Int) * ((2:Int) ^ (Min.min (Int.toNat r0.1) (32:Nat))))) - (1:Int))))), ((IntKind.wrap .u64 (bits .and .u32 x3 (IntKind.wrap .u32 ((IntKind.wrap .u32 ((1:Int) * x1)) - (1:Int))))), ()))))
        else
          none
      else
        none
    else
      none
  else
    none
noncomputable def G_annealref1_parts : T fa_annealref1_parts → TH ha_annealref1_parts → Option (Bool × Int × Int × Unit) := fun x y => F_annealref1_parts x.1 x.2.1
noncomputable def c_annealref1_parts : Orc := ent i_annealref1_parts [] 0 (sp fa_annealref1_parts ha_annealref1_parts fr_annealref1_parts hr_annealref1_parts G_annealref1_parts out_annealref1_parts)
theorem ok_annealref1_parts : OrcOk PR c_annealref1_parts := fnT okO_annealref1_parts mixed p_annealref1_parts (by kernel_rfl) (by kernel_rfl) (L := L_annealref1_parts) (kp := false) (by kernel_rfl) (inn := inn_annealref1_parts) (out := out_annealref1_parts) (fun _ _ => rfl) (loopsL (l := []) (by kernel_rfl) trivial) (fun x y => by kernel_rfl)
noncomputable def O_annealref1_neg : Orc := c_annealref1_parts
theorem okO_annealref1_neg : OrcOk PR O_annealref1_neg := ok_annealref1_parts
abbrev fa_annealref1_neg : Fm := (.pair (.i .i64) (.pair (.i .u32) .unit))
abbrev ha_annealref1_neg : List BF := []
abbrev fr_annealref1_neg : Fm := .b
abbrev hr_annealref1_neg : List BF := []
noncomputable def L_annealref1_neg : Lps := L0
def inn_annealref1_neg : T fr_annealref1_neg → TH hr_annealref1_neg → Bool := (fun z w => z)
def out_annealref1_neg : Bool → T fr_annealref1_neg × TH hr_annealref1_neg := fun r => (r, ())
noncomputable def F_annealref1_neg (a0 : Int) (a1 : Int) : Option (Bool) :=
  ((F_annealref1_parts a0 a1)).bind fun r0 =>
  (some r0.1)
noncomputable def G_annealref1_neg : T fa_annealref1_neg → TH ha_annealref1_neg → Option (Bool) := fun x y => F_annealref1_neg x.1 x.2.1
noncomputable def c_annealref1_neg : Orc := ent i_annealref1_neg [] 0 (sp fa_annealref1_neg ha_annealref1_neg fr_annealref1_neg hr_annealref1_neg G_annealref1_neg out_annealref1_neg)
theorem ok_annealref1_neg : OrcOk PR c_annealref1_neg := fnT okO_annealref1_neg mixed p_annealref1_neg (by kernel_rfl) (by kernel_rfl) (L := L_annealref1_neg) (kp := false) (by kernel_rfl) (inn := inn_annealref1_neg) (out := out_annealref1_neg) (fun _ _ => rfl) (loopsL (l := []) (by kernel_rfl) trivial) (fun x y => by kernel_rfl)
noncomputable def O_annealref1_Key : Orc := (orm c_annealref1_Mask (orm c_annealref1_sign c_annealref1_neg))
theorem okO_annealref1_Key : OrcOk PR O_annealref1_Key := (orm_ok ok_annealref1_Mask (orm_ok ok_annealref1_sign ok_annealref1_neg))
abbrev fa_annealref1_Key : Fm := (.pair (.i .i64) (.pair (.i .u32) .unit))
abbrev ha_annealref1_Key : List BF := []
abbrev fr_annealref1_Key : Fm := (.i .i64)
abbrev hr_annealref1_Key : List BF := []
noncomputable def L_annealref1_Key : Lps := L0
def inn_annealref1_Key : T fr_annealref1_Key → TH hr_annealref1_Key → Int := (fun z w => z)
def out_annealref1_Key : Int → T fr_annealref1_Key × TH hr_annealref1_Key := fun r => (r, ())
noncomputable def F_annealref1_Key (a0 : Int) (a1 : Int) : Option (Int) :=
  ((F_annealref1_Mask a0)).bind fun r0 =>
  ((F_annealref1_sign a0 true)).bind fun r1 =>
  let x2 : Int := (IntKind.wrap .i64 (bits .andNot .u32 (bits .and .u32 a1 r0) r1))
  ((F_annealref1_neg a0 a1)).bind fun r3 =>
  bif r3 then
    (some (IntKind.wrap .i64 ((-(1:Int)) - x2)))
  else
    (some x2)
noncomputable def G_annealref1_Key : T fa_annealref1_Key → TH ha_annealref1_Key → Option (Int) := fun x y => F_annealref1_Key x.1 x.2.1
noncomputable def c_annealref1_Key : Orc := ent i_annealref1_Key [] 0 (sp fa_annealref1_Key ha_annealref1_Key fr_annealref1_Key hr_annealref1_Key G_annealref1_Key out_annealref1_Key)
theorem ok_annealref1_Key : OrcOk PR c_annealref1_Key := fnT okO_annealref1_Key mixed p_annealref1_Key (by kernel_rfl) (by kernel_rfl) (L := L_annealref1_Key) (kp := false) (by kernel_rfl) (inn := inn_annealref1_Key) (out := out_annealref1_Key) (fun _ _ => rfl) (loopsL (l := []) (by kernel_rfl) trivial) (fun x y => by kernel_rfl)
noncomputable def O_annealref1_Class : Orc := (orm c_annealref1_Widths c_annealref1_parts)
theorem okO_annealref1_Class : OrcOk PR O_annealref1_Class := (orm_ok ok_annealref1_Widths ok_annealref1_parts)
abbrev fa_annealref1_Class : Fm := (.pair (.i .i64) (.pair (.i .u32) .unit))
abbrev ha_annealref1_Class : List BF := []
abbrev fr_annealref1_Class : Fm := (.i .i64)
abbrev hr_annealref1_Class : List BF := []
noncomputable def L_annealref1_Class : Lps := L0
def inn_annealref1_Class : T fr_annealref1_Class → TH hr_annealref1_Class → Int := (fun z w => z)
def out_annealref1_Class : Int → T fr_annealref1_Class × TH hr_annealref1_Class := fun r => (r, ())
noncomputable def F_annealref1_Class (a0 : Int) (a1 : Int) : Option (Int) :=
  ((F_annealref1_Widths a0)).bind fun r0 =>
  ((F_annealref1_parts a0 a1)).bind fun r1 =>
  let x2 : Bool := (r1.2.1 == (0:Int))
  let x3 : Int := r1.2.2.1
  let x4 : Bool := (x3 == (0:Int))
  let x5 : Bool := ((x3 / ((2:Int) ^ (Min.min (Int.toNat (IntKind.wrap .i64 (r0.2.1 - (1:Int)))) (64:Nat)))) == (1:Int))
  bif x2 then
    bif x4 then
      (some (0:Int))
    else
      bif x2 then
        (some (1:Int))
      else
        bif (decide ((0:Int) ≤ r0.1)) then
          bif (decide (r1.2.1 < (IntKind.wrap .i64 ((IntKind.wrap .i64 ((1:Int) * ((2:Int) ^ (Min.min (Int.toNat r0.1) (64:Nat))))) - (1:Int))))) then
            (some (2:Int))
          else
            bif x4 then
              (some (3:Int))
            else
              bif (decide ((0:Int) ≤ (IntKind.wrap .i64 (r0.2.1 - (1:Int))))) then
                bif x5 then
                  (some (4:Int))
                else
                  (some (5:Int))
              else
                none
        else
          none
  else
    bif x2 then
      (some (1:Int))
    else
      bif (decide ((0:Int) ≤ r0.1)) then
        bif (decide (r1.2.1 < (IntKind.wrap .i64 ((IntKind.wrap .i64 ((1:Int) * ((2:Int) ^ (Min.min (Int.toNat r0.1) (64:Nat))))) - (1:Int))))) then
          (some (2:Int))
        else
          bif x4 then
            (some (3:Int))
          else
            bif (decide ((0:Int) ≤ (IntKind.wrap .i64 (r0.2.1 - (1:Int))))) then
              bif x5 then
                (some (4:Int))
              else
                (some (5:Int))
            else
              none
      else
        none
noncomputable def G_annealref1_Class : T fa_annealref1_Class → TH ha_annealref1_Class → Option (Int) := fun x y => F_annealref1_Class x.1 x.2.1
noncomputable def c_annealref1_Class : Orc := ent i_annealref1_Class [] 0 (sp fa_annealref1_Class ha_annealref1_Class fr_annealref1_Class hr_annealref1_Class G_annealref1_Class out_annealref1_Class)
theorem ok_annealref1_Class : OrcOk PR c_annealref1_Class := fnT okO_annealref1_Class mixed p_annealref1_Class (by kernel_rfl) (by kernel_rfl) (L := L_annealref1_Class) (kp := false) (by kernel_rfl) (inn := inn_annealref1_Class) (out := out_annealref1_Class) (fun _ _ => rfl) (loopsL (l := []) (by kernel_rfl) trivial) (fun x y => by kernel_rfl)
noncomputable def O_annealref1_nans : Orc := c_annealref1_Class
theorem okO_annealref1_nans : OrcOk PR O_annealref1_nans := ok_annealref1_Class
abbrev fa_annealref1_nans : Fm := (.pair (.i .i64) (.pair (.si .u32) .unit))
abbrev ha_annealref1_nans : List BF := []
abbrev fr_annealref1_nans : Fm := (.tup (.pair .b (.pair .b .unit)))
abbrev hr_annealref1_nans : List BF := []
abbrev ff_annealref1_nans_0 : Fm := (.pair (.i .i64) (.pair (.si .u32) (.us 4 (.pair .b (.pair .b (.pair (.i .i64) (.us 29 .unit)))))))
abbrev hf_annealref1_nans_0 : List BF := []
abbrev X_annealref1_nans_0 : Xs := (.one (.exit 0) [6, 7] (.us 6 (.pair .b (.pair .b (.us 30 .unit)))) [])
abbrev S_annealref1_nans_0 : Type := T ff_annealref1_nans_0 × TH hf_annealref1_nans_0
abbrev E_annealref1_nans_0 : Type := TX X_annealref1_nans_0
noncomputable def LB_annealref1_nans_0 : Lps := L0
noncomputable def st_annealref1_nans_0 : StepT S_annealref1_nans_0 E_annealref1_nans_0 := fun R v kn ko =>
  let x0 : Int := v.1.1
  let x1 : List Int := v.1.2.1
  let x2 : Int := v.1.2.2.2.2.1
  let x3 : Bool := v.1.2.2.1
  let x4 : Bool := v.1.2.2.2.1
  let x5 : List Int := (List.take (List.length x1) x1)
  bif (decide (x2 < (((List.length x1) : Nat) : Int))) then
    bif (decide (((0:Int) ≤ x2) ∧ (x2 < (((List.length x1) : Nat) : Int)))) then
      ((F_annealref1_Class x0 (List.getD x1 (Int.toNat x2) (0:Int)))).bind fun r6 =>
      bif x3 then
        bif x4 then
          (kn ((x0, (x5, (true, (true, ((IntKind.wrap .i64 (x2 + (1:Int))), ()))))), ()))
        else
          (kn ((x0, (x5, (true, ((r6 == (5:Int)), ((IntKind.wrap .i64 (x2 + (1:Int))), ()))))), ()))
      else
        bif (r6 == (4:Int)) then
          bif x4 then
            (kn ((x0, (x5, (true, (true, ((IntKind.wrap .i64 (x2 + (1:Int))), ()))))), ()))
          else
            (kn ((x0, (x5, (true, ((r6 == (5:Int)), ((IntKind.wrap .i64 (x2 + (1:Int))), ()))))), ()))
        else
          bif x4 then
            (kn ((x0, (x5, ((r6 == (5:Int)), (true, ((IntKind.wrap .i64 (x2 + (1:Int))), ()))))), ()))
          else
            (kn ((x0, (x5, ((r6 == (5:Int)), ((r6 == (5:Int)), ((IntKind.wrap .i64 (x2 + (1:Int))), ()))))), ()))
    else
      none
  else
    (ko ((x3, (x4, ())), ()))
noncomputable def ls_annealref1_nans_0 : St → LTr := (lsum ff_annealref1_nans_0 hf_annealref1_nans_0 X_annealref1_nans_0 Prod.mk id st_annealref1_nans_0 (hd [] [] [0, 1, 6, 7, 8] 0))
theorem lp_annealref1_nans_0 : LoopOk PR 0 (lpN f_annealref1_nans 0) ls_annealref1_nans_0 := loopT okO_annealref1_nans mixed (L := LB_annealref1_nans_0) (d := 1) (bs := []) (ks := [0, 1, 6, 7, 8]) (loopsL (l := []) (by kernel_rfl) trivial) (by kernel_rfl) (inS := Prod.mk) (outS := id) (fun _ _ => rfl) (inX := id) (outX := id) (fun _ => rfl) (fun v R kn ko => by kernel_rfl) (hd_wk [] [] [0, 1, 6, 7, 8] 0)
noncomputable def L_annealref1_nans : Lps := (lpB 4 (.by_ ls_annealref1_nans_0) L0)
def inn_annealref1_nans : T fr_annealref1_nans → TH hr_annealref1_nans → Bool × Bool × Unit := (fun z w => z)
def out_annealref1_nans : Bool × Bool × Unit → T fr_annealref1_nans × TH hr_annealref1_nans := fun r => (r, ())
noncomputable def F_annealref1_nans (a0 : Int) (a1 : List Int) : Option (Bool × Bool × Unit) :=
  ((lim st_annealref1_nans_0 ((a0, ((List.take (List.length a1) a1), (false, (false, ((0:Int), ()))))), ()))).bind fun r0 =>
  (some r0.1)
noncomputable def G_annealref1_nans : T fa_annealref1_nans → TH ha_annealref1_nans → Option (Bool × Bool × Unit) := fun x y => F_annealref1_nans x.1 x.2.1
noncomputable def c_annealref1_nans : Orc := ent i_annealref1_nans [] 0 (sp fa_annealref1_nans ha_annealref1_nans fr_annealref1_nans hr_annealref1_nans G_annealref1_nans out_annealref1_nans)
theorem ok_annealref1_nans : OrcOk PR c_annealref1_nans := fnT okO_annealref1_nans mixed p_annealref1_nans (by kernel_rfl) (by kernel_rfl) (L := L_annealref1_nans) (kp := false) (by kernel_rfl) (inn := inn_annealref1_nans) (out := out_annealref1_nans) (fun _ _ => rfl) (loopsL (l := [((lpN f_annealref1_nans 0), ls_annealref1_nans_0)]) (by kernel_rfl) ⟨lp_annealref1_nans_0, trivial⟩) (fun x y => by kernel_rfl)
noncomputable def O_annealref1_zero : Orc := c_annealref1_Class
theorem okO_annealref1_zero : OrcOk PR O_annealref1_zero := ok_annealref1_Class
abbrev fa_annealref1_zero : Fm := (.pair (.i .i64) (.pair (.i .u32) .unit))
abbrev ha_annealref1_zero : List BF := []
abbrev fr_annealref1_zero : Fm := .b
abbrev hr_annealref1_zero : List BF := []
noncomputable def L_annealref1_zero : Lps := L0
def inn_annealref1_zero : T fr_annealref1_zero → TH hr_annealref1_zero → Bool := (fun z w => z)
def out_annealref1_zero : Bool → T fr_annealref1_zero × TH hr_annealref1_zero := fun r => (r, ())
noncomputable def F_annealref1_zero (a0 : Int) (a1 : Int) : Option (Bool) :=
  ((F_annealref1_Class a0 a1)).bind fun r0 =>
  (some (r0 == (0:Int)))
noncomputable def G_annealref1_zero : T fa_annealref1_zero → TH ha_annealref1_zero → Option (Bool) := fun x y => F_annealref1_zero x.1 x.2.1
noncomputable def c_annealref1_zero : Orc := ent i_annealref1_zero [] 0 (sp fa_annealref1_zero ha_annealref1_zero fr_annealref1_zero hr_annealref1_zero G_annealref1_zero out_annealref1_zero)
theorem ok_annealref1_zero : OrcOk PR c_annealref1_zero := fnT okO_annealref1_zero mixed p_annealref1_zero (by kernel_rfl) (by kernel_rfl) (L := L_annealref1_zero) (kp := false) (by kernel_rfl) (inn := inn_annealref1_zero) (out := out_annealref1_zero) (fun _ _ => rfl) (loopsL (l := []) (by kernel_rfl) trivial) (fun x y => by kernel_rfl)
noncomputable def O_annealref1_Compare : Orc := (orm c_annealref1_nans (orm c_annealref1_zero c_annealref1_Key))
theorem okO_annealref1_Compare : OrcOk PR O_annealref1_Compare := (orm_ok ok_annealref1_nans (orm_ok ok_annealref1_zero ok_annealref1_Key))
abbrev fa_annealref1_Compare : Fm := (.pair (.i .i64) (.pair (.i .u32) (.pair (.i .u32) .unit)))
abbrev ha_annealref1_Compare : List BF := []
abbrev fr_annealref1_Compare : Fm := (.tup (.pair (.i .i64) (.pair .b .unit)))
abbrev hr_annealref1_Compare : List BF := []
noncomputable def L_annealref1_Compare : Lps := L0
def inn_annealref1_Compare : T fr_annealref1_Compare → TH hr_annealref1_Compare → Int × Bool × Unit := (fun z w => z)
def out_annealref1_Compare : Int × Bool × Unit → T fr_annealref1_Compare × TH hr_annealref1_Compare := fun r => (r, ())
noncomputable def F_annealref1_Compare (a0 : Int) (a1 : Int) (a2 : Int) : Option (Int × Bool × Unit) :=
  ((F_annealref1_nans a0 [a1, a2])).bind fun r0 =>
  bif r0.1 then
    (some ((0:Int), (false, ())))
  else
    ((F_annealref1_zero a0 a1)).bind fun r1 =>
    bif r1 then
      ((F_annealref1_zero a0 a2)).bind fun r2 =>
      bif r2 then
        (some ((0:Int), (true, ())))
      else
        ((F_annealref1_Key a0 a1)).bind fun r3 =>
        ((F_annealref1_Key a0 a2)).bind fun r4 =>
        bif (decide (r3 < r4)) then
          (some ((-(1:Int)), (true, ())))
        else
          bif (decide (r3 > r4)) then
            (some ((1:Int), (true, ())))
          else
            (some ((0:Int), (true, ())))
    else
      ((F_annealref1_Key a0 a1)).bind fun r5 =>
      ((F_annealref1_Key a0 a2)).bind fun r6 =>
      bif (decide (r5 < r6)) then
        (some ((-(1:Int)), (true, ())))
      else
        bif (decide (r5 > r6)) then
          (some ((1:Int), (true, ())))
        else
          (some ((0:Int), (true, ())))
noncomputable def G_annealref1_Compare : T fa_annealref1_Compare → TH ha_annealref1_Compare → Option (Int × Bool × Unit) := fun x y => F_annealref1_Compare x.1 x.2.1 x.2.2.1
noncomputable def c_annealref1_Compare : Orc := ent i_annealref1_Compare [] 0 (sp fa_annealref1_Compare ha_annealref1_Compare fr_annealref1_Compare hr_annealref1_Compare G_annealref1_Compare out_annealref1_Compare)
theorem ok_annealref1_Compare : OrcOk PR c_annealref1_Compare := fnT okO_annealref1_Compare mixed p_annealref1_Compare (by kernel_rfl) (by kernel_rfl) (L := L_annealref1_Compare) (kp := false) (by kernel_rfl) (inn := inn_annealref1_Compare) (out := out_annealref1_Compare) (fun _ _ => rfl) (loopsL (l := []) (by kernel_rfl) trivial) (fun x y => by kernel_rfl)
noncomputable def O_annealref1_Less : Orc := c_annealref1_Compare
theorem okO_annealref1_Less : OrcOk PR O_annealref1_Less := ok_annealref1_Compare
abbrev fa_annealref1_Less : Fm := (.pair (.i .i64) (.pair (.i .u32) (.pair (.i .u32) .unit)))
abbrev ha_annealref1_Less : List BF := []
abbrev fr_annealref1_Less : Fm := .b
abbrev hr_annealref1_Less : List BF := []
noncomputable def L_annealref1_Less : Lps := L0
def inn_annealref1_Less : T fr_annealref1_Less → TH hr_annealref1_Less → Bool := (fun z w => z)
def out_annealref1_Less : Bool → T fr_annealref1_Less × TH hr_annealref1_Less := fun r => (r, ())
noncomputable def F_annealref1_Less (a0 : Int) (a1 : Int) (a2 : Int) : Option (Bool) :=
  ((F_annealref1_Compare a0 a1 a2)).bind fun r0 =>
  bif r0.2.1 then
    (some (decide (r0.1 < (0:Int))))
  else
    (some false)
noncomputable def G_annealref1_Less : T fa_annealref1_Less → TH ha_annealref1_Less → Option (Bool) := fun x y => F_annealref1_Less x.1 x.2.1 x.2.2.1
noncomputable def c_annealref1_Less : Orc := ent i_annealref1_Less [] 0 (sp fa_annealref1_Less ha_annealref1_Less fr_annealref1_Less hr_annealref1_Less G_annealref1_Less out_annealref1_Less)
theorem ok_annealref1_Less : OrcOk PR c_annealref1_Less := fnT okO_annealref1_Less mixed p_annealref1_Less (by kernel_rfl) (by kernel_rfl) (L := L_annealref1_Less) (kp := false) (by kernel_rfl) (inn := inn_annealref1_Less) (out := out_annealref1_Less) (fun _ _ => rfl) (loopsL (l := []) (by kernel_rfl) trivial) (fun x y => by kernel_rfl)
noncomputable def O_annealref1_Inf : Orc := (orm c_annealref1_Widths c_annealref1_sign)
theorem okO_annealref1_Inf : OrcOk PR O_annealref1_Inf := (orm_ok ok_annealref1_Widths ok_annealref1_sign)
abbrev fa_annealref1_Inf : Fm := (.pair (.i .i64) (.pair .b .unit))
abbrev ha_annealref1_Inf : List BF := []
abbrev fr_annealref1_Inf : Fm := (.i .u32)
abbrev hr_annealref1_Inf : List BF := []
noncomputable def L_annealref1_Inf : Lps := L0
def inn_annealref1_Inf : T fr_annealref1_Inf → TH hr_annealref1_Inf → Int := (fun z w => z)
def out_annealref1_Inf : Int → T fr_annealref1_Inf × TH hr_annealref1_Inf := fun r => (r, ())
noncomputable def F_annealref1_Inf (a0 : Int) (a1 : Bool) : Option (Int) :=
  ((F_annealref1_Widths a0)).bind fun r0 =>
  ((F_annealref1_sign a0 a1)).bind fun r1 =>
  bif (decide ((0:Int) ≤ r0.1)) then
    bif (decide ((0:Int) ≤ r0.2.1)) then
      (some (bits .or .u32 r1 (IntKind.wrap .u32 ((IntKind.wrap .u32 ((IntKind.wrap .u32 ((1:Int) * ((2:Int) ^ (Min.min (Int.toNat r0.1) (32:Nat))))) - (1:Int))) * ((2:Int) ^ (Min.min (Int.toNat r0.2.1) (32:Nat)))))))
    else
      none
  else
    none
noncomputable def G_annealref1_Inf : T fa_annealref1_Inf → TH ha_annealref1_Inf → Option (Int) := fun x y => F_annealref1_Inf x.1 x.2.1
noncomputable def c_annealref1_Inf : Orc := ent i_annealref1_Inf [] 0 (sp fa_annealref1_Inf ha_annealref1_Inf fr_annealref1_Inf hr_annealref1_Inf G_annealref1_Inf out_annealref1_Inf)
theorem ok_annealref1_Inf : OrcOk PR c_annealref1_Inf := fnT okO_annealref1_Inf mixed p_annealref1_Inf (by kernel_rfl) (by kernel_rfl) (L := L_annealref1_Inf) (kp := false) (by kernel_rfl) (inn := inn_annealref1_Inf) (out := out_annealref1_Inf) (fun _ _ => rfl) (loopsL (l := []) (by kernel_rfl) trivial) (fun x y => by kernel_rfl)
noncomputable def O_annealref1_Nan : Orc := (orm c_annealref1_Widths c_annealref1_Inf)
theorem okO_annealref1_Nan : OrcOk PR O_annealref1_Nan := (orm_ok ok_annealref1_Widths ok_annealref1_Inf)
abbrev fa_annealref1_Nan : Fm := (.pair (.i .i64) .unit)
abbrev ha_annealref1_Nan : List BF := []
abbrev fr_annealref1_Nan : Fm := (.i .u32)
abbrev hr_annealref1_Nan : List BF := []
noncomputable def L_annealref1_Nan : Lps := L0
def inn_annealref1_Nan : T fr_annealref1_Nan → TH hr_annealref1_Nan → Int := (fun z w => z)
def out_annealref1_Nan : Int → T fr_annealref1_Nan × TH hr_annealref1_Nan := fun r => (r, ())
noncomputable def F_annealref1_Nan (a0 : Int) : Option (Int) :=
  ((F_annealref1_Widths a0)).bind fun r0 =>
  ((F_annealref1_Inf a0 false)).bind fun r1 =>
  bif (decide ((0:Int) ≤ (IntKind.wrap .i64 (r0.2.1 - (1:Int))))) then
    (some (bits .or .u32 r1 (IntKind.wrap .u32 ((1:Int) * ((2:Int) ^ (Min.min (Int.toNat (IntKind.wrap .i64 (r0.2.1 - (1:Int)))) (32:Nat)))))))
  else
    none
noncomputable def G_annealref1_Nan : T fa_annealref1_Nan → TH ha_annealref1_Nan → Option (Int) := fun x y => F_annealref1_Nan x.1
noncomputable def c_annealref1_Nan : Orc := ent i_annealref1_Nan [] 0 (sp fa_annealref1_Nan ha_annealref1_Nan fr_annealref1_Nan hr_annealref1_Nan G_annealref1_Nan out_annealref1_Nan)
theorem ok_annealref1_Nan : OrcOk PR c_annealref1_Nan := fnT okO_annealref1_Nan mixed p_annealref1_Nan (by kernel_rfl) (by kernel_rfl) (L := L_annealref1_Nan) (kp := false) (by kernel_rfl) (inn := inn_annealref1_Nan) (out := out_annealref1_Nan) (fun _ _ => rfl) (loopsL (l := []) (by kernel_rfl) trivial) (fun x y => by kernel_rfl)
noncomputable def O_annealref1_Zero : Orc := c_annealref1_sign
theorem okO_annealref1_Zero : OrcOk PR O_annealref1_Zero := ok_annealref1_sign
abbrev fa_annealref1_Zero : Fm := (.pair (.i .i64) (.pair .b .unit))
abbrev ha_annealref1_Zero : List BF := []
abbrev fr_annealref1_Zero : Fm := (.i .u32)
abbrev hr_annealref1_Zero : List BF := []
noncomputable def L_annealref1_Zero : Lps := L0
def inn_annealref1_Zero : T fr_annealref1_Zero → TH hr_annealref1_Zero → Int := (fun z w => z)
def out_annealref1_Zero : Int → T fr_annealref1_Zero × TH hr_annealref1_Zero := fun r => (r, ())
noncomputable def F_annealref1_Zero (a0 : Int) (a1 : Bool) : Option (Int) :=
  ((F_annealref1_sign a0 a1)).bind fun r0 =>
  (some r0)
noncomputable def G_annealref1_Zero : T fa_annealref1_Zero → TH ha_annealref1_Zero → Option (Int) := fun x y => F_annealref1_Zero x.1 x.2.1
noncomputable def c_annealref1_Zero : Orc := ent i_annealref1_Zero [] 0 (sp fa_annealref1_Zero ha_annealref1_Zero fr_annealref1_Zero hr_annealref1_Zero G_annealref1_Zero out_annealref1_Zero)
theorem ok_annealref1_Zero : OrcOk PR c_annealref1_Zero := fnT okO_annealref1_Zero mixed p_annealref1_Zero (by kernel_rfl) (by kernel_rfl) (L := L_annealref1_Zero) (kp := false) (by kernel_rfl) (inn := inn_annealref1_Zero) (out := out_annealref1_Zero) (fun _ _ => rfl) (loopsL (l := []) (by kernel_rfl) trivial) (fun x y => by kernel_rfl)
noncomputable def O_annealseat_Num : Orc := (orm c_annealref1_Widths (orm c_annealref1_Mask c_annealref1_Zero))
theorem okO_annealseat_Num : OrcOk PR O_annealseat_Num := (orm_ok ok_annealref1_Widths (orm_ok ok_annealref1_Mask ok_annealref1_Zero))
abbrev fa_annealseat_Num : Fm := (.pair (.i .i64) (.pair (.i .u32) .unit))
abbrev ha_annealseat_Num : List BF := []
abbrev fr_annealseat_Num : Fm := (.i .u32)
abbrev hr_annealseat_Num : List BF := []
noncomputable def L_annealseat_Num : Lps := L0
def inn_annealseat_Num : T fr_annealseat_Num → TH hr_annealseat_Num → Int := (fun z w => z)
def out_annealseat_Num : Int → T fr_annealseat_Num × TH hr_annealseat_Num := fun r => (r, ())
noncomputable def F_annealseat_Num (a0 : Int) (a1 : Int) : Option (Int) :=
  ((F_annealref1_Widths a0)).bind fun r0 =>
  let x1 : Int := ((2:Int) ^ (Min.min (Int.toNat r0.2.1) (32:Nat)))
  let x2 : Int := (IntKind.wrap .u32 ((3:Int) * x1))
  let x3 : Int := (IntKind.wrap .u32 ((9:Int) * x1))
  let x4 : Int := (IntKind.wrap .u32 ((1:Int) * x1))
  let x5 : Int := (IntKind.wrap .u32 ((IntKind.wrap .u32 ((1:Int) * ((2:Int) ^ (Min.min (Int.toNat r0.1) (32:Nat))))) - (1:Int)))
  let x6 : Int := (IntKind.wrap .u32 ((x5 / (2:Int)) * x1))
  let x7 : Int := (IntKind.wrap .u32 (x5 * x1))
  bif (decide ((0:Int) ≤ r0.1)) then
    bif (decide ((0:Int) ≤ r0.2.1)) then
      bif (decide ((0:Int) ≤ r0.2.1)) then
        bif (decide ((0:Int) ≤ r0.2.1)) then
          bif (decide ((0:Int) ≤ r0.2.1)) then
            bif (decide ((0:Int) ≤ r0.2.1)) then
              bif (x2 == (0:Int)) then
                none
              else
                bif (decide ((0:Int) ≤ r0.2.1)) then
                  bif (decide ((0:Int) ≤ r0.2.1)) then
                    bif (decide ((0:Int) ≤ r0.2.1)) then
                      bif (decide ((0:Int) ≤ r0.2.1)) then
                        bif (decide ((0:Int) ≤ (IntKind.wrap .i64 (r0.2.1 - (1:Int))))) then
                          bif (decide ((0:Int) ≤ r0.2.1)) then
                            bif (x3 == (0:Int)) then
                              none
                            else
                              bif (decide (((0:Int) ≤ (Int.tmod a1 (15:Int))) ∧ ((Int.tmod a1 (15:Int)) < (15:Int)))) then
                                bif (decide (((0:Nat) + ((Int.toNat (Int.tmod a1 (15:Int))) * (1:Nat))) < (15:Nat))) then
                                  ((F_annealref1_Mask a0)).bind fun r8 =>
                                  let x9 : Int := (bits .and .u32 (List.getD [(0:Int), (1:Int), (IntKind.wrap .u32 (x4 - (1:Int))), x4, x6, (IntKind.wrap .u32 (x6 + (1:Int))), (IntKind.wrap .u32 (x6 - (1:Int))), (IntKind.wrap .u32 (x6 + x4)), (IntKind.wrap .u32 (x6 + (Int.tmod (a1 / (16:Int)) x2))), (IntKind.wrap .u32 (x7 - (1:Int))), x7, (bits .or .u32 x7 (1:Int)), (bits .or .u32 x7 (IntKind.wrap .u32 ((1:Int) * ((2:Int) ^ (Min.min (Int.toNat (IntKind.wrap .i64 (r0.2.1 - (1:Int)))) (32:Nat)))))), (IntKind.wrap .u32 (x6 - (Int.tmod (a1 / (16:Int)) x3))), (a1 / (16:Int))] ((0:Nat) + ((Int.toNat (Int.tmod a1 (15:Int))) * (1:Nat))) (0:Int)) r8)
                                  bif ((a1 / (2147483648:Int)) == (1:Int)) then
                                    ((F_annealref1_Zero a0 true)).bind fun r10 =>
                                    (some (bits .or .u32 x9 r10))
                                  else
                                    (some x9)
                                else
                                  none
                              else
                                none
                          else
                            none
                        else
                          none
                      else
                        none
                    else
                      none
                  else
                    none
                else
                  none
            else
              none
          else
            none
        else
          none
      else
        none
    else
      none
  else
    none
noncomputable def G_annealseat_Num : T fa_annealseat_Num → TH ha_annealseat_Num → Option (Int) := fun x y => F_annealseat_Num x.1 x.2.1
noncomputable def c_annealseat_Num : Orc := ent i_annealseat_Num [] 0 (sp fa_annealseat_Num ha_annealseat_Num fr_annealseat_Num hr_annealseat_Num G_annealseat_Num out_annealseat_Num)
theorem ok_annealseat_Num : OrcOk PR c_annealseat_Num := fnT okO_annealseat_Num mixed p_annealseat_Num (by kernel_rfl) (by kernel_rfl) (L := L_annealseat_Num) (kp := false) (by kernel_rfl) (inn := inn_annealseat_Num) (out := out_annealseat_Num) (fun _ _ => rfl) (loopsL (l := []) (by kernel_rfl) trivial) (fun x y => by kernel_rfl)
noncomputable def O_annealref1_inf : Orc := c_annealref1_Class
theorem okO_annealref1_inf : OrcOk PR O_annealref1_inf := ok_annealref1_Class
abbrev fa_annealref1_inf : Fm := (.pair (.i .i64) (.pair (.i .u32) .unit))
abbrev ha_annealref1_inf : List BF := []
abbrev fr_annealref1_inf : Fm := .b
abbrev hr_annealref1_inf : List BF := []
noncomputable def L_annealref1_inf : Lps := L0
def inn_annealref1_inf : T fr_annealref1_inf → TH hr_annealref1_inf → Bool := (fun z w => z)
def out_annealref1_inf : Bool → T fr_annealref1_inf × TH hr_annealref1_inf := fun r => (r, ())
noncomputable def F_annealref1_inf (a0 : Int) (a1 : Int) : Option (Bool) :=
  ((F_annealref1_Class a0 a1)).bind fun r0 =>
  (some (r0 == (3:Int)))
noncomputable def G_annealref1_inf : T fa_annealref1_inf → TH ha_annealref1_inf → Option (Bool) := fun x y => F_annealref1_inf x.1 x.2.1
noncomputable def c_annealref1_inf : Orc := ent i_annealref1_inf [] 0 (sp fa_annealref1_inf ha_annealref1_inf fr_annealref1_inf hr_annealref1_inf G_annealref1_inf out_annealref1_inf)
theorem ok_annealref1_inf : OrcOk PR c_annealref1_inf := fnT okO_annealref1_inf mixed p_annealref1_inf (by kernel_rfl) (by kernel_rfl) (L := L_annealref1_inf) (kp := false) (by kernel_rfl) (inn := inn_annealref1_inf) (out := out_annealref1_inf) (fun _ _ => rfl) (loopsL (l := []) (by kernel_rfl) trivial) (fun x y => by kernel_rfl)
noncomputable def O_annealref1_bias : Orc := c_annealref1_Widths
theorem okO_annealref1_bias : OrcOk PR O_annealref1_bias := ok_annealref1_Widths
abbrev fa_annealref1_bias : Fm := (.pair (.i .i64) .unit)
abbrev ha_annealref1_bias : List BF := []
abbrev fr_annealref1_bias : Fm := (.i .i64)
abbrev hr_annealref1_bias : List BF := []
noncomputable def L_annealref1_bias : Lps := L0
def inn_annealref1_bias : T fr_annealref1_bias → TH hr_annealref1_bias → Int := (fun z w => z)
def out_annealref1_bias : Int → T fr_annealref1_bias × TH hr_annealref1_bias := fun r => (r, ())
noncomputable def F_annealref1_bias (a0 : Int) : Option (Int) :=
  ((F_annealref1_Widths a0)).bind fun r0 =>
  bif (decide ((0:Int) ≤ (IntKind.wrap .i64 (r0.1 - (1:Int))))) then
    (some (IntKind.wrap .i64 ((IntKind.wrap .i64 ((1:Int) * ((2:Int) ^ (Min.min (Int.toNat (IntKind.wrap .i64 (r0.1 - (1:Int)))) (64:Nat))))) - (1:Int))))
  else
    none
noncomputable def G_annealref1_bias : T fa_annealref1_bias → TH ha_annealref1_bias → Option (Int) := fun x y => F_annealref1_bias x.1
noncomputable def c_annealref1_bias : Orc := ent i_annealref1_bias [] 0 (sp fa_annealref1_bias ha_annealref1_bias fr_annealref1_bias hr_annealref1_bias G_annealref1_bias out_annealref1_bias)
theorem ok_annealref1_bias : OrcOk PR c_annealref1_bias := fnT okO_annealref1_bias mixed p_annealref1_bias (by kernel_rfl) (by kernel_rfl) (L := L_annealref1_bias) (kp := false) (by kernel_rfl) (inn := inn_annealref1_bias) (out := out_annealref1_bias) (fun _ _ => rfl) (loopsL (l := []) (by kernel_rfl) trivial) (fun x y => by kernel_rfl)
noncomputable def O_annealref1_Unpack : Orc := (orm c_annealref1_Widths (orm c_annealref1_parts (orm c_annealref1_Class c_annealref1_bias)))
theorem okO_annealref1_Unpack : OrcOk PR O_annealref1_Unpack := (orm_ok ok_annealref1_Widths (orm_ok ok_annealref1_parts (orm_ok ok_annealref1_Class ok_annealref1_bias)))
abbrev fa_annealref1_Unpack : Fm := (.pair (.i .i64) (.pair (.i .u32) .unit))
abbrev ha_annealref1_Unpack : List BF := []
abbrev fr_annealref1_Unpack : Fm := (.tup (.pair .b (.pair (.i .i64) (.pair (.i .u64) .unit))))
abbrev hr_annealref1_Unpack : List BF := []
noncomputable def L_annealref1_Unpack : Lps := L0
def inn_annealref1_Unpack : T fr_annealref1_Unpack → TH hr_annealref1_Unpack → Bool × Int × Int × Unit := (fun z w => z)
def out_annealref1_Unpack : Bool × Int × Int × Unit → T fr_annealref1_Unpack × TH hr_annealref1_Unpack := fun r => (r, ())
noncomputable def F_annealref1_Unpack (a0 : Int) (a1 : Int) : Option (Bool × Int × Int × Unit) :=
  ((F_annealref1_Widths a0)).bind fun r0 =>
  ((F_annealref1_parts a0 a1)).bind fun r1 =>
  let x2 : Int := r1.2.2.1
  ((F_annealref1_Class a0 a1)).bind fun r3 =>
  bif (r3 == (2:Int)) then
    ((F_annealref1_bias a0)).bind fun r4 =>
    bif (decide ((0:Int) ≤ r0.2.1)) then
      (some (r1.1, ((IntKind.wrap .i64 ((IntKind.wrap .i64 (r1.2.1 - r4)) - r0.2.1)), ((bits .or .u64 x2 (IntKind.wrap .u64 ((1:Int) * ((2:Int) ^ (Min.min (Int.toNat r0.2.1) (64:Nat)))))), ()))))
    else
      none
  else
    bif (bif (r3 == (0:Int)) then (r3 == (0:Int)) else (r3 == (1:Int))) then
      ((F_annealref1_bias a0)).bind fun r5 =>
      (some (r1.1, ((IntKind.wrap .i64 ((IntKind.wrap .i64 ((1:Int) - r5)) - r0.2.1)), r1.2.2)))
    else
      (some (r1.1, ((0:Int), ((0:Int), ()))))
noncomputable def G_annealref1_Unpack : T fa_annealref1_Unpack → TH ha_annealref1_Unpack → Option (Bool × Int × Int × Unit) := fun x y => F_annealref1_Unpack x.1 x.2.1
noncomputable def c_annealref1_Unpack : Orc := ent i_annealref1_Unpack [] 0 (sp fa_annealref1_Unpack ha_annealref1_Unpack fr_annealref1_Unpack hr_annealref1_Unpack G_annealref1_Unpack out_annealref1_Unpack)
theorem ok_annealref1_Unpack : OrcOk PR c_annealref1_Unpack := fnT okO_annealref1_Unpack mixed p_annealref1_Unpack (by kernel_rfl) (by kernel_rfl) (L := L_annealref1_Unpack) (kp := false) (by kernel_rfl) (inn := inn_annealref1_Unpack) (out := out_annealref1_Unpack) (fun _ _ => rfl) (loopsL (l := []) (by kernel_rfl) trivial) (fun x y => by kernel_rfl)
noncomputable def O_annealref1_Greatest : Orc := c_annealref1_Inf
theorem okO_annealref1_Greatest : OrcOk PR O_annealref1_Greatest := ok_annealref1_Inf
abbrev fa_annealref1_Greatest : Fm := (.pair (.i .i64) (.pair .b .unit))
abbrev ha_annealref1_Greatest : List BF := []
abbrev fr_annealref1_Greatest : Fm := (.i .u32)
abbrev hr_annealref1_Greatest : List BF := []
noncomputable def L_annealref1_Greatest : Lps := L0
def inn_annealref1_Greatest : T fr_annealref1_Greatest → TH hr_annealref1_Greatest → Int := (fun z w => z)
def out_annealref1_Greatest : Int → T fr_annealref1_Greatest × TH hr_annealref1_Greatest := fun r => (r, ())
noncomputable def F_annealref1_Greatest (a0 : Int) (a1 : Bool) : Option (Int) :=
  ((F_annealref1_Inf a0 a1)).bind fun r0 =>
  (some (IntKind.wrap .u32 (r0 - (1:Int))))
noncomputable def G_annealref1_Greatest : T fa_annealref1_Greatest → TH ha_annealref1_Greatest → Option (Int) := fun x y => F_annealref1_Greatest x.1 x.2.1
noncomputable def c_annealref1_Greatest : Orc := ent i_annealref1_Greatest [] 0 (sp fa_annealref1_Greatest ha_annealref1_Greatest fr_annealref1_Greatest hr_annealref1_Greatest G_annealref1_Greatest out_annealref1_Greatest)
theorem ok_annealref1_Greatest : OrcOk PR c_annealref1_Greatest := fnT okO_annealref1_Greatest mixed p_annealref1_Greatest (by kernel_rfl) (by kernel_rfl) (L := L_annealref1_Greatest) (kp := false) (by kernel_rfl) (inn := inn_annealref1_Greatest) (out := out_annealref1_Greatest) (fun _ _ => rfl) (loopsL (l := []) (by kernel_rfl) trivial) (fun x y => by kernel_rfl)
noncomputable def O_annealref1_over : Orc := (orm c_annealref1_Greatest c_annealref1_Inf)
theorem okO_annealref1_over : OrcOk PR O_annealref1_over := (orm_ok ok_annealref1_Greatest ok_annealref1_Inf)
abbrev fa_annealref1_over : Fm := (.pair (.i .i64) (.pair (.i .i64) (.pair .b .unit)))
abbrev ha_annealref1_over : List BF := []
abbrev fr_annealref1_over : Fm := (.i .u32)
abbrev hr_annealref1_over : List BF := []
noncomputable def L_annealref1_over : Lps := L0
def inn_annealref1_over : T fr_annealref1_over → TH hr_annealref1_over → Int := (fun z w => z)
def out_annealref1_over : Int → T fr_annealref1_over × TH hr_annealref1_over := fun r => (r, ())
noncomputable def F_annealref1_over (a0 : Int) (a1 : Int) (a2 : Bool) : Option (Int) :=
  bif (a1 == (1:Int)) then
    ((F_annealref1_Greatest a0 a2)).bind fun r0 =>
    (some r0)
  else
    bif (a1 == (2:Int)) then
      bif a2 then
        ((F_annealref1_Greatest a0 a2)).bind fun r1 =>
        (some r1)
      else
        bif (a1 == (3:Int)) then
          bif (!a2) then
            ((F_annealref1_Greatest a0 a2)).bind fun r2 =>
            (some r2)
          else
            ((F_annealref1_Inf a0 a2)).bind fun r3 =>
            (some r3)
        else
          ((F_annealref1_Inf a0 a2)).bind fun r4 =>
          (some r4)
    else
      bif (a1 == (3:Int)) then
        bif (!a2) then
          ((F_annealref1_Greatest a0 a2)).bind fun r5 =>
          (some r5)
        else
          ((F_annealref1_Inf a0 a2)).bind fun r6 =>
          (some r6)
      else
        ((F_annealref1_Inf a0 a2)).bind fun r7 =>
        (some r7)
noncomputable def G_annealref1_over : T fa_annealref1_over → TH ha_annealref1_over → Option (Int) := fun x y => F_annealref1_over x.1 x.2.1 x.2.2.1
noncomputable def c_annealref1_over : Orc := ent i_annealref1_over [] 0 (sp fa_annealref1_over ha_annealref1_over fr_annealref1_over hr_annealref1_over G_annealref1_over out_annealref1_over)
theorem ok_annealref1_over : OrcOk PR c_annealref1_over := fnT okO_annealref1_over mixed p_annealref1_over (by kernel_rfl) (by kernel_rfl) (L := L_annealref1_over) (kp := false) (by kernel_rfl) (inn := inn_annealref1_over) (out := out_annealref1_over) (fun _ _ => rfl) (loopsL (l := []) (by kernel_rfl) trivial) (fun x y => by kernel_rfl)
noncomputable def O_annealref1_Minus : Orc := (orm c_annealref1_nans (orm c_annealref1_Mask c_annealref1_sign))
theorem okO_annealref1_Minus : OrcOk PR O_annealref1_Minus := (orm_ok ok_annealref1_nans (orm_ok ok_annealref1_Mask ok_annealref1_sign))
abbrev fa_annealref1_Minus : Fm := (.pair (.i .i64) (.pair (.i .u32) .unit))
abbrev ha_annealref1_Minus : List BF := []
abbrev fr_annealref1_Minus : Fm := (.i .u32)
abbrev hr_annealref1_Minus : List BF := []
noncomputable def L_annealref1_Minus : Lps := L0
def inn_annealref1_Minus : T fr_annealref1_Minus → TH hr_annealref1_Minus → Int := (fun z w => z)
def out_annealref1_Minus : Int → T fr_annealref1_Minus × TH hr_annealref1_Minus := fun r => (r, ())
noncomputable def F_annealref1_Minus (a0 : Int) (a1 : Int) : Option (Int) :=
  ((F_annealref1_nans a0 [a1])).bind fun r0 =>
  bif r0.1 then
    ((F_annealref1_Mask a0)).bind fun r1 =>
    (some (bits .and .u32 a1 r1))
  else
    ((F_annealref1_sign a0 true)).bind fun r2 =>
    ((F_annealref1_Mask a0)).bind fun r3 =>
    (some (bits .and .u32 (bits .xor .u32 a1 r2) r3))
noncomputable def G_annealref1_Minus : T fa_annealref1_Minus → TH ha_annealref1_Minus → Option (Int) := fun x y => F_annealref1_Minus x.1 x.2.1
noncomputable def c_annealref1_Minus : Orc := ent i_annealref1_Minus [] 0 (sp fa_annealref1_Minus ha_annealref1_Minus fr_annealref1_Minus hr_annealref1_Minus G_annealref1_Minus out_annealref1_Minus)
theorem ok_annealref1_Minus : OrcOk PR c_annealref1_Minus := fnT okO_annealref1_Minus mixed p_annealref1_Minus (by kernel_rfl) (by kernel_rfl) (L := L_annealref1_Minus) (kp := false) (by kernel_rfl) (inn := inn_annealref1_Minus) (out := out_annealref1_Minus) (fun _ _ => rfl) (loopsL (l := []) (by kernel_rfl) trivial) (fun x y => by kernel_rfl)
noncomputable def O_format_Greatest : Orc := (orm c_format_Widths (orm c_format_Top c_format_Join))
theorem okO_format_Greatest : OrcOk PR O_format_Greatest := (orm_ok ok_format_Widths (orm_ok ok_format_Top ok_format_Join))
abbrev fa_format_Greatest : Fm := (.pair (.i .i64) (.pair .b .unit))
abbrev ha_format_Greatest : List BF := []
abbrev fr_format_Greatest : Fm := (.i .u32)
abbrev hr_format_Greatest : List BF := []
noncomputable def L_format_Greatest : Lps := L0
def inn_format_Greatest : T fr_format_Greatest → TH hr_format_Greatest → Int := (fun z w => z)
def out_format_Greatest : Int → T fr_format_Greatest × TH hr_format_Greatest := fun r => (r, ())
noncomputable def F_format_Greatest (a0 : Int) (a1 : Bool) : Option (Int) :=
  ((F_format_Widths a0)).bind fun r0 =>
  ((F_format_Top a0)).bind fun r1 =>
  bif (decide ((0:Int) ≤ (IntKind.wrap .u64 r0.2.1))) then
    ((F_format_Join a0 a1 (IntKind.wrap .i64 (r1 - (1:Int))) (IntKind.wrap .u32 ((IntKind.wrap .u32 ((1:Int) * ((2:Int) ^ (Min.min (Int.toNat (IntKind.wrap .u64 r0.2.1)) (32:Nat))))) - (1:Int))))).bind fun r2 =>
    (some r2)
  else
    none
noncomputable def G_format_Greatest : T fa_format_Greatest → TH ha_format_Greatest → Option (Int) := fun x y => F_format_Greatest x.1 x.2.1
noncomputable def c_format_Greatest : Orc := ent i_format_Greatest [] 0 (sp fa_format_Greatest ha_format_Greatest fr_format_Greatest hr_format_Greatest G_format_Greatest out_format_Greatest)
theorem ok_format_Greatest : OrcOk PR c_format_Greatest := fnT okO_format_Greatest mixed p_format_Greatest (by kernel_rfl) (by kernel_rfl) (L := L_format_Greatest) (kp := false) (by kernel_rfl) (inn := inn_format_Greatest) (out := out_format_Greatest) (fun _ _ => rfl) (loopsL (l := []) (by kernel_rfl) trivial) (fun x y => by kernel_rfl)
noncomputable def O_format_Least : Orc := c_format_Widths
theorem okO_format_Least : OrcOk PR O_format_Least := ok_format_Widths
abbrev fa_format_Least : Fm := (.pair (.i .i64) .unit)
abbrev ha_format_Least : List BF := []
abbrev fr_format_Least : Fm := (.i .i64)
abbrev hr_format_Least : List BF := []
noncomputable def L_format_Least : Lps := L0
def inn_format_Least : T fr_format_Least → TH hr_format_Least → Int := (fun z w => z)
def out_format_Least : Int → T fr_format_Least × TH hr_format_Least := fun r => (r, ())
noncomputable def F_format_Least (a0 : Int) : Option (Int) :=
  ((F_format_Widths a0)).bind fun r0 =>
  bif (decide ((0:Int) ≤ (IntKind.wrap .u64 (IntKind.wrap .i64 (r0.1 - (1:Int)))))) then
    (some (IntKind.wrap .i64 ((2:Int) - (IntKind.wrap .i64 ((1:Int) * ((2:Int) ^ (Min.min (Int.toNat (IntKind.wrap .u64 (IntKind.wrap .i64 (r0.1 - (1:Int))))) (64:Nat))))))))
  else
    none
noncomputable def G_format_Least : T fa_format_Least → TH ha_format_Least → Option (Int) := fun x y => F_format_Least x.1
noncomputable def c_format_Least : Orc := ent i_format_Least [] 0 (sp fa_format_Least ha_format_Least fr_format_Least hr_format_Least G_format_Least out_format_Least)
theorem ok_format_Least : OrcOk PR c_format_Least := fnT okO_format_Least mixed p_format_Least (by kernel_rfl) (by kernel_rfl) (L := L_format_Least) (kp := false) (by kernel_rfl) (inn := inn_format_Least) (out := out_format_Least) (fun _ _ => rfl) (loopsL (l := []) (by kernel_rfl) trivial) (fun x y => by kernel_rfl)
noncomputable def O_format_Unpack : Orc := (orm c_format_Widths (orm c_format_Parts (orm c_format_Least c_format_Top)))
theorem okO_format_Unpack : OrcOk PR O_format_Unpack := (orm_ok ok_format_Widths (orm_ok ok_format_Parts (orm_ok ok_format_Least ok_format_Top)))
abbrev fa_format_Unpack : Fm := (.pair (.i .i64) (.pair (.i .u32) .unit))
abbrev ha_format_Unpack : List BF := []
abbrev fr_format_Unpack : Fm := (.tup (.pair .b (.pair (.i .i64) (.pair (.i .u64) .unit))))
abbrev hr_format_Unpack : List BF := []
noncomputable def L_format_Unpack : Lps := L0
def inn_format_Unpack : T fr_format_Unpack → TH hr_format_Unpack → Bool × Int × Int × Unit := (fun z w => z)
def out_format_Unpack : Bool × Int × Int × Unit → T fr_format_Unpack × TH hr_format_Unpack := fun r => (r, ())
noncomputable def F_format_Unpack (a0 : Int) (a1 : Int) : Option (Bool × Int × Int × Unit) :=
  ((F_format_Widths a0)).bind fun r0 =>
  ((F_format_Parts a0 a1)).bind fun r1 =>
  let x2 : Int := r1.2.2.1
  let x3 : Int := (IntKind.wrap .u64 x2)
  bif (r1.2.1 == (0:Int)) then
    ((F_format_Least a0)).bind fun r4 =>
    (some (r1.1, ((IntKind.wrap .i64 (r4 - r0.2.1)), (x3, ()))))
  else
    ((F_format_Top a0)).bind fun r5 =>
    bif (r1.2.1 == r5) then
      (some (r1.1, ((0:Int), ((0:Int), ()))))
    else
      ((F_format_Least a0)).bind fun r6 =>
      bif (decide ((0:Int) ≤ (IntKind.wrap .u64 r0.2.1))) then
        (some (r1.1, ((IntKind.wrap .i64 ((IntKind.wrap .i64 ((IntKind.wrap .i64 (r6 - r0.2.1)) + r1.2.1)) - (1:Int))), ((bits .or .u64 x3 (IntKind.wrap .u64 ((1:Int) * ((2:Int) ^ (Min.min (Int.toNat (IntKind.wrap .u64 r0.2.1)) (64:Nat)))))), ()))))
      else
        none
noncomputable def G_format_Unpack : T fa_format_Unpack → TH ha_format_Unpack → Option (Bool × Int × Int × Unit) := fun x y => F_format_Unpack x.1 x.2.1
noncomputable def c_format_Unpack : Orc := ent i_format_Unpack [] 0 (sp fa_format_Unpack ha_format_Unpack fr_format_Unpack hr_format_Unpack G_format_Unpack out_format_Unpack)
theorem ok_format_Unpack : OrcOk PR c_format_Unpack := fnT okO_format_Unpack mixed p_format_Unpack (by kernel_rfl) (by kernel_rfl) (L := L_format_Unpack) (kp := false) (by kernel_rfl) (inn := inn_format_Unpack) (out := out_format_Unpack) (fun _ _ => rfl) (loopsL (l := []) (by kernel_rfl) trivial) (fun x y => by kernel_rfl)
noncomputable def O_format_Inf : Orc := (orm c_format_Top c_format_Join)
theorem okO_format_Inf : OrcOk PR O_format_Inf := (orm_ok ok_format_Top ok_format_Join)
abbrev fa_format_Inf : Fm := (.pair (.i .i64) (.pair .b .unit))
abbrev ha_format_Inf : List BF := []
abbrev fr_format_Inf : Fm := (.i .u32)
abbrev hr_format_Inf : List BF := []
noncomputable def L_format_Inf : Lps := L0
def inn_format_Inf : T fr_format_Inf → TH hr_format_Inf → Int := (fun z w => z)
def out_format_Inf : Int → T fr_format_Inf × TH hr_format_Inf := fun r => (r, ())
noncomputable def F_format_Inf (a0 : Int) (a1 : Bool) : Option (Int) :=
  ((F_format_Top a0)).bind fun r0 =>
  ((F_format_Join a0 a1 r0 (0:Int))).bind fun r1 =>
  (some r1)
noncomputable def G_format_Inf : T fa_format_Inf → TH ha_format_Inf → Option (Int) := fun x y => F_format_Inf x.1 x.2.1
noncomputable def c_format_Inf : Orc := ent i_format_Inf [] 0 (sp fa_format_Inf ha_format_Inf fr_format_Inf hr_format_Inf G_format_Inf out_format_Inf)
theorem ok_format_Inf : OrcOk PR c_format_Inf := fnT okO_format_Inf mixed p_format_Inf (by kernel_rfl) (by kernel_rfl) (L := L_format_Inf) (kp := false) (by kernel_rfl) (inn := inn_format_Inf) (out := out_format_Inf) (fun _ _ => rfl) (loopsL (l := []) (by kernel_rfl) trivial) (fun x y => by kernel_rfl)
noncomputable def O_format_IsInf : Orc := c_format_Class
theorem okO_format_IsInf : OrcOk PR O_format_IsInf := ok_format_Class
abbrev fa_format_IsInf : Fm := (.pair (.i .i64) (.pair (.i .u32) .unit))
abbrev ha_format_IsInf : List BF := []
abbrev fr_format_IsInf : Fm := .b
abbrev hr_format_IsInf : List BF := []
noncomputable def L_format_IsInf : Lps := L0
def inn_format_IsInf : T fr_format_IsInf → TH hr_format_IsInf → Bool := (fun z w => z)
def out_format_IsInf : Bool → T fr_format_IsInf × TH hr_format_IsInf := fun r => (r, ())
noncomputable def F_format_IsInf (a0 : Int) (a1 : Int) : Option (Bool) :=
  ((F_format_Class a0 a1)).bind fun r0 =>
  (some (r0 == (3:Int)))
noncomputable def G_format_IsInf : T fa_format_IsInf → TH ha_format_IsInf → Option (Bool) := fun x y => F_format_IsInf x.1 x.2.1
noncomputable def c_format_IsInf : Orc := ent i_format_IsInf [] 0 (sp fa_format_IsInf ha_format_IsInf fr_format_IsInf hr_format_IsInf G_format_IsInf out_format_IsInf)
theorem ok_format_IsInf : OrcOk PR c_format_IsInf := fnT okO_format_IsInf mixed p_format_IsInf (by kernel_rfl) (by kernel_rfl) (L := L_format_IsInf) (kp := false) (by kernel_rfl) (inn := inn_format_IsInf) (out := out_format_IsInf) (fun _ _ => rfl) (loopsL (l := []) (by kernel_rfl) trivial) (fun x y => by kernel_rfl)
noncomputable def O_format_Zero : Orc := c_format_Join
theorem okO_format_Zero : OrcOk PR O_format_Zero := ok_format_Join
abbrev fa_format_Zero : Fm := (.pair (.i .i64) (.pair .b .unit))
abbrev ha_format_Zero : List BF := []
abbrev fr_format_Zero : Fm := (.i .u32)
abbrev hr_format_Zero : List BF := []
noncomputable def L_format_Zero : Lps := L0
def inn_format_Zero : T fr_format_Zero → TH hr_format_Zero → Int := (fun z w => z)
def out_format_Zero : Int → T fr_format_Zero × TH hr_format_Zero := fun r => (r, ())
noncomputable def F_format_Zero (a0 : Int) (a1 : Bool) : Option (Int) :=
  ((F_format_Join a0 a1 (0:Int) (0:Int))).bind fun r0 =>
  (some r0)
noncomputable def G_format_Zero : T fa_format_Zero → TH ha_format_Zero → Option (Int) := fun x y => F_format_Zero x.1 x.2.1
noncomputable def c_format_Zero : Orc := ent i_format_Zero [] 0 (sp fa_format_Zero ha_format_Zero fr_format_Zero hr_format_Zero G_format_Zero out_format_Zero)
theorem ok_format_Zero : OrcOk PR c_format_Zero := fnT okO_format_Zero mixed p_format_Zero (by kernel_rfl) (by kernel_rfl) (L := L_format_Zero) (kp := false) (by kernel_rfl) (inn := inn_format_Zero) (out := out_format_Zero) (fun _ _ => rfl) (loopsL (l := []) (by kernel_rfl) trivial) (fun x y => by kernel_rfl)
noncomputable def O_format_Finite : Orc := (orm c_format_Parts c_format_Top)
theorem okO_format_Finite : OrcOk PR O_format_Finite := (orm_ok ok_format_Parts ok_format_Top)
abbrev fa_format_Finite : Fm := (.pair (.i .i64) (.pair (.i .u32) .unit))
abbrev ha_format_Finite : List BF := []
abbrev fr_format_Finite : Fm := .b
abbrev hr_format_Finite : List BF := []
noncomputable def L_format_Finite : Lps := L0
def inn_format_Finite : T fr_format_Finite → TH hr_format_Finite → Bool := (fun z w => z)
def out_format_Finite : Bool → T fr_format_Finite × TH hr_format_Finite := fun r => (r, ())
noncomputable def F_format_Finite (a0 : Int) (a1 : Int) : Option (Bool) :=
  ((F_format_Parts a0 a1)).bind fun r0 =>
  ((F_format_Top a0)).bind fun r1 =>
  (some (decide (r0.2.1 < r1)))
noncomputable def G_format_Finite : T fa_format_Finite → TH ha_format_Finite → Option (Bool) := fun x y => F_format_Finite x.1 x.2.1
noncomputable def c_format_Finite : Orc := ent i_format_Finite [] 0 (sp fa_format_Finite ha_format_Finite fr_format_Finite hr_format_Finite G_format_Finite out_format_Finite)
theorem ok_format_Finite : OrcOk PR c_format_Finite := fnT okO_format_Finite mixed p_format_Finite (by kernel_rfl) (by kernel_rfl) (L := L_format_Finite) (kp := false) (by kernel_rfl) (inn := inn_format_Finite) (out := out_format_Finite) (fun _ _ => rfl) (loopsL (l := []) (by kernel_rfl) trivial) (fun x y => by kernel_rfl)
noncomputable def O_round_beyond : Orc := (orm c_format_Greatest c_format_Inf)
theorem okO_round_beyond : OrcOk PR O_round_beyond := (orm_ok ok_format_Greatest ok_format_Inf)
abbrev fa_round_beyond : Fm := (.pair (.i .i64) (.pair (.i .i64) (.pair .b .unit)))
abbrev ha_round_beyond : List BF := []
abbrev fr_round_beyond : Fm := (.tup (.pair (.i .u32) (.pair (.agg (.pair .b (.pair .b (.pair .b (.pair .b (.pair .b .unit)))))) .unit)))
abbrev hr_round_beyond : List BF := []
noncomputable def L_round_beyond : Lps := L0
def inn_round_beyond : T fr_round_beyond → TH hr_round_beyond → Int × (Bool × Bool × Bool × Bool × Bool × Unit) × Unit := (fun z w => z)
def out_round_beyond : Int × (Bool × Bool × Bool × Bool × Bool × Unit) × Unit → T fr_round_beyond × TH hr_round_beyond := fun r => (r, ())
noncomputable def F_round_beyond (a0 : Int) (a1 : Int) (a2 : Bool) : Option (Int × (Bool × Bool × Bool × Bool × Bool × Unit) × Unit) :=
  bif (a1 == (1:Int)) then
    ((F_format_Greatest a0 a2)).bind fun r0 =>
    (some (r0, ((false, (false, (true, (false, (true, ()))))), ())))
  else
    bif (a1 == (2:Int)) then
      bif a2 then
        ((F_format_Greatest a0 a2)).bind fun r1 =>
        (some (r1, ((false, (false, (true, (false, (true, ()))))), ())))
      else
        ((F_format_Inf a0 a2)).bind fun r2 =>
        (some (r2, ((false, (false, (true, (false, (true, ()))))), ())))
    else
      bif (a1 == (3:Int)) then
        bif (!a2) then
          ((F_format_Greatest a0 a2)).bind fun r3 =>
          (some (r3, ((false, (false, (true, (false, (true, ()))))), ())))
        else
          ((F_format_Inf a0 a2)).bind fun r4 =>
          (some (r4, ((false, (false, (true, (false, (true, ()))))), ())))
      else
        ((F_format_Inf a0 a2)).bind fun r5 =>
        (some (r5, ((false, (false, (true, (false, (true, ()))))), ())))
noncomputable def G_round_beyond : T fa_round_beyond → TH ha_round_beyond → Option (Int × (Bool × Bool × Bool × Bool × Bool × Unit) × Unit) := fun x y => F_round_beyond x.1 x.2.1 x.2.2.1
noncomputable def c_round_beyond : Orc := ent i_round_beyond [] 0 (sp fa_round_beyond ha_round_beyond fr_round_beyond hr_round_beyond G_round_beyond out_round_beyond)
theorem ok_round_beyond : OrcOk PR c_round_beyond := fnT okO_round_beyond mixed p_round_beyond (by kernel_rfl) (by kernel_rfl) (L := L_round_beyond) (kp := false) (by kernel_rfl) (inn := inn_round_beyond) (out := out_round_beyond) (fun _ _ => rfl) (loopsL (l := []) (by kernel_rfl) trivial) (fun x y => by kernel_rfl)
noncomputable def O_math_bits_Len64 : Orc := orn
theorem okO_math_bits_Len64 : OrcOk PR O_math_bits_Len64 := (orn_ok _)
abbrev fa_math_bits_Len64 : Fm := (.pair (.i .u64) .unit)
abbrev ha_math_bits_Len64 : List BF := []
abbrev fr_math_bits_Len64 : Fm := (.i .i64)
abbrev hr_math_bits_Len64 : List BF := []
noncomputable def L_math_bits_Len64 : Lps := L0
def inn_math_bits_Len64 : T fr_math_bits_Len64 → TH hr_math_bits_Len64 → Int := (fun z w => z)
def out_math_bits_Len64 : Int → T fr_math_bits_Len64 × TH hr_math_bits_Len64 := fun r => (r, ())
noncomputable def F_math_bits_Len64 (a0 : Int) : Option (Int) :=
  let x0 : Int := (bif (decide (a0 ≥ (4294967296:Int))) then (32:Int) else (0:Int))
  let x1 : Int := (bif (decide ((bif (decide (a0 ≥ (4294967296:Int))) then (a0 / (4294967296:Int)) else a0) ≥ (65536:Int))) then (IntKind.wrap .i64 (x0 + (16:Int))) else x0)
  let x2 : Int := (bif (decide (a0 ≥ (4294967296:Int))) then (a0 / (4294967296:Int)) else a0)
  let x3 : Int := (bif (decide (x2 ≥ (65536:Int))) then (x2 / (65536:Int)) else x2)
  bif (decide (((0:Int) ≤ (IntKind.wrap .u8 (bif (decide (x3 ≥ (256:Int))) then (x3 / (256:Int)) else x3))) ∧ ((IntKind.wrap .u8 (bif (decide (x3 ≥ (256:Int))) then (x3 / (256:Int)) else x3)) < (256:Int)))) then
    (some (IntKind.wrap .i64 ((bif (decide (x3 ≥ (256:Int))) then (IntKind.wrap .i64 (x1 + (8:Int))) else x1) + (IntKind.wrap .i64 (((UInt8.toNat (List.getD [(0:UInt8), (1:UInt8), (2:UInt8), (2:UInt8), (3:UInt8), (3:UInt8), (3:UInt8), (3:UInt8), (4:UInt8), (4:UInt8), (4:UInt8), (4:UInt8), (4:UInt8), (4:UInt8), (4:UInt8), (4:UInt8), (5:UInt8), (5:UInt8), (5:UInt8), (5:UInt8), (5:UInt8), (5:UInt8), (5:UInt8), (5:UInt8), (5:UInt8), (5:UInt8), (5:UInt8), (5:UInt8), (5:UInt8), (5:UInt8), (5:UInt8), (5:UInt8), (6:UInt8), (6:UInt8), (6:UInt8), (6:UInt8), (6:UInt8), (6:UInt8), (6:UInt8), (6:UInt8), (6:UInt8), (6:UInt8), (6:UInt8), (6:UInt8), (6:UInt8), (6:UInt8), (6:UInt8), (6:UInt8), (6:UInt8), (6:UInt8), (6:UInt8), (6:UInt8), (6:UInt8), (6:UInt8), (6:UInt8), (6:UInt8), (6:UInt8), (6:UInt8), (6:UInt8), (6:UInt8), (6:UInt8), (6:UInt8), (6:UInt8), (6:UInt8), (7:UInt8), (7:UInt8), (7:UInt8), (7:UInt8), (7:UInt8), (7:UInt8), (7:UInt8), (7:UInt8), (7:UInt8), (7:UInt8), (7:UInt8), (7:UInt8), (7:UInt8), (7:UInt8), (7:UInt8), (7:UInt8), (7:UInt8), (7:UInt8), (7:UInt8), (7:UInt8), (7:UInt8), (7:UInt8), (7:UInt8), (7:UInt8), (7:UInt8), (7:UInt8), (7:UInt8), (7:UInt8), (7:UInt8), (7:UInt8), (7:UInt8), (7:UInt8), (7:UInt8), (7:UInt8), (7:UInt8), (7:UInt8), (7:UInt8), (7:UInt8), (7:UInt8), (7:UInt8), (7:UInt8), (7:UInt8), (7:UInt8), (7:UInt8), (7:UInt8), (7:UInt8), (7:UInt8), (7:UInt8), (7:UInt8), (7:UInt8), (7:UInt8), (7:UInt8), (7:UInt8), (7:UInt8), (7:UInt8), (7:UInt8), (7:UInt8), (7:UInt8), (7:UInt8), (7:UInt8), (7:UInt8), (7:UInt8), (7:UInt8), (7:UInt8), (8:UInt8), (8:UInt8), (8:UInt8), (8:UInt8), (8:UInt8), (8:UInt8), (8:UInt8), (8:UInt8), (8:UInt8), (8:UInt8), (8:UInt8), (8:UInt8), (8:UInt8), (8:UInt8), (8:UInt8), (8:UInt8), (8:UInt8), (8:UInt8), (8:UInt8), (8:UInt8), (8:UInt8), (8:UInt8), (8:UInt8), (8:UInt8), (8:UInt8), (8:UInt8), (8:UInt8), (8:UInt8), (8:UInt8), (8:UInt8), (8:UInt8), (8:UInt8), (8:UInt8), (8:UInt8), (8:UInt8), (8:UInt8), (8:UInt8), (8:UInt8), (8:UInt8), (8:UInt8), (8:UInt8), (8:UInt8), (8:UInt8), (8:UInt8), (8:UInt8), (8:UInt8), (8:UInt8), (8:UInt8), (8:UInt8), (8:UInt8), (8:UInt8), (8:UInt8), (8:UInt8), (8:UInt8), (8:UInt8), (8:UInt8), (8:UInt8), (8:UInt8), (8:UInt8), (8:UInt8), (8:UInt8), (8:UInt8), (8:UInt8), (8:UInt8), (8:UInt8), (8:UInt8), (8:UInt8), (8:UInt8), (8:UInt8), (8:UInt8), (8:UInt8), (8:UInt8), (8:UInt8), (8:UInt8), (8:UInt8), (8:UInt8), (8:UInt8), (8:UInt8), (8:UInt8), (8:UInt8), (8:UInt8), (8:UInt8), (8:UInt8), (8:UInt8), (8:UInt8), (8:UInt8), (8:UInt8), (8:UInt8), (8:UInt8), (8:UInt8), (8:UInt8), (8:UInt8), (8:UInt8), (8:UInt8), (8:UInt8), (8:UInt8), (8:UInt8), (8:UInt8), (8:UInt8), (8:UInt8), (8:UInt8), (8:UInt8), (8:UInt8), (8:UInt8), (8:UInt8), (8:UInt8), (8:UInt8), (8:UInt8), (8:UInt8), (8:UInt8), (8:UInt8), (8:UInt8), (8:UInt8), (8:UInt8), (8:UInt8), (8:UInt8), (8:UInt8), (8:UInt8), (8:UInt8), (8:UInt8), (8:UInt8), (8:UInt8), (8:UInt8), (8:UInt8), (8:UInt8), (8:UInt8), (8:UInt8), (8:UInt8)] (Int.toNat (IntKind.wrap .u8 (bif (decide (x3 ≥ (256:Int))) then (x3 / (256:Int)) else x3))) (0:UInt8))) : Nat) : Int)))))
  else
    none
noncomputable def G_math_bits_Len64 : T fa_math_bits_Len64 → TH ha_math_bits_Len64 → Option (Int) := fun x y => F_math_bits_Len64 x.1
noncomputable def c_math_bits_Len64 : Orc := ent i_math_bits_Len64 [] 0 (sp fa_math_bits_Len64 ha_math_bits_Len64 fr_math_bits_Len64 hr_math_bits_Len64 G_math_bits_Len64 out_math_bits_Len64)
theorem ok_math_bits_Len64 : OrcOk PR c_math_bits_Len64 := fnT okO_math_bits_Len64 mixed p_math_bits_Len64 (by kernel_rfl) (by kernel_rfl) (L := L_math_bits_Len64) (kp := false) (by kernel_rfl) (inn := inn_math_bits_Len64) (out := out_math_bits_Len64) (fun _ _ => rfl) (loopsL (l := []) (by kernel_rfl) trivial) (fun x y => by kernel_rfl)
noncomputable def O_bits_Len : Orc := c_math_bits_Len64
theorem okO_bits_Len : OrcOk PR O_bits_Len := ok_math_bits_Len64
abbrev fa_bits_Len : Fm := (.pair (.i .u64) .unit)
abbrev ha_bits_Len : List BF := []
abbrev fr_bits_Len : Fm := (.i .i64)
abbrev hr_bits_Len : List BF := []
noncomputable def L_bits_Len : Lps := L0
def inn_bits_Len : T fr_bits_Len → TH hr_bits_Len → Int := (fun z w => z)
def out_bits_Len : Int → T fr_bits_Len × TH hr_bits_Len := fun r => (r, ())
noncomputable def F_bits_Len (a0 : Int) : Option (Int) :=
  ((F_math_bits_Len64 a0)).bind fun r0 =>
  (some r0)
noncomputable def G_bits_Len : T fa_bits_Len → TH ha_bits_Len → Option (Int) := fun x y => F_bits_Len x.1
noncomputable def c_bits_Len : Orc := ent i_bits_Len [] 0 (sp fa_bits_Len ha_bits_Len fr_bits_Len hr_bits_Len G_bits_Len out_bits_Len)
theorem ok_bits_Len : OrcOk PR c_bits_Len := fnT okO_bits_Len mixed p_bits_Len (by kernel_rfl) (by kernel_rfl) (L := L_bits_Len) (kp := false) (by kernel_rfl) (inn := inn_bits_Len) (out := out_bits_Len) (fun _ _ => rfl) (loopsL (l := []) (by kernel_rfl) trivial) (fun x y => by kernel_rfl)
noncomputable def O_bits_Shift : Orc := orn
theorem okO_bits_Shift : OrcOk PR O_bits_Shift := (orn_ok _)
abbrev fa_bits_Shift : Fm := (.pair (.i .u64) (.pair (.i .i64) .unit))
abbrev ha_bits_Shift : List BF := []
abbrev fr_bits_Shift : Fm := (.tup (.pair (.i .u64) (.pair .b .unit)))
abbrev hr_bits_Shift : List BF := []
noncomputable def L_bits_Shift : Lps := L0
def inn_bits_Shift : T fr_bits_Shift → TH hr_bits_Shift → Int × Bool × Unit := (fun z w => z)
def out_bits_Shift : Int × Bool × Unit → T fr_bits_Shift × TH hr_bits_Shift := fun r => (r, ())
noncomputable def F_bits_Shift (a0 : Int) (a1 : Int) : Option (Int × Bool × Unit) :=
  let x0 : Int := ((2:Int) ^ (Min.min (Int.toNat (IntKind.wrap .u64 a1)) (64:Nat)))
  let x1 : Int := (a0 / x0)
  let x2 : Int := ((2:Int) ^ (Min.min (Int.toNat (IntKind.wrap .u64 (IntKind.wrap .i64 ((0:Int) - a1)))) (64:Nat)))
  let x3 : Int := (IntKind.wrap .u64 (a0 * x2))
  bif (decide (a1 ≥ (64:Int))) then
    (some ((0:Int), ((a0 != (0:Int)), ())))
  else
    bif (decide (a1 ≤ (-(64:Int)))) then
      (some ((0:Int), ((a0 != (0:Int)), ())))
    else
      bif (decide (a1 ≥ (0:Int))) then
        bif (decide ((0:Int) ≤ (IntKind.wrap .u64 a1))) then
          bif (decide ((0:Int) ≤ (IntKind.wrap .u64 a1))) then
            (some (x1, (((IntKind.wrap .u64 (x1 * x0)) != a0), ())))
          else
            none
        else
          none
      else
        bif (decide ((0:Int) ≤ (IntKind.wrap .u64 (IntKind.wrap .i64 ((0:Int) - a1))))) then
          bif (decide ((0:Int) ≤ (IntKind.wrap .u64 (IntKind.wrap .i64 ((0:Int) - a1))))) then
            (some (x3, (((x3 / x2) != a0), ())))
          else
            none
        else
          none
noncomputable def G_bits_Shift : T fa_bits_Shift → TH ha_bits_Shift → Option (Int × Bool × Unit) := fun x y => F_bits_Shift x.1 x.2.1
noncomputable def c_bits_Shift : Orc := ent i_bits_Shift [] 0 (sp fa_bits_Shift ha_bits_Shift fr_bits_Shift hr_bits_Shift G_bits_Shift out_bits_Shift)
theorem ok_bits_Shift : OrcOk PR c_bits_Shift := fnT okO_bits_Shift mixed p_bits_Shift (by kernel_rfl) (by kernel_rfl) (L := L_bits_Shift) (kp := false) (by kernel_rfl) (inn := inn_bits_Shift) (out := out_bits_Shift) (fun _ _ => rfl) (loopsL (l := []) (by kernel_rfl) trivial) (fun x y => by kernel_rfl)
noncomputable def O_bits_Cut : Orc := orn
theorem okO_bits_Cut : OrcOk PR O_bits_Cut := (orn_ok _)
abbrev fa_bits_Cut : Fm := (.pair (.i .u64) (.pair (.i .i64) .unit))
abbrev ha_bits_Cut : List BF := []
abbrev fr_bits_Cut : Fm := (.i .u64)
abbrev hr_bits_Cut : List BF := []
noncomputable def L_bits_Cut : Lps := L0
def inn_bits_Cut : T fr_bits_Cut → TH hr_bits_Cut → Int := (fun z w => z)
def out_bits_Cut : Int → T fr_bits_Cut × TH hr_bits_Cut := fun r => (r, ())
noncomputable def F_bits_Cut (a0 : Int) (a1 : Int) : Option (Int) :=
  bif (decide (a1 < (1:Int))) then
    (some (0:Int))
  else
    bif (decide (a1 ≥ (64:Int))) then
      (some a0)
    else
      bif (decide ((0:Int) ≤ (IntKind.wrap .u64 a1))) then
        (some (bits .and .u64 a0 (IntKind.wrap .u64 ((IntKind.wrap .u64 ((1:Int) * ((2:Int) ^ (Min.min (Int.toNat (IntKind.wrap .u64 a1)) (64:Nat))))) - (1:Int)))))
      else
        none
noncomputable def G_bits_Cut : T fa_bits_Cut → TH ha_bits_Cut → Option (Int) := fun x y => F_bits_Cut x.1 x.2.1
noncomputable def c_bits_Cut : Orc := ent i_bits_Cut [] 0 (sp fa_bits_Cut ha_bits_Cut fr_bits_Cut hr_bits_Cut G_bits_Cut out_bits_Cut)
theorem ok_bits_Cut : OrcOk PR c_bits_Cut := fnT okO_bits_Cut mixed p_bits_Cut (by kernel_rfl) (by kernel_rfl) (L := L_bits_Cut) (kp := false) (by kernel_rfl) (inn := inn_bits_Cut) (out := out_bits_Cut) (fun _ _ => rfl) (loopsL (l := []) (by kernel_rfl) trivial) (fun x y => by kernel_rfl)
noncomputable def O_round_Unit : Orc := (orm c_format_Widths (orm c_format_Least c_bits_Len))
theorem okO_round_Unit : OrcOk PR O_round_Unit := (orm_ok ok_format_Widths (orm_ok ok_format_Least ok_bits_Len))
abbrev fa_round_Unit : Fm := (.pair (.i .i64) (.pair (.i .i64) (.pair (.i .u64) .unit)))
abbrev ha_round_Unit : List BF := []
abbrev fr_round_Unit : Fm := (.i .i64)
abbrev hr_round_Unit : List BF := []
noncomputable def L_round_Unit : Lps := L0
def inn_round_Unit : T fr_round_Unit → TH hr_round_Unit → Int := (fun z w => z)
def out_round_Unit : Int → T fr_round_Unit × TH hr_round_Unit := fun r => (r, ())
noncomputable def F_round_Unit (a0 : Int) (a1 : Int) (a2 : Int) : Option (Int) :=
  ((F_format_Widths a0)).bind fun r0 =>
  ((F_format_Least a0)).bind fun r1 =>
  bif (decide (a2 > (0:Int))) then
    ((F_bits_Len a2)).bind fun r2 =>
    (some (IntKind.wrap .i64 ((mx r1 (IntKind.wrap .i64 ((IntKind.wrap .i64 (a1 + r2)) - (1:Int)))) - r0.2.1)))
  else
    (some (IntKind.wrap .i64 (r1 - r0.2.1)))
noncomputable def G_round_Unit : T fa_round_Unit → TH ha_round_Unit → Option (Int) := fun x y => F_round_Unit x.1 x.2.1 x.2.2.1
noncomputable def c_round_Unit : Orc := ent i_round_Unit [] 0 (sp fa_round_Unit ha_round_Unit fr_round_Unit hr_round_Unit G_round_Unit out_round_Unit)
theorem ok_round_Unit : OrcOk PR c_round_Unit := fnT okO_round_Unit mixed p_round_Unit (by kernel_rfl) (by kernel_rfl) (L := L_round_Unit) (kp := false) (by kernel_rfl) (inn := inn_round_Unit) (out := out_round_Unit) (fun _ _ => rfl) (loopsL (l := []) (by kernel_rfl) trivial) (fun x y => by kernel_rfl)
noncomputable def O_round_Units : Orc := c_bits_Shift
theorem okO_round_Units : OrcOk PR O_round_Units := ok_bits_Shift
abbrev fa_round_Units : Fm := (.pair (.i .u64) (.pair (.i .i64) (.pair .b .unit)))
abbrev ha_round_Units : List BF := []
abbrev fr_round_Units : Fm := (.tup (.pair (.i .u64) (.pair (.i .i64) .unit)))
abbrev hr_round_Units : List BF := []
noncomputable def L_round_Units : Lps := L0
def inn_round_Units : T fr_round_Units → TH hr_round_Units → Int × Int × Unit := (fun z w => z)
def out_round_Units : Int × Int × Unit → T fr_round_Units × TH hr_round_Units := fun r => (r, ())
noncomputable def F_round_Units (a0 : Int) (a1 : Int) (a2 : Bool) : Option (Int × Int × Unit) :=
  bif (decide (a1 ≤ (0:Int))) then
    ((F_bits_Shift a0 a1)).bind fun r0 =>
    bif a2 then
      (some (r0.1, ((1:Int), ())))
    else
      (some (r0.1, ((0:Int), ())))
  else
    ((F_bits_Shift a0 a1)).bind fun r1 =>
    bif (!r1.2.1) then
      bif a2 then
        (some (r1.1, ((1:Int), ())))
      else
        (some (r1.1, ((0:Int), ())))
    else
      ((F_bits_Shift a0 (IntKind.wrap .i64 (a1 - (1:Int))))).bind fun r2 =>
      bif ((bits .and .u64 r2.1 (1:Int)) == (0:Int)) then
        (some (r1.1, ((1:Int), ())))
      else
        bif r2.2.1 then
          (some (r1.1, ((3:Int), ())))
        else
          bif a2 then
            (some (r1.1, ((3:Int), ())))
          else
            (some (r1.1, ((2:Int), ())))
noncomputable def G_round_Units : T fa_round_Units → TH ha_round_Units → Option (Int × Int × Unit) := fun x y => F_round_Units x.1 x.2.1 x.2.2.1
noncomputable def c_round_Units : Orc := ent i_round_Units [] 0 (sp fa_round_Units ha_round_Units fr_round_Units hr_round_Units G_round_Units out_round_Units)
theorem ok_round_Units : OrcOk PR c_round_Units := fnT okO_round_Units mixed p_round_Units (by kernel_rfl) (by kernel_rfl) (L := L_round_Units) (kp := false) (by kernel_rfl) (inn := inn_round_Units) (out := out_round_Units) (fun _ _ => rfl) (loopsL (l := []) (by kernel_rfl) trivial) (fun x y => by kernel_rfl)
noncomputable def O_round_Up : Orc := orn
theorem okO_round_Up : OrcOk PR O_round_Up := (orn_ok _)
abbrev fa_round_Up : Fm := (.pair (.i .i64) (.pair .b (.pair (.i .u64) (.pair (.i .i64) .unit))))
abbrev ha_round_Up : List BF := []
abbrev fr_round_Up : Fm := .b
abbrev hr_round_Up : List BF := []
noncomputable def L_round_Up : Lps := L0
def inn_round_Up : T fr_round_Up → TH hr_round_Up → Bool := (fun z w => z)
def out_round_Up : Bool → T fr_round_Up × TH hr_round_Up := fun r => (r, ())
noncomputable def F_round_Up (a0 : Int) (a1 : Bool) (a2 : Int) (a3 : Int) : Option (Bool) :=
  bif (a0 == (1:Int)) then
    (some false)
  else
    bif (a0 == (2:Int)) then
      bif (!a1) then
        (some (a3 != (0:Int)))
      else
        (some false)
    else
      bif (a0 == (3:Int)) then
        bif a1 then
          (some (a3 != (0:Int)))
        else
          (some false)
      else
        bif (a0 == (4:Int)) then
          (some (decide (a3 ≥ (2:Int))))
        else
          bif (a3 == (3:Int)) then
            (some true)
          else
            bif (a3 == (2:Int)) then
              (some ((bits .and .u64 a2 (1:Int)) == (1:Int)))
            else
              (some false)
noncomputable def G_round_Up : T fa_round_Up → TH ha_round_Up → Option (Bool) := fun x y => F_round_Up x.1 x.2.1 x.2.2.1 x.2.2.2.1
noncomputable def c_round_Up : Orc := ent i_round_Up [] 0 (sp fa_round_Up ha_round_Up fr_round_Up hr_round_Up G_round_Up out_round_Up)
theorem ok_round_Up : OrcOk PR c_round_Up := fnT okO_round_Up mixed p_round_Up (by kernel_rfl) (by kernel_rfl) (L := L_round_Up) (kp := false) (by kernel_rfl) (inn := inn_round_Up) (out := out_round_Up) (fun _ _ => rfl) (loopsL (l := []) (by kernel_rfl) trivial) (fun x y => by kernel_rfl)
noncomputable def O_round_Pack : Orc := (orm c_format_Zero (orm c_format_Widths (orm c_round_Unit (orm c_round_Units (orm c_round_Up (orm c_format_Least (orm c_format_Top (orm c_round_beyond (orm c_bits_Len (orm c_bits_Cut c_format_Join))))))))))
theorem okO_round_Pack : OrcOk PR O_round_Pack := (orm_ok ok_format_Zero (orm_ok ok_format_Widths (orm_ok ok_round_Unit (orm_ok ok_round_Units (orm_ok ok_round_Up (orm_ok ok_format_Least (orm_ok ok_format_Top (orm_ok ok_round_beyond (orm_ok ok_bits_Len (orm_ok ok_bits_Cut ok_format_Join))))))))))
abbrev fa_round_Pack : Fm := (.pair (.i .i64) (.pair (.i .i64) (.pair .b (.pair (.i .i64) (.pair (.i .u64) (.pair .b .unit))))))
abbrev ha_round_Pack : List BF := []
abbrev fr_round_Pack : Fm := (.tup (.pair (.i .u32) (.pair (.agg (.pair .b (.pair .b (.pair .b (.pair .b (.pair .b .unit)))))) .unit)))
abbrev hr_round_Pack : List BF := []
noncomputable def L_round_Pack : Lps := L0
def inn_round_Pack : T fr_round_Pack → TH hr_round_Pack → Int × (Bool × Bool × Bool × Bool × Bool × Unit) × Unit := (fun z w => z)
def out_round_Pack : Int × (Bool × Bool × Bool × Bool × Bool × Unit) × Unit → T fr_round_Pack × TH hr_round_Pack := fun r => (r, ())
noncomputable def F_round_Pack (a0 : Int) (a1 : Int) (a2 : Bool) (a3 : Int) (a4 : Int) (a5 : Bool) : Option (Int × (Bool × Bool × Bool × Bool × Bool × Unit) × Unit) :=
  let x0 : Int := (mn (mx a3 (-(10000:Int))) (10000:Int))
  bif (a4 == (0:Int)) then
    bif (!a5) then
      ((F_format_Zero a0 a2)).bind fun r1 =>
      (some (r1, ((false, (false, (false, (false, (false, ()))))), ())))
    else
      ((F_format_Widths a0)).bind fun r2 =>
      ((F_round_Unit a0 x0 a4)).bind fun r3 =>
      ((F_round_Units a4 (IntKind.wrap .i64 (r3 - x0)) a5)).bind fun r4 =>
      let x5 : Bool := (r4.2.1 != (0:Int))
      ((F_round_Up a1 a2 r4.1 r4.2.1)).bind fun r6 =>
      let x7 : Int := (bif r6 then (IntKind.wrap .u64 (r4.1 + (1:Int))) else r4.1)
      let x8 : Bool := ((x7 / ((2:Int) ^ (Min.min (Int.toNat (IntKind.wrap .u64 (IntKind.wrap .i64 (r2.2.1 + (1:Int))))) (64:Nat)))) != (0:Int))
      let x9 : Int := (bif x8 then (x7 / (2:Int)) else x7)
      bif (decide ((0:Int) ≤ (IntKind.wrap .u64 (IntKind.wrap .i64 (r2.2.1 + (1:Int)))))) then
        ((F_format_Least a0)).bind fun r10 =>
        let x11 : Int := (bif ((x9 / ((2:Int) ^ (Min.min (Int.toNat (IntKind.wrap .u64 r2.2.1)) (64:Nat)))) == (0:Int)) then (0:Int) else (IntKind.wrap .i64 ((IntKind.wrap .i64 ((IntKind.wrap .i64 ((bif x8 then (IntKind.wrap .i64 (r3 + (1:Int))) else r3) + r2.2.1)) - r10)) + (1:Int))))
        bif (decide ((0:Int) ≤ (IntKind.wrap .u64 r2.2.1))) then
          ((F_format_Top a0)).bind fun r12 =>
          bif (decide (x11 ≥ r12)) then
            ((F_round_beyond a0 a1 a2)).bind fun r13 =>
            (some r13)
          else
            bif x5 then
              bif (a4 == (0:Int)) then
                ((F_bits_Cut x9 r2.2.1)).bind fun r14 =>
                ((F_format_Join a0 a2 x11 (IntKind.wrap .u32 r14))).bind fun r15 =>
                (some (r15, ((false, (false, (false, (true, (x5, ()))))), ())))
              else
                ((F_bits_Len a4)).bind fun r16 =>
                ((F_format_Least a0)).bind fun r17 =>
                ((F_bits_Cut x9 r2.2.1)).bind fun r18 =>
                ((F_format_Join a0 a2 x11 (IntKind.wrap .u32 r18))).bind fun r19 =>
                (some (r19, ((false, (false, (false, ((decide ((IntKind.wrap .i64 ((IntKind.wrap .i64 (x0 + r16)) - (1:Int))) < r17)), (x5, ()))))), ())))
            else
              ((F_bits_Cut x9 r2.2.1)).bind fun r20 =>
              ((F_format_Join a0 a2 x11 (IntKind.wrap .u32 r20))).bind fun r21 =>
              (some (r21, ((false, (false, (false, (false, (x5, ()))))), ())))
        else
          none
      else
        none
  else
    ((F_format_Widths a0)).bind fun r22 =>
    ((F_round_Unit a0 x0 a4)).bind fun r23 =>
    ((F_round_Units a4 (IntKind.wrap .i64 (r23 - x0)) a5)).bind fun r24 =>
    let x25 : Bool := (r24.2.1 != (0:Int))
    ((F_round_Up a1 a2 r24.1 r24.2.1)).bind fun r26 =>
    let x27 : Int := (bif r26 then (IntKind.wrap .u64 (r24.1 + (1:Int))) else r24.1)
    let x28 : Bool := ((x27 / ((2:Int) ^ (Min.min (Int.toNat (IntKind.wrap .u64 (IntKind.wrap .i64 (r22.2.1 + (1:Int))))) (64:Nat)))) != (0:Int))
    let x29 : Int := (bif x28 then (x27 / (2:Int)) else x27)
    bif (decide ((0:Int) ≤ (IntKind.wrap .u64 (IntKind.wrap .i64 (r22.2.1 + (1:Int)))))) then
      ((F_format_Least a0)).bind fun r30 =>
      let x31 : Int := (bif ((x29 / ((2:Int) ^ (Min.min (Int.toNat (IntKind.wrap .u64 r22.2.1)) (64:Nat)))) == (0:Int)) then (0:Int) else (IntKind.wrap .i64 ((IntKind.wrap .i64 ((IntKind.wrap .i64 ((bif x28 then (IntKind.wrap .i64 (r23 + (1:Int))) else r23) + r22.2.1)) - r30)) + (1:Int))))
      bif (decide ((0:Int) ≤ (IntKind.wrap .u64 r22.2.1))) then
        ((F_format_Top a0)).bind fun r32 =>
        bif (decide (x31 ≥ r32)) then
          ((F_round_beyond a0 a1 a2)).bind fun r33 =>
          (some r33)
        else
          bif x25 then
            bif (a4 == (0:Int)) then
              ((F_bits_Cut x29 r22.2.1)).bind fun r34 =>
              ((F_format_Join a0 a2 x31 (IntKind.wrap .u32 r34))).bind fun r35 =>
              (some (r35, ((false, (false, (false, (true, (x25, ()))))), ())))
            else
              ((F_bits_Len a4)).bind fun r36 =>
              ((F_format_Least a0)).bind fun r37 =>
              ((F_bits_Cut x29 r22.2.1)).bind fun r38 =>
              ((F_format_Join a0 a2 x31 (IntKind.wrap .u32 r38))).bind fun r39 =>
              (some (r39, ((false, (false, (false, ((decide ((IntKind.wrap .i64 ((IntKind.wrap .i64 (x0 + r36)) - (1:Int))) < r37)), (x25, ()))))), ())))
          else
            ((F_bits_Cut x29 r22.2.1)).bind fun r40 =>
            ((F_format_Join a0 a2 x31 (IntKind.wrap .u32 r40))).bind fun r41 =>
            (some (r41, ((false, (false, (false, (false, (x25, ()))))), ())))
      else
        none
    else
      none
noncomputable def G_round_Pack : T fa_round_Pack → TH ha_round_Pack → Option (Int × (Bool × Bool × Bool × Bool × Bool × Unit) × Unit) := fun x y => F_round_Pack x.1 x.2.1 x.2.2.1 x.2.2.2.1 x.2.2.2.2.1 x.2.2.2.2.2.1
noncomputable def c_round_Pack : Orc := ent i_round_Pack [] 0 (sp fa_round_Pack ha_round_Pack fr_round_Pack hr_round_Pack G_round_Pack out_round_Pack)
theorem ok_round_Pack : OrcOk PR c_round_Pack := fnT okO_round_Pack mixed p_round_Pack (by kernel_rfl) (by kernel_rfl) (L := L_round_Pack) (kp := false) (by kernel_rfl) (inn := inn_round_Pack) (out := out_round_Pack) (fun _ _ => rfl) (loopsL (l := []) (by kernel_rfl) trivial) (fun x y => by kernel_rfl)
noncomputable def O_annealref1_Len : Orc := orn
theorem okO_annealref1_Len : OrcOk PR O_annealref1_Len := (orn_ok _)
abbrev fa_annealref1_Len : Fm := (.pair (.i .u64) .unit)
abbrev ha_annealref1_Len : List BF := []
abbrev fr_annealref1_Len : Fm := (.i .i64)
abbrev hr_annealref1_Len : List BF := []
abbrev ff_annealref1_Len_0 : Fm := (.pair (.i .u64) (.us 2 (.pair (.i .i64) (.us 7 .unit))))
abbrev hf_annealref1_Len_0 : List BF := []
abbrev X_annealref1_Len_0 : Xs := (.one (.exit 0) [3] (.us 3 (.pair (.i .i64) (.us 7 .unit))) [])
abbrev S_annealref1_Len_0 : Type := T ff_annealref1_Len_0 × TH hf_annealref1_Len_0
abbrev E_annealref1_Len_0 : Type := TX X_annealref1_Len_0
noncomputable def LB_annealref1_Len_0 : Lps := L0
noncomputable def st_annealref1_Len_0 : StepT S_annealref1_Len_0 E_annealref1_Len_0 := fun R v kn ko =>
  bif (decide (v.1.1 > (0:Int))) then
    (kn (((v.1.1 / (2:Int)), ((IntKind.wrap .i64 (v.1.2.1 + (1:Int))), ())), ()))
  else
    (ko (v.1.2, ()))
noncomputable def ls_annealref1_Len_0 : St → LTr := (lsum ff_annealref1_Len_0 hf_annealref1_Len_0 X_annealref1_Len_0 Prod.mk id st_annealref1_Len_0 (hd [] [] [0, 3] 0))
theorem lp_annealref1_Len_0 : LoopOk PR 0 (lpN f_annealref1_Len 0) ls_annealref1_Len_0 := loopT okO_annealref1_Len mixed (L := LB_annealref1_Len_0) (d := 1) (bs := []) (ks := [0, 3]) (loopsL (l := []) (by kernel_rfl) trivial) (by kernel_rfl) (inS := Prod.mk) (outS := id) (fun _ _ => rfl) (inX := id) (outX := id) (fun _ => rfl) (fun v R kn ko => by kernel_rfl) (hd_wk [] [] [0, 3] 0)
noncomputable def L_annealref1_Len : Lps := (lpB 3 (.by_ ls_annealref1_Len_0) L0)
def inn_annealref1_Len : T fr_annealref1_Len → TH hr_annealref1_Len → Int := (fun z w => z)
def out_annealref1_Len : Int → T fr_annealref1_Len × TH hr_annealref1_Len := fun r => (r, ())
noncomputable def F_annealref1_Len (a0 : Int) : Option (Int) :=
  ((lim st_annealref1_Len_0 ((a0, ((0:Int), ())), ()))).bind fun r0 =>
  (some r0.1.1)
noncomputable def G_annealref1_Len : T fa_annealref1_Len → TH ha_annealref1_Len → Option (Int) := fun x y => F_annealref1_Len x.1
noncomputable def c_annealref1_Len : Orc := ent i_annealref1_Len [] 0 (sp fa_annealref1_Len ha_annealref1_Len fr_annealref1_Len hr_annealref1_Len G_annealref1_Len out_annealref1_Len)
theorem ok_annealref1_Len : OrcOk PR c_annealref1_Len := fnT okO_annealref1_Len mixed p_annealref1_Len (by kernel_rfl) (by kernel_rfl) (L := L_annealref1_Len) (kp := false) (by kernel_rfl) (inn := inn_annealref1_Len) (out := out_annealref1_Len) (fun _ _ => rfl) (loopsL (l := [((lpN f_annealref1_Len 0), ls_annealref1_Len_0)]) (by kernel_rfl) ⟨lp_annealref1_Len_0, trivial⟩) (fun x y => by kernel_rfl)
noncomputable def O_annealref1_Shift : Orc := orn
theorem okO_annealref1_Shift : OrcOk PR O_annealref1_Shift := (orn_ok _)
abbrev fa_annealref1_Shift : Fm := (.pair (.i .u64) (.pair (.i .i64) .unit))
abbrev ha_annealref1_Shift : List BF := []
abbrev fr_annealref1_Shift : Fm := (.tup (.pair (.i .u64) (.pair .b .unit)))
abbrev hr_annealref1_Shift : List BF := []
abbrev ff_annealref1_Shift_0 : Fm := (.pair (.i .u64) (.pair (.i .i64) (.us 4 (.pair .b (.us 29 .unit)))))
abbrev hf_annealref1_Shift_0 : List BF := []
abbrev X_annealref1_Shift_0 : Xs := (.one (.exit 0) [0, 1, 6] (.pair (.i .u64) (.pair (.i .i64) (.us 4 (.pair .b (.us 29 .unit))))) [])
abbrev S_annealref1_Shift_0 : Type := T ff_annealref1_Shift_0 × TH hf_annealref1_Shift_0
abbrev E_annealref1_Shift_0 : Type := TX X_annealref1_Shift_0
noncomputable def LB_annealref1_Shift_0 : Lps := L0
noncomputable def st_annealref1_Shift_0 : StepT S_annealref1_Shift_0 E_annealref1_Shift_0 := fun R v kn ko =>
  let x0 : Int := v.1.1
  let x1 : Int := (x0 / (2:Int))
  let x2 : Int := (IntKind.wrap .i64 (v.1.2.1 - (1:Int)))
  bif (decide (v.1.2.1 > (0:Int))) then
    bif v.1.2.2.1 then
      (kn ((x1, (x2, (true, ()))), ()))
    else
      (kn ((x1, (x2, (((bits .and .u64 x0 (1:Int)) == (1:Int)), ()))), ()))
  else
    (ko v)
noncomputable def ls_annealref1_Shift_0 : St → LTr := (lsum ff_annealref1_Shift_0 hf_annealref1_Shift_0 X_annealref1_Shift_0 Prod.mk id st_annealref1_Shift_0 (hd [] [] [0, 1, 6] 0))
theorem lp_annealref1_Shift_0 : LoopOk PR 0 (lpN f_annealref1_Shift 0) ls_annealref1_Shift_0 := loopT okO_annealref1_Shift mixed (L := LB_annealref1_Shift_0) (d := 1) (bs := []) (ks := [0, 1, 6]) (loopsL (l := []) (by kernel_rfl) trivial) (by kernel_rfl) (inS := Prod.mk) (outS := id) (fun _ _ => rfl) (inX := id) (outX := id) (fun _ => rfl) (fun v R kn ko => by kernel_rfl) (hd_wk [] [] [0, 1, 6] 0)
abbrev ff_annealref1_Shift_1 : Fm := (.pair (.i .u64) (.pair (.i .i64) (.us 4 (.pair .b (.us 29 .unit)))))
abbrev hf_annealref1_Shift_1 : List BF := []
abbrev X_annealref1_Shift_1 : Xs := (.one (.exit 2) [0, 6] (.pair (.i .u64) (.us 5 (.pair .b (.us 29 .unit)))) [])
abbrev S_annealref1_Shift_1 : Type := T ff_annealref1_Shift_1 × TH hf_annealref1_Shift_1
abbrev E_annealref1_Shift_1 : Type := TX X_annealref1_Shift_1
noncomputable def LB_annealref1_Shift_1 : Lps := (lpB 4 (.by_ ls_annealref1_Shift_0) L0)
noncomputable def st_annealref1_Shift_1 : StepT S_annealref1_Shift_1 E_annealref1_Shift_1 := fun R v kn ko =>
  let x0 : Int := v.1.1
  let x1 : Int := (IntKind.wrap .u64 (x0 * (2:Int)))
  let x2 : Int := (IntKind.wrap .i64 (v.1.2.1 + (1:Int)))
  bif (decide (v.1.2.1 < (0:Int))) then
    bif v.1.2.2.1 then
      (kn ((x1, (x2, (true, ()))), ()))
    else
      (kn ((x1, (x2, (((x0 / (9223372036854775808:Int)) == (1:Int)), ()))), ()))
  else
    (ko ((x0, v.1.2.2), ()))
noncomputable def ls_annealref1_Shift_1 : St → LTr := (lsum ff_annealref1_Shift_1 hf_annealref1_Shift_1 X_annealref1_Shift_1 Prod.mk id st_annealref1_Shift_1 (hd [] [] [0, 1, 6] 0))
theorem lp_annealref1_Shift_1 : LoopOk PR 0 (lpN f_annealref1_Shift 1) ls_annealref1_Shift_1 := loopT okO_annealref1_Shift mixed (L := LB_annealref1_Shift_1) (d := 1) (bs := []) (ks := [0, 1, 6]) (loopsL (l := []) (by kernel_rfl) trivial) (by kernel_rfl) (inS := Prod.mk) (outS := id) (fun _ _ => rfl) (inX := id) (outX := id) (fun _ => rfl) (fun v R kn ko => by kernel_rfl) (hd_wk [] [] [0, 1, 6] 0)
noncomputable def L_annealref1_Shift : Lps := (lpB 8 (.by_ ls_annealref1_Shift_1) (lpB 4 (.by_ ls_annealref1_Shift_0) L0))
def inn_annealref1_Shift : T fr_annealref1_Shift → TH hr_annealref1_Shift → Int × Bool × Unit := (fun z w => z)
def out_annealref1_Shift : Int × Bool × Unit → T fr_annealref1_Shift × TH hr_annealref1_Shift := fun r => (r, ())
noncomputable def F_annealref1_Shift (a0 : Int) (a1 : Int) : Option (Int × Bool × Unit) :=
  ((lim st_annealref1_Shift_0 ((a0, ((mn (mx a1 (-(64:Int))) (64:Int)), (false, ()))), ()))).bind fun r0 =>
  ((lim st_annealref1_Shift_1 r0)).bind fun r1 =>
  (some r1.1)
noncomputable def G_annealref1_Shift : T fa_annealref1_Shift → TH ha_annealref1_Shift → Option (Int × Bool × Unit) := fun x y => F_annealref1_Shift x.1 x.2.1
noncomputable def c_annealref1_Shift : Orc := ent i_annealref1_Shift [] 0 (sp fa_annealref1_Shift ha_annealref1_Shift fr_annealref1_Shift hr_annealref1_Shift G_annealref1_Shift out_annealref1_Shift)
theorem ok_annealref1_Shift : OrcOk PR c_annealref1_Shift := fnT okO_annealref1_Shift mixed p_annealref1_Shift (by kernel_rfl) (by kernel_rfl) (L := L_annealref1_Shift) (kp := false) (by kernel_rfl) (inn := inn_annealref1_Shift) (out := out_annealref1_Shift) (fun _ _ => rfl) (loopsL (l := [((lpN f_annealref1_Shift 0), ls_annealref1_Shift_0), ((lpN f_annealref1_Shift 1), ls_annealref1_Shift_1)]) (by kernel_rfl) ⟨lp_annealref1_Shift_0, ⟨lp_annealref1_Shift_1, trivial⟩⟩) (fun x y => by kernel_rfl)
noncomputable def O_annealref1_divide : Orc := c_annealref1_Shift
theorem okO_annealref1_divide : OrcOk PR O_annealref1_divide := ok_annealref1_Shift
abbrev fa_annealref1_divide : Fm := (.pair (.i .u64) (.pair (.i .i64) .unit))
abbrev ha_annealref1_divide : List BF := []
abbrev fr_annealref1_divide : Fm := (.tup (.pair (.i .u64) (.pair .b (.pair .b .unit))))
abbrev hr_annealref1_divide : List BF := []
noncomputable def L_annealref1_divide : Lps := L0
def inn_annealref1_divide : T fr_annealref1_divide → TH hr_annealref1_divide → Int × Bool × Bool × Unit := (fun z w => z)
def out_annealref1_divide : Int × Bool × Bool × Unit → T fr_annealref1_divide × TH hr_annealref1_divide := fun r => (r, ())
noncomputable def F_annealref1_divide (a0 : Int) (a1 : Int) : Option (Int × Bool × Bool × Unit) :=
  bif (decide (a1 ≤ (0:Int))) then
    bif (decide ((0:Int) ≤ (mn (IntKind.wrap .i64 ((0:Int) - a1)) (63:Int)))) then
      (some ((IntKind.wrap .u64 (a0 * ((2:Int) ^ (Min.min (Int.toNat (mn (IntKind.wrap .i64 ((0:Int) - a1)) (63:Int))) (64:Nat))))), (false, (false, ()))))
    else
      none
  else
    bif (decide (a1 > (64:Int))) then
      (some ((0:Int), (false, ((a0 != (0:Int)), ()))))
    else
      ((F_annealref1_Shift a0 a1)).bind fun r0 =>
      ((F_annealref1_Shift a0 (IntKind.wrap .i64 (a1 - (1:Int))))).bind fun r1 =>
      ((F_annealref1_Shift a0 (IntKind.wrap .i64 (a1 - (1:Int))))).bind fun r2 =>
      (some (r0.1, (((bits .and .u64 r1.1 (1:Int)) == (1:Int)), r2.2)))
noncomputable def G_annealref1_divide : T fa_annealref1_divide → TH ha_annealref1_divide → Option (Int × Bool × Bool × Unit) := fun x y => F_annealref1_divide x.1 x.2.1
noncomputable def c_annealref1_divide : Orc := ent i_annealref1_divide [] 0 (sp fa_annealref1_divide ha_annealref1_divide fr_annealref1_divide hr_annealref1_divide G_annealref1_divide out_annealref1_divide)
theorem ok_annealref1_divide : OrcOk PR c_annealref1_divide := fnT okO_annealref1_divide mixed p_annealref1_divide (by kernel_rfl) (by kernel_rfl) (L := L_annealref1_divide) (kp := false) (by kernel_rfl) (inn := inn_annealref1_divide) (out := out_annealref1_divide) (fun _ _ => rfl) (loopsL (l := []) (by kernel_rfl) trivial) (fun x y => by kernel_rfl)
noncomputable def O_annealref1_up : Orc := orn
theorem okO_annealref1_up : OrcOk PR O_annealref1_up := (orn_ok _)
abbrev fa_annealref1_up : Fm := (.pair (.i .i64) (.pair .b (.pair .b (.pair .b (.pair .b .unit)))))
abbrev ha_annealref1_up : List BF := []
abbrev fr_annealref1_up : Fm := .b
abbrev hr_annealref1_up : List BF := []
noncomputable def L_annealref1_up : Lps := L0
def inn_annealref1_up : T fr_annealref1_up → TH hr_annealref1_up → Bool := (fun z w => z)
def out_annealref1_up : Bool → T fr_annealref1_up × TH hr_annealref1_up := fun r => (r, ())
noncomputable def F_annealref1_up (a0 : Int) (a1 : Bool) (a2 : Bool) (a3 : Bool) (a4 : Bool) : Option (Bool) :=
  bif (a0 == (1:Int)) then
    (some false)
  else
    bif (a0 == (2:Int)) then
      bif (!a1) then
        bif a3 then
          (some true)
        else
          (some a4)
      else
        (some false)
    else
      bif (a0 == (3:Int)) then
        bif a1 then
          bif a3 then
            (some true)
          else
            (some a4)
        else
          (some false)
      else
        bif (a0 == (4:Int)) then
          (some a3)
        else
          bif a3 then
            bif a4 then
              (some true)
            else
              (some a2)
          else
            (some false)
noncomputable def G_annealref1_up : T fa_annealref1_up → TH ha_annealref1_up → Option (Bool) := fun x y => F_annealref1_up x.1 x.2.1 x.2.2.1 x.2.2.2.1 x.2.2.2.2.1
noncomputable def c_annealref1_up : Orc := ent i_annealref1_up [] 0 (sp fa_annealref1_up ha_annealref1_up fr_annealref1_up hr_annealref1_up G_annealref1_up out_annealref1_up)
theorem ok_annealref1_up : OrcOk PR c_annealref1_up := fnT okO_annealref1_up mixed p_annealref1_up (by kernel_rfl) (by kernel_rfl) (L := L_annealref1_up) (kp := false) (by kernel_rfl) (inn := inn_annealref1_up) (out := out_annealref1_up) (fun _ _ => rfl) (loopsL (l := []) (by kernel_rfl) trivial) (fun x y => by kernel_rfl)
noncomputable def O_annealref1_Pack : Orc := (orm c_annealref1_Zero (orm c_annealref1_Widths (orm c_annealref1_bias (orm c_annealref1_Len (orm c_annealref1_divide (orm c_annealref1_up (orm c_annealref1_sign c_annealref1_over)))))))
theorem okO_annealref1_Pack : OrcOk PR O_annealref1_Pack := (orm_ok ok_annealref1_Zero (orm_ok ok_annealref1_Widths (orm_ok ok_annealref1_bias (orm_ok ok_annealref1_Len (orm_ok ok_annealref1_divide (orm_ok ok_annealref1_up (orm_ok ok_annealref1_sign ok_annealref1_over)))))))
abbrev fa_annealref1_Pack : Fm := (.pair (.i .i64) (.pair (.i .i64) (.pair .b (.pair (.i .i64) (.pair (.i .u64) (.pair .b .unit))))))
abbrev ha_annealref1_Pack : List BF := []
abbrev fr_annealref1_Pack : Fm := (.tup (.pair (.i .u32) (.pair (.agg (.pair .b (.pair .b (.pair .b (.pair .b (.pair .b .unit)))))) .unit)))
abbrev hr_annealref1_Pack : List BF := []
noncomputable def L_annealref1_Pack : Lps := L0
def inn_annealref1_Pack : T fr_annealref1_Pack → TH hr_annealref1_Pack → Int × (Bool × Bool × Bool × Bool × Bool × Unit) × Unit := (fun z w => z)
def out_annealref1_Pack : Int × (Bool × Bool × Bool × Bool × Bool × Unit) × Unit → T fr_annealref1_Pack × TH hr_annealref1_Pack := fun r => (r, ())
noncomputable def F_annealref1_Pack (a0 : Int) (a1 : Int) (a2 : Bool) (a3 : Int) (a4 : Int) (a5 : Bool) : Option (Int × (Bool × Bool × Bool × Bool × Bool × Unit) × Unit) :=
  let x0 : Int := (mn (mx a3 (-(10000:Int))) (10000:Int))
  bif (a4 == (0:Int)) then
    bif (!a5) then
      ((F_annealref1_Zero a0 a2)).bind fun r1 =>
      (some (r1, ((false, (false, (false, (false, (false, ()))))), ())))
    else
      ((F_annealref1_Widths a0)).bind fun r2 =>
      let x3 : Int := (IntKind.wrap .u64 ((1:Int) * ((2:Int) ^ (Min.min (Int.toNat (IntKind.wrap .i64 (r2.2.1 + (1:Int)))) (64:Nat)))))
      let x4 : Nat := (Int.toNat r2.2.1)
      let x5 : Int := ((2:Int) ^ (Min.min x4 (32:Nat)))
      let x6 : Int := (IntKind.wrap .u64 ((IntKind.wrap .u64 ((1:Int) * ((2:Int) ^ (Min.min x4 (64:Nat))))) - (1:Int)))
      ((F_annealref1_bias a0)).bind fun r7 =>
      ((F_annealref1_Len a4)).bind fun r8 =>
      let x9 : Int := (IntKind.wrap .i64 ((mx (bif (a4 == (0:Int)) then (-(20000:Int)) else (IntKind.wrap .i64 ((IntKind.wrap .i64 (x0 + r8)) - (1:Int)))) (IntKind.wrap .i64 ((1:Int) - r7))) - r2.2.1))
      let x10 : Int := (IntKind.wrap .i64 (x9 + (1:Int)))
      ((F_annealref1_divide a4 (IntKind.wrap .i64 (x9 - x0)))).bind fun r11 =>
      let x12 : Bool := r11.2.2.1
      let x13 : Bool := ((bits .and .u64 r11.1 (1:Int)) == (1:Int))
      let x14 : Int := (IntKind.wrap .u64 (r11.1 + (1:Int)))
      bif x12 then
        bif r11.2.1 then
          ((F_annealref1_up a1 a2 x13 r11.2.1 true)).bind fun r15 =>
          let x16 : Int := (bif r15 then x14 else r11.1)
          let x17 : Bool := (x16 == x3)
          let x18 : Int := (bif x17 then (x16 / (2:Int)) else x16)
          bif (decide ((0:Int) ≤ (IntKind.wrap .i64 (r2.2.1 + (1:Int))))) then
            bif (decide ((0:Int) ≤ r2.2.1)) then
              bif (decide (x18 < (IntKind.wrap .u64 ((1:Int) * ((2:Int) ^ (Min.min x4 (64:Nat))))))) then
                ((F_annealref1_sign a0 a2)).bind fun r19 =>
                (some ((bits .or .u32 r19 (IntKind.wrap .u32 x18)), ((false, (false, (false, ((decide ((bif (a4 == (0:Int)) then (-(20000:Int)) else (IntKind.wrap .i64 ((IntKind.wrap .i64 (x0 + r8)) - (1:Int)))) < (IntKind.wrap .i64 ((1:Int) - r7)))), (true, ()))))), ())))
              else
                ((F_annealref1_bias a0)).bind fun r20 =>
                ((F_annealref1_Widths a0)).bind fun r21 =>
                bif (decide ((0:Int) ≤ r21.1)) then
                  bif (decide ((IntKind.wrap .i64 ((IntKind.wrap .i64 ((bif x17 then x10 else x9) + r2.2.1)) + r20)) ≥ (IntKind.wrap .i64 ((IntKind.wrap .i64 ((1:Int) * ((2:Int) ^ (Min.min (Int.toNat r21.1) (64:Nat))))) - (1:Int))))) then
                    ((F_annealref1_over a0 a1 a2)).bind fun r22 =>
                    (some (r22, ((false, (false, (true, (false, (true, ()))))), ())))
                  else
                    ((F_annealref1_sign a0 a2)).bind fun r23 =>
                    bif (decide ((0:Int) ≤ r2.2.1)) then
                      bif (decide ((0:Int) ≤ r2.2.1)) then
                        (some ((bits .or .u32 (bits .or .u32 r23 (IntKind.wrap .u32 ((IntKind.wrap .u32 (IntKind.wrap .i64 ((IntKind.wrap .i64 ((bif x17 then x10 else x9) + r2.2.1)) + r20))) * x5))) (IntKind.wrap .u32 (bits .and .u64 x18 x6))), ((false, (false, (false, ((decide ((bif (a4 == (0:Int)) then (-(20000:Int)) else (IntKind.wrap .i64 ((IntKind.wrap .i64 (x0 + r8)) - (1:Int)))) < (IntKind.wrap .i64 ((1:Int) - r7)))), (true, ()))))), ())))
                      else
                        none
                    else
                      none
                else
                  none
            else
              none
          else
            none
        else
          ((F_annealref1_up a1 a2 x13 r11.2.1 true)).bind fun r24 =>
          let x25 : Int := (bif r24 then x14 else r11.1)
          let x26 : Bool := (x25 == x3)
          let x27 : Int := (bif x26 then (x25 / (2:Int)) else x25)
          bif (decide ((0:Int) ≤ (IntKind.wrap .i64 (r2.2.1 + (1:Int))))) then
            bif (decide ((0:Int) ≤ r2.2.1)) then
              bif (decide (x27 < (IntKind.wrap .u64 ((1:Int) * ((2:Int) ^ (Min.min x4 (64:Nat))))))) then
                ((F_annealref1_sign a0 a2)).bind fun r28 =>
                (some ((bits .or .u32 r28 (IntKind.wrap .u32 x27)), ((false, (false, (false, ((decide ((bif (a4 == (0:Int)) then (-(20000:Int)) else (IntKind.wrap .i64 ((IntKind.wrap .i64 (x0 + r8)) - (1:Int)))) < (IntKind.wrap .i64 ((1:Int) - r7)))), (true, ()))))), ())))
              else
                ((F_annealref1_bias a0)).bind fun r29 =>
                ((F_annealref1_Widths a0)).bind fun r30 =>
                bif (decide ((0:Int) ≤ r30.1)) then
                  bif (decide ((IntKind.wrap .i64 ((IntKind.wrap .i64 ((bif x26 then x10 else x9) + r2.2.1)) + r29)) ≥ (IntKind.wrap .i64 ((IntKind.wrap .i64 ((1:Int) * ((2:Int) ^ (Min.min (Int.toNat r30.1) (64:Nat))))) - (1:Int))))) then
                    ((F_annealref1_over a0 a1 a2)).bind fun r31 =>
                    (some (r31, ((false, (false, (true, (false, (true, ()))))), ())))
                  else
                    ((F_annealref1_sign a0 a2)).bind fun r32 =>
                    bif (decide ((0:Int) ≤ r2.2.1)) then
                      bif (decide ((0:Int) ≤ r2.2.1)) then
                        (some ((bits .or .u32 (bits .or .u32 r32 (IntKind.wrap .u32 ((IntKind.wrap .u32 (IntKind.wrap .i64 ((IntKind.wrap .i64 ((bif x26 then x10 else x9) + r2.2.1)) + r29))) * x5))) (IntKind.wrap .u32 (bits .and .u64 x27 x6))), ((false, (false, (false, ((decide ((bif (a4 == (0:Int)) then (-(20000:Int)) else (IntKind.wrap .i64 ((IntKind.wrap .i64 (x0 + r8)) - (1:Int)))) < (IntKind.wrap .i64 ((1:Int) - r7)))), (true, ()))))), ())))
                      else
                        none
                    else
                      none
                else
                  none
            else
              none
          else
            none
      else
        bif r11.2.1 then
          ((F_annealref1_up a1 a2 x13 r11.2.1 a5)).bind fun r33 =>
          let x34 : Int := (bif r33 then x14 else r11.1)
          let x35 : Bool := (x34 == x3)
          let x36 : Int := (bif x35 then (x34 / (2:Int)) else x34)
          bif (decide ((0:Int) ≤ (IntKind.wrap .i64 (r2.2.1 + (1:Int))))) then
            bif (decide ((0:Int) ≤ r2.2.1)) then
              bif (decide (x36 < (IntKind.wrap .u64 ((1:Int) * ((2:Int) ^ (Min.min x4 (64:Nat))))))) then
                ((F_annealref1_sign a0 a2)).bind fun r37 =>
                (some ((bits .or .u32 r37 (IntKind.wrap .u32 x36)), ((false, (false, (false, ((decide ((bif (a4 == (0:Int)) then (-(20000:Int)) else (IntKind.wrap .i64 ((IntKind.wrap .i64 (x0 + r8)) - (1:Int)))) < (IntKind.wrap .i64 ((1:Int) - r7)))), (true, ()))))), ())))
              else
                ((F_annealref1_bias a0)).bind fun r38 =>
                ((F_annealref1_Widths a0)).bind fun r39 =>
                bif (decide ((0:Int) ≤ r39.1)) then
                  bif (decide ((IntKind.wrap .i64 ((IntKind.wrap .i64 ((bif x35 then x10 else x9) + r2.2.1)) + r38)) ≥ (IntKind.wrap .i64 ((IntKind.wrap .i64 ((1:Int) * ((2:Int) ^ (Min.min (Int.toNat r39.1) (64:Nat))))) - (1:Int))))) then
                    ((F_annealref1_over a0 a1 a2)).bind fun r40 =>
                    (some (r40, ((false, (false, (true, (false, (true, ()))))), ())))
                  else
                    ((F_annealref1_sign a0 a2)).bind fun r41 =>
                    bif (decide ((0:Int) ≤ r2.2.1)) then
                      bif (decide ((0:Int) ≤ r2.2.1)) then
                        (some ((bits .or .u32 (bits .or .u32 r41 (IntKind.wrap .u32 ((IntKind.wrap .u32 (IntKind.wrap .i64 ((IntKind.wrap .i64 ((bif x35 then x10 else x9) + r2.2.1)) + r38))) * x5))) (IntKind.wrap .u32 (bits .and .u64 x36 x6))), ((false, (false, (false, ((decide ((bif (a4 == (0:Int)) then (-(20000:Int)) else (IntKind.wrap .i64 ((IntKind.wrap .i64 (x0 + r8)) - (1:Int)))) < (IntKind.wrap .i64 ((1:Int) - r7)))), (true, ()))))), ())))
                      else
                        none
                    else
                      none
                else
                  none
            else
              none
          else
            none
        else
          ((F_annealref1_up a1 a2 x13 r11.2.1 a5)).bind fun r42 =>
          let x43 : Int := (bif r42 then x14 else r11.1)
          let x44 : Bool := (x43 == x3)
          let x45 : Int := (bif x44 then (x43 / (2:Int)) else x43)
          let x46 : Int := (IntKind.wrap .u32 x45)
          let x47 : Int := (IntKind.wrap .i64 ((bif x44 then x10 else x9) + r2.2.1))
          let x48 : Int := (IntKind.wrap .u32 (bits .and .u64 x45 x6))
          bif a5 then
            bif (decide ((0:Int) ≤ (IntKind.wrap .i64 (r2.2.1 + (1:Int))))) then
              bif (decide ((0:Int) ≤ r2.2.1)) then
                bif (decide (x45 < (IntKind.wrap .u64 ((1:Int) * ((2:Int) ^ (Min.min x4 (64:Nat))))))) then
                  ((F_annealref1_sign a0 a2)).bind fun r49 =>
                  (some ((bits .or .u32 r49 x46), ((false, (false, (false, ((decide ((bif (a4 == (0:Int)) then (-(20000:Int)) else (IntKind.wrap .i64 ((IntKind.wrap .i64 (x0 + r8)) - (1:Int)))) < (IntKind.wrap .i64 ((1:Int) - r7)))), (a5, ()))))), ())))
                else
                  ((F_annealref1_bias a0)).bind fun r50 =>
                  ((F_annealref1_Widths a0)).bind fun r51 =>
                  bif (decide ((0:Int) ≤ r51.1)) then
                    bif (decide ((IntKind.wrap .i64 (x47 + r50)) ≥ (IntKind.wrap .i64 ((IntKind.wrap .i64 ((1:Int) * ((2:Int) ^ (Min.min (Int.toNat r51.1) (64:Nat))))) - (1:Int))))) then
                      ((F_annealref1_over a0 a1 a2)).bind fun r52 =>
                      (some (r52, ((false, (false, (true, (false, (true, ()))))), ())))
                    else
                      ((F_annealref1_sign a0 a2)).bind fun r53 =>
                      bif (decide ((0:Int) ≤ r2.2.1)) then
                        bif (decide ((0:Int) ≤ r2.2.1)) then
                          (some ((bits .or .u32 (bits .or .u32 r53 (IntKind.wrap .u32 ((IntKind.wrap .u32 (IntKind.wrap .i64 (x47 + r50))) * x5))) x48), ((false, (false, (false, ((decide ((bif (a4 == (0:Int)) then (-(20000:Int)) else (IntKind.wrap .i64 ((IntKind.wrap .i64 (x0 + r8)) - (1:Int)))) < (IntKind.wrap .i64 ((1:Int) - r7)))), (a5, ()))))), ())))
                        else
                          none
                      else
                        none
                  else
                    none
              else
                none
            else
              none
          else
            bif (decide ((0:Int) ≤ (IntKind.wrap .i64 (r2.2.1 + (1:Int))))) then
              bif (decide ((0:Int) ≤ r2.2.1)) then
                bif (decide (x45 < (IntKind.wrap .u64 ((1:Int) * ((2:Int) ^ (Min.min x4 (64:Nat))))))) then
                  ((F_annealref1_sign a0 a2)).bind fun r54 =>
                  (some ((bits .or .u32 r54 x46), ((false, (false, (false, (false, (a5, ()))))), ())))
                else
                  ((F_annealref1_bias a0)).bind fun r55 =>
                  ((F_annealref1_Widths a0)).bind fun r56 =>
                  bif (decide ((0:Int) ≤ r56.1)) then
                    bif (decide ((IntKind.wrap .i64 (x47 + r55)) ≥ (IntKind.wrap .i64 ((IntKind.wrap .i64 ((1:Int) * ((2:Int) ^ (Min.min (Int.toNat r56.1) (64:Nat))))) - (1:Int))))) then
                      ((F_annealref1_over a0 a1 a2)).bind fun r57 =>
                      (some (r57, ((false, (false, (true, (false, (true, ()))))), ())))
                    else
                      ((F_annealref1_sign a0 a2)).bind fun r58 =>
                      bif (decide ((0:Int) ≤ r2.2.1)) then
                        bif (decide ((0:Int) ≤ r2.2.1)) then
                          (some ((bits .or .u32 (bits .or .u32 r58 (IntKind.wrap .u32 ((IntKind.wrap .u32 (IntKind.wrap .i64 (x47 + r55))) * x5))) x48), ((false, (false, (false, (false, (a5, ()))))), ())))
                        else
                          none
                      else
                        none
                  else
                    none
              else
                none
            else
              none
  else
    ((F_annealref1_Widths a0)).bind fun r59 =>
    let x60 : Int := (IntKind.wrap .u64 ((1:Int) * ((2:Int) ^ (Min.min (Int.toNat (IntKind.wrap .i64 (r59.2.1 + (1:Int)))) (64:Nat)))))
    let x61 : Nat := (Int.toNat r59.2.1)
    let x62 : Int := ((2:Int) ^ (Min.min x61 (32:Nat)))
    let x63 : Int := (IntKind.wrap .u64 ((IntKind.wrap .u64 ((1:Int) * ((2:Int) ^ (Min.min x61 (64:Nat))))) - (1:Int)))
    ((F_annealref1_bias a0)).bind fun r64 =>
    ((F_annealref1_Len a4)).bind fun r65 =>
    let x66 : Int := (IntKind.wrap .i64 ((mx (bif (a4 == (0:Int)) then (-(20000:Int)) else (IntKind.wrap .i64 ((IntKind.wrap .i64 (x0 + r65)) - (1:Int)))) (IntKind.wrap .i64 ((1:Int) - r64))) - r59.2.1))
    let x67 : Int := (IntKind.wrap .i64 (x66 + (1:Int)))
    ((F_annealref1_divide a4 (IntKind.wrap .i64 (x66 - x0)))).bind fun r68 =>
    let x69 : Bool := r68.2.2.1
    let x70 : Bool := ((bits .and .u64 r68.1 (1:Int)) == (1:Int))
    let x71 : Int := (IntKind.wrap .u64 (r68.1 + (1:Int)))
    bif x69 then
      bif r68.2.1 then
        ((F_annealref1_up a1 a2 x70 r68.2.1 true)).bind fun r72 =>
        let x73 : Int := (bif r72 then x71 else r68.1)
        let x74 : Bool := (x73 == x60)
        let x75 : Int := (bif x74 then (x73 / (2:Int)) else x73)
        bif (decide ((0:Int) ≤ (IntKind.wrap .i64 (r59.2.1 + (1:Int))))) then
          bif (decide ((0:Int) ≤ r59.2.1)) then
            bif (decide (x75 < (IntKind.wrap .u64 ((1:Int) * ((2:Int) ^ (Min.min x61 (64:Nat))))))) then
              ((F_annealref1_sign a0 a2)).bind fun r76 =>
              (some ((bits .or .u32 r76 (IntKind.wrap .u32 x75)), ((false, (false, (false, ((decide ((bif (a4 == (0:Int)) then (-(20000:Int)) else (IntKind.wrap .i64 ((IntKind.wrap .i64 (x0 + r65)) - (1:Int)))) < (IntKind.wrap .i64 ((1:Int) - r64)))), (true, ()))))), ())))
            else
              ((F_annealref1_bias a0)).bind fun r77 =>
              ((F_annealref1_Widths a0)).bind fun r78 =>
              bif (decide ((0:Int) ≤ r78.1)) then
                bif (decide ((IntKind.wrap .i64 ((IntKind.wrap .i64 ((bif x74 then x67 else x66) + r59.2.1)) + r77)) ≥ (IntKind.wrap .i64 ((IntKind.wrap .i64 ((1:Int) * ((2:Int) ^ (Min.min (Int.toNat r78.1) (64:Nat))))) - (1:Int))))) then
                  ((F_annealref1_over a0 a1 a2)).bind fun r79 =>
                  (some (r79, ((false, (false, (true, (false, (true, ()))))), ())))
                else
                  ((F_annealref1_sign a0 a2)).bind fun r80 =>
                  bif (decide ((0:Int) ≤ r59.2.1)) then
                    bif (decide ((0:Int) ≤ r59.2.1)) then
                      (some ((bits .or .u32 (bits .or .u32 r80 (IntKind.wrap .u32 ((IntKind.wrap .u32 (IntKind.wrap .i64 ((IntKind.wrap .i64 ((bif x74 then x67 else x66) + r59.2.1)) + r77))) * x62))) (IntKind.wrap .u32 (bits .and .u64 x75 x63))), ((false, (false, (false, ((decide ((bif (a4 == (0:Int)) then (-(20000:Int)) else (IntKind.wrap .i64 ((IntKind.wrap .i64 (x0 + r65)) - (1:Int)))) < (IntKind.wrap .i64 ((1:Int) - r64)))), (true, ()))))), ())))
                    else
                      none
                  else
                    none
              else
                none
          else
            none
        else
          none
      else
        ((F_annealref1_up a1 a2 x70 r68.2.1 true)).bind fun r81 =>
        let x82 : Int := (bif r81 then x71 else r68.1)
        let x83 : Bool := (x82 == x60)
        let x84 : Int := (bif x83 then (x82 / (2:Int)) else x82)
        bif (decide ((0:Int) ≤ (IntKind.wrap .i64 (r59.2.1 + (1:Int))))) then
          bif (decide ((0:Int) ≤ r59.2.1)) then
            bif (decide (x84 < (IntKind.wrap .u64 ((1:Int) * ((2:Int) ^ (Min.min x61 (64:Nat))))))) then
              ((F_annealref1_sign a0 a2)).bind fun r85 =>
              (some ((bits .or .u32 r85 (IntKind.wrap .u32 x84)), ((false, (false, (false, ((decide ((bif (a4 == (0:Int)) then (-(20000:Int)) else (IntKind.wrap .i64 ((IntKind.wrap .i64 (x0 + r65)) - (1:Int)))) < (IntKind.wrap .i64 ((1:Int) - r64)))), (true, ()))))), ())))
            else
              ((F_annealref1_bias a0)).bind fun r86 =>
              ((F_annealref1_Widths a0)).bind fun r87 =>
              bif (decide ((0:Int) ≤ r87.1)) then
                bif (decide ((IntKind.wrap .i64 ((IntKind.wrap .i64 ((bif x83 then x67 else x66) + r59.2.1)) + r86)) ≥ (IntKind.wrap .i64 ((IntKind.wrap .i64 ((1:Int) * ((2:Int) ^ (Min.min (Int.toNat r87.1) (64:Nat))))) - (1:Int))))) then
                  ((F_annealref1_over a0 a1 a2)).bind fun r88 =>
                  (some (r88, ((false, (false, (true, (false, (true, ()))))), ())))
                else
                  ((F_annealref1_sign a0 a2)).bind fun r89 =>
                  bif (decide ((0:Int) ≤ r59.2.1)) then
                    bif (decide ((0:Int) ≤ r59.2.1)) then
                      (some ((bits .or .u32 (bits .or .u32 r89 (IntKind.wrap .u32 ((IntKind.wrap .u32 (IntKind.wrap .i64 ((IntKind.wrap .i64 ((bif x83 then x67 else x66) + r59.2.1)) + r86))) * x62))) (IntKind.wrap .u32 (bits .and .u64 x84 x63))), ((false, (false, (false, ((decide ((bif (a4 == (0:Int)) then (-(20000:Int)) else (IntKind.wrap .i64 ((IntKind.wrap .i64 (x0 + r65)) - (1:Int)))) < (IntKind.wrap .i64 ((1:Int) - r64)))), (true, ()))))), ())))
                    else
                      none
                  else
                    none
              else
                none
          else
            none
        else
          none
    else
      bif r68.2.1 then
        ((F_annealref1_up a1 a2 x70 r68.2.1 a5)).bind fun r90 =>
        let x91 : Int := (bif r90 then x71 else r68.1)
        let x92 : Bool := (x91 == x60)
        let x93 : Int := (bif x92 then (x91 / (2:Int)) else x91)
        bif (decide ((0:Int) ≤ (IntKind.wrap .i64 (r59.2.1 + (1:Int))))) then
          bif (decide ((0:Int) ≤ r59.2.1)) then
            bif (decide (x93 < (IntKind.wrap .u64 ((1:Int) * ((2:Int) ^ (Min.min x61 (64:Nat))))))) then
              ((F_annealref1_sign a0 a2)).bind fun r94 =>
              (some ((bits .or .u32 r94 (IntKind.wrap .u32 x93)), ((false, (false, (false, ((decide ((bif (a4 == (0:Int)) then (-(20000:Int)) else (IntKind.wrap .i64 ((IntKind.wrap .i64 (x0 + r65)) - (1:Int)))) < (IntKind.wrap .i64 ((1:Int) - r64)))), (true, ()))))), ())))
            else
              ((F_annealref1_bias a0)).bind fun r95 =>
              ((F_annealref1_Widths a0)).bind fun r96 =>
              bif (decide ((0:Int) ≤ r96.1)) then
                bif (decide ((IntKind.wrap .i64 ((IntKind.wrap .i64 ((bif x92 then x67 else x66) + r59.2.1)) + r95)) ≥ (IntKind.wrap .i64 ((IntKind.wrap .i64 ((1:Int) * ((2:Int) ^ (Min.min (Int.toNat r96.1) (64:Nat))))) - (1:Int))))) then
                  ((F_annealref1_over a0 a1 a2)).bind fun r97 =>
                  (some (r97, ((false, (false, (true, (false, (true, ()))))), ())))
                else
                  ((F_annealref1_sign a0 a2)).bind fun r98 =>
                  bif (decide ((0:Int) ≤ r59.2.1)) then
                    bif (decide ((0:Int) ≤ r59.2.1)) then
                      (some ((bits .or .u32 (bits .or .u32 r98 (IntKind.wrap .u32 ((IntKind.wrap .u32 (IntKind.wrap .i64 ((IntKind.wrap .i64 ((bif x92 then x67 else x66) + r59.2.1)) + r95))) * x62))) (IntKind.wrap .u32 (bits .and .u64 x93 x63))), ((false, (false, (false, ((decide ((bif (a4 == (0:Int)) then (-(20000:Int)) else (IntKind.wrap .i64 ((IntKind.wrap .i64 (x0 + r65)) - (1:Int)))) < (IntKind.wrap .i64 ((1:Int) - r64)))), (true, ()))))), ())))
                    else
                      none
                  else
                    none
              else
                none
          else
            none
        else
          none
      else
        ((F_annealref1_up a1 a2 x70 r68.2.1 a5)).bind fun r99 =>
        let x100 : Int := (bif r99 then x71 else r68.1)
        let x101 : Bool := (x100 == x60)
        let x102 : Int := (bif x101 then (x100 / (2:Int)) else x100)
        let x103 : Int := (IntKind.wrap .u32 x102)
        let x104 : Int := (IntKind.wrap .i64 ((bif x101 then x67 else x66) + r59.2.1))
        let x105 : Int := (IntKind.wrap .u32 (bits .and .u64 x102 x63))
        bif a5 then
          bif (decide ((0:Int) ≤ (IntKind.wrap .i64 (r59.2.1 + (1:Int))))) then
            bif (decide ((0:Int) ≤ r59.2.1)) then
              bif (decide (x102 < (IntKind.wrap .u64 ((1:Int) * ((2:Int) ^ (Min.min x61 (64:Nat))))))) then
                ((F_annealref1_sign a0 a2)).bind fun r106 =>
                (some ((bits .or .u32 r106 x103), ((false, (false, (false, ((decide ((bif (a4 == (0:Int)) then (-(20000:Int)) else (IntKind.wrap .i64 ((IntKind.wrap .i64 (x0 + r65)) - (1:Int)))) < (IntKind.wrap .i64 ((1:Int) - r64)))), (a5, ()))))), ())))
              else
                ((F_annealref1_bias a0)).bind fun r107 =>
                ((F_annealref1_Widths a0)).bind fun r108 =>
                bif (decide ((0:Int) ≤ r108.1)) then
                  bif (decide ((IntKind.wrap .i64 (x104 + r107)) ≥ (IntKind.wrap .i64 ((IntKind.wrap .i64 ((1:Int) * ((2:Int) ^ (Min.min (Int.toNat r108.1) (64:Nat))))) - (1:Int))))) then
                    ((F_annealref1_over a0 a1 a2)).bind fun r109 =>
                    (some (r109, ((false, (false, (true, (false, (true, ()))))), ())))
                  else
                    ((F_annealref1_sign a0 a2)).bind fun r110 =>
                    bif (decide ((0:Int) ≤ r59.2.1)) then
                      bif (decide ((0:Int) ≤ r59.2.1)) then
                        (some ((bits .or .u32 (bits .or .u32 r110 (IntKind.wrap .u32 ((IntKind.wrap .u32 (IntKind.wrap .i64 (x104 + r107))) * x62))) x105), ((false, (false, (false, ((decide ((bif (a4 == (0:Int)) then (-(20000:Int)) else (IntKind.wrap .i64 ((IntKind.wrap .i64 (x0 + r65)) - (1:Int)))) < (IntKind.wrap .i64 ((1:Int) - r64)))), (a5, ()))))), ())))
                      else
                        none
                    else
                      none
                else
                  none
            else
              none
          else
            none
        else
          bif (decide ((0:Int) ≤ (IntKind.wrap .i64 (r59.2.1 + (1:Int))))) then
            bif (decide ((0:Int) ≤ r59.2.1)) then
              bif (decide (x102 < (IntKind.wrap .u64 ((1:Int) * ((2:Int) ^ (Min.min x61 (64:Nat))))))) then
                ((F_annealref1_sign a0 a2)).bind fun r111 =>
                (some ((bits .or .u32 r111 x103), ((false, (false, (false, (false, (a5, ()))))), ())))
              else
                ((F_annealref1_bias a0)).bind fun r112 =>
                ((F_annealref1_Widths a0)).bind fun r113 =>
                bif (decide ((0:Int) ≤ r113.1)) then
                  bif (decide ((IntKind.wrap .i64 (x104 + r112)) ≥ (IntKind.wrap .i64 ((IntKind.wrap .i64 ((1:Int) * ((2:Int) ^ (Min.min (Int.toNat r113.1) (64:Nat))))) - (1:Int))))) then
                    ((F_annealref1_over a0 a1 a2)).bind fun r114 =>
                    (some (r114, ((false, (false, (true, (false, (true, ()))))), ())))
                  else
                    ((F_annealref1_sign a0 a2)).bind fun r115 =>
                    bif (decide ((0:Int) ≤ r59.2.1)) then
                      bif (decide ((0:Int) ≤ r59.2.1)) then
                        (some ((bits .or .u32 (bits .or .u32 r115 (IntKind.wrap .u32 ((IntKind.wrap .u32 (IntKind.wrap .i64 (x104 + r112))) * x62))) x105), ((false, (false, (false, (false, (a5, ()))))), ())))
                      else
                        none
                    else
                      none
                else
                  none
            else
              none
          else
            none
noncomputable def G_annealref1_Pack : T fa_annealref1_Pack → TH ha_annealref1_Pack → Option (Int × (Bool × Bool × Bool × Bool × Bool × Unit) × Unit) := fun x y => F_annealref1_Pack x.1 x.2.1 x.2.2.1 x.2.2.2.1 x.2.2.2.2.1 x.2.2.2.2.2.1
noncomputable def c_annealref1_Pack : Orc := ent i_annealref1_Pack [] 0 (sp fa_annealref1_Pack ha_annealref1_Pack fr_annealref1_Pack hr_annealref1_Pack G_annealref1_Pack out_annealref1_Pack)
theorem ok_annealref1_Pack : OrcOk PR c_annealref1_Pack := fnT okO_annealref1_Pack mixed p_annealref1_Pack (by kernel_rfl) (by kernel_rfl) (L := L_annealref1_Pack) (kp := false) (by kernel_rfl) (inn := inn_annealref1_Pack) (out := out_annealref1_Pack) (fun _ _ => rfl) (loopsL (l := []) (by kernel_rfl) trivial) (fun x y => by kernel_rfl)
end Go.Proofs.Ytkknnloamidaiaa.VI
