import Derived.Test.YtkknnloamidaiaaGreatT51a0a96f
namespace Go.Proofs.YtkknnloamidaiaaGreat.VI
set_option linter.unusedVariables false
set_option linter.unusedSimpArgs false
set_option maxRecDepth 100000
set_option linter.unusedSimpArgs false
set_option linter.unusedVariables false
noncomputable def O_annealref1_Mul : Orc := (orm c_annealref1_nans (orm c_annealref1_Nan (orm c_annealref1_neg (orm c_annealref1_zero (orm c_annealref1_inf (orm c_annealref1_Inf (orm c_annealref1_Unpack c_annealref1_Pack)))))))
theorem okO_annealref1_Mul : OrcOk PR O_annealref1_Mul := (orm_ok ok_annealref1_nans (orm_ok ok_annealref1_Nan (orm_ok ok_annealref1_neg (orm_ok ok_annealref1_zero (orm_ok ok_annealref1_inf (orm_ok ok_annealref1_Inf (orm_ok ok_annealref1_Unpack ok_annealref1_Pack)))))))
abbrev fa_annealref1_Mul : Fm := (.pair (.i .i64) (.pair (.i .i64) (.pair (.i .u32) (.pair (.i .u32) .unit))))
abbrev ha_annealref1_Mul : List BF := []
abbrev fr_annealref1_Mul : Fm := (.tup (.pair (.i .u32) (.pair (.agg (.pair .b (.pair .b (.pair .b (.pair .b (.pair .b .unit)))))) .unit)))
abbrev hr_annealref1_Mul : List BF := []
noncomputable def L_annealref1_Mul : Lps := L0
def inn_annealref1_Mul : T fr_annealref1_Mul → TH hr_annealref1_Mul → Int × (Bool × Bool × Bool × Bool × Bool × Unit) × Unit := (fun z w => z)
def out_annealref1_Mul : Int × (Bool × Bool × Bool × Bool × Bool × Unit) × Unit → T fr_annealref1_Mul × TH hr_annealref1_Mul := fun r => (r, ())
noncomputable def F_annealref1_Mul (a0 : Int) (a1 : Int) (a2 : Int) (a3 : Int) : Option (Int × (Bool × Bool × Bool × Bool × Bool × Unit) × Unit) :=
  ((F_annealref1_nans a0 [a2, a3])).bind fun r0 =>
  bif r0.1 then
    ((F_annealref1_Nan a0)).bind fun r1 =>
    (some (r1, ((r0.2.1, (false, (false, (false, (false, ()))))), ())))
  else
    ((F_annealref1_neg a0 a2)).bind fun r2 =>
    ((F_annealref1_neg a0 a3)).bind fun r3 =>
    let x4 : Bool := (!(r2 == r3))
    ((F_annealref1_zero a0 a2)).bind fun r5 =>
    bif r5 then
      ((F_annealref1_inf a0 a3)).bind fun r6 =>
      bif r6 then
        ((F_annealref1_Nan a0)).bind fun r7 =>
        (some (r7, ((true, (false, (false, (false, (false, ()))))), ())))
      else
        ((F_annealref1_inf a0 a2)).bind fun r8 =>
        bif r8 then
          ((F_annealref1_zero a0 a3)).bind fun r9 =>
          bif r9 then
            ((F_annealref1_Nan a0)).bind fun r10 =>
            (some (r10, ((true, (false, (false, (false, (false, ()))))), ())))
          else
            ((F_annealref1_inf a0 a2)).bind fun r11 =>
            bif r11 then
              ((F_annealref1_Inf a0 x4)).bind fun r12 =>
              (some (r12, ((false, (false, (false, (false, (false, ()))))), ())))
            else
              ((F_annealref1_inf a0 a3)).bind fun r13 =>
              bif r13 then
                ((F_annealref1_Inf a0 x4)).bind fun r14 =>
                (some (r14, ((false, (false, (false, (false, (false, ()))))), ())))
              else
                ((F_annealref1_Unpack a0 a2)).bind fun r15 =>
                let x16 : Int := r15.2.2.1
                ((F_annealref1_Unpack a0 a3)).bind fun r17 =>
                let x18 : Int := r17.2.2.1
                ((F_annealref1_Pack a0 a1 x4 (IntKind.wrap .i64 (r15.2.1 + r17.2.1)) (IntKind.wrap .u64 (x16 * x18)) false)).bind fun r19 =>
                (some r19)
        else
          ((F_annealref1_inf a0 a2)).bind fun r20 =>
          bif r20 then
            ((F_annealref1_Inf a0 x4)).bind fun r21 =>
            (some (r21, ((false, (false, (false, (false, (false, ()))))), ())))
          else
            ((F_annealref1_inf a0 a3)).bind fun r22 =>
            bif r22 then
              ((F_annealref1_Inf a0 x4)).bind fun r23 =>
              (some (r23, ((false, (false, (false, (false, (false, ()))))), ())))
            else
              ((F_annealref1_Unpack a0 a2)).bind fun r24 =>
              let x25 : Int := r24.2.2.1
              ((F_annealref1_Unpack a0 a3)).bind fun r26 =>
              let x27 : Int := r26.2.2.1
              ((F_annealref1_Pack a0 a1 x4 (IntKind.wrap .i64 (r24.2.1 + r26.2.1)) (IntKind.wrap .u64 (x25 * x27)) false)).bind fun r28 =>
              (some r28)
    else
      ((F_annealref1_inf a0 a2)).bind fun r29 =>
      bif r29 then
        ((F_annealref1_zero a0 a3)).bind fun r30 =>
        bif r30 then
          ((F_annealref1_Nan a0)).bind fun r31 =>
          (some (r31, ((true, (false, (false, (false, (false, ()))))), ())))
        else
          ((F_annealref1_inf a0 a2)).bind fun r32 =>
          bif r32 then
            ((F_annealref1_Inf a0 x4)).bind fun r33 =>
            (some (r33, ((false, (false, (false, (false, (false, ()))))), ())))
          else
            ((F_annealref1_inf a0 a3)).bind fun r34 =>
            bif r34 then
              ((F_annealref1_Inf a0 x4)).bind fun r35 =>
              (some (r35, ((false, (false, (false, (false, (false, ()))))), ())))
            else
              ((F_annealref1_Unpack a0 a2)).bind fun r36 =>
              let x37 : Int := r36.2.2.1
              ((F_annealref1_Unpack a0 a3)).bind fun r38 =>
              let x39 : Int := r38.2.2.1
              ((F_annealref1_Pack a0 a1 x4 (IntKind.wrap .i64 (r36.2.1 + r38.2.1)) (IntKind.wrap .u64 (x37 * x39)) false)).bind fun r40 =>
              (some r40)
      else
        ((F_annealref1_inf a0 a2)).bind fun r41 =>
        bif r41 then
          ((F_annealref1_Inf a0 x4)).bind fun r42 =>
          (some (r42, ((false, (false, (false, (false, (false, ()))))), ())))
        else
          ((F_annealref1_inf a0 a3)).bind fun r43 =>
          bif r43 then
            ((F_annealref1_Inf a0 x4)).bind fun r44 =>
            (some (r44, ((false, (false, (false, (false, (false, ()))))), ())))
          else
            ((F_annealref1_Unpack a0 a2)).bind fun r45 =>
            let x46 : Int := r45.2.2.1
            ((F_annealref1_Unpack a0 a3)).bind fun r47 =>
            let x48 : Int := r47.2.2.1
            ((F_annealref1_Pack a0 a1 x4 (IntKind.wrap .i64 (r45.2.1 + r47.2.1)) (IntKind.wrap .u64 (x46 * x48)) false)).bind fun r49 =>
            (some r49)
noncomputable def G_annealref1_Mul : T fa_annealref1_Mul → TH ha_annealref1_Mul → Option (Int × (Bool × Bool × Bool × Bool × Bool × Unit) × Unit) := fun x y => F_annealref1_Mul x.1 x.2.1 x.2.2.1 x.2.2.2.1
noncomputable def c_annealref1_Mul : Orc := ent i_annealref1_Mul [] 0 (sp fa_annealref1_Mul ha_annealref1_Mul fr_annealref1_Mul hr_annealref1_Mul G_annealref1_Mul out_annealref1_Mul)
theorem ok_annealref1_Mul : OrcOk PR c_annealref1_Mul := fnT okO_annealref1_Mul mixed p_annealref1_Mul (by kernel_rfl) (by kernel_rfl) (L := L_annealref1_Mul) (kp := false) (by kernel_rfl) (inn := inn_annealref1_Mul) (out := out_annealref1_Mul) (fun _ _ => rfl) (loopsL (l := []) (by kernel_rfl) trivial) (fun x y => by kernel_rfl)
noncomputable def O_annealref1_Add : Orc := (orm c_annealref1_nans (orm c_annealref1_Nan (orm c_annealref1_inf (orm c_annealref1_neg (orm c_annealref1_Mask (orm c_annealref1_zero (orm c_annealref1_Unpack (orm c_annealref1_spread c_annealref1_total))))))))
theorem okO_annealref1_Add : OrcOk PR O_annealref1_Add := (orm_ok ok_annealref1_nans (orm_ok ok_annealref1_Nan (orm_ok ok_annealref1_inf (orm_ok ok_annealref1_neg (orm_ok ok_annealref1_Mask (orm_ok ok_annealref1_zero (orm_ok ok_annealref1_Unpack (orm_ok ok_annealref1_spread ok_annealref1_total))))))))
abbrev fa_annealref1_Add : Fm := (.pair (.i .i64) (.pair (.i .i64) (.pair (.i .u32) (.pair (.i .u32) .unit))))
abbrev ha_annealref1_Add : List BF := []
abbrev fr_annealref1_Add : Fm := (.tup (.pair (.i .u32) (.pair (.agg (.pair .b (.pair .b (.pair .b (.pair .b (.pair .b .unit)))))) .unit)))
abbrev hr_annealref1_Add : List BF := []
noncomputable def L_annealref1_Add : Lps := L0
def inn_annealref1_Add : T fr_annealref1_Add → TH hr_annealref1_Add → Int × (Bool × Bool × Bool × Bool × Bool × Unit) × Unit := (fun z w => z)
def out_annealref1_Add : Int × (Bool × Bool × Bool × Bool × Bool × Unit) × Unit → T fr_annealref1_Add × TH hr_annealref1_Add := fun r => (r, ())
noncomputable def F_annealref1_Add (a0 : Int) (a1 : Int) (a2 : Int) (a3 : Int) : Option (Int × (Bool × Bool × Bool × Bool × Bool × Unit) × Unit) :=
  ((F_annealref1_nans a0 [a2, a3])).bind fun r0 =>
  bif r0.1 then
    ((F_annealref1_Nan a0)).bind fun r1 =>
    (some (r1, ((r0.2.1, (false, (false, (false, (false, ()))))), ())))
  else
    ((F_annealref1_inf a0 a2)).bind fun r2 =>
    bif r2 then
      ((F_annealref1_inf a0 a3)).bind fun r3 =>
      bif r3 then
        ((F_annealref1_neg a0 a2)).bind fun r4 =>
        ((F_annealref1_neg a0 a3)).bind fun r5 =>
        bif (!(r4 == r5)) then
          ((F_annealref1_Nan a0)).bind fun r6 =>
          (some (r6, ((true, (false, (false, (false, (false, ()))))), ())))
        else
          ((F_annealref1_inf a0 a2)).bind fun r7 =>
          bif r7 then
            ((F_annealref1_Mask a0)).bind fun r8 =>
            (some ((bits .and .u32 a2 r8), ((false, (false, (false, (false, (false, ()))))), ())))
          else
            ((F_annealref1_inf a0 a3)).bind fun r9 =>
            bif r9 then
              ((F_annealref1_Mask a0)).bind fun r10 =>
              (some ((bits .and .u32 a3 r10), ((false, (false, (false, (false, (false, ()))))), ())))
            else
              ((F_annealref1_zero a0 a2)).bind fun r11 =>
              bif r11 then
                ((F_annealref1_zero a0 a3)).bind fun r12 =>
                bif r12 then
                  ((F_annealref1_neg a0 a2)).bind fun r13 =>
                  ((F_annealref1_neg a0 a3)).bind fun r14 =>
                  bif (r13 == r14) then
                    ((F_annealref1_Mask a0)).bind fun r15 =>
                    (some ((bits .and .u32 a2 r15), ((false, (false, (false, (false, (false, ()))))), ())))
                  else
                    ((F_annealref1_Unpack a0 a2)).bind fun r16 =>
                    let x17 : Int := r16.2.2.1
                    ((F_annealref1_spread r16.1 r16.2.1 x17)).bind fun r18 =>
                    ((F_annealref1_Unpack a0 a3)).bind fun r19 =>
                    let x20 : Int := r19.2.2.1
                    ((F_annealref1_spread r19.1 r19.2.1 x20)).bind fun r21 =>
                    ((F_annealref1_total a0 a1 (r18.1, ([(List.getD r18.2.1 (0:Nat) (0:Int)), (List.getD r18.2.1 (1:Nat) (0:Int)), (List.getD r18.2.1 (2:Nat) (0:Int)), (List.getD r18.2.1 (3:Nat) (0:Int)), (List.getD r18.2.1 (4:Nat) (0:Int)), (List.getD r18.2.1 (5:Nat) (0:Int)), (List.getD r18.2.1 (6:Nat) (0:Int)), (List.getD r18.2.1 (7:Nat) (0:Int)), (List.getD r18.2.1 (8:Nat) (0:Int)), (List.getD r18.2.1 (9:Nat) (0:Int))], ())) (r21.1, ([(List.getD r21.2.1 (0:Nat) (0:Int)), (List.getD r21.2.1 (1:Nat) (0:Int)), (List.getD r21.2.1 (2:Nat) (0:Int)), (List.getD r21.2.1 (3:Nat) (0:Int)), (List.getD r21.2.1 (4:Nat) (0:Int)), (List.getD r21.2.1 (5:Nat) (0:Int)), (List.getD r21.2.1 (6:Nat) (0:Int)), (List.getD r21.2.1 (7:Nat) (0:Int)), (List.getD r21.2.1 (8:Nat) (0:Int)), (List.getD r21.2.1 (9:Nat) (0:Int))], ())))).bind fun r22 =>
                    (some r22)
                else
                  ((F_annealref1_Unpack a0 a2)).bind fun r23 =>
                  let x24 : Int := r23.2.2.1
                  ((F_annealref1_spread r23.1 r23.2.1 x24)).bind fun r25 =>
                  ((F_annealref1_Unpack a0 a3)).bind fun r26 =>
                  let x27 : Int := r26.2.2.1
                  ((F_annealref1_spread r26.1 r26.2.1 x27)).bind fun r28 =>
                  ((F_annealref1_total a0 a1 (r25.1, ([(List.getD r25.2.1 (0:Nat) (0:Int)), (List.getD r25.2.1 (1:Nat) (0:Int)), (List.getD r25.2.1 (2:Nat) (0:Int)), (List.getD r25.2.1 (3:Nat) (0:Int)), (List.getD r25.2.1 (4:Nat) (0:Int)), (List.getD r25.2.1 (5:Nat) (0:Int)), (List.getD r25.2.1 (6:Nat) (0:Int)), (List.getD r25.2.1 (7:Nat) (0:Int)), (List.getD r25.2.1 (8:Nat) (0:Int)), (List.getD r25.2.1 (9:Nat) (0:Int))], ())) (r28.1, ([(List.getD r28.2.1 (0:Nat) (0:Int)), (List.getD r28.2.1 (1:Nat) (0:Int)), (List.getD r28.2.1 (2:Nat) (0:Int)), (List.getD r28.2.1 (3:Nat) (0:Int)), (List.getD r28.2.1 (4:Nat) (0:Int)), (List.getD r28.2.1 (5:Nat) (0:Int)), (List.getD r28.2.1 (6:Nat) (0:Int)), (List.getD r28.2.1 (7:Nat) (0:Int)), (List.getD r28.2.1 (8:Nat) (0:Int)), (List.getD r28.2.1 (9:Nat) (0:Int))], ())))).bind fun r29 =>
                  (some r29)
              else
                ((F_annealref1_Unpack a0 a2)).bind fun r30 =>
                let x31 : Int := r30.2.2.1
                ((F_annealref1_spread r30.1 r30.2.1 x31)).bind fun r32 =>
                ((F_annealref1_Unpack a0 a3)).bind fun r33 =>
                let x34 : Int := r33.2.2.1
                ((F_annealref1_spread r33.1 r33.2.1 x34)).bind fun r35 =>
                ((F_annealref1_total a0 a1 (r32.1, ([(List.getD r32.2.1 (0:Nat) (0:Int)), (List.getD r32.2.1 (1:Nat) (0:Int)), (List.getD r32.2.1 (2:Nat) (0:Int)), (List.getD r32.2.1 (3:Nat) (0:Int)), (List.getD r32.2.1 (4:Nat) (0:Int)), (List.getD r32.2.1 (5:Nat) (0:Int)), (List.getD r32.2.1 (6:Nat) (0:Int)), (List.getD r32.2.1 (7:Nat) (0:Int)), (List.getD r32.2.1 (8:Nat) (0:Int)), (List.getD r32.2.1 (9:Nat) (0:Int))], ())) (r35.1, ([(List.getD r35.2.1 (0:Nat) (0:Int)), (List.getD r35.2.1 (1:Nat) (0:Int)), (List.getD r35.2.1 (2:Nat) (0:Int)), (List.getD r35.2.1 (3:Nat) (0:Int)), (List.getD r35.2.1 (4:Nat) (0:Int)), (List.getD r35.2.1 (5:Nat) (0:Int)), (List.getD r35.2.1 (6:Nat) (0:Int)), (List.getD r35.2.1 (7:Nat) (0:Int)), (List.getD r35.2.1 (8:Nat) (0:Int)), (List.getD r35.2.1 (9:Nat) (0:Int))], ())))).bind fun r36 =>
                (some r36)
      else
        ((F_annealref1_inf a0 a2)).bind fun r37 =>
        bif r37 then
          ((F_annealref1_Mask a0)).bind fun r38 =>
          (some ((bits .and .u32 a2 r38), ((false, (false, (false, (false, (false, ()))))), ())))
        else
          ((F_annealref1_inf a0 a3)).bind fun r39 =>
          bif r39 then
            ((F_annealref1_Mask a0)).bind fun r40 =>
            (some ((bits .and .u32 a3 r40), ((false, (false, (false, (false, (false, ()))))), ())))
          else
            ((F_annealref1_zero a0 a2)).bind fun r41 =>
            bif r41 then
              ((F_annealref1_zero a0 a3)).bind fun r42 =>
              bif r42 then
                ((F_annealref1_neg a0 a2)).bind fun r43 =>
                ((F_annealref1_neg a0 a3)).bind fun r44 =>
                bif (r43 == r44) then
                  ((F_annealref1_Mask a0)).bind fun r45 =>
                  (some ((bits .and .u32 a2 r45), ((false, (false, (false, (false, (false, ()))))), ())))
                else
                  ((F_annealref1_Unpack a0 a2)).bind fun r46 =>
                  let x47 : Int := r46.2.2.1
                  ((F_annealref1_spread r46.1 r46.2.1 x47)).bind fun r48 =>
                  ((F_annealref1_Unpack a0 a3)).bind fun r49 =>
                  let x50 : Int := r49.2.2.1
                  ((F_annealref1_spread r49.1 r49.2.1 x50)).bind fun r51 =>
                  ((F_annealref1_total a0 a1 (r48.1, ([(List.getD r48.2.1 (0:Nat) (0:Int)), (List.getD r48.2.1 (1:Nat) (0:Int)), (List.getD r48.2.1 (2:Nat) (0:Int)), (List.getD r48.2.1 (3:Nat) (0:Int)), (List.getD r48.2.1 (4:Nat) (0:Int)), (List.getD r48.2.1 (5:Nat) (0:Int)), (List.getD r48.2.1 (6:Nat) (0:Int)), (List.getD r48.2.1 (7:Nat) (0:Int)), (List.getD r48.2.1 (8:Nat) (0:Int)), (List.getD r48.2.1 (9:Nat) (0:Int))], ())) (r51.1, ([(List.getD r51.2.1 (0:Nat) (0:Int)), (List.getD r51.2.1 (1:Nat) (0:Int)), (List.getD r51.2.1 (2:Nat) (0:Int)), (List.getD r51.2.1 (3:Nat) (0:Int)), (List.getD r51.2.1 (4:Nat) (0:Int)), (List.getD r51.2.1 (5:Nat) (0:Int)), (List.getD r51.2.1 (6:Nat) (0:Int)), (List.getD r51.2.1 (7:Nat) (0:Int)), (List.getD r51.2.1 (8:Nat) (0:Int)), (List.getD r51.2.1 (9:Nat) (0:Int))], ())))).bind fun r52 =>
                  (some r52)
              else
                ((F_annealref1_Unpack a0 a2)).bind fun r53 =>
                let x54 : Int := r53.2.2.1
                ((F_annealref1_spread r53.1 r53.2.1 x54)).bind fun r55 =>
                ((F_annealref1_Unpack a0 a3)).bind fun r56 =>
                let x57 : Int := r56.2.2.1
                ((F_annealref1_spread r56.1 r56.2.1 x57)).bind fun r58 =>
                ((F_annealref1_total a0 a1 (r55.1, ([(List.getD r55.2.1 (0:Nat) (0:Int)), (List.getD r55.2.1 (1:Nat) (0:Int)), (List.getD r55.2.1 (2:Nat) (0:Int)), (List.getD r55.2.1 (3:Nat) (0:Int)), (List.getD r55.2.1 (4:Nat) (0:Int)), (List.getD r55.2.1 (5:Nat) (0:Int)), (List.getD r55.2.1 (6:Nat) (0:Int)), (List.getD r55.2.1 (7:Nat) (0:Int)), (List.getD r55.2.1 (8:Nat) (0:Int)), (List.getD r55.2.1 (9:Nat) (0:Int))], ())) (r58.1, ([(List.getD r58.2.1 (0:Nat) (0:Int)), (List.getD r58.2.1 (1:Nat) (0:Int)), (List.getD r58.2.1 (2:Nat) (0:Int)), (List.getD r58.2.1 (3:Nat) (0:Int)), (List.getD r58.2.1 (4:Nat) (0:Int)), (List.getD r58.2.1 (5:Nat) (0:Int)), (List.getD r58.2.1 (6:Nat) (0:Int)), (List.getD r58.2.1 (7:Nat) (0:Int)), (List.getD r58.2.1 (8:Nat) (0:Int)), (List.getD r58.2.1 (9:Nat) (0:Int))], ())))).bind fun r59 =>
                (some r59)
            else
              ((F_annealref1_Unpack a0 a2)).bind fun r60 =>
              let x61 : Int := r60.2.2.1
              ((F_annealref1_spread r60.1 r60.2.1 x61)).bind fun r62 =>
              ((F_annealref1_Unpack a0 a3)).bind fun r63 =>
              let x64 : Int := r63.2.2.1
              ((F_annealref1_spread r63.1 r63.2.1 x64)).bind fun r65 =>
              ((F_annealref1_total a0 a1 (r62.1, ([(List.getD r62.2.1 (0:Nat) (0:Int)), (List.getD r62.2.1 (1:Nat) (0:Int)), (List.getD r62.2.1 (2:Nat) (0:Int)), (List.getD r62.2.1 (3:Nat) (0:Int)), (List.getD r62.2.1 (4:Nat) (0:Int)), (List.getD r62.2.1 (5:Nat) (0:Int)), (List.getD r62.2.1 (6:Nat) (0:Int)), (List.getD r62.2.1 (7:Nat) (0:Int)), (List.getD r62.2.1 (8:Nat) (0:Int)), (List.getD r62.2.1 (9:Nat) (0:Int))], ())) (r65.1, ([(List.getD r65.2.1 (0:Nat) (0:Int)), (List.getD r65.2.1 (1:Nat) (0:Int)), (List.getD r65.2.1 (2:Nat) (0:Int)), (List.getD r65.2.1 (3:Nat) (0:Int)), (List.getD r65.2.1 (4:Nat) (0:Int)), (List.getD r65.2.1 (5:Nat) (0:Int)), (List.getD r65.2.1 (6:Nat) (0:Int)), (List.getD r65.2.1 (7:Nat) (0:Int)), (List.getD r65.2.1 (8:Nat) (0:Int)), (List.getD r65.2.1 (9:Nat) (0:Int))], ())))).bind fun r66 =>
              (some r66)
    else
      ((F_annealref1_inf a0 a2)).bind fun r67 =>
      bif r67 then
        ((F_annealref1_Mask a0)).bind fun r68 =>
        (some ((bits .and .u32 a2 r68), ((false, (false, (false, (false, (false, ()))))), ())))
      else
        ((F_annealref1_inf a0 a3)).bind fun r69 =>
        bif r69 then
          ((F_annealref1_Mask a0)).bind fun r70 =>
          (some ((bits .and .u32 a3 r70), ((false, (false, (false, (false, (false, ()))))), ())))
        else
          ((F_annealref1_zero a0 a2)).bind fun r71 =>
          bif r71 then
            ((F_annealref1_zero a0 a3)).bind fun r72 =>
            bif r72 then
              ((F_annealref1_neg a0 a2)).bind fun r73 =>
              ((F_annealref1_neg a0 a3)).bind fun r74 =>
              bif (r73 == r74) then
                ((F_annealref1_Mask a0)).bind fun r75 =>
                (some ((bits .and .u32 a2 r75), ((false, (false, (false, (false, (false, ()))))), ())))
              else
                ((F_annealref1_Unpack a0 a2)).bind fun r76 =>
                let x77 : Int := r76.2.2.1
                ((F_annealref1_spread r76.1 r76.2.1 x77)).bind fun r78 =>
                ((F_annealref1_Unpack a0 a3)).bind fun r79 =>
                let x80 : Int := r79.2.2.1
                ((F_annealref1_spread r79.1 r79.2.1 x80)).bind fun r81 =>
                ((F_annealref1_total a0 a1 (r78.1, ([(List.getD r78.2.1 (0:Nat) (0:Int)), (List.getD r78.2.1 (1:Nat) (0:Int)), (List.getD r78.2.1 (2:Nat) (0:Int)), (List.getD r78.2.1 (3:Nat) (0:Int)), (List.getD r78.2.1 (4:Nat) (0:Int)), (List.getD r78.2.1 (5:Nat) (0:Int)), (List.getD r78.2.1 (6:Nat) (0:Int)), (List.getD r78.2.1 (7:Nat) (0:Int)), (List.getD r78.2.1 (8:Nat) (0:Int)), (List.getD r78.2.1 (9:Nat) (0:Int))], ())) (r81.1, ([(List.getD r81.2.1 (0:Nat) (0:Int)), (List.getD r81.2.1 (1:Nat) (0:Int)), (List.getD r81.2.1 (2:Nat) (0:Int)), (List.getD r81.2.1 (3:Nat) (0:Int)), (List.getD r81.2.1 (4:Nat) (0:Int)), (List.getD r81.2.1 (5:Nat) (0:Int)), (List.getD r81.2.1 (6:Nat) (0:Int)), (List.getD r81.2.1 (7:Nat) (0:Int)), (List.getD r81.2.1 (8:Nat) (0:Int)), (List.getD r81.2.1 (9:Nat) (0:Int))], ())))).bind fun r82 =>
                (some r82)
            else
              ((F_annealref1_Unpack a0 a2)).bind fun r83 =>
              let x84 : Int := r83.2.2.1
              ((F_annealref1_spread r83.1 r83.2.1 x84)).bind fun r85 =>
              ((F_annealref1_Unpack a0 a3)).bind fun r86 =>
              let x87 : Int := r86.2.2.1
              ((F_annealref1_spread r86.1 r86.2.1 x87)).bind fun r88 =>
              ((F_annealref1_total a0 a1 (r85.1, ([(List.getD r85.2.1 (0:Nat) (0:Int)), (List.getD r85.2.1 (1:Nat) (0:Int)), (List.getD r85.2.1 (2:Nat) (0:Int)), (List.getD r85.2.1 (3:Nat) (0:Int)), (List.getD r85.2.1 (4:Nat) (0:Int)), (List.getD r85.2.1 (5:Nat) (0:Int)), (List.getD r85.2.1 (6:Nat) (0:Int)), (List.getD r85.2.1 (7:Nat) (0:Int)), (List.getD r85.2.1 (8:Nat) (0:Int)), (List.getD r85.2.1 (9:Nat) (0:Int))], ())) (r88.1, ([(List.getD r88.2.1 (0:Nat) (0:Int)), (List.getD r88.2.1 (1:Nat) (0:Int)), (List.getD r88.2.1 (2:Nat) (0:Int)), (List.getD r88.2.1 (3:Nat) (0:Int)), (List.getD r88.2.1 (4:Nat) (0:Int)), (List.getD r88.2.1 (5:Nat) (0:Int)), (List.getD r88.2.1 (6:Nat) (0:Int)), (List.getD r88.2.1 (7:Nat) (0:Int)), (List.getD r88.2.1 (8:Nat) (0:Int)), (List.getD r88.2.1 (9:Nat) (0:Int))], ())))).bind fun r89 =>
              (some r89)
          else
            ((F_annealref1_Unpack a0 a2)).bind fun r90 =>
            let x91 : Int := r90.2.2.1
            ((F_annealref1_spread r90.1 r90.2.1 x91)).bind fun r92 =>
            ((F_annealref1_Unpack a0 a3)).bind fun r93 =>
            let x94 : Int := r93.2.2.1
            ((F_annealref1_spread r93.1 r93.2.1 x94)).bind fun r95 =>
            ((F_annealref1_total a0 a1 (r92.1, ([(List.getD r92.2.1 (0:Nat) (0:Int)), (List.getD r92.2.1 (1:Nat) (0:Int)), (List.getD r92.2.1 (2:Nat) (0:Int)), (List.getD r92.2.1 (3:Nat) (0:Int)), (List.getD r92.2.1 (4:Nat) (0:Int)), (List.getD r92.2.1 (5:Nat) (0:Int)), (List.getD r92.2.1 (6:Nat) (0:Int)), (List.getD r92.2.1 (7:Nat) (0:Int)), (List.getD r92.2.1 (8:Nat) (0:Int)), (List.getD r92.2.1 (9:Nat) (0:Int))], ())) (r95.1, ([(List.getD r95.2.1 (0:Nat) (0:Int)), (List.getD r95.2.1 (1:Nat) (0:Int)), (List.getD r95.2.1 (2:Nat) (0:Int)), (List.getD r95.2.1 (3:Nat) (0:Int)), (List.getD r95.2.1 (4:Nat) (0:Int)), (List.getD r95.2.1 (5:Nat) (0:Int)), (List.getD r95.2.1 (6:Nat) (0:Int)), (List.getD r95.2.1 (7:Nat) (0:Int)), (List.getD r95.2.1 (8:Nat) (0:Int)), (List.getD r95.2.1 (9:Nat) (0:Int))], ())))).bind fun r96 =>
            (some r96)
noncomputable def G_annealref1_Add : T fa_annealref1_Add → TH ha_annealref1_Add → Option (Int × (Bool × Bool × Bool × Bool × Bool × Unit) × Unit) := fun x y => F_annealref1_Add x.1 x.2.1 x.2.2.1 x.2.2.2.1
noncomputable def c_annealref1_Add : Orc := ent i_annealref1_Add [] 0 (sp fa_annealref1_Add ha_annealref1_Add fr_annealref1_Add hr_annealref1_Add G_annealref1_Add out_annealref1_Add)
theorem ok_annealref1_Add : OrcOk PR c_annealref1_Add := fnT okO_annealref1_Add mixed p_annealref1_Add (by kernel_rfl) (by kernel_rfl) (L := L_annealref1_Add) (kp := false) (by kernel_rfl) (inn := inn_annealref1_Add) (out := out_annealref1_Add) (fun _ _ => rfl) (loopsL (l := []) (by kernel_rfl) trivial) (fun x y => by kernel_rfl)
noncomputable def O_annealref10_Mul : Orc := c_annealref1_Mul
theorem okO_annealref10_Mul : OrcOk PR O_annealref10_Mul := ok_annealref1_Mul
abbrev fa_annealref10_Mul : Fm := (.pair (.i .u32) (.pair (.i .u32) .unit))
abbrev ha_annealref10_Mul : List BF := []
abbrev fr_annealref10_Mul : Fm := (.i .u32)
abbrev hr_annealref10_Mul : List BF := []
noncomputable def L_annealref10_Mul : Lps := L0
def inn_annealref10_Mul : T fr_annealref10_Mul → TH hr_annealref10_Mul → Int := (fun z w => z)
def out_annealref10_Mul : Int → T fr_annealref10_Mul × TH hr_annealref10_Mul := fun r => (r, ())
noncomputable def F_annealref10_Mul (a0 : Int) (a1 : Int) : Option (Int) :=
  ((F_annealref1_Mul (2:Int) (0:Int) a0 a1)).bind fun r0 =>
  (some r0.1)
noncomputable def G_annealref10_Mul : T fa_annealref10_Mul → TH ha_annealref10_Mul → Option (Int) := fun x y => F_annealref10_Mul x.1 x.2.1
noncomputable def c_annealref10_Mul : Orc := ent i_annealref10_Mul [] 0 (sp fa_annealref10_Mul ha_annealref10_Mul fr_annealref10_Mul hr_annealref10_Mul G_annealref10_Mul out_annealref10_Mul)
theorem ok_annealref10_Mul : OrcOk PR c_annealref10_Mul := fnT okO_annealref10_Mul mixed p_annealref10_Mul (by kernel_rfl) (by kernel_rfl) (L := L_annealref10_Mul) (kp := false) (by kernel_rfl) (inn := inn_annealref10_Mul) (out := out_annealref10_Mul) (fun _ _ => rfl) (loopsL (l := []) (by kernel_rfl) trivial) (fun x y => by kernel_rfl)
noncomputable def O_annealref10_Add : Orc := c_annealref1_Add
theorem okO_annealref10_Add : OrcOk PR O_annealref10_Add := ok_annealref1_Add
abbrev fa_annealref10_Add : Fm := (.pair (.i .u32) (.pair (.i .u32) .unit))
abbrev ha_annealref10_Add : List BF := []
abbrev fr_annealref10_Add : Fm := (.i .u32)
abbrev hr_annealref10_Add : List BF := []
noncomputable def L_annealref10_Add : Lps := L0
def inn_annealref10_Add : T fr_annealref10_Add → TH hr_annealref10_Add → Int := (fun z w => z)
def out_annealref10_Add : Int → T fr_annealref10_Add × TH hr_annealref10_Add := fun r => (r, ())
noncomputable def F_annealref10_Add (a0 : Int) (a1 : Int) : Option (Int) :=
  ((F_annealref1_Add (2:Int) (0:Int) a0 a1)).bind fun r0 =>
  (some r0.1)
noncomputable def G_annealref10_Add : T fa_annealref10_Add → TH ha_annealref10_Add → Option (Int) := fun x y => F_annealref10_Add x.1 x.2.1
noncomputable def c_annealref10_Add : Orc := ent i_annealref10_Add [] 0 (sp fa_annealref10_Add ha_annealref10_Add fr_annealref10_Add hr_annealref10_Add G_annealref10_Add out_annealref10_Add)
theorem ok_annealref10_Add : OrcOk PR c_annealref10_Add := fnT okO_annealref10_Add mixed p_annealref10_Add (by kernel_rfl) (by kernel_rfl) (L := L_annealref10_Add) (kp := false) (by kernel_rfl) (inn := inn_annealref10_Add) (out := out_annealref10_Add) (fun _ _ => rfl) (loopsL (l := []) (by kernel_rfl) trivial) (fun x y => by kernel_rfl)
end Go.Proofs.YtkknnloamidaiaaGreat.VI

namespace Go.Proofs.YtkknnloamidaiaaGreat.VI
set_option linter.unusedVariables false
set_option linter.unusedSimpArgs false
set_option linter.unusedSimpArgs false
set_option linter.unusedVariables false
set_option maxRecDepth 100000
set_option maxHeartbeats 8000000
theorem rfma_eq {a b c : Int} (ha : w32 a) (hb : w32 b) (hc : w32 c) : F_annealref10_Fma a b c = some (fma a b c) := by
  unfold F_annealref10_Fma; rw [fmar_eq 2 0 ha hb hc]; rfl
theorem tor_eq (f g mode : Int) {a : Int} (ha : w32 a) : F_annealref1_To f g mode a = some (toS f g mode a) := by
  have xa := xp_bd f a
  unfold F_annealref1_To toS
  rw [nans_eq f [a] (by simp) (by simpa using ha), nanr_w, infr_c f ha, negr_eq f ha, unpackr_eq f ha]
  simp only [Option.bind_some, List.any_cons, List.any_nil, Bool.or_false, infr_eq]
  rw [packr_eq g mode _ _ (sig_w64 f a), show min (max (xp f a) (-10000)) 10000 = xp f a by omega]
  cases nan f a <;> cases inff f a <;> rfl
theorem mulr_eq (f mode : Int) {a b : Int} (ha : w32 a) (hb : w32 b) : F_annealref1_Mul f mode a b = some (mulS f mode a b) := by
  have sm := sig_mul f a b
  have xa := xp_bd f a
  have xb := xp_bd f b
  have w1 : IntKind.i64.wrap (xp f a + xp f b) = xp f a + xp f b := wi64 (by omega)
  have w2 : IntKind.u64.wrap (sig f a * sig f b) = sig f a * sig f b := wu64 (by have := sm.1; omega)
  have hp := packr_eq f mode (!(sg f a == sg f b)) (xp f a + xp f b) sm.1 false
  rw [show min (max (xp f a + xp f b) (-10000)) 10000 = xp f a + xp f b by omega] at hp
  unfold F_annealref1_Mul mulS
  simp only [nans_eq f [a, b] (by simp) (by simpa using ⟨ha, hb⟩), zeror_eq f ha, zeror_eq f hb, infr_c f ha, infr_c f hb, negr_eq f ha, negr_eq f hb, nanr_w, infr_eq, unpackr_eq f ha, unpackr_eq f hb, Option.bind_some, List.any_cons, List.any_nil, Bool.or_false, w1, w2, hp]
  generalize pk f mode (!(sg f a == sg f b)) (xp f a + xp f b) (sig f a * sig f b) false = W
  rcases cls f a with ⟨a1, a3, a4⟩ | ⟨a1, a2, a3, a4⟩ | ⟨a1, a2, a3, a4⟩ | ⟨a1, a2, a3, a4⟩ <;> rcases cls f b with ⟨b1, b3, b4⟩ | ⟨b1, b2, b3, b4⟩ | ⟨b1, b2, b3, b4⟩ | ⟨b1, b2, b3, b4⟩ <;> simp only [a1, a3, a4, b1, b3, b4] <;> rfl
theorem zero_bits (f : Int) {a : Int} (ha : w32 a) (h : zr f a = true) : a % (2 * TT f) = sgn f (sg f a) := by
  have e : a % TT f = 0 := by unfold zr at h; simpa using h
  have s := sg_iff f a ha.1
  have b := mod_bd f a
  unfold sgn
  cases hs : sg f a
  · rw [hs] at s; simp at s ⊢; omega
  · have := s.1 hs; simp; omega
theorem addr_eq (f mode : Int) {a b : Int} (ha : w32 a) (hb : w32 b) : F_annealref1_Add f mode a b = some (addS f mode a b) := by
  have xa := xp_bd f a
  have xb := xp_bd f b
  obtain ⟨L, K, hL, hK, lL, lK, ht⟩ := rsum_eq f mode (sg f a) (sg f b) (N := sig f a) (M := sig f b) (sig_48 f a) (sig_48 f b) (show -298 ≤ xp f a ∧ xp f a ≤ 260 by omega) (show -298 ≤ xp f b ∧ xp f b ≤ 260 by omega)
  have hst := sum_tot f mode (sg f a) (sg f b) (e := xp f a) (d := xp f b) (sig_48 f a).1 (sig_48 f b).1
  have hfin : nan f a = false → inff f a = false → nan f b = false → inff f b = false →
      sumS f mode (sg f a) (xp f a) (sig f a) (sg f b) (xp f b) (sig f b) = bif zr f a && (zr f b && (sg f a == sg f b)) then (sgn f (sg f a), EXC0, ()) else totS f mode (sv (sg f a) (sig f a * 2 ^ (xp f a + 298).toNat) + sv (sg f b) (sig f b * 2 ^ (xp f b + 298).toNat)) := by
    intro a1 a4 b1 b4
    rw [hst]
    have ea := sig_zero f a a1 a4
    have eb := sig_zero f b b1 b4
    by_cases h : sig f a = 0 ∧ sig f b = 0 ∧ sg f a = sg f b
    · rw [if_pos h, ea.1 h.1, eb.1 h.2.1, h.2.2]; simp
    · rw [if_neg h]
      have : (zr f a && (zr f b && (sg f a == sg f b))) = false := by
        apply Bool.eq_false_iff.2; intro k; apply h
        simp only [Bool.and_eq_true, beq_iff_eq] at k
        exact ⟨ea.2 k.1, eb.2 k.2.1, k.2.2⟩
      rw [this]; rfl
  have ia := inf_bits f ha
  have ib := inf_bits f hb
  have za := zero_bits f ha
  unfold F_annealref1_Add addS
  simp only [nans_eq f [a, b] (by simp) (by simpa using ⟨ha, hb⟩), zeror_eq f ha, zeror_eq f hb, infr_c f ha, infr_c f hb, negr_eq f ha, negr_eq f hb, nanr_w, infr_eq, maskr_eq, unpackr_eq f ha, unpackr_eq f hb, Option.bind_some, List.any_cons, List.any_nil, Bool.or_false, hL, hK, len10 lL, len10 lK, ht, and_TT f ha.1 ha.2, and_TT f hb.1 hb.2]
  generalize totS f mode _ = W at *
  generalize sumS f mode _ _ _ _ _ _ = SW at *
  rcases cls f a with ⟨a1, a3, a4⟩ | ⟨a1, a2, a3, a4⟩ | ⟨a1, a2, a3, a4⟩ | ⟨a1, a2, a3, a4⟩ <;> rcases cls f b with ⟨b1, b3, b4⟩ | ⟨b1, b2, b3, b4⟩ | ⟨b1, b2, b3, b4⟩ | ⟨b1, b2, b3, b4⟩ <;> simp only [a1, a3, a4, b1, b3, b4, cond_true, cond_false, Bool.or_true, Bool.true_or, Bool.or_false, Bool.false_or, Bool.and_true, Bool.and_false, Bool.true_and, Bool.false_and, if_true, if_false, Bool.false_eq_true] at hfin ⊢
  all_goals first
    | rfl
    | (rw [ia a4]; done)
    | (rw [ib b4]; done)
    | (rw [ia a4]; rfl)
    | (rw [ib b4]; rfl)
    | (rw [hfin trivial trivial trivial trivial]; done)
    | (rw [ia a4]; cases sg f a <;> cases sg f b <;> rfl)
    | (rw [hfin trivial trivial trivial trivial, za a3]; cases (sg f a == sg f b) <;> rfl)
    | (rw [hfin trivial trivial trivial trivial]; rfl)
end Go.Proofs.YtkknnloamidaiaaGreat.VI

namespace Go.Proofs.YtkknnloamidaiaaGreat.VI
set_option linter.unusedVariables false
set_option linter.unusedSimpArgs false
set_option maxRecDepth 100000
set_option linter.unusedSimpArgs false
set_option linter.unusedVariables false
noncomputable def O_annealref1_units : Orc := (orm c_annealref1_Unpack (orm c_annealref1_divide c_annealref1_up))
theorem okO_annealref1_units : OrcOk PR O_annealref1_units := (orm_ok ok_annealref1_Unpack (orm_ok ok_annealref1_divide ok_annealref1_up))
abbrev fa_annealref1_units : Fm := (.pair (.i .i64) (.pair (.i .i64) (.pair (.i .u32) .unit)))
abbrev ha_annealref1_units : List BF := []
abbrev fr_annealref1_units : Fm := (.tup (.pair .b (.pair (.i .u64) (.pair .b .unit))))
abbrev hr_annealref1_units : List BF := []
noncomputable def L_annealref1_units : Lps := L0
def inn_annealref1_units : T fr_annealref1_units → TH hr_annealref1_units → Bool × Int × Bool × Unit := (fun z w => z)
def out_annealref1_units : Bool × Int × Bool × Unit → T fr_annealref1_units × TH hr_annealref1_units := fun r => (r, ())
noncomputable def F_annealref1_units (a0 : Int) (a1 : Int) (a2 : Int) : Option (Bool × Int × Bool × Unit) :=
  ((F_annealref1_Unpack a0 a2)).bind fun r0 =>
  let x1 : Int := r0.2.2.1
  bif (decide (r0.2.1 ≥ (0:Int))) then
    bif (decide (r0.2.1 > (39:Int))) then
      bif (decide (x1 > (0:Int))) then
        (some (r0.1, ((4611686018427387904:Int), (false, ()))))
      else
        bif (decide ((0:Int) ≤ (mn r0.2.1 (39:Int)))) then
          (some (r0.1, ((IntKind.wrap .u64 (x1 * ((2:Int) ^ (Min.min (Int.toNat (mn r0.2.1 (39:Int))) (64:Nat))))), (false, ()))))
        else
          none
    else
      bif (decide ((0:Int) ≤ (mn r0.2.1 (39:Int)))) then
        (some (r0.1, ((IntKind.wrap .u64 (x1 * ((2:Int) ^ (Min.min (Int.toNat (mn r0.2.1 (39:Int))) (64:Nat))))), (false, ()))))
      else
        none
  else
    ((F_annealref1_divide x1 (IntKind.wrap .i64 ((0:Int) - r0.2.1)))).bind fun r2 =>
    let x3 : Bool := r2.2.2.1
    ((F_annealref1_up a1 r0.1 ((bits .and .u64 r2.1 (1:Int)) == (1:Int)) r2.2.1 x3)).bind fun r4 =>
    let x5 : Int := (bif r4 then (IntKind.wrap .u64 (r2.1 + (1:Int))) else r2.1)
    bif r2.2.1 then
      (some (r0.1, (x5, (true, ()))))
    else
      (some (r0.1, (x5, r2.2.2)))
noncomputable def G_annealref1_units : T fa_annealref1_units → TH ha_annealref1_units → Option (Bool × Int × Bool × Unit) := fun x y => F_annealref1_units x.1 x.2.1 x.2.2.1
noncomputable def c_annealref1_units : Orc := ent i_annealref1_units [] 0 (sp fa_annealref1_units ha_annealref1_units fr_annealref1_units hr_annealref1_units G_annealref1_units out_annealref1_units)
theorem ok_annealref1_units : OrcOk PR c_annealref1_units := fnT okO_annealref1_units mixed p_annealref1_units (by kernel_rfl) (by kernel_rfl) (L := L_annealref1_units) (kp := false) (by kernel_rfl) (inn := inn_annealref1_units) (out := out_annealref1_units) (fun _ _ => rfl) (loopsL (l := []) (by kernel_rfl) trivial) (fun x y => by kernel_rfl)
noncomputable def O_annealref1_ToInt : Orc := (orm c_annealref1_Finite c_annealref1_units)
theorem okO_annealref1_ToInt : OrcOk PR O_annealref1_ToInt := (orm_ok ok_annealref1_Finite ok_annealref1_units)
abbrev fa_annealref1_ToInt : Fm := (.pair (.i .i64) (.pair (.i .i64) (.pair (.i .u32) .unit)))
abbrev ha_annealref1_ToInt : List BF := []
abbrev fr_annealref1_ToInt : Fm := (.tup (.pair (.i .i32) (.pair (.agg (.pair .b (.pair .b (.pair .b (.pair .b (.pair .b .unit)))))) .unit)))
abbrev hr_annealref1_ToInt : List BF := []
noncomputable def L_annealref1_ToInt : Lps := L0
def inn_annealref1_ToInt : T fr_annealref1_ToInt → TH hr_annealref1_ToInt → Int × (Bool × Bool × Bool × Bool × Bool × Unit) × Unit := (fun z w => z)
def out_annealref1_ToInt : Int × (Bool × Bool × Bool × Bool × Bool × Unit) × Unit → T fr_annealref1_ToInt × TH hr_annealref1_ToInt := fun r => (r, ())
noncomputable def F_annealref1_ToInt (a0 : Int) (a1 : Int) (a2 : Int) : Option (Int × (Bool × Bool × Bool × Bool × Bool × Unit) × Unit) :=
  ((F_annealref1_Finite a0 a2)).bind fun r0 =>
  bif (!r0) then
    (some ((-(2147483648:Int)), ((true, (false, (false, (false, (false, ()))))), ())))
  else
    ((F_annealref1_units a0 a1 a2)).bind fun r1 =>
    bif (decide (r1.2.1 > (2147483648:Int))) then
      (some ((-(2147483648:Int)), ((true, (false, (false, (false, (false, ()))))), ())))
    else
      bif (r1.2.1 == (2147483648:Int)) then
        bif (!r1.1) then
          (some ((-(2147483648:Int)), ((true, (false, (false, (false, (false, ()))))), ())))
        else
          bif r1.1 then
            (some ((IntKind.wrap .i32 (IntKind.wrap .i64 ((0:Int) - (IntKind.wrap .i64 r1.2.1)))), ((false, (false, (false, (false, r1.2.2)))), ())))
          else
            (some ((IntKind.wrap .i32 r1.2.1), ((false, (false, (false, (false, r1.2.2)))), ())))
      else
        bif r1.1 then
          (some ((IntKind.wrap .i32 (IntKind.wrap .i64 ((0:Int) - (IntKind.wrap .i64 r1.2.1)))), ((false, (false, (false, (false, r1.2.2)))), ())))
        else
          (some ((IntKind.wrap .i32 r1.2.1), ((false, (false, (false, (false, r1.2.2)))), ())))
noncomputable def G_annealref1_ToInt : T fa_annealref1_ToInt → TH ha_annealref1_ToInt → Option (Int × (Bool × Bool × Bool × Bool × Bool × Unit) × Unit) := fun x y => F_annealref1_ToInt x.1 x.2.1 x.2.2.1
noncomputable def c_annealref1_ToInt : Orc := ent i_annealref1_ToInt [] 0 (sp fa_annealref1_ToInt ha_annealref1_ToInt fr_annealref1_ToInt hr_annealref1_ToInt G_annealref1_ToInt out_annealref1_ToInt)
theorem ok_annealref1_ToInt : OrcOk PR c_annealref1_ToInt := fnT okO_annealref1_ToInt mixed p_annealref1_ToInt (by kernel_rfl) (by kernel_rfl) (L := L_annealref1_ToInt) (kp := false) (by kernel_rfl) (inn := inn_annealref1_ToInt) (out := out_annealref1_ToInt) (fun _ _ => rfl) (loopsL (l := []) (by kernel_rfl) trivial) (fun x y => by kernel_rfl)
noncomputable def O_annealref10_Minus : Orc := c_annealref1_Minus
theorem okO_annealref10_Minus : OrcOk PR O_annealref10_Minus := ok_annealref1_Minus
abbrev fa_annealref10_Minus : Fm := (.pair (.i .u32) .unit)
abbrev ha_annealref10_Minus : List BF := []
abbrev fr_annealref10_Minus : Fm := (.i .u32)
abbrev hr_annealref10_Minus : List BF := []
noncomputable def L_annealref10_Minus : Lps := L0
def inn_annealref10_Minus : T fr_annealref10_Minus → TH hr_annealref10_Minus → Int := (fun z w => z)
def out_annealref10_Minus : Int → T fr_annealref10_Minus × TH hr_annealref10_Minus := fun r => (r, ())
noncomputable def F_annealref10_Minus (a0 : Int) : Option (Int) :=
  ((F_annealref1_Minus (2:Int) a0)).bind fun r0 =>
  (some r0)
noncomputable def G_annealref10_Minus : T fa_annealref10_Minus → TH ha_annealref10_Minus → Option (Int) := fun x y => F_annealref10_Minus x.1
noncomputable def c_annealref10_Minus : Orc := ent i_annealref10_Minus [] 0 (sp fa_annealref10_Minus ha_annealref10_Minus fr_annealref10_Minus hr_annealref10_Minus G_annealref10_Minus out_annealref10_Minus)
theorem ok_annealref10_Minus : OrcOk PR c_annealref10_Minus := fnT okO_annealref10_Minus mixed p_annealref10_Minus (by kernel_rfl) (by kernel_rfl) (L := L_annealref10_Minus) (kp := false) (by kernel_rfl) (inn := inn_annealref10_Minus) (out := out_annealref10_Minus) (fun _ _ => rfl) (loopsL (l := []) (by kernel_rfl) trivial) (fun x y => by kernel_rfl)
noncomputable def O_annealref10_Nan : Orc := c_annealref1_Class
theorem okO_annealref10_Nan : OrcOk PR O_annealref10_Nan := ok_annealref1_Class
abbrev fa_annealref10_Nan : Fm := (.pair (.i .u32) .unit)
abbrev ha_annealref10_Nan : List BF := []
abbrev fr_annealref10_Nan : Fm := .b
abbrev hr_annealref10_Nan : List BF := []
noncomputable def L_annealref10_Nan : Lps := L0
def inn_annealref10_Nan : T fr_annealref10_Nan → TH hr_annealref10_Nan → Bool := (fun z w => z)
def out_annealref10_Nan : Bool → T fr_annealref10_Nan × TH hr_annealref10_Nan := fun r => (r, ())
noncomputable def F_annealref10_Nan (a0 : Int) : Option (Bool) :=
  ((F_annealref1_Class (2:Int) a0)).bind fun r0 =>
  bif (r0 == (4:Int)) then
    (some true)
  else
    (some (r0 == (5:Int)))
noncomputable def G_annealref10_Nan : T fa_annealref10_Nan → TH ha_annealref10_Nan → Option (Bool) := fun x y => F_annealref10_Nan x.1
noncomputable def c_annealref10_Nan : Orc := ent i_annealref10_Nan [] 0 (sp fa_annealref10_Nan ha_annealref10_Nan fr_annealref10_Nan hr_annealref10_Nan G_annealref10_Nan out_annealref10_Nan)
theorem ok_annealref10_Nan : OrcOk PR c_annealref10_Nan := fnT okO_annealref10_Nan mixed p_annealref10_Nan (by kernel_rfl) (by kernel_rfl) (L := L_annealref10_Nan) (kp := false) (by kernel_rfl) (inn := inn_annealref10_Nan) (out := out_annealref10_Nan) (fun _ _ => rfl) (loopsL (l := []) (by kernel_rfl) trivial) (fun x y => by kernel_rfl)
noncomputable def O_annealref10_along : Orc := c_annealref10_Fma
theorem okO_annealref10_along : OrcOk PR O_annealref10_along := ok_annealref10_Fma
abbrev fa_annealref10_along : Fm := (.pair (.i .u32) (.pair (.i .u32) (.pair (.si .u32) .unit)))
abbrev ha_annealref10_along : List BF := []
abbrev fr_annealref10_along : Fm := (.i .u32)
abbrev hr_annealref10_along : List BF := []
abbrev ff_annealref10_along_0 : Fm := (.pair (.i .u32) (.pair (.i .u32) (.pair (.si .u32) (.us 4 (.pair (.i .i64) (.us 14 .unit))))))
abbrev hf_annealref10_along_0 : List BF := []
abbrev X_annealref10_along_0 : Xs := (.one (.exit 0) [0] (.pair (.i .u32) (.us 21 .unit)) [])
abbrev S_annealref10_along_0 : Type := T ff_annealref10_along_0 × TH hf_annealref10_along_0
abbrev E_annealref10_along_0 : Type := TX X_annealref10_along_0
noncomputable def LB_annealref10_along_0 : Lps := L0
noncomputable def st_annealref10_along_0 : StepT S_annealref10_along_0 E_annealref10_along_0 := fun R v kn ko =>
  let x0 : Int := v.1.1
  let x1 : Int := v.1.2.1
  let x2 : List Int := v.1.2.2.1
  let x3 : Int := v.1.2.2.2.1
  bif (decide (x3 < (((List.length x2) : Nat) : Int))) then
    bif (decide (((0:Int) ≤ x3) ∧ (x3 < (((List.length x2) : Nat) : Int)))) then
      ((F_annealref10_Fma x0 x1 (List.getD x2 (Int.toNat x3) (0:Int)))).bind fun r4 =>
      (kn ((r4, (x1, ((List.take (List.length x2) x2), ((IntKind.wrap .i64 (x3 + (1:Int))), ())))), ()))
    else
      none
  else
    (ko ((x0, ()), ()))
noncomputable def ls_annealref10_along_0 : St → LTr := (lsum ff_annealref10_along_0 hf_annealref10_along_0 X_annealref10_along_0 Prod.mk id st_annealref10_along_0 (hd [] [] [0, 1, 2, 7] 0))
theorem lp_annealref10_along_0 : LoopOk PR 0 (lpN f_annealref10_along 0) ls_annealref10_along_0 := loopT okO_annealref10_along mixed (L := LB_annealref10_along_0) (d := 1) (bs := []) (ks := [0, 1, 2, 7]) (loopsL (l := []) (by kernel_rfl) trivial) (by kernel_rfl) (inS := Prod.mk) (outS := id) (fun _ _ => rfl) (inX := id) (outX := id) (fun _ => rfl) (fun v R kn ko => by kernel_rfl) (hd_wk [] [] [0, 1, 2, 7] 0)
noncomputable def L_annealref10_along : Lps := (lpB 3 (.by_ ls_annealref10_along_0) L0)
def inn_annealref10_along : T fr_annealref10_along → TH hr_annealref10_along → Int := (fun z w => z)
def out_annealref10_along : Int → T fr_annealref10_along × TH hr_annealref10_along := fun r => (r, ())
noncomputable def F_annealref10_along (a0 : Int) (a1 : Int) (a2 : List Int) : Option (Int) :=
  ((lim st_annealref10_along_0 ((a0, (a1, ((List.take (List.length a2) a2), ((0:Int), ())))), ()))).bind fun r0 =>
  (some r0.1.1)
noncomputable def G_annealref10_along : T fa_annealref10_along → TH ha_annealref10_along → Option (Int) := fun x y => F_annealref10_along x.1 x.2.1 x.2.2.1
noncomputable def c_annealref10_along : Orc := ent i_annealref10_along [] 0 (sp fa_annealref10_along ha_annealref10_along fr_annealref10_along hr_annealref10_along G_annealref10_along out_annealref10_along)
theorem ok_annealref10_along : OrcOk PR c_annealref10_along := fnT okO_annealref10_along mixed p_annealref10_along (by kernel_rfl) (by kernel_rfl) (L := L_annealref10_along) (kp := false) (by kernel_rfl) (inn := inn_annealref10_along) (out := out_annealref10_along) (fun _ _ => rfl) (loopsL (l := [((lpN f_annealref10_along 0), ls_annealref10_along_0)]) (by kernel_rfl) ⟨lp_annealref10_along_0, trivial⟩) (fun x y => by kernel_rfl)
noncomputable def O_annealref1_Scale : Orc := (orm c_annealref1_nans (orm c_annealref1_Nan (orm c_annealref1_Finite (orm c_annealref1_Mask (orm c_annealref1_Unpack c_annealref1_Pack)))))
theorem okO_annealref1_Scale : OrcOk PR O_annealref1_Scale := (orm_ok ok_annealref1_nans (orm_ok ok_annealref1_Nan (orm_ok ok_annealref1_Finite (orm_ok ok_annealref1_Mask (orm_ok ok_annealref1_Unpack ok_annealref1_Pack)))))
abbrev fa_annealref1_Scale : Fm := (.pair (.i .i64) (.pair (.i .i64) (.pair (.i .u32) (.pair (.i .i64) .unit))))
abbrev ha_annealref1_Scale : List BF := []
abbrev fr_annealref1_Scale : Fm := (.tup (.pair (.i .u32) (.pair (.agg (.pair .b (.pair .b (.pair .b (.pair .b (.pair .b .unit)))))) .unit)))
abbrev hr_annealref1_Scale : List BF := []
noncomputable def L_annealref1_Scale : Lps := L0
def inn_annealref1_Scale : T fr_annealref1_Scale → TH hr_annealref1_Scale → Int × (Bool × Bool × Bool × Bool × Bool × Unit) × Unit := (fun z w => z)
def out_annealref1_Scale : Int × (Bool × Bool × Bool × Bool × Bool × Unit) × Unit → T fr_annealref1_Scale × TH hr_annealref1_Scale := fun r => (r, ())
noncomputable def F_annealref1_Scale (a0 : Int) (a1 : Int) (a2 : Int) (a3 : Int) : Option (Int × (Bool × Bool × Bool × Bool × Bool × Unit) × Unit) :=
  ((F_annealref1_nans a0 [a2])).bind fun r0 =>
  bif r0.1 then
    ((F_annealref1_Nan a0)).bind fun r1 =>
    (some (r1, ((r0.2.1, (false, (false, (false, (false, ()))))), ())))
  else
    ((F_annealref1_Finite a0 a2)).bind fun r2 =>
    bif (!r2) then
      ((F_annealref1_Mask a0)).bind fun r3 =>
      (some ((bits .and .u32 a2 r3), ((false, (false, (false, (false, (false, ()))))), ())))
    else
      ((F_annealref1_Unpack a0 a2)).bind fun r4 =>
      let x5 : Int := r4.2.2.1
      ((F_annealref1_Pack a0 a1 r4.1 (IntKind.wrap .i64 (r4.2.1 + (mn (mx a3 (-(5000:Int))) (5000:Int)))) x5 false)).bind fun r6 =>
      (some r6)
noncomputable def G_annealref1_Scale : T fa_annealref1_Scale → TH ha_annealref1_Scale → Option (Int × (Bool × Bool × Bool × Bool × Bool × Unit) × Unit) := fun x y => F_annealref1_Scale x.1 x.2.1 x.2.2.1 x.2.2.2.1
noncomputable def c_annealref1_Scale : Orc := ent i_annealref1_Scale [] 0 (sp fa_annealref1_Scale ha_annealref1_Scale fr_annealref1_Scale hr_annealref1_Scale G_annealref1_Scale out_annealref1_Scale)
theorem ok_annealref1_Scale : OrcOk PR c_annealref1_Scale := fnT okO_annealref1_Scale mixed p_annealref1_Scale (by kernel_rfl) (by kernel_rfl) (L := L_annealref1_Scale) (kp := false) (by kernel_rfl) (inn := inn_annealref1_Scale) (out := out_annealref1_Scale) (fun _ _ => rfl) (loopsL (l := []) (by kernel_rfl) trivial) (fun x y => by kernel_rfl)
noncomputable def O_annealref10_Scale : Orc := c_annealref1_Scale
theorem okO_annealref10_Scale : OrcOk PR O_annealref10_Scale := ok_annealref1_Scale
abbrev fa_annealref10_Scale : Fm := (.pair (.i .u32) (.pair (.i .i64) .unit))
abbrev ha_annealref10_Scale : List BF := []
abbrev fr_annealref10_Scale : Fm := (.i .u32)
abbrev hr_annealref10_Scale : List BF := []
noncomputable def L_annealref10_Scale : Lps := L0
def inn_annealref10_Scale : T fr_annealref10_Scale → TH hr_annealref10_Scale → Int := (fun z w => z)
def out_annealref10_Scale : Int → T fr_annealref10_Scale × TH hr_annealref10_Scale := fun r => (r, ())
noncomputable def F_annealref10_Scale (a0 : Int) (a1 : Int) : Option (Int) :=
  ((F_annealref1_Scale (2:Int) (0:Int) a0 a1)).bind fun r0 =>
  (some r0.1)
noncomputable def G_annealref10_Scale : T fa_annealref10_Scale → TH ha_annealref10_Scale → Option (Int) := fun x y => F_annealref10_Scale x.1 x.2.1
noncomputable def c_annealref10_Scale : Orc := ent i_annealref10_Scale [] 0 (sp fa_annealref10_Scale ha_annealref10_Scale fr_annealref10_Scale hr_annealref10_Scale G_annealref10_Scale out_annealref10_Scale)
theorem ok_annealref10_Scale : OrcOk PR c_annealref10_Scale := fnT okO_annealref10_Scale mixed p_annealref10_Scale (by kernel_rfl) (by kernel_rfl) (L := L_annealref10_Scale) (kp := false) (by kernel_rfl) (inn := inn_annealref10_Scale) (out := out_annealref10_Scale) (fun _ _ => rfl) (loopsL (l := []) (by kernel_rfl) trivial) (fun x y => by kernel_rfl)
noncomputable def O_annealref10_Exp : Orc := (orm c_annealref10_Nan (orm c_annealref10_Above (orm c_annealref10_Mul (orm c_annealref1_ToInt (orm c_annealref10_Int (orm c_annealref10_Minus (orm c_annealref10_Fma (orm c_annealref10_along c_annealref10_Scale))))))))
theorem okO_annealref10_Exp : OrcOk PR O_annealref10_Exp := (orm_ok ok_annealref10_Nan (orm_ok ok_annealref10_Above (orm_ok ok_annealref10_Mul (orm_ok ok_annealref1_ToInt (orm_ok ok_annealref10_Int (orm_ok ok_annealref10_Minus (orm_ok ok_annealref10_Fma (orm_ok ok_annealref10_along ok_annealref10_Scale))))))))
abbrev fa_annealref10_Exp : Fm := (.pair (.i .u32) .unit)
abbrev ha_annealref10_Exp : List BF := []
abbrev fr_annealref10_Exp : Fm := (.i .u32)
abbrev hr_annealref10_Exp : List BF := []
noncomputable def L_annealref10_Exp : Lps := L0
def inn_annealref10_Exp : T fr_annealref10_Exp → TH hr_annealref10_Exp → Int := (fun z w => z)
def out_annealref10_Exp : Int → T fr_annealref10_Exp × TH hr_annealref10_Exp := fun r => (r, ())
noncomputable def F_annealref10_Exp (a0 : Int) : Option (Int) :=
  ((F_annealref10_Nan a0)).bind fun r0 =>
  bif r0 then
    (some (2143289344:Int))
  else
    ((F_annealref10_Above a0 (1118925336:Int))).bind fun r1 =>
    bif r1 then
      (some (2139095040:Int))
    else
      ((F_annealref10_Above (3268407733:Int) a0)).bind fun r2 =>
      bif r2 then
        (some (0:Int))
      else
        ((F_annealref10_Mul a0 (1069066811:Int))).bind fun r3 =>
        ((F_annealref1_ToInt (2:Int) (0:Int) r3)).bind fun r4 =>
        let x5 : Int := (IntKind.wrap .i64 r4.1)
        ((F_annealref10_Int x5)).bind fun r6 =>
        ((F_annealref10_Minus r6)).bind fun r7 =>
        ((F_annealref10_Fma r7 (1060205056:Int) a0)).bind fun r8 =>
        ((F_annealref10_Fma r7 (901758606:Int) r8)).bind fun r9 =>
        ((F_annealref10_along (985008993:Int) r9 [(1007192201:Int), (1026206379:Int), (1042983595:Int), (1056964608:Int), (1065353216:Int), (1065353216:Int)])).bind fun r10 =>
        ((F_annealref10_Scale r10 x5)).bind fun r11 =>
        (some r11)
noncomputable def G_annealref10_Exp : T fa_annealref10_Exp → TH ha_annealref10_Exp → Option (Int) := fun x y => F_annealref10_Exp x.1
noncomputable def c_annealref10_Exp : Orc := ent i_annealref10_Exp [] 0 (sp fa_annealref10_Exp ha_annealref10_Exp fr_annealref10_Exp hr_annealref10_Exp G_annealref10_Exp out_annealref10_Exp)
theorem ok_annealref10_Exp : OrcOk PR c_annealref10_Exp := fnT okO_annealref10_Exp mixed p_annealref10_Exp (by kernel_rfl) (by kernel_rfl) (L := L_annealref10_Exp) (kp := false) (by kernel_rfl) (inn := inn_annealref10_Exp) (out := out_annealref10_Exp) (fun _ _ => rfl) (loopsL (l := []) (by kernel_rfl) trivial) (fun x y => by kernel_rfl)
noncomputable def O_annealref1_Sub : Orc := (orm c_annealref1_Minus c_annealref1_Add)
theorem okO_annealref1_Sub : OrcOk PR O_annealref1_Sub := (orm_ok ok_annealref1_Minus ok_annealref1_Add)
abbrev fa_annealref1_Sub : Fm := (.pair (.i .i64) (.pair (.i .i64) (.pair (.i .u32) (.pair (.i .u32) .unit))))
abbrev ha_annealref1_Sub : List BF := []
abbrev fr_annealref1_Sub : Fm := (.tup (.pair (.i .u32) (.pair (.agg (.pair .b (.pair .b (.pair .b (.pair .b (.pair .b .unit)))))) .unit)))
abbrev hr_annealref1_Sub : List BF := []
noncomputable def L_annealref1_Sub : Lps := L0
def inn_annealref1_Sub : T fr_annealref1_Sub → TH hr_annealref1_Sub → Int × (Bool × Bool × Bool × Bool × Bool × Unit) × Unit := (fun z w => z)
def out_annealref1_Sub : Int × (Bool × Bool × Bool × Bool × Bool × Unit) × Unit → T fr_annealref1_Sub × TH hr_annealref1_Sub := fun r => (r, ())
noncomputable def F_annealref1_Sub (a0 : Int) (a1 : Int) (a2 : Int) (a3 : Int) : Option (Int × (Bool × Bool × Bool × Bool × Bool × Unit) × Unit) :=
  ((F_annealref1_Minus a0 a3)).bind fun r0 =>
  ((F_annealref1_Add a0 a1 a2 r0)).bind fun r1 =>
  (some r1)
noncomputable def G_annealref1_Sub : T fa_annealref1_Sub → TH ha_annealref1_Sub → Option (Int × (Bool × Bool × Bool × Bool × Bool × Unit) × Unit) := fun x y => F_annealref1_Sub x.1 x.2.1 x.2.2.1 x.2.2.2.1
noncomputable def c_annealref1_Sub : Orc := ent i_annealref1_Sub [] 0 (sp fa_annealref1_Sub ha_annealref1_Sub fr_annealref1_Sub hr_annealref1_Sub G_annealref1_Sub out_annealref1_Sub)
theorem ok_annealref1_Sub : OrcOk PR c_annealref1_Sub := fnT okO_annealref1_Sub mixed p_annealref1_Sub (by kernel_rfl) (by kernel_rfl) (L := L_annealref1_Sub) (kp := false) (by kernel_rfl) (inn := inn_annealref1_Sub) (out := out_annealref1_Sub) (fun _ _ => rfl) (loopsL (l := []) (by kernel_rfl) trivial) (fun x y => by kernel_rfl)
noncomputable def O_annealref10_Sub : Orc := c_annealref1_Sub
theorem okO_annealref10_Sub : OrcOk PR O_annealref10_Sub := ok_annealref1_Sub
abbrev fa_annealref10_Sub : Fm := (.pair (.i .u32) (.pair (.i .u32) .unit))
abbrev ha_annealref10_Sub : List BF := []
abbrev fr_annealref10_Sub : Fm := (.i .u32)
abbrev hr_annealref10_Sub : List BF := []
noncomputable def L_annealref10_Sub : Lps := L0
def inn_annealref10_Sub : T fr_annealref10_Sub → TH hr_annealref10_Sub → Int := (fun z w => z)
def out_annealref10_Sub : Int → T fr_annealref10_Sub × TH hr_annealref10_Sub := fun r => (r, ())
noncomputable def F_annealref10_Sub (a0 : Int) (a1 : Int) : Option (Int) :=
  ((F_annealref1_Sub (2:Int) (0:Int) a0 a1)).bind fun r0 =>
  (some r0.1)
noncomputable def G_annealref10_Sub : T fa_annealref10_Sub → TH ha_annealref10_Sub → Option (Int) := fun x y => F_annealref10_Sub x.1 x.2.1
noncomputable def c_annealref10_Sub : Orc := ent i_annealref10_Sub [] 0 (sp fa_annealref10_Sub ha_annealref10_Sub fr_annealref10_Sub hr_annealref10_Sub G_annealref10_Sub out_annealref10_Sub)
theorem ok_annealref10_Sub : OrcOk PR c_annealref10_Sub := fnT okO_annealref10_Sub mixed p_annealref10_Sub (by kernel_rfl) (by kernel_rfl) (L := L_annealref10_Sub) (kp := false) (by kernel_rfl) (inn := inn_annealref10_Sub) (out := out_annealref10_Sub) (fun _ _ => rfl) (loopsL (l := []) (by kernel_rfl) trivial) (fun x y => by kernel_rfl)
noncomputable def O_annealref10_Log : Orc := (orm c_annealref1_Unpack (orm c_annealref1_Class (orm c_annealref10_Nan (orm c_annealref10_Above (orm c_annealref10_Mul (orm c_annealref10_Sub (orm c_annealref10_Add (orm c_annealref10_Div (orm c_annealref10_along (orm c_annealref10_Fma c_annealref10_Int))))))))))
theorem okO_annealref10_Log : OrcOk PR O_annealref10_Log := (orm_ok ok_annealref1_Unpack (orm_ok ok_annealref1_Class (orm_ok ok_annealref10_Nan (orm_ok ok_annealref10_Above (orm_ok ok_annealref10_Mul (orm_ok ok_annealref10_Sub (orm_ok ok_annealref10_Add (orm_ok ok_annealref10_Div (orm_ok ok_annealref10_along (orm_ok ok_annealref10_Fma ok_annealref10_Int))))))))))
abbrev fa_annealref10_Log : Fm := (.pair (.i .u32) .unit)
abbrev ha_annealref10_Log : List BF := []
abbrev fr_annealref10_Log : Fm := (.i .u32)
abbrev hr_annealref10_Log : List BF := []
abbrev ff_annealref10_Log_0 : Fm := (.us 4 (.pair (.i .i64) (.pair (.i .u64) (.us 72 .unit))))
abbrev hf_annealref10_Log_0 : List BF := []
abbrev X_annealref10_Log_0 : Xs := (.one (.exit 1) [4, 5] (.us 4 (.pair (.i .i64) (.pair (.i .u64) (.us 72 .unit)))) [])
abbrev S_annealref10_Log_0 : Type := T ff_annealref10_Log_0 × TH hf_annealref10_Log_0
abbrev E_annealref10_Log_0 : Type := TX X_annealref10_Log_0
noncomputable def LB_annealref10_Log_0 : Lps := L0
noncomputable def st_annealref10_Log_0 : StepT S_annealref10_Log_0 E_annealref10_Log_0 := fun R v kn ko =>
  bif (decide (v.1.2.1 < (8388608:Int))) then
    (kn (((IntKind.wrap .i64 (v.1.1 - (1:Int))), ((IntKind.wrap .u64 (v.1.2.1 * (2:Int))), ())), ()))
  else
    (ko v)
noncomputable def ls_annealref10_Log_0 : St → LTr := (lsum ff_annealref10_Log_0 hf_annealref10_Log_0 X_annealref10_Log_0 Prod.mk id st_annealref10_Log_0 (hd [] [] [4, 5] 0))
theorem lp_annealref10_Log_0 : LoopOk PR 0 (lpN f_annealref10_Log 0) ls_annealref10_Log_0 := loopT okO_annealref10_Log mixed (L := LB_annealref10_Log_0) (d := 1) (bs := []) (ks := [4, 5]) (loopsL (l := []) (by kernel_rfl) trivial) (by kernel_rfl) (inS := Prod.mk) (outS := id) (fun _ _ => rfl) (inX := id) (outX := id) (fun _ => rfl) (fun v R kn ko => by kernel_rfl) (hd_wk [] [] [4, 5] 0)
noncomputable def L_annealref10_Log : Lps := (lpB 12 (.by_ ls_annealref10_Log_0) L0)
def inn_annealref10_Log : T fr_annealref10_Log → TH hr_annealref10_Log → Int := (fun z w => z)
def out_annealref10_Log : Int → T fr_annealref10_Log × TH hr_annealref10_Log := fun r => (r, ())
noncomputable def F_annealref10_Log (a0 : Int) : Option (Int) :=
  let x0 : List Int := [(1049774373:Int), (1053609165:Int), (1059760811:Int)]
  ((F_annealref1_Unpack (2:Int) a0)).bind fun r1 =>
  ((F_annealref1_Class (2:Int) a0)).bind fun r2 =>
  ((F_annealref10_Nan a0)).bind fun r3 =>
  bif r3 then
    (some (2143289344:Int))
  else
    bif (r2 == (0:Int)) then
      (some (4286578688:Int))
    else
      bif r1.1 then
        (some (2143289344:Int))
      else
        bif (r2 == (3:Int)) then
          (some (2139095040:Int))
        else
          ((lim st_annealref10_Log_0 (r1.2, ()))).bind fun r4 =>
          let x5 : Int := (bits .or .u32 (1065353216:Int) (IntKind.wrap .u32 (bits .and .u64 r4.1.2.1 (8388607:Int))))
          let x6 : Int := (IntKind.wrap .i64 (r4.1.1 + (23:Int)))
          ((F_annealref10_Above x5 (1068827891:Int))).bind fun r7 =>
          bif r7 then
            ((F_annealref10_Mul x5 (1056964608:Int))).bind fun r8 =>
            ((F_annealref10_Sub r8 (1065353216:Int))).bind fun r9 =>
            ((F_annealref10_Add (1073741824:Int) r9)).bind fun r10 =>
            ((F_annealref10_Div r9 r10)).bind fun r11 =>
            ((F_annealref10_Mul r11 r11)).bind fun r12 =>
            ((F_annealref10_along (1046711865:Int) r12 x0)).bind fun r13 =>
            ((F_annealref10_Mul r13 r12)).bind fun r14 =>
            ((F_annealref10_Add r11 r11)).bind fun r15 =>
            ((F_annealref10_Fma r11 r14 r15)).bind fun r16 =>
            ((F_annealref10_Int (IntKind.wrap .i64 (x6 + (1:Int))))).bind fun r17 =>
            ((F_annealref10_Fma r17 (901758606:Int) r16)).bind fun r18 =>
            ((F_annealref10_Fma r17 (1060205056:Int) r18)).bind fun r19 =>
            (some r19)
          else
            ((F_annealref10_Sub x5 (1065353216:Int))).bind fun r20 =>
            ((F_annealref10_Add (1073741824:Int) r20)).bind fun r21 =>
            ((F_annealref10_Div r20 r21)).bind fun r22 =>
            ((F_annealref10_Mul r22 r22)).bind fun r23 =>
            ((F_annealref10_along (1046711865:Int) r23 x0)).bind fun r24 =>
            ((F_annealref10_Mul r24 r23)).bind fun r25 =>
            ((F_annealref10_Add r22 r22)).bind fun r26 =>
            ((F_annealref10_Fma r22 r25 r26)).bind fun r27 =>
            ((F_annealref10_Int x6)).bind fun r28 =>
            ((F_annealref10_Fma r28 (901758606:Int) r27)).bind fun r29 =>
            ((F_annealref10_Fma r28 (1060205056:Int) r29)).bind fun r30 =>
            (some r30)
noncomputable def G_annealref10_Log : T fa_annealref10_Log → TH ha_annealref10_Log → Option (Int) := fun x y => F_annealref10_Log x.1
noncomputable def c_annealref10_Log : Orc := ent i_annealref10_Log [] 0 (sp fa_annealref10_Log ha_annealref10_Log fr_annealref10_Log hr_annealref10_Log G_annealref10_Log out_annealref10_Log)
theorem ok_annealref10_Log : OrcOk PR c_annealref10_Log := fnT okO_annealref10_Log mixed p_annealref10_Log (by kernel_rfl) (by kernel_rfl) (L := L_annealref10_Log) (kp := false) (by kernel_rfl) (inn := inn_annealref10_Log) (out := out_annealref10_Log) (fun _ _ => rfl) (loopsL (l := [((lpN f_annealref10_Log 0), ls_annealref10_Log_0)]) (by kernel_rfl) ⟨lp_annealref10_Log_0, trivial⟩) (fun x y => by kernel_rfl)
noncomputable def O_annealref10_Tanh : Orc := (orm c_annealref10_Nan (orm c_annealref10_Above (orm c_annealref10_Add (orm c_annealref10_Exp (orm c_annealref10_Div (orm c_annealref10_Sub c_annealref10_Minus))))))
theorem okO_annealref10_Tanh : OrcOk PR O_annealref10_Tanh := (orm_ok ok_annealref10_Nan (orm_ok ok_annealref10_Above (orm_ok ok_annealref10_Add (orm_ok ok_annealref10_Exp (orm_ok ok_annealref10_Div (orm_ok ok_annealref10_Sub ok_annealref10_Minus))))))
abbrev fa_annealref10_Tanh : Fm := (.pair (.i .u32) .unit)
abbrev ha_annealref10_Tanh : List BF := []
abbrev fr_annealref10_Tanh : Fm := (.i .u32)
abbrev hr_annealref10_Tanh : List BF := []
noncomputable def L_annealref10_Tanh : Lps := L0
def inn_annealref10_Tanh : T fr_annealref10_Tanh → TH hr_annealref10_Tanh → Int := (fun z w => z)
def out_annealref10_Tanh : Int → T fr_annealref10_Tanh × TH hr_annealref10_Tanh := fun r => (r, ())
noncomputable def F_annealref10_Tanh (a0 : Int) : Option (Int) :=
  let x0 : Int := (bits .andNot .u32 a0 (2147483648:Int))
  let x1 : Bool := ((a0 / (2147483648:Int)) == (1:Int))
  ((F_annealref10_Nan a0)).bind fun r2 =>
  bif r2 then
    (some (2143289344:Int))
  else
    bif (x0 == (0:Int)) then
      (some a0)
    else
      ((F_annealref10_Above x0 (1091579060:Int))).bind fun r3 =>
      bif (!r3) then
        ((F_annealref10_Add x0 x0)).bind fun r4 =>
        ((F_annealref10_Exp r4)).bind fun r5 =>
        ((F_annealref10_Add r5 (1065353216:Int))).bind fun r6 =>
        ((F_annealref10_Div (1073741824:Int) r6)).bind fun r7 =>
        ((F_annealref10_Sub (1065353216:Int) r7)).bind fun r8 =>
        bif x1 then
          ((F_annealref10_Minus r8)).bind fun r9 =>
          (some r9)
        else
          (some r8)
      else
        bif x1 then
          ((F_annealref10_Minus (1065353216:Int))).bind fun r10 =>
          (some r10)
        else
          (some (1065353216:Int))
noncomputable def G_annealref10_Tanh : T fa_annealref10_Tanh → TH ha_annealref10_Tanh → Option (Int) := fun x y => F_annealref10_Tanh x.1
noncomputable def c_annealref10_Tanh : Orc := ent i_annealref10_Tanh [] 0 (sp fa_annealref10_Tanh ha_annealref10_Tanh fr_annealref10_Tanh hr_annealref10_Tanh G_annealref10_Tanh out_annealref10_Tanh)
theorem ok_annealref10_Tanh : OrcOk PR c_annealref10_Tanh := fnT okO_annealref10_Tanh mixed p_annealref10_Tanh (by kernel_rfl) (by kernel_rfl) (L := L_annealref10_Tanh) (kp := false) (by kernel_rfl) (inn := inn_annealref10_Tanh) (out := out_annealref10_Tanh) (fun _ _ => rfl) (loopsL (l := []) (by kernel_rfl) trivial) (fun x y => by kernel_rfl)
noncomputable def O_annealref10_Sigmoid : Orc := (orm c_annealref10_Nan (orm c_annealref10_Minus (orm c_annealref10_Exp (orm c_annealref10_Add c_annealref10_Div))))
theorem okO_annealref10_Sigmoid : OrcOk PR O_annealref10_Sigmoid := (orm_ok ok_annealref10_Nan (orm_ok ok_annealref10_Minus (orm_ok ok_annealref10_Exp (orm_ok ok_annealref10_Add ok_annealref10_Div))))
abbrev fa_annealref10_Sigmoid : Fm := (.pair (.i .u32) .unit)
abbrev ha_annealref10_Sigmoid : List BF := []
abbrev fr_annealref10_Sigmoid : Fm := (.i .u32)
abbrev hr_annealref10_Sigmoid : List BF := []
noncomputable def L_annealref10_Sigmoid : Lps := L0
def inn_annealref10_Sigmoid : T fr_annealref10_Sigmoid → TH hr_annealref10_Sigmoid → Int := (fun z w => z)
def out_annealref10_Sigmoid : Int → T fr_annealref10_Sigmoid × TH hr_annealref10_Sigmoid := fun r => (r, ())
noncomputable def F_annealref10_Sigmoid (a0 : Int) : Option (Int) :=
  ((F_annealref10_Nan a0)).bind fun r0 =>
  bif r0 then
    (some (2143289344:Int))
  else
    ((F_annealref10_Minus a0)).bind fun r1 =>
    ((F_annealref10_Exp r1)).bind fun r2 =>
    ((F_annealref10_Add (1065353216:Int) r2)).bind fun r3 =>
    ((F_annealref10_Div (1065353216:Int) r3)).bind fun r4 =>
    (some r4)
noncomputable def G_annealref10_Sigmoid : T fa_annealref10_Sigmoid → TH ha_annealref10_Sigmoid → Option (Int) := fun x y => F_annealref10_Sigmoid x.1
noncomputable def c_annealref10_Sigmoid : Orc := ent i_annealref10_Sigmoid [] 0 (sp fa_annealref10_Sigmoid ha_annealref10_Sigmoid fr_annealref10_Sigmoid hr_annealref10_Sigmoid G_annealref10_Sigmoid out_annealref10_Sigmoid)
theorem ok_annealref10_Sigmoid : OrcOk PR c_annealref10_Sigmoid := fnT okO_annealref10_Sigmoid mixed p_annealref10_Sigmoid (by kernel_rfl) (by kernel_rfl) (L := L_annealref10_Sigmoid) (kp := false) (by kernel_rfl) (inn := inn_annealref10_Sigmoid) (out := out_annealref10_Sigmoid) (fun _ _ => rfl) (loopsL (l := []) (by kernel_rfl) trivial) (fun x y => by kernel_rfl)
noncomputable def O_annealref10_inner : Orc := (orm c_annealref10_Mul c_annealref10_Fma)
theorem okO_annealref10_inner : OrcOk PR O_annealref10_inner := (orm_ok ok_annealref10_Mul ok_annealref10_Fma)
abbrev fa_annealref10_inner : Fm := (.pair (.i .u32) .unit)
abbrev ha_annealref10_inner : List BF := []
abbrev fr_annealref10_inner : Fm := (.i .u32)
abbrev hr_annealref10_inner : List BF := []
noncomputable def L_annealref10_inner : Lps := L0
def inn_annealref10_inner : T fr_annealref10_inner → TH hr_annealref10_inner → Int := (fun z w => z)
def out_annealref10_inner : Int → T fr_annealref10_inner × TH hr_annealref10_inner := fun r => (r, ())
noncomputable def F_annealref10_inner (a0 : Int) : Option (Int) :=
  ((F_annealref10_Mul a0 a0)).bind fun r0 =>
  ((F_annealref10_Mul r0 a0)).bind fun r1 =>
  ((F_annealref10_Fma (1027024659:Int) r1 a0)).bind fun r2 =>
  ((F_annealref10_Mul (1061962282:Int) r2)).bind fun r3 =>
  (some r3)
noncomputable def G_annealref10_inner : T fa_annealref10_inner → TH ha_annealref10_inner → Option (Int) := fun x y => F_annealref10_inner x.1
noncomputable def c_annealref10_inner : Orc := ent i_annealref10_inner [] 0 (sp fa_annealref10_inner ha_annealref10_inner fr_annealref10_inner hr_annealref10_inner G_annealref10_inner out_annealref10_inner)
theorem ok_annealref10_inner : OrcOk PR c_annealref10_inner := fnT okO_annealref10_inner mixed p_annealref10_inner (by kernel_rfl) (by kernel_rfl) (L := L_annealref10_inner) (kp := false) (by kernel_rfl) (inn := inn_annealref10_inner) (out := out_annealref10_inner) (fun _ _ => rfl) (loopsL (l := []) (by kernel_rfl) trivial) (fun x y => by kernel_rfl)
noncomputable def O_annealref10_Gelu : Orc := (orm c_annealref10_Nan (orm c_annealref10_Mul (orm c_annealref10_inner (orm c_annealref10_Tanh c_annealref10_Add))))
theorem okO_annealref10_Gelu : OrcOk PR O_annealref10_Gelu := (orm_ok ok_annealref10_Nan (orm_ok ok_annealref10_Mul (orm_ok ok_annealref10_inner (orm_ok ok_annealref10_Tanh ok_annealref10_Add))))
abbrev fa_annealref10_Gelu : Fm := (.pair (.i .u32) .unit)
abbrev ha_annealref10_Gelu : List BF := []
abbrev fr_annealref10_Gelu : Fm := (.i .u32)
abbrev hr_annealref10_Gelu : List BF := []
noncomputable def L_annealref10_Gelu : Lps := L0
def inn_annealref10_Gelu : T fr_annealref10_Gelu → TH hr_annealref10_Gelu → Int := (fun z w => z)
def out_annealref10_Gelu : Int → T fr_annealref10_Gelu × TH hr_annealref10_Gelu := fun r => (r, ())
noncomputable def F_annealref10_Gelu (a0 : Int) : Option (Int) :=
  ((F_annealref10_Nan a0)).bind fun r0 =>
  bif r0 then
    (some (2143289344:Int))
  else
    ((F_annealref10_Mul (1056964608:Int) a0)).bind fun r1 =>
    ((F_annealref10_inner a0)).bind fun r2 =>
    ((F_annealref10_Tanh r2)).bind fun r3 =>
    ((F_annealref10_Add (1065353216:Int) r3)).bind fun r4 =>
    ((F_annealref10_Mul r1 r4)).bind fun r5 =>
    (some r5)
noncomputable def G_annealref10_Gelu : T fa_annealref10_Gelu → TH ha_annealref10_Gelu → Option (Int) := fun x y => F_annealref10_Gelu x.1
noncomputable def c_annealref10_Gelu : Orc := ent i_annealref10_Gelu [] 0 (sp fa_annealref10_Gelu ha_annealref10_Gelu fr_annealref10_Gelu hr_annealref10_Gelu G_annealref10_Gelu out_annealref10_Gelu)
theorem ok_annealref10_Gelu : OrcOk PR c_annealref10_Gelu := fnT okO_annealref10_Gelu mixed p_annealref10_Gelu (by kernel_rfl) (by kernel_rfl) (L := L_annealref10_Gelu) (kp := false) (by kernel_rfl) (inn := inn_annealref10_Gelu) (out := out_annealref10_Gelu) (fun _ _ => rfl) (loopsL (l := []) (by kernel_rfl) trivial) (fun x y => by kernel_rfl)
noncomputable def O_annealref10_Slope : Orc := (orm c_annealref10_Nan (orm c_annealref10_inner (orm c_annealref10_Tanh (orm c_annealref10_Mul (orm c_annealref10_Fma (orm c_annealref10_Sub c_annealref10_Add))))))
theorem okO_annealref10_Slope : OrcOk PR O_annealref10_Slope := (orm_ok ok_annealref10_Nan (orm_ok ok_annealref10_inner (orm_ok ok_annealref10_Tanh (orm_ok ok_annealref10_Mul (orm_ok ok_annealref10_Fma (orm_ok ok_annealref10_Sub ok_annealref10_Add))))))
abbrev fa_annealref10_Slope : Fm := (.pair (.i .u32) .unit)
abbrev ha_annealref10_Slope : List BF := []
abbrev fr_annealref10_Slope : Fm := (.i .u32)
abbrev hr_annealref10_Slope : List BF := []
noncomputable def L_annealref10_Slope : Lps := L0
def inn_annealref10_Slope : T fr_annealref10_Slope → TH hr_annealref10_Slope → Int := (fun z w => z)
def out_annealref10_Slope : Int → T fr_annealref10_Slope × TH hr_annealref10_Slope := fun r => (r, ())
noncomputable def F_annealref10_Slope (a0 : Int) : Option (Int) :=
  ((F_annealref10_Nan a0)).bind fun r0 =>
  bif r0 then
    (some (2143289344:Int))
  else
    ((F_annealref10_inner a0)).bind fun r1 =>
    ((F_annealref10_Tanh r1)).bind fun r2 =>
    ((F_annealref10_Mul a0 a0)).bind fun r3 =>
    ((F_annealref10_Fma (1040801103:Int) r3 (1065353216:Int))).bind fun r4 =>
    ((F_annealref10_Mul (1061962282:Int) r4)).bind fun r5 =>
    ((F_annealref10_Mul (1056964608:Int) a0)).bind fun r6 =>
    ((F_annealref10_Mul r2 r2)).bind fun r7 =>
    ((F_annealref10_Sub (1065353216:Int) r7)).bind fun r8 =>
    ((F_annealref10_Mul r6 r8)).bind fun r9 =>
    ((F_annealref10_Add (1065353216:Int) r2)).bind fun r10 =>
    ((F_annealref10_Mul (1056964608:Int) r10)).bind fun r11 =>
    ((F_annealref10_Fma r9 r5 r11)).bind fun r12 =>
    (some r12)
noncomputable def G_annealref10_Slope : T fa_annealref10_Slope → TH ha_annealref10_Slope → Option (Int) := fun x y => F_annealref10_Slope x.1
noncomputable def c_annealref10_Slope : Orc := ent i_annealref10_Slope [] 0 (sp fa_annealref10_Slope ha_annealref10_Slope fr_annealref10_Slope hr_annealref10_Slope G_annealref10_Slope out_annealref10_Slope)
theorem ok_annealref10_Slope : OrcOk PR c_annealref10_Slope := fnT okO_annealref10_Slope mixed p_annealref10_Slope (by kernel_rfl) (by kernel_rfl) (L := L_annealref10_Slope) (kp := false) (by kernel_rfl) (inn := inn_annealref10_Slope) (out := out_annealref10_Slope) (fun _ _ => rfl) (loopsL (l := []) (by kernel_rfl) trivial) (fun x y => by kernel_rfl)
noncomputable def O_annealref10_Cospi : Orc := (orm c_annealref10_Nan (orm c_annealref10_Sub (orm c_annealref10_Mul (orm c_annealref10_along c_annealref10_Minus))))
theorem okO_annealref10_Cospi : OrcOk PR O_annealref10_Cospi := (orm_ok ok_annealref10_Nan (orm_ok ok_annealref10_Sub (orm_ok ok_annealref10_Mul (orm_ok ok_annealref10_along ok_annealref10_Minus))))
abbrev fa_annealref10_Cospi : Fm := (.pair (.i .u32) .unit)
abbrev ha_annealref10_Cospi : List BF := []
abbrev fr_annealref10_Cospi : Fm := (.i .u32)
abbrev hr_annealref10_Cospi : List BF := []
noncomputable def L_annealref10_Cospi : Lps := L0
def inn_annealref10_Cospi : T fr_annealref10_Cospi → TH hr_annealref10_Cospi → Int := (fun z w => z)
def out_annealref10_Cospi : Int → T fr_annealref10_Cospi × TH hr_annealref10_Cospi := fun r => (r, ())
noncomputable def F_annealref10_Cospi (a0 : Int) : Option (Int) :=
  ((F_annealref10_Nan a0)).bind fun r0 =>
  bif r0 then
    (some (2143289344:Int))
  else
    ((F_annealref10_Sub a0 (1056964608:Int))).bind fun r1 =>
    ((F_annealref10_Mul (1078530011:Int) r1)).bind fun r2 =>
    ((F_annealref10_Mul r2 r2)).bind fun r3 =>
    ((F_annealref10_along (3109031169:Int) r3 [(1007192201:Int), (3190467243:Int), (1065353216:Int)])).bind fun r4 =>
    ((F_annealref10_Mul r2 r4)).bind fun r5 =>
    ((F_annealref10_Minus r5)).bind fun r6 =>
    (some r6)
noncomputable def G_annealref10_Cospi : T fa_annealref10_Cospi → TH ha_annealref10_Cospi → Option (Int) := fun x y => F_annealref10_Cospi x.1
noncomputable def c_annealref10_Cospi : Orc := ent i_annealref10_Cospi [] 0 (sp fa_annealref10_Cospi ha_annealref10_Cospi fr_annealref10_Cospi hr_annealref10_Cospi G_annealref10_Cospi out_annealref10_Cospi)
theorem ok_annealref10_Cospi : OrcOk PR c_annealref10_Cospi := fnT okO_annealref10_Cospi mixed p_annealref10_Cospi (by kernel_rfl) (by kernel_rfl) (L := L_annealref10_Cospi) (kp := false) (by kernel_rfl) (inn := inn_annealref10_Cospi) (out := out_annealref10_Cospi) (fun _ _ => rfl) (loopsL (l := []) (by kernel_rfl) trivial) (fun x y => by kernel_rfl)
end Go.Proofs.YtkknnloamidaiaaGreat.VI

namespace Go.Proofs.YtkknnloamidaiaaGreat.VI
set_option linter.unusedVariables false
set_option linter.unusedSimpArgs false
set_option linter.unusedSimpArgs false
set_option linter.unusedVariables false
set_option maxRecDepth 100000
set_option maxHeartbeats 8000000
set_option exponentiation.threshold 2000
theorem rmul_eq {a b : Int} (ha : w32 a) (hb : w32 b) : F_annealref10_Mul a b = some (mulf a b) := by
  unfold F_annealref10_Mul; rw [mulr_eq 2 0 ha hb]; rfl
theorem radd_eq {a b : Int} (ha : w32 a) (hb : w32 b) : F_annealref10_Add a b = some (addf a b) := by
  unfold F_annealref10_Add; rw [addr_eq 2 0 ha hb]; rfl
theorem rabove_eq {a b : Int} (ha : w32 a) (hb : w32 b) : F_annealref10_Above a b = some (lt 2 b a) := by
  unfold F_annealref10_Above; rw [lessr_eq 2 hb ha]; rfl
theorem rnan_eq {a : Int} (ha : w32 a) : F_annealref10_Nan a = some (nan 2 a) := by
  have kb := kl_le 2 a
  have kn := kl_nan 2 a
  unfold F_annealref10_Nan
  rw [classr_eq 2 ha.1 ha.2]
  simp only [Option.bind_some]
  have : nan 2 a = decide (kl 2 a ≥ 4) := by unfold nan; exact decide_eq_decide.2 kn.symm
  rw [this]
  generalize kl 2 a = k at *
  rw [bif_eq]
  by_cases h : k = 4
  · rw [if_pos h]; subst h; rfl
  · rw [if_neg h]; congr 1; rw [Bool.eq_iff_iff]; simp; omega
theorem mask2 {a : Int} (h : w32 a) : a % (2 * TT 2) = a := by
  have h1 := h.1
  have h2 := h.2
  show a % 4294967296 = a
  omega
theorem rsub_eq {a b : Int} (ha : w32 a) (hb : w32 b) : F_annealref10_Sub a b = some (subf a b) := by
  unfold F_annealref10_Sub F_annealref1_Sub
  rw [minusr_eq 2 hb]
  simp only [Option.bind_some]
  have wm : w32 (if nan 2 b = true then b % (2 * TT 2) else turnS 2 b) := by
    split
    · rw [mask2 hb]; exact hb
    · exact turn2_w hb
  rw [addr_eq 2 0 ha wm]
  simp only [Option.bind_some]
  congr 1
  unfold subf subS
  cases h : nan 2 b
  · simp only [Bool.false_eq_true, if_false, Bool.or_false]
    cases h2 : nan 2 a
    · rfl
    · unfold addS; rw [h2]; rfl
  · simp only [if_true, Bool.or_true]
    unfold addS; rw [mask2 hb, h]; simp
theorem rminus_eq {a : Int} (h : w32 a) (hn : nan 2 a = false) : F_annealref10_Minus a = some (turnS 2 a) := by
  unfold F_annealref10_Minus; rw [minusr_eq 2 h, hn]; rfl
theorem finr_eq (f : Int) {a : Int} (ha : w32 a) : F_annealref1_Finite f a = some (!(nan f a || inff f a)) := by
  have kn := kl_nan f a
  have ki := kl_inf f a
  unfold F_annealref1_Finite
  rw [classr_eq f ha.1 ha.2]
  simp only [Option.bind_some]
  have e1 : nan f a = decide (kl f a ≥ 4) := by unfold nan; exact decide_eq_decide.2 kn.symm
  have e2 : inff f a = decide (kl f a = 3) := by unfold inff; exact decide_eq_decide.2 ki.symm
  rw [e1, e2]
  congr 1
  rw [Bool.eq_iff_iff]; simp; omega
theorem scaler_eq (f mode : Int) {a : Int} (n : Int) (ha : w32 a) : F_annealref1_Scale f mode a n = some (scaleS f mode a n) := by
  have xa := xp_bd f a
  unfold F_annealref1_Scale scaleS
  rw [nans_eq f [a] (by simp) (by simpa using ha), nanr_w, finr_eq f ha, maskr_eq, unpackr_eq f ha]
  simp only [Option.bind_some, List.any_cons, List.any_nil, Bool.or_false, mn_eq, mx_eq]
  rw [wi64 (by omega), packr_eq f mode _ _ (sig_w64 f a), show min (max (xp f a + min (max n (-5000)) 5000) (-10000)) 10000 = xp f a + min (max n (-5000)) 5000 by omega, and_TT f ha.1 ha.2]
  simp only [Option.bind_some]
  rcases cls f a with ⟨a1, a3, a4⟩ | ⟨a1, a2, a3, a4⟩ | ⟨a1, a2, a3, a4⟩ | ⟨a1, a2, a3, a4⟩
  · rw [a1]; rfl
  · rw [a1, a3, a4]
    have hs : sig f a = 0 := (sig_zero f a a1 a4).2 a3
    simp only [Bool.or_false, Bool.not_false, Bool.not_true, cond_false, cond_true, Bool.false_eq_true, if_false, Bool.false_or, if_true]
    rw [hs]
    unfold pk
    rw [if_pos ⟨rfl, rfl⟩, zero_bits f ha a3]
  · rw [a1, a3, a4]; rfl
  · rw [a1, a3, a4]; rfl
theorem rscale_eq {a : Int} (n : Int) (ha : w32 a) : F_annealref10_Scale a n = some (scalef a n) := by
  unfold F_annealref10_Scale; rw [scaler_eq 2 0 n ha]; rfl
theorem ralong_eq {x p : Int} (hx : w32 x) (hp : w32 p) (l : List Int) (hl : ∀ c ∈ l, w32 c) (hn : l.length ≤ 100) : F_annealref10_along p x l = some (polyS x p l) := by
  have key := lim_seq (st := st_annealref10_along_0) (fun i => ((polyS x p (l.take i), (x, (l, ((i : Int), ())))), ())) (b := ((polyS x p (l.take l.length), ()), ())) l.length
    (fun i hi R kn ko => by
      unfold st_annealref10_along_0
      dsimp only
      simp only [List.take_length, bif_dec, Int.toNat_natCast]
      rw [if_pos (by omega), if_pos (by omega), rfma_eq (polyS_w hp _) hx (by
        rw [List.getD_eq_getElem?_getD, List.getElem?_eq_getElem hi]; exact hl _ (List.getElem_mem hi)), take_foldl l hi]
      simp only [Option.bind_some]
      rw [wi64 (n := (i : Int) + 1) (by omega), show ((i + 1 : Nat) : Int) = (i : Int) + 1 by omega])
    (fun R kn ko => by
      unfold st_annealref10_along_0
      dsimp only
      simp only [List.take_length, bif_dec]
      rw [if_neg (by omega)])
  unfold F_annealref10_along
  rw [List.take_length]
  rw [show polyS x p (l.take 0) = p from rfl] at key
  rw [List.take_length] at key
  exact (congrArg (fun o => Option.bind o fun r0 => some r0.1.1) key)
end Go.Proofs.YtkknnloamidaiaaGreat.VI

namespace Go.Proofs.YtkknnloamidaiaaGreat.VI
set_option linter.unusedVariables false
set_option linter.unusedSimpArgs false
set_option linter.unusedSimpArgs false
set_option linter.unusedVariables false
set_option maxRecDepth 100000
set_option maxHeartbeats 8000000
set_option exponentiation.threshold 2000
theorem ab_xp {m : Int} (h : ab 20 m) : xp 2 m < 0 := by
  apply Int.lt_of_not_ge
  intro k
  have xb := xp_bd 2 m
  have sb := sig_bd 2 m
  have h1 := h.2.1
  have h2 := h.2.2
  have hN : sig 2 m * 2 ^ (xp 2 m + 149).toNat ≤ 2 ^ 20 * 2 ^ 149 := by
    rw [show vz m = sv (sg 2 m) (sig 2 m * 2 ^ (xp 2 m + 149).toNat) from rfl] at h1 h2
    unfold sv at h1 h2; cases hs : sg 2 m <;> rw [hs] at h1 h2 <;> simp at h1 h2 ⊢ <;> omega
  have hx : ex 2 m < 255 := (ex_fin 2 m).2 h.1.2
  have hs : 8388608 ≤ sig 2 m := by
    have fb := ff_bd 2 m
    unfold xp at k
    unfold sig
    rw [show RR 2 = 256 from rfl, show BB 2 = 8388608 from rfl, show le 2 = -126 from rfl, show MM 2 = 23 from rfl] at *
    by_cases z : ex 2 m = 0
    · rw [if_pos z] at k; omega
    · rw [if_neg z, if_neg (by omega)]; omega
  have p := p2_pos (xp 2 m + 149).toNat
  have h3 : 8388608 * 2 ^ (xp 2 m + 149).toNat ≤ sig 2 m * 2 ^ (xp 2 m + 149).toNat := Int.mul_le_mul_of_nonneg_right hs (by omega)
  have h4 := p2_le (show 149 ≤ (xp 2 m + 149).toNat by omega)
  have P := p2_pos 149
  have : (2 : Int) ^ 20 = 1048576 := rfl
  omega
theorem rtoint_eq {m : Int} (h : ab 20 m) : ∃ x, F_annealref1_ToInt 2 0 m = some (wholef m, x) := by
  have xl := ab_xp h
  have xa := xp_bd 2 m
  have sb := sig_bd 2 m
  have ha := h.1.1
  have s64 := sig_w64 2 m
  have ln24 : 0 ≤ ln (sig 2 m) ∧ ln (sig 2 m) ≤ 24 := ln_bd (k := 24) sb.1 sb.2
  have h40 : ¬ xp 2 m + ln (sig 2 m) > 40 := by omega
  have tq := toq_bd sb.1 h40
  have hn := fin_nan h.1
  have hi := fin_inf h.1
  have wb := wholef_ab (k := 20) (by decide) h
  have hw : F_annealref1_units 2 0 m = some (sg 2 m, (unitsW 0 (sg 2 m) (xp 2 m) (sig 2 m)).1, (unitsW 0 (sg 2 m) (xp 2 m) (sig 2 m)).2, ()) := by
    unfold F_annealref1_units unitsW
    rw [unpackr_eq 2 ha, if_neg h40]
    simp only [Option.bind_some]
    rw [decide_eq_false (show ¬ xp 2 m ≥ 0 by omega)]
    simp only [cond_false]
    rw [wi64 (n := 0 - xp 2 m) (by omega), show (0 : Int) - xp 2 m = -xp 2 m by omega, divide_eq s64 (by omega) (by omega)]
    simp only [Option.bind_some]
    rw [and1_64 ⟨tq.1, by omega⟩, upr_eq]
    simp only [Option.bind_some]
    rw [wu64 (n := qS (sig 2 m) (-xp 2 m) + 1) (by omega)]
    unfold fin1
    have e : ((qS (sig 2 m) (-xp 2 m) % 2 == 1) : Bool) = decide (qS (sig 2 m) (-xp 2 m) % 2 = 1) := by rw [Bool.eq_iff_iff]; simp
    rw [e]
    generalize upS 0 (sg 2 m) (decide (qS (sig 2 m) (-xp 2 m) % 2 = 1)) (halfS (sig 2 m) (-xp 2 m)) (restS (sig 2 m) (-xp 2 m) false) = b
    cases b <;> cases halfS (sig 2 m) (-xp 2 m) <;> rfl
  have hz : 0 ≤ (unitsW 0 (sg 2 m) (xp 2 m) (sig 2 m)).1 ∧ (unitsW 0 (sg 2 m) (xp 2 m) (sig 2 m)).1 ≤ 1099511627777 := by
    unfold unitsW; rw [if_neg h40]
    unfold fin1
    dsimp only
    split <;> omega
  unfold wholef tointS at wb ⊢
  rw [hn, hi] at wb ⊢
  simp only [Bool.or_false, Bool.false_eq_true, if_false] at wb ⊢
  unfold F_annealref1_ToInt
  rw [finr_eq 2 ha, hn, hi, hw]
  simp only [Option.bind_some, Bool.or_false, Bool.not_false, Bool.not_true, cond_false]
  generalize (unitsW 0 (sg 2 m) (xp 2 m) (sig 2 m)).1 = z at *
  generalize (unitsW 0 (sg 2 m) (xp 2 m) (sig 2 m)).2 = y at *
  have c20 : (2 : Int) ^ (20 + 1) = 2097152 := rfl
  rw [c20] at wb
  have zs : z ≤ 2097152 := by
    apply Int.le_of_not_gt
    intro k
    cases hs : sg 2 m <;> rw [hs] at wb <;> simp only [Bool.false_eq_true, if_false, if_true] at wb
    · split at wb
      · rename_i q; dsimp only at wb; omega
      · dsimp only at wb; omega
    · split at wb
      · rename_i q; dsimp only at wb; omega
      · dsimp only at wb; omega
  rw [decide_eq_false (show ¬ z > 2147483648 by omega), beq_false_of_ne (show z ≠ 2147483648 by omega), wi64 (n := z) (by omega), wi64 (n := 0 - z) (by omega)]
  simp only [cond_false]
  cases sg 2 m
  · simp only [Bool.false_eq_true, if_false, cond_false]
    rw [wi32 (n := z) (by omega), if_pos rfl]
    exact ⟨_, rfl⟩
  · simp only [if_true, cond_true]
    rw [show (0 : Int) - z = -z by omega, wi32 (n := -z) (by omega), if_pos rfl]
    exact ⟨_, rfl⟩
end Go.Proofs.YtkknnloamidaiaaGreat.VI

namespace Go.Proofs.YtkknnloamidaiaaGreat.VI
set_option linter.unusedVariables false
set_option linter.unusedSimpArgs false
set_option linter.unusedSimpArgs false
set_option linter.unusedVariables false
set_option maxRecDepth 100000
set_option maxHeartbeats 8000000
set_option exponentiation.threshold 2000
theorem rexp_eq {x : Int} (h : w32 x) : F_annealref10_Exp x = some (expS x) := by
  unfold F_annealref10_Exp expS
  rw [rnan_eq h, rabove_eq h (wlit rfl), rabove_eq (wlit rfl) h, rmul_eq h (wlit rfl)]
  simp only [Option.bind_some]
  cases h0 : nan 2 x
  · cases h1 : lt 2 1118925336 x
    · cases h2 : lt 2 x 3268407733
      · simp only [cond_false, Bool.false_eq_true, if_false]
        have a := exp_in h h0 h1 h2
        have hm : ab 8 (mulf x 1069066811) := ab_mul (i := 7) (j := 1) (by decide) (by decide) a (ab_lit (by decide +kernel))
        obtain ⟨y, hy⟩ := rtoint_eq (ab_mono (by decide) hm)
        have wb := wholef_bd (mulf x 1069066811)
        have hk := ab_int (k := 9) (by decide) (wholef_ab (by decide) hm)
        rw [hy]
        simp only [Option.bind_some]
        rw [wi64 (by omega), rint_eq (by omega)]
        simp only [Option.bind_some]
        rw [rminus_eq (intf_w _) (fin_nan hk.1)]
        simp only [Option.bind_some]
        rw [rfma_eq (turn2_w (intf_w _)) (wlit rfl) h]
        simp only [Option.bind_some]
        rw [rfma_eq (turn2_w (intf_w _)) (wlit rfl) (fma_w _ _ _)]
        simp only [Option.bind_some]
        rw [ralong_eq (fma_w _ _ _) (wlit rfl) _ (by decide) (by decide)]
        simp only [Option.bind_some]
        rw [rscale_eq _ (polyS_w (wlit rfl) _)]
        rfl
      · rfl
    · rfl
  · rfl
theorem log_loop {m e : Int} (h0 : 0 < m) (h1 : m < 16777216) (hx : -100000 ≤ e ∧ e ≤ 100000) :
    lim st_annealref10_Log_0 ((e, (m, ())), ()) = some ((e - ((23 - lg m : Nat) : Int), (m * 2 ^ (23 - lg m), ())), ()) := by
  obtain ⟨b1, b2, b3⟩ := norm_bd h0 h1
  have hb := lg_bd (k := 24) h0 (by have : (2 : Int) ^ 24 = 16777216 := rfl; omega)
  have := lim_seq (st := st_annealref10_Log_0) (fun i => ((e - (i : Int), (m * 2 ^ i, ())), ())) (b := ((e - ((23 - lg m : Nat) : Int), (m * 2 ^ (23 - lg m), ())), ())) (23 - lg m)
    (fun i hi R kn ko => by
      have h3 := b3 i hi
      have h4 : 0 < m * 2 ^ i := Int.mul_pos h0 (p2_pos i)
      unfold st_annealref10_Log_0
      dsimp only
      rw [bif_dec, if_pos h3, wi64 (by omega), wu64 (by omega), show m * 2 ^ i * 2 = m * 2 ^ (i + 1) by rw [p2_succ, Int.mul_comm 2, Int.mul_assoc], show e - (i : Int) - 1 = e - ((i + 1 : Nat) : Int) by omega])
    (fun R kn ko => by
      unfold st_annealref10_Log_0
      dsimp only
      rw [bif_dec, if_neg (Int.not_lt.2 b1)])
  simpa using this
theorem near_one {M : Int} (h0 : 8388608 ≤ M) (h1 : M < 16777216) : fnt (1065353216 + (M - 8388608)) ∧ xp 2 (1065353216 + (M - 8388608)) = -23 ∧ sig 2 (1065353216 + (M - 8388608)) = M ∧ sg 2 (1065353216 + (M - 8388608)) = false := by
  have w : w32 (1065353216 + (M - 8388608)) := ⟨by omega, by omega⟩
  obtain ⟨c1, c2, c3, c4, c5, c6⟩ := cs2
  refine ⟨⟨w, by omega⟩, ?_, ?_, ?_⟩
  · unfold xp ex; rw [c1, c2, c3, c6, show (1065353216 + (M - 8388608)) / 8388608 % 256 = 127 by omega]; decide
  · unfold sig ex ff; rw [c1, c3, show (1065353216 + (M - 8388608)) / 8388608 % 256 = 127 by omega, show (1065353216 + (M - 8388608)) % 8388608 = M - 8388608 by omega]; simp
  · rw [sgd w]; exact decide_eq_false (by omega)
theorem scalef_pk {a : Int} (n : Int) (fa : fnt a) (hz : zr 2 a = false) : scalef a n = (pk 2 0 (sg 2 a) (xp 2 a + min (max n (-5000)) 5000) (sig 2 a) false).1 := by
  unfold scalef scaleS; rw [fin_nan fa, fin_inf fa, hz]; rfl
theorem log_m {x : Int} (fx : fnt x) (hz : zr 2 x = false) (hs : sg 2 x = false) : scalef x (-logE x) = 1065353216 + (sig 2 x * 2 ^ (23 - lg (sig 2 x)) - 8388608) := by
  have s0 : sig 2 x ≠ 0 := fun k => by rw [(sig_zero 2 x (fin_nan fx) (fin_inf fx)).1 k] at hz; cases hz
  have sb := sig_bd 2 x
  have xa := xp_bd 2 x
  have hp : 0 < sig 2 x := by omega
  have c24 : (2 : Int) ^ 24 = 16777216 := rfl
  have hl := lg_bd (k := 24) hp (by have := sb.2; rw [show BB 2 = 8388608 from rfl] at this; omega)
  obtain ⟨b1, b2, -⟩ := norm_bd hp (by have := sb.2; rw [show BB 2 = 8388608 from rfl] at this; omega)
  obtain ⟨n1, n2, n3, n4⟩ := near_one b1 b2
  have hr := pk_round 2 0 (s := 1065353216 + (sig 2 x * 2 ^ (23 - lg (sig 2 x)) - 8388608)) ⟨n1.1.1, by show _ < 2 * 2147483648; omega⟩ (fin_nan n1) (fin_inf n1)
  rw [n2, n3, n4, pk_shift 2 0 false _ _ _ sb.1] at hr
  rw [scalef_pk _ fx hz, hs]
  unfold logE
  rw [ln_pos hp]
  rw [show xp 2 x + min (max (-(xp 2 x + ((lg (sig 2 x) : Int) + 1) - 1)) (-5000)) 5000 = -23 + ((23 - lg (sig 2 x) : Nat) : Int) by omega, hr]
theorem half_eq {v : Int} (fv : fnt v) (hz : zr 2 v = false) : mulf v 1056964608 = scalef v (-1) := by
  rw [scalef_pk _ fv hz]
  have sb := sig_bd 2 v
  unfold mulf mulS
  rw [fin_nan fv, fin_inf fv, hz, show nan 2 1056964608 = false by decide, show inff 2 1056964608 = false by decide, show sg 2 1056964608 = false by decide, show xp 2 1056964608 = -24 by decide, show sig 2 1056964608 = 2 ^ 23 by decide]
  simp only [Bool.or_false, Bool.and_false, Bool.false_and, Bool.false_eq_true, if_false]
  rw [pk_shift 2 0 _ _ _ _ sb.1]
  have e1 : (!(sg 2 v == false)) = sg 2 v := by cases sg 2 v <;> rfl
  rw [e1]
  congr 2
  omega
theorem rlog_eq {x : Int} (h : w32 x) : F_annealref10_Log x = some (logS x) := by
  have xa := xp_bd 2 x
  have sb := sig_bd 2 x
  have hr : ∀ e m : Int, w32 m → -10000 ≤ e ∧ e ≤ 10000 →
      ((F_annealref10_Sub m (1065353216:Int)).bind fun r22 =>
            (F_annealref10_Add (1073741824:Int) r22).bind fun r23 =>
            (F_annealref10_Div r22 r23).bind fun r24 =>
            (F_annealref10_Mul r24 r24).bind fun r25 =>
            (F_annealref10_along (1046711865:Int) r25 [(1049774373:Int), (1053609165:Int), (1059760811:Int)]).bind fun r26 =>
            (F_annealref10_Mul r26 r25).bind fun r27 =>
            (F_annealref10_Add r24 r24).bind fun r28 =>
            (F_annealref10_Fma r24 r27 r28).bind fun r29 =>
            (F_annealref10_Int e).bind fun r30 =>
            (F_annealref10_Fma r30 (901758606:Int) r29).bind fun r31 =>
            (F_annealref10_Fma r30 (1060205056:Int) r31).bind fun r32 =>
            (some r32)) = some (logK e m) := by
    intro e m hm he
    rw [rsub_eq hm (wlit rfl)]
    simp only [Option.bind_some]
    rw [radd_eq (wlit rfl) (subf_w _ _)]
    simp only [Option.bind_some]
    rw [rdiv_eq (subf_w _ _) (addf_w _ _)]
    simp only [Option.bind_some]
    rw [rmul_eq (divf_w _ _) (divf_w _ _)]
    simp only [Option.bind_some]
    rw [ralong_eq (mulf_w _ _) (wlit rfl) _ (by decide) (by decide)]
    simp only [Option.bind_some]
    rw [rmul_eq (polyS_w (wlit rfl) _) (mulf_w _ _), radd_eq (divf_w _ _) (divf_w _ _)]
    simp only [Option.bind_some]
    rw [rfma_eq (divf_w _ _) (mulf_w _ _) (addf_w _ _), rint_eq (by omega)]
    simp only [Option.bind_some]
    rw [rfma_eq (intf_w _) (wlit rfl) (fma_w _ _ _)]
    simp only [Option.bind_some]
    rw [rfma_eq (intf_w _) (wlit rfl) (fma_w _ _ _)]
    rfl
  have kz : (kl 2 x == 0) = zr 2 x := by
    have := kl_zero 2 x
    unfold zr; rw [Bool.eq_iff_iff]; simp; exact this
  have ki : (kl 2 x == 3) = inff 2 x := by
    have := kl_inf 2 x
    unfold inff; rw [Bool.eq_iff_iff]; simp; exact this
  unfold F_annealref10_Log logS
  rw [unpackr_eq 2 h, classr_eq 2 h.1 h.2, rnan_eq h]
  simp only [Option.bind_some]
  rw [kz, ki]
  cases h0 : nan 2 x
  · cases h1 : zr 2 x
    · cases h2 : sg 2 x
      · cases h3 : inff 2 x
        · simp only [cond_false, Bool.false_eq_true, if_false]
          have fx : fnt x := num_cls h h0 h3
          have s0 : sig 2 x ≠ 0 := fun k => by rw [(sig_zero 2 x h0 h3).1 k] at h1; cases h1
          have hp : 0 < sig 2 x := by omega
          have c24 : (2 : Int) ^ 24 = 16777216 := rfl
          have hl := lg_bd (k := 24) hp (by have := sb.2; rw [show BB 2 = 8388608 from rfl] at this; omega)
          obtain ⟨b1, b2, -⟩ := norm_bd hp (by have := sb.2; rw [show BB 2 = 8388608 from rfl] at this; omega)
          rw [log_loop hp (by have := sb.2; rw [show BB 2 = 8388608 from rfl] at this; omega) (by omega)]
          simp only [Option.bind_some]
          have em := log_m fx h1 h2
          have e1 : bits .or .u32 1065353216 (IntKind.wrap .u32 (bits .and .u64 (sig 2 x * 2 ^ (23 - lg (sig 2 x))) 8388607)) = scalef x (-logE x) := by
            rw [em]
            obtain ⟨n1, -⟩ := near_one b1 b2
            have hw : ∀ M : Int, 8388608 ≤ M → M < 16777216 → bits .and .u64 M 8388607 = M - 8388608 := by
              intro M m1 m2
              have := bits_and (k := .u64) rfl (a := M.toNat) (b := 8388607) (by show M.toNat < 2 ^ 64; omega) (by decide)
              rw [show ((M.toNat : Nat) : Int) = M by omega] at this
              rw [show (8388607 : Int) = ((8388607 : Nat) : Int) from rfl, this, show (8388607 : Nat) = 2 ^ 23 - 1 from rfl, Nat.and_two_pow_sub_one_eq_mod]
              omega
            rw [hw _ b1 b2, wu32 (by omega), or_join32 1065353216 _ 23 (by decide) (by decide) (by omega) (by have : (2 : Int) ^ 23 = 8388608 := rfl; omega) (by decide) (by decide)]
          have e2 : xp 2 x - ((23 - lg (sig 2 x) : Nat) : Int) + 23 = logE x := by unfold logE; rw [ln_pos hp]; omega
          have be : -1000 ≤ logE x ∧ logE x ≤ 1000 := by unfold logE; rw [ln_pos hp]; omega
          rw [wi64 (n := xp 2 x - ((23 - lg (sig 2 x) : Nat) : Int) + 23) (by omega), e1, e2, wi64 (n := logE x + 1) (by omega), rabove_eq (scalef_w _ _) (wlit rfl), rmul_eq (scalef_w _ _) (wlit rfl)]
          simp only [Option.bind_some]
          have fm : fnt (scalef x (-logE x)) ∧ zr 2 (scalef x (-logE x)) = false := by
            rw [em]
            obtain ⟨n1, -⟩ := near_one b1 b2
            refine ⟨n1, ?_⟩
            unfold zr; exact decide_eq_false (by show ¬ ((1065353216 + (sig 2 x * 2 ^ (23 - lg (sig 2 x)) - 8388608)) % 2147483648 = 0); omega)
          rw [half_eq fm.1 fm.2, hr _ _ (scalef_w _ _) (by omega), hr _ _ (scalef_w _ _) (by omega)]
          unfold logM
          cases lt 2 1068827891 (scalef x (-logE x)) <;> rfl
        · have : x = 2139095040 := by
            unfold inff at h3; rw [sgd h] at h2
            rw [show TT 2 = 2147483648 from rfl, show IN 2 = 2139095040 from rfl, decide_eq_true_iff] at h3
            rw [decide_eq_false_iff_not] at h2
            have := h.1
            omega
          rw [this]; rfl
      · rfl
    · rfl
  · rfl
end Go.Proofs.YtkknnloamidaiaaGreat.VI

namespace Go.Proofs.YtkknnloamidaiaaGreat.VI
set_option linter.unusedVariables false
set_option linter.unusedSimpArgs false
set_option linter.unusedSimpArgs false
set_option linter.unusedVariables false
set_option maxRecDepth 100000
set_option maxHeartbeats 8000000
set_option exponentiation.threshold 2000
theorem clr {x : Int} (h : w32 x) : bits .andNot .u32 x 2147483648 = x % 2147483648 := by
  have h1 := h.1
  have h2 := h.2
  rw [u32_andNot _ _ h1 h2 (by decide) (by decide)]
  have := nat_andNot x.toNat 31 (by omega) (by omega)
  rw [show (4294967295 - 2 ^ 31 : Nat) = 4294967295 - (2147483648 : Int).toNat from rfl] at this
  first
    | (rw [this]; omega)
    | (have e := this; simp at e ⊢; omega)
theorem rtanh_eq {x : Int} (h : w32 x) : F_annealref10_Tanh x = some (tanS x) := by
  have h1 := h.1
  have h2 := h.2
  have wa : w32 (x % 2147483648) := ⟨by omega, by omega⟩
  have ez : (x % 2147483648 == 0) = zr 2 x := by unfold zr; rw [Bool.eq_iff_iff]; simp; rfl
  have es : (x / 2147483648 == 1) = sg 2 x := by rw [sgd h, Bool.eq_iff_iff]; simp; omega
  have na : nan 2 (x % 2147483648) = nan 2 x := by
    unfold nan; rw [show TT 2 = 2147483648 from rfl, Int.emod_emod_of_dvd _ (Int.dvd_refl _)]
  unfold F_annealref10_Tanh
  rw [clr h]
  dsimp only
  rw [ez, es, rnan_eq h]
  rw [rabove_eq wa (wlit rfl), radd_eq wa wa]
  simp only [Option.bind_some]
  rw [rexp_eq (addf_w _ _)]
  simp only [Option.bind_some]
  rw [radd_eq exp_w (wlit rfl)]
  simp only [Option.bind_some]
  rw [rdiv_eq (wlit rfl) (addf_w _ _)]
  simp only [Option.bind_some]
  rw [rsub_eq (wlit rfl) (divf_w _ _)]
  simp only [Option.bind_some]
  unfold tanS
  cases h0 : nan 2 x
  · cases hz : zr 2 x
    · rw [h0] at na
      have nt := tanT_nan wa na
      unfold tanT at nt
      rw [rminus_eq (subf_w _ _) nt, rminus_eq (wlit rfl) (by decide)]
      simp only [Option.bind_some]
      have et : (if sg 2 x = true then turnS 2 x else x) = x % 2147483648 := by
        rw [turn2 h, sgd h]
        by_cases k : 2147483648 ≤ x
        · rw [if_pos (decide_eq_true k), if_pos k]; omega
        · rw [if_neg (by simp [k])]; omega
      have tw : turnS 2 (1065353216 : Int) = 3212836864 := by decide
      cases hs : sg 2 x
      · rw [hs] at et
        simp only [Bool.false_eq_true, if_false] at et ⊢
        rw [← et]
        unfold tanA tanT
        cases lt 2 1091579060 x <;> rfl
      · rw [hs] at et
        simp only [if_true] at et ⊢
        rw [← et]
        unfold tanA tanT
        cases lt 2 1091579060 (turnS 2 x) <;> simp
    · rfl
  · rfl
theorem mulf_nn {a b : Int} (h : (nan 2 a || nan 2 b) = true) : mulf a b = 2143289344 := by
  unfold mulf mulS; rw [if_pos h]; rfl
theorem fma_nn {a b c : Int} (h : (nan 2 a || nan 2 b || nan 2 c) = true) : fma a b c = 2143289344 := by
  unfold fma fmaS; rw [if_pos (by rw [Bool.or_eq_true]; left; rw [← Bool.or_assoc]; exact h)]; rfl
theorem inn_nan {x : Int} (h : nan 2 x = true) : innS x = 2143289344 := by
  unfold innS; rw [fma_nn (by simp [h])]; decide +kernel
theorem exp_nn {x : Int} (h : nan 2 x = true) : expS x = 2143289344 := by unfold expS; rw [if_pos h]
theorem rsigm_eq {x : Int} (h : w32 x) : F_annealref10_Sigmoid x = some (sigS x) := by
  unfold F_annealref10_Sigmoid
  rw [rnan_eq h]
  simp only [Option.bind_some]
  cases h0 : nan 2 x
  · rw [rminus_eq h h0]
    simp only [cond_false, Option.bind_some]
    rw [rexp_eq (turn2_w h)]
    simp only [Option.bind_some]
    rw [radd_eq (wlit rfl) exp_w]
    simp only [Option.bind_some]
    rw [rdiv_eq (wlit rfl) (addf_w _ _)]
    rfl
  · unfold sigS
    rw [exp_nn (by rw [(turn_nan h).1]; exact h0)]
    exact congrArg some (show (2143289344 : Int) = _ by decide +kernel)
theorem rinner_eq {x : Int} (h : w32 x) : F_annealref10_inner x = some (innS x) := by
  unfold F_annealref10_inner innS
  rw [rmul_eq h h]
  simp only [Option.bind_some]
  rw [rmul_eq (mulf_w _ _) h]
  simp only [Option.bind_some]
  rw [rfma_eq (wlit rfl) (mulf_w _ _) h]
  simp only [Option.bind_some]
  rw [rmul_eq (wlit rfl) (fma_w _ _ _)]
  rfl
theorem rgelu_eq {x : Int} (h : w32 x) : F_annealref10_Gelu x = some (gelS x) := by
  unfold F_annealref10_Gelu
  rw [rnan_eq h]
  simp only [Option.bind_some]
  cases h0 : nan 2 x
  · simp only [cond_false]
    rw [rmul_eq (wlit rfl) h, rinner_eq h]
    simp only [Option.bind_some]
    rw [rtanh_eq (inn_w x)]
    simp only [Option.bind_some]
    rw [radd_eq (wlit rfl) (tanh_w (inn_w x))]
    simp only [Option.bind_some]
    rw [rmul_eq (mulf_w _ _) (addf_w _ _)]
    rfl
  · unfold gelS
    rw [mulf_nn (a := 1056964608) (b := x) (by simp [h0]), inn_nan h0]
    exact congrArg some (show (2143289344 : Int) = _ by decide +kernel)
theorem rslope_eq {x : Int} (h : w32 x) : F_annealref10_Slope x = some (sloS x) := by
  have ht := tanh_w (inn_w x)
  unfold F_annealref10_Slope
  rw [rnan_eq h]
  simp only [Option.bind_some]
  cases h0 : nan 2 x
  · simp only [cond_false]
    rw [rinner_eq h, rmul_eq h h, rmul_eq (wlit rfl) h]
    simp only [Option.bind_some]
    rw [rtanh_eq (inn_w x), rfma_eq (wlit rfl) (mulf_w _ _) (wlit rfl)]
    simp only [Option.bind_some]
    rw [rmul_eq (wlit rfl) (fma_w _ _ _), rmul_eq ht ht, radd_eq (wlit rfl) ht]
    simp only [Option.bind_some]
    rw [rsub_eq (wlit rfl) (mulf_w _ _), rmul_eq (wlit rfl) (addf_w _ _)]
    simp only [Option.bind_some]
    rw [rmul_eq (mulf_w _ _) (subf_w _ _)]
    simp only [Option.bind_some]
    rw [rfma_eq (mulf_w _ _) (mulf_w _ _) (mulf_w _ _)]
    rfl
  · unfold sloS sloT
    rw [mulf_nn (a := 1056964608) (b := x) (by simp [h0]), mulf_nn (a := x) (b := x) (by simp [h0]), inn_nan h0]
    exact congrArg some (show (2143289344 : Int) = _ by decide +kernel)
theorem rcospi_eq {x : Int} (h : w32 x) : F_annealref10_Cospi x = some (cosS x) := by
  unfold F_annealref10_Cospi cosS
  rw [rnan_eq h]
  simp only [Option.bind_some]
  cases h0 : nan 2 x
  · simp only [cond_false, Bool.false_eq_true, if_false]
    rw [rsub_eq h (wlit rfl)]
    simp only [Option.bind_some]
    rw [rmul_eq (wlit rfl) (subf_w _ _)]
    simp only [Option.bind_some]
    rw [rmul_eq (mulf_w _ _) (mulf_w _ _)]
    simp only [Option.bind_some]
    rw [ralong_eq (mulf_w _ _) (wlit rfl) _ (by decide) (by decide)]
    simp only [Option.bind_some]
    rw [rmul_eq (mulf_w _ _) (polyS_w (wlit rfl) _)]
    simp only [Option.bind_some]
    rw [rminus_eq (mulf_w _ _) (cosP_nan (mulf_w _ _) (cosY_nan h h0))]
    rfl
  · rfl
end Go.Proofs.YtkknnloamidaiaaGreat.VI
