import Derived.Test.YtkmkhcmfpbffjaaGreatT07f5f8ec
namespace Go.Proofs.YtkmkhcmfpbffjaaGreat.VI
set_option linter.unusedVariables false
set_option linter.unusedSimpArgs false
set_option maxRecDepth 100000
noncomputable def O_949 : Orc := (orm c_926 (orm c_927 (orm c_92a (orm c_942 (orm c_928 (orm c_929 (orm c_91e c_92b)))))))
theorem okO_949 : OrcOk PR O_949 := (orm_ok ok_926 (orm_ok ok_927 (orm_ok ok_92a (orm_ok ok_942 (orm_ok ok_928 (orm_ok ok_929 (orm_ok ok_91e ok_92b)))))))
abbrev fa_949 : Fm := (.pair (.i .i64) (.pair (.i .i64) (.pair (.i .u32) (.pair (.i .u32) .unit))))
abbrev fr_949 : Fm := (.tup (.pair (.i .u32) (.pair (.agg (.pair .b (.pair .b (.pair .b (.pair .b (.pair .b .unit)))))) .unit)))
noncomputable def F_949 (a0 : Int) (a1 : Int) (a2 : Int) (a3 : Int) : Option (Int × (Bool × Bool × Bool × Bool × Bool × Unit) × Unit) :=
 ((F_926 a0 [a2, a3])).bind fun r0 =>
 bif r0.1 then
 ((F_927 a0)).bind fun r1 =>
 (some (r1, ((r0.2.1, (false, (false, (false, (false, ()))))), ())))
 else
 ((F_92a a0 a2)).bind fun r2 =>
 ((F_92a a0 a3)).bind fun r3 =>
 let x4 : Bool := (!(r2 == r3))
 ((F_942 a0 a2)).bind fun r5 =>
 bif r5 then
 ((F_928 a0 a3)).bind fun r6 =>
 bif r6 then
 ((F_927 a0)).bind fun r7 =>
 (some (r7, ((true, (false, (false, (false, (false, ()))))), ())))
 else
 ((F_928 a0 a2)).bind fun r8 =>
 bif r8 then
 ((F_942 a0 a3)).bind fun r9 =>
 bif r9 then
 ((F_927 a0)).bind fun r10 =>
 (some (r10, ((true, (false, (false, (false, (false, ()))))), ())))
 else
 ((F_928 a0 a2)).bind fun r11 =>
 bif r11 then
 ((F_929 a0 x4)).bind fun r12 =>
 (some (r12, ((false, (false, (false, (false, (false, ()))))), ())))
 else
 ((F_928 a0 a3)).bind fun r13 =>
 bif r13 then
 ((F_929 a0 x4)).bind fun r14 =>
 (some (r14, ((false, (false, (false, (false, (false, ()))))), ())))
 else
 ((F_91e a0 a2)).bind fun r15 =>
 let x16 : Int := r15.2.2.1
 ((F_91e a0 a3)).bind fun r17 =>
 let x18 : Int := r17.2.2.1
 ((F_92b a0 a1 x4 (IntKind.wrap .i64 (r15.2.1 + r17.2.1)) (IntKind.wrap .u64 (x16 * x18)) false)).bind fun r19 =>
 (some r19)
 else
 ((F_928 a0 a2)).bind fun r20 =>
 bif r20 then
 ((F_929 a0 x4)).bind fun r21 =>
 (some (r21, ((false, (false, (false, (false, (false, ()))))), ())))
 else
 ((F_928 a0 a3)).bind fun r22 =>
 bif r22 then
 ((F_929 a0 x4)).bind fun r23 =>
 (some (r23, ((false, (false, (false, (false, (false, ()))))), ())))
 else
 ((F_91e a0 a2)).bind fun r24 =>
 let x25 : Int := r24.2.2.1
 ((F_91e a0 a3)).bind fun r26 =>
 let x27 : Int := r26.2.2.1
 ((F_92b a0 a1 x4 (IntKind.wrap .i64 (r24.2.1 + r26.2.1)) (IntKind.wrap .u64 (x25 * x27)) false)).bind fun r28 =>
 (some r28)
 else
 ((F_928 a0 a2)).bind fun r29 =>
 bif r29 then
 ((F_942 a0 a3)).bind fun r30 =>
 bif r30 then
 ((F_927 a0)).bind fun r31 =>
 (some (r31, ((true, (false, (false, (false, (false, ()))))), ())))
 else
 ((F_928 a0 a2)).bind fun r32 =>
 bif r32 then
 ((F_929 a0 x4)).bind fun r33 =>
 (some (r33, ((false, (false, (false, (false, (false, ()))))), ())))
 else
 ((F_928 a0 a3)).bind fun r34 =>
 bif r34 then
 ((F_929 a0 x4)).bind fun r35 =>
 (some (r35, ((false, (false, (false, (false, (false, ()))))), ())))
 else
 ((F_91e a0 a2)).bind fun r36 =>
 let x37 : Int := r36.2.2.1
 ((F_91e a0 a3)).bind fun r38 =>
 let x39 : Int := r38.2.2.1
 ((F_92b a0 a1 x4 (IntKind.wrap .i64 (r36.2.1 + r38.2.1)) (IntKind.wrap .u64 (x37 * x39)) false)).bind fun r40 =>
 (some r40)
 else
 ((F_928 a0 a2)).bind fun r41 =>
 bif r41 then
 ((F_929 a0 x4)).bind fun r42 =>
 (some (r42, ((false, (false, (false, (false, (false, ()))))), ())))
 else
 ((F_928 a0 a3)).bind fun r43 =>
 bif r43 then
 ((F_929 a0 x4)).bind fun r44 =>
 (some (r44, ((false, (false, (false, (false, (false, ()))))), ())))
 else
 ((F_91e a0 a2)).bind fun r45 =>
 let x46 : Int := r45.2.2.1
 ((F_91e a0 a3)).bind fun r47 =>
 let x48 : Int := r47.2.2.1
 ((F_92b a0 a1 x4 (IntKind.wrap .i64 (r45.2.1 + r47.2.1)) (IntKind.wrap .u64 (x46 * x48)) false)).bind fun r49 =>
 (some r49)
noncomputable def G_949 : T fa_949 → TH hN0 → Option (Int × (Bool × Bool × Bool × Bool × Bool × Unit) × Unit) := fun x y => F_949 x.1 x.2.1 x.2.2.1 x.2.2.2.1
noncomputable def c_949 : Orc := ent i_949 [] 0 (sp fa_949 hN0 fr_949 hN0 G_949 (outN fr_949))
theorem ok_949 : OrcOk PR c_949 := fnT okO_949 mixed p_949 (by kernel_rfl) (by kernel_rfl) (L := L0) (kp := false) (by kernel_rfl) (inn := (innN fr_949)) (out := (outN fr_949)) (fun _ _ => rfl) (loopsL (l := []) (by kernel_rfl) trivial) (fun x y => by kernel_rfl)
noncomputable def O_944 : Orc := (orm c_926 (orm c_927 (orm c_928 (orm c_92a (orm c_92c (orm c_942 (orm c_91e (orm c_971 c_970))))))))
theorem okO_944 : OrcOk PR O_944 := (orm_ok ok_926 (orm_ok ok_927 (orm_ok ok_928 (orm_ok ok_92a (orm_ok ok_92c (orm_ok ok_942 (orm_ok ok_91e (orm_ok ok_971 ok_970))))))))
abbrev fa_944 : Fm := (.pair (.i .i64) (.pair (.i .i64) (.pair (.i .u32) (.pair (.i .u32) .unit))))
abbrev fr_944 : Fm := (.tup (.pair (.i .u32) (.pair (.agg (.pair .b (.pair .b (.pair .b (.pair .b (.pair .b .unit)))))) .unit)))
noncomputable def F_944 (a0 : Int) (a1 : Int) (a2 : Int) (a3 : Int) : Option (Int × (Bool × Bool × Bool × Bool × Bool × Unit) × Unit) :=
 ((F_926 a0 [a2, a3])).bind fun r0 =>
 bif r0.1 then
 ((F_927 a0)).bind fun r1 =>
 (some (r1, ((r0.2.1, (false, (false, (false, (false, ()))))), ())))
 else
 ((F_928 a0 a2)).bind fun r2 =>
 bif r2 then
 ((F_928 a0 a3)).bind fun r3 =>
 bif r3 then
 ((F_92a a0 a2)).bind fun r4 =>
 ((F_92a a0 a3)).bind fun r5 =>
 bif (!(r4 == r5)) then
 ((F_927 a0)).bind fun r6 =>
 (some (r6, ((true, (false, (false, (false, (false, ()))))), ())))
 else
 ((F_928 a0 a2)).bind fun r7 =>
 bif r7 then
 ((F_92c a0)).bind fun r8 =>
 (some ((bits .and .u32 a2 r8), ((false, (false, (false, (false, (false, ()))))), ())))
 else
 ((F_928 a0 a3)).bind fun r9 =>
 bif r9 then
 ((F_92c a0)).bind fun r10 =>
 (some ((bits .and .u32 a3 r10), ((false, (false, (false, (false, (false, ()))))), ())))
 else
 ((F_942 a0 a2)).bind fun r11 =>
 bif r11 then
 ((F_942 a0 a3)).bind fun r12 =>
 bif r12 then
 ((F_92a a0 a2)).bind fun r13 =>
 ((F_92a a0 a3)).bind fun r14 =>
 bif (r13 == r14) then
 ((F_92c a0)).bind fun r15 =>
 (some ((bits .and .u32 a2 r15), ((false, (false, (false, (false, (false, ()))))), ())))
 else
 ((F_91e a0 a2)).bind fun r16 =>
 let x17 : Int := r16.2.2.1
 ((F_971 r16.1 r16.2.1 x17)).bind fun r18 =>
 ((F_91e a0 a3)).bind fun r19 =>
 let x20 : Int := r19.2.2.1
 ((F_971 r19.1 r19.2.1 x20)).bind fun r21 =>
 ((F_970 a0 a1 (r18.1, ([(List.getD r18.2.1 (0:Nat) (0:Int)), (List.getD r18.2.1 (1:Nat) (0:Int)), (List.getD r18.2.1 (2:Nat) (0:Int)), (List.getD r18.2.1 (3:Nat) (0:Int)), (List.getD r18.2.1 (4:Nat) (0:Int)), (List.getD r18.2.1 (5:Nat) (0:Int)), (List.getD r18.2.1 (6:Nat) (0:Int)), (List.getD r18.2.1 (7:Nat) (0:Int)), (List.getD r18.2.1 (8:Nat) (0:Int)), (List.getD r18.2.1 (9:Nat) (0:Int))], ())) (r21.1, ([(List.getD r21.2.1 (0:Nat) (0:Int)), (List.getD r21.2.1 (1:Nat) (0:Int)), (List.getD r21.2.1 (2:Nat) (0:Int)), (List.getD r21.2.1 (3:Nat) (0:Int)), (List.getD r21.2.1 (4:Nat) (0:Int)), (List.getD r21.2.1 (5:Nat) (0:Int)), (List.getD r21.2.1 (6:Nat) (0:Int)), (List.getD r21.2.1 (7:Nat) (0:Int)), (List.getD r21.2.1 (8:Nat) (0:Int)), (List.getD r21.2.1 (9:Nat) (0:Int))], ())))).bind fun r22 =>
 (some r22)
 else
 ((F_91e a0 a2)).bind fun r23 =>
 let x24 : Int := r23.2.2.1
 ((F_971 r23.1 r23.2.1 x24)).bind fun r25 =>
 ((F_91e a0 a3)).bind fun r26 =>
 let x27 : Int := r26.2.2.1
 ((F_971 r26.1 r26.2.1 x27)).bind fun r28 =>
 ((F_970 a0 a1 (r25.1, ([(List.getD r25.2.1 (0:Nat) (0:Int)), (List.getD r25.2.1 (1:Nat) (0:Int)), (List.getD r25.2.1 (2:Nat) (0:Int)), (List.getD r25.2.1 (3:Nat) (0:Int)), (List.getD r25.2.1 (4:Nat) (0:Int)), (List.getD r25.2.1 (5:Nat) (0:Int)), (List.getD r25.2.1 (6:Nat) (0:Int)), (List.getD r25.2.1 (7:Nat) (0:Int)), (List.getD r25.2.1 (8:Nat) (0:Int)), (List.getD r25.2.1 (9:Nat) (0:Int))], ())) (r28.1, ([(List.getD r28.2.1 (0:Nat) (0:Int)), (List.getD r28.2.1 (1:Nat) (0:Int)), (List.getD r28.2.1 (2:Nat) (0:Int)), (List.getD r28.2.1 (3:Nat) (0:Int)), (List.getD r28.2.1 (4:Nat) (0:Int)), (List.getD r28.2.1 (5:Nat) (0:Int)), (List.getD r28.2.1 (6:Nat) (0:Int)), (List.getD r28.2.1 (7:Nat) (0:Int)), (List.getD r28.2.1 (8:Nat) (0:Int)), (List.getD r28.2.1 (9:Nat) (0:Int))], ())))).bind fun r29 =>
 (some r29)
 else
 ((F_91e a0 a2)).bind fun r30 =>
 let x31 : Int := r30.2.2.1
 ((F_971 r30.1 r30.2.1 x31)).bind fun r32 =>
 ((F_91e a0 a3)).bind fun r33 =>
 let x34 : Int := r33.2.2.1
 ((F_971 r33.1 r33.2.1 x34)).bind fun r35 =>
 ((F_970 a0 a1 (r32.1, ([(List.getD r32.2.1 (0:Nat) (0:Int)), (List.getD r32.2.1 (1:Nat) (0:Int)), (List.getD r32.2.1 (2:Nat) (0:Int)), (List.getD r32.2.1 (3:Nat) (0:Int)), (List.getD r32.2.1 (4:Nat) (0:Int)), (List.getD r32.2.1 (5:Nat) (0:Int)), (List.getD r32.2.1 (6:Nat) (0:Int)), (List.getD r32.2.1 (7:Nat) (0:Int)), (List.getD r32.2.1 (8:Nat) (0:Int)), (List.getD r32.2.1 (9:Nat) (0:Int))], ())) (r35.1, ([(List.getD r35.2.1 (0:Nat) (0:Int)), (List.getD r35.2.1 (1:Nat) (0:Int)), (List.getD r35.2.1 (2:Nat) (0:Int)), (List.getD r35.2.1 (3:Nat) (0:Int)), (List.getD r35.2.1 (4:Nat) (0:Int)), (List.getD r35.2.1 (5:Nat) (0:Int)), (List.getD r35.2.1 (6:Nat) (0:Int)), (List.getD r35.2.1 (7:Nat) (0:Int)), (List.getD r35.2.1 (8:Nat) (0:Int)), (List.getD r35.2.1 (9:Nat) (0:Int))], ())))).bind fun r36 =>
 (some r36)
 else
 ((F_928 a0 a2)).bind fun r37 =>
 bif r37 then
 ((F_92c a0)).bind fun r38 =>
 (some ((bits .and .u32 a2 r38), ((false, (false, (false, (false, (false, ()))))), ())))
 else
 ((F_928 a0 a3)).bind fun r39 =>
 bif r39 then
 ((F_92c a0)).bind fun r40 =>
 (some ((bits .and .u32 a3 r40), ((false, (false, (false, (false, (false, ()))))), ())))
 else
 ((F_942 a0 a2)).bind fun r41 =>
 bif r41 then
 ((F_942 a0 a3)).bind fun r42 =>
 bif r42 then
 ((F_92a a0 a2)).bind fun r43 =>
 ((F_92a a0 a3)).bind fun r44 =>
 bif (r43 == r44) then
 ((F_92c a0)).bind fun r45 =>
 (some ((bits .and .u32 a2 r45), ((false, (false, (false, (false, (false, ()))))), ())))
 else
 ((F_91e a0 a2)).bind fun r46 =>
 let x47 : Int := r46.2.2.1
 ((F_971 r46.1 r46.2.1 x47)).bind fun r48 =>
 ((F_91e a0 a3)).bind fun r49 =>
 let x50 : Int := r49.2.2.1
 ((F_971 r49.1 r49.2.1 x50)).bind fun r51 =>
 ((F_970 a0 a1 (r48.1, ([(List.getD r48.2.1 (0:Nat) (0:Int)), (List.getD r48.2.1 (1:Nat) (0:Int)), (List.getD r48.2.1 (2:Nat) (0:Int)), (List.getD r48.2.1 (3:Nat) (0:Int)), (List.getD r48.2.1 (4:Nat) (0:Int)), (List.getD r48.2.1 (5:Nat) (0:Int)), (List.getD r48.2.1 (6:Nat) (0:Int)), (List.getD r48.2.1 (7:Nat) (0:Int)), (List.getD r48.2.1 (8:Nat) (0:Int)), (List.getD r48.2.1 (9:Nat) (0:Int))], ())) (r51.1, ([(List.getD r51.2.1 (0:Nat) (0:Int)), (List.getD r51.2.1 (1:Nat) (0:Int)), (List.getD r51.2.1 (2:Nat) (0:Int)), (List.getD r51.2.1 (3:Nat) (0:Int)), (List.getD r51.2.1 (4:Nat) (0:Int)), (List.getD r51.2.1 (5:Nat) (0:Int)), (List.getD r51.2.1 (6:Nat) (0:Int)), (List.getD r51.2.1 (7:Nat) (0:Int)), (List.getD r51.2.1 (8:Nat) (0:Int)), (List.getD r51.2.1 (9:Nat) (0:Int))], ())))).bind fun r52 =>
 (some r52)
 else
 ((F_91e a0 a2)).bind fun r53 =>
 let x54 : Int := r53.2.2.1
 ((F_971 r53.1 r53.2.1 x54)).bind fun r55 =>
 ((F_91e a0 a3)).bind fun r56 =>
 let x57 : Int := r56.2.2.1
 ((F_971 r56.1 r56.2.1 x57)).bind fun r58 =>
 ((F_970 a0 a1 (r55.1, ([(List.getD r55.2.1 (0:Nat) (0:Int)), (List.getD r55.2.1 (1:Nat) (0:Int)), (List.getD r55.2.1 (2:Nat) (0:Int)), (List.getD r55.2.1 (3:Nat) (0:Int)), (List.getD r55.2.1 (4:Nat) (0:Int)), (List.getD r55.2.1 (5:Nat) (0:Int)), (List.getD r55.2.1 (6:Nat) (0:Int)), (List.getD r55.2.1 (7:Nat) (0:Int)), (List.getD r55.2.1 (8:Nat) (0:Int)), (List.getD r55.2.1 (9:Nat) (0:Int))], ())) (r58.1, ([(List.getD r58.2.1 (0:Nat) (0:Int)), (List.getD r58.2.1 (1:Nat) (0:Int)), (List.getD r58.2.1 (2:Nat) (0:Int)), (List.getD r58.2.1 (3:Nat) (0:Int)), (List.getD r58.2.1 (4:Nat) (0:Int)), (List.getD r58.2.1 (5:Nat) (0:Int)), (List.getD r58.2.1 (6:Nat) (0:Int)), (List.getD r58.2.1 (7:Nat) (0:Int)), (List.getD r58.2.1 (8:Nat) (0:Int)), (List.getD r58.2.1 (9:Nat) (0:Int))], ())))).bind fun r59 =>
 (some r59)
 else
 ((F_91e a0 a2)).bind fun r60 =>
 let x61 : Int := r60.2.2.1
 ((F_971 r60.1 r60.2.1 x61)).bind fun r62 =>
 ((F_91e a0 a3)).bind fun r63 =>
 let x64 : Int := r63.2.2.1
 ((F_971 r63.1 r63.2.1 x64)).bind fun r65 =>
 ((F_970 a0 a1 (r62.1, ([(List.getD r62.2.1 (0:Nat) (0:Int)), (List.getD r62.2.1 (1:Nat) (0:Int)), (List.getD r62.2.1 (2:Nat) (0:Int)), (List.getD r62.2.1 (3:Nat) (0:Int)), (List.getD r62.2.1 (4:Nat) (0:Int)), (List.getD r62.2.1 (5:Nat) (0:Int)), (List.getD r62.2.1 (6:Nat) (0:Int)), (List.getD r62.2.1 (7:Nat) (0:Int)), (List.getD r62.2.1 (8:Nat) (0:Int)), (List.getD r62.2.1 (9:Nat) (0:Int))], ())) (r65.1, ([(List.getD r65.2.1 (0:Nat) (0:Int)), (List.getD r65.2.1 (1:Nat) (0:Int)), (List.getD r65.2.1 (2:Nat) (0:Int)), (List.getD r65.2.1 (3:Nat) (0:Int)), (List.getD r65.2.1 (4:Nat) (0:Int)), (List.getD r65.2.1 (5:Nat) (0:Int)), (List.getD r65.2.1 (6:Nat) (0:Int)), (List.getD r65.2.1 (7:Nat) (0:Int)), (List.getD r65.2.1 (8:Nat) (0:Int)), (List.getD r65.2.1 (9:Nat) (0:Int))], ())))).bind fun r66 =>
 (some r66)
 else
 ((F_928 a0 a2)).bind fun r67 =>
 bif r67 then
 ((F_92c a0)).bind fun r68 =>
 (some ((bits .and .u32 a2 r68), ((false, (false, (false, (false, (false, ()))))), ())))
 else
 ((F_928 a0 a3)).bind fun r69 =>
 bif r69 then
 ((F_92c a0)).bind fun r70 =>
 (some ((bits .and .u32 a3 r70), ((false, (false, (false, (false, (false, ()))))), ())))
 else
 ((F_942 a0 a2)).bind fun r71 =>
 bif r71 then
 ((F_942 a0 a3)).bind fun r72 =>
 bif r72 then
 ((F_92a a0 a2)).bind fun r73 =>
 ((F_92a a0 a3)).bind fun r74 =>
 bif (r73 == r74) then
 ((F_92c a0)).bind fun r75 =>
 (some ((bits .and .u32 a2 r75), ((false, (false, (false, (false, (false, ()))))), ())))
 else
 ((F_91e a0 a2)).bind fun r76 =>
 let x77 : Int := r76.2.2.1
 ((F_971 r76.1 r76.2.1 x77)).bind fun r78 =>
 ((F_91e a0 a3)).bind fun r79 =>
 let x80 : Int := r79.2.2.1
 ((F_971 r79.1 r79.2.1 x80)).bind fun r81 =>
 ((F_970 a0 a1 (r78.1, ([(List.getD r78.2.1 (0:Nat) (0:Int)), (List.getD r78.2.1 (1:Nat) (0:Int)), (List.getD r78.2.1 (2:Nat) (0:Int)), (List.getD r78.2.1 (3:Nat) (0:Int)), (List.getD r78.2.1 (4:Nat) (0:Int)), (List.getD r78.2.1 (5:Nat) (0:Int)), (List.getD r78.2.1 (6:Nat) (0:Int)), (List.getD r78.2.1 (7:Nat) (0:Int)), (List.getD r78.2.1 (8:Nat) (0:Int)), (List.getD r78.2.1 (9:Nat) (0:Int))], ())) (r81.1, ([(List.getD r81.2.1 (0:Nat) (0:Int)), (List.getD r81.2.1 (1:Nat) (0:Int)), (List.getD r81.2.1 (2:Nat) (0:Int)), (List.getD r81.2.1 (3:Nat) (0:Int)), (List.getD r81.2.1 (4:Nat) (0:Int)), (List.getD r81.2.1 (5:Nat) (0:Int)), (List.getD r81.2.1 (6:Nat) (0:Int)), (List.getD r81.2.1 (7:Nat) (0:Int)), (List.getD r81.2.1 (8:Nat) (0:Int)), (List.getD r81.2.1 (9:Nat) (0:Int))], ())))).bind fun r82 =>
 (some r82)
 else
 ((F_91e a0 a2)).bind fun r83 =>
 let x84 : Int := r83.2.2.1
 ((F_971 r83.1 r83.2.1 x84)).bind fun r85 =>
 ((F_91e a0 a3)).bind fun r86 =>
 let x87 : Int := r86.2.2.1
 ((F_971 r86.1 r86.2.1 x87)).bind fun r88 =>
 ((F_970 a0 a1 (r85.1, ([(List.getD r85.2.1 (0:Nat) (0:Int)), (List.getD r85.2.1 (1:Nat) (0:Int)), (List.getD r85.2.1 (2:Nat) (0:Int)), (List.getD r85.2.1 (3:Nat) (0:Int)), (List.getD r85.2.1 (4:Nat) (0:Int)), (List.getD r85.2.1 (5:Nat) (0:Int)), (List.getD r85.2.1 (6:Nat) (0:Int)), (List.getD r85.2.1 (7:Nat) (0:Int)), (List.getD r85.2.1 (8:Nat) (0:Int)), (List.getD r85.2.1 (9:Nat) (0:Int))], ())) (r88.1, ([(List.getD r88.2.1 (0:Nat) (0:Int)), (List.getD r88.2.1 (1:Nat) (0:Int)), (List.getD r88.2.1 (2:Nat) (0:Int)), (List.getD r88.2.1 (3:Nat) (0:Int)), (List.getD r88.2.1 (4:Nat) (0:Int)), (List.getD r88.2.1 (5:Nat) (0:Int)), (List.getD r88.2.1 (6:Nat) (0:Int)), (List.getD r88.2.1 (7:Nat) (0:Int)), (List.getD r88.2.1 (8:Nat) (0:Int)), (List.getD r88.2.1 (9:Nat) (0:Int))], ())))).bind fun r89 =>
 (some r89)
 else
 ((F_91e a0 a2)).bind fun r90 =>
 let x91 : Int := r90.2.2.1
 ((F_971 r90.1 r90.2.1 x91)).bind fun r92 =>
 ((F_91e a0 a3)).bind fun r93 =>
 let x94 : Int := r93.2.2.1
 ((F_971 r93.1 r93.2.1 x94)).bind fun r95 =>
 ((F_970 a0 a1 (r92.1, ([(List.getD r92.2.1 (0:Nat) (0:Int)), (List.getD r92.2.1 (1:Nat) (0:Int)), (List.getD r92.2.1 (2:Nat) (0:Int)), (List.getD r92.2.1 (3:Nat) (0:Int)), (List.getD r92.2.1 (4:Nat) (0:Int)), (List.getD r92.2.1 (5:Nat) (0:Int)), (List.getD r92.2.1 (6:Nat) (0:Int)), (List.getD r92.2.1 (7:Nat) (0:Int)), (List.getD r92.2.1 (8:Nat) (0:Int)), (List.getD r92.2.1 (9:Nat) (0:Int))], ())) (r95.1, ([(List.getD r95.2.1 (0:Nat) (0:Int)), (List.getD r95.2.1 (1:Nat) (0:Int)), (List.getD r95.2.1 (2:Nat) (0:Int)), (List.getD r95.2.1 (3:Nat) (0:Int)), (List.getD r95.2.1 (4:Nat) (0:Int)), (List.getD r95.2.1 (5:Nat) (0:Int)), (List.getD r95.2.1 (6:Nat) (0:Int)), (List.getD r95.2.1 (7:Nat) (0:Int)), (List.getD r95.2.1 (8:Nat) (0:Int)), (List.getD r95.2.1 (9:Nat) (0:Int))], ())))).bind fun r96 =>
 (some r96)
noncomputable def G_944 : T fa_944 → TH hN0 → Option (Int × (Bool × Bool × Bool × Bool × Bool × Unit) × Unit) := fun x y => F_944 x.1 x.2.1 x.2.2.1 x.2.2.2.1
noncomputable def c_944 : Orc := ent i_944 [] 0 (sp fa_944 hN0 fr_944 hN0 G_944 (outN fr_944))
theorem ok_944 : OrcOk PR c_944 := fnT okO_944 mixed p_944 (by kernel_rfl) (by kernel_rfl) (L := L0) (kp := false) (by kernel_rfl) (inn := (innN fr_944)) (out := (outN fr_944)) (fun _ _ => rfl) (loopsL (l := []) (by kernel_rfl) trivial) (fun x y => by kernel_rfl)
noncomputable def O_922 : Orc := c_949
theorem okO_922 : OrcOk PR O_922 := ok_949
abbrev fa_922 : Fm := (.pair (.i .u32) (.pair (.i .u32) .unit))
abbrev fr_922 : Fm := (.i .u32)
noncomputable def F_922 (a0 : Int) (a1 : Int) : Option (Int) :=
 ((F_949 (2:Int) (0:Int) a0 a1)).bind fun r0 =>
 (some r0.1)
noncomputable def G_922 : T fa_922 → TH hN0 → Option (Int) := fun x y => F_922 x.1 x.2.1
noncomputable def c_922 : Orc := ent i_922 [] 0 (sp fa_922 hN0 fr_922 hN0 G_922 (outN fr_922))
theorem ok_922 : OrcOk PR c_922 := fnT okO_922 mixed p_922 (by kernel_rfl) (by kernel_rfl) (L := L0) (kp := false) (by kernel_rfl) (inn := (innN fr_922)) (out := (outN fr_922)) (fun _ _ => rfl) (loopsL (l := []) (by kernel_rfl) trivial) (fun x y => by kernel_rfl)
noncomputable def O_923 : Orc := c_944
theorem okO_923 : OrcOk PR O_923 := ok_944
abbrev fa_923 : Fm := (.pair (.i .u32) (.pair (.i .u32) .unit))
abbrev fr_923 : Fm := (.i .u32)
noncomputable def F_923 (a0 : Int) (a1 : Int) : Option (Int) :=
 ((F_944 (2:Int) (0:Int) a0 a1)).bind fun r0 =>
 (some r0.1)
noncomputable def G_923 : T fa_923 → TH hN0 → Option (Int) := fun x y => F_923 x.1 x.2.1
noncomputable def c_923 : Orc := ent i_923 [] 0 (sp fa_923 hN0 fr_923 hN0 G_923 (outN fr_923))
theorem ok_923 : OrcOk PR c_923 := fnT okO_923 mixed p_923 (by kernel_rfl) (by kernel_rfl) (L := L0) (kp := false) (by kernel_rfl) (inn := (innN fr_923)) (out := (outN fr_923)) (fun _ _ => rfl) (loopsL (l := []) (by kernel_rfl) trivial) (fun x y => by kernel_rfl)
end Go.Proofs.YtkmkhcmfpbffjaaGreat.VI
