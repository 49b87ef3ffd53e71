import Derived.Test.YtfpjkmgfkaoapaaT6734ce04
namespace Go.Proofs.Ytfpjkmgfkaoapaa.VI
set_option linter.unusedVariables false
set_option linter.unusedSimpArgs false
set_option maxRecDepth 100000
noncomputable def O_931 : Orc := c_9e
theorem okO_931 : OrcOk PR O_931 := ok_9e
abbrev fa_931 : Fm := (.pair (.i .u32) (.pair (.i .u32) (.pair (.si .u32) .unit)))
abbrev fr_931 : Fm := (.i .u32)
abbrev ff_931_0 : Fm := (.pair (.i .u32) (.pair (.i .u32) (.us 7 (.pair (.si .u32) (.pair (.i .i64) (.pair (.i .i64) (.us 9 .unit)))))))
abbrev hf_931_0 : List BF := []
abbrev X_931_0 : Xs := (.one (.exit 0) [1] (.us 1 (.pair (.i .u32) (.us 19 .unit))) [])
abbrev S_931_0 : Type := T ff_931_0 × TH hf_931_0
abbrev E_931_0 : Type := TX X_931_0
noncomputable def LB_931_0 : Lps := L0
noncomputable def st_931_0 : StepT S_931_0 E_931_0 := fun R v kn ko =>
 let x0 : Int := v.1.2.1
 let x1 : Int := v.1.1
 let x2 : List Int := v.1.2.2.1
 let x3 : Int := v.1.2.2.2.2.1
 bif (decide (x3 < v.1.2.2.2.1)) then
 bif (decide (((0:Int) ≤ x3) ∧ (x3 < (((List.length x2) : Nat) : Int)))) then
 ((F_9e x0 x1 (List.getD x2 (Int.toNat x3) (0:Int)))).bind fun r4 =>
 (kn ((x1, (r4, ((List.take (List.length x2) x2), (v.1.2.2.2.1, ((IntKind.wrap .i64 (x3 + (1:Int))), ()))))), ()))
 else
 none
 else
 (ko ((x0, ()), ()))
noncomputable def ls_931_0 : St → LTr := (lsum ff_931_0 hf_931_0 X_931_0 Prod.mk id st_931_0 (hd [] [] [0, 1, 9, 10, 11] 0))
theorem lp_931_0 : LoopOk PR 0 (lpN f_931 0) ls_931_0 := loopT okO_931 mixed (L := LB_931_0) (d := 1) (bs := []) (ks := [0, 1, 9, 10, 11]) (loopsL (l := []) (by kernel_rfl) trivial) (by kernel_rfl) (inS := Prod.mk) (outS := id) (fun _ _ => rfl) (inX := id) (outX := id) (fun _ => rfl) (fun v R kn ko => by kernel_rfl) (hd_wk [] [] [0, 1, 9, 10, 11] 0)
noncomputable def L_931 : Lps := (lpB 3 (.by_ ls_931_0) L0)
noncomputable def F_931 (a0 : Int) (a1 : Int) (a2 : List Int) : Option (Int) :=
 ((lim st_931_0 ((a0, (a1, ((List.take (List.length a2) a2), ((((List.length a2) : Nat) : Int), ((0:Int), ()))))), ()))).bind fun r0 =>
 (some r0.1.1)
noncomputable def G_931 : T fa_931 → TH hN0 → Option (Int) := fun x y => F_931 x.1 x.2.1 x.2.2.1
noncomputable def c_931 : Orc := ent i_931 [] 0 (sp fa_931 hN0 fr_931 hN0 G_931 (outN fr_931))
theorem ok_931 : OrcOk PR c_931 := fnT okO_931 mixed p_931 (by kernel_rfl) (by kernel_rfl) (L := L_931) (kp := false) (by kernel_rfl) (inn := (innN fr_931)) (out := (outN fr_931)) (fun _ _ => rfl) (loopsL (l := [((lpN f_931 0), ls_931_0)]) (by kernel_rfl) ⟨lp_931_0, trivial⟩) (fun x y => by kernel_rfl)
noncomputable def O_925 : Orc := (orm c_926 (orm c_927 (orm c_92f (orm c_929 (orm c_930 (orm c_948 (orm c_9c (orm c_949 (orm c_9e (orm c_931 c_92e))))))))))
theorem okO_925 : OrcOk PR O_925 := (orm_ok ok_926 (orm_ok ok_927 (orm_ok ok_92f (orm_ok ok_929 (orm_ok ok_930 (orm_ok ok_948 (orm_ok ok_9c (orm_ok ok_949 (orm_ok ok_9e (orm_ok ok_931 ok_92e))))))))))
abbrev fa_925 : Fm := (.pair (.i .u32) .unit)
abbrev fr_925 : Fm := (.i .u32)
noncomputable def F_925 (a0 : Int) : Option (Int) :=
 ((F_926 a0)).bind fun r0 =>
 bif r0 then
 (some (2143289344:Int))
 else
 ((F_92f a0 (1118925336:Int))).bind fun r1 =>
 bif r1 then
 (some (2139095040:Int))
 else
 ((F_92f (3268407733:Int) a0)).bind fun r2 =>
 bif r2 then
 (some (0:Int))
 else
 ((F_930 a0 (1069066811:Int))).bind fun r3 =>
 ((F_948 (2:Int) (0:Int) r3)).bind fun r4 =>
 let x5 : Int := (IntKind.wrap .i64 r4.1)
 ((F_9c x5)).bind fun r6 =>
 let x7 : Int := (bits .xor .u32 (bits .and .u32 r6 (4294967295:Int)) (2147483648:Int))
 ((F_9e x7 (1060205056:Int) a0)).bind fun r8 =>
 ((F_9e x7 (901758606:Int) r8)).bind fun r9 =>
 ((F_931 r9 (985008993:Int) [(1007192201:Int), (1026206379:Int), (1042983595:Int), (1056964608:Int), (1065353216:Int), (1065353216:Int)])).bind fun r10 =>
 ((F_92e r10 x5)).bind fun r11 =>
 (some r11)
noncomputable def G_925 : T fa_925 → TH hN0 → Option (Int) := fun x y => F_925 x.1
noncomputable def c_925 : Orc := ent i_925 [] 0 (sp fa_925 hN0 fr_925 hN0 G_925 (outN fr_925))
theorem ok_925 : OrcOk PR c_925 := fnT okO_925 mixed p_925 (by kernel_rfl) (by kernel_rfl) (L := L0) (kp := false) (by kernel_rfl) (inn := (innN fr_925)) (out := (outN fr_925)) (fun _ _ => rfl) (loopsL (l := []) (by kernel_rfl) trivial) (fun x y => by kernel_rfl)
noncomputable def O_915 : Orc := (orm c_926 (orm c_927 (orm c_928 (orm c_929 (orm c_92a (orm c_92b (orm c_92c (orm c_92d (orm c_92e (orm c_92f (orm c_9d (orm c_910 (orm c_9f (orm c_930 (orm c_931 (orm c_9e c_9c))))))))))))))))
theorem okO_915 : OrcOk PR O_915 := (orm_ok ok_926 (orm_ok ok_927 (orm_ok ok_928 (orm_ok ok_929 (orm_ok ok_92a (orm_ok ok_92b (orm_ok ok_92c (orm_ok ok_92d (orm_ok ok_92e (orm_ok ok_92f (orm_ok ok_9d (orm_ok ok_910 (orm_ok ok_9f (orm_ok ok_930 (orm_ok ok_931 (orm_ok ok_9e ok_9c))))))))))))))))
abbrev fa_915 : Fm := (.pair (.i .u32) .unit)
abbrev fr_915 : Fm := (.i .u32)
noncomputable def F_915 (a0 : Int) : Option (Int) :=
 let x0 : List Int := [(1049774373:Int), (1053609165:Int), (1059760811:Int)]
 ((F_926 a0)).bind fun r1 =>
 bif r1 then
 (some (2143289344:Int))
 else
 ((F_928 (2:Int) a0)).bind fun r2 =>
 bif r2 then
 (some (4286578688:Int))
 else
 bif ((bits .and .u32 (a0 / (2147483648:Int)) (1:Int)) == (1:Int)) then
 (some (2143289344:Int))
 else
 ((F_92b (2:Int) a0)).bind fun r3 =>
 bif r3 then
 (some a0)
 else
 ((F_92c (2:Int) a0)).bind fun r4 =>
 let x5 : Int := r4.2.2.1
 ((F_92d x5)).bind fun r6 =>
 let x7 : Int := (IntKind.wrap .i64 ((IntKind.wrap .i64 (r4.2.1 + r6)) - (1:Int)))
 ((F_92e a0 (IntKind.wrap .i64 ((0:Int) - x7)))).bind fun r8 =>
 ((F_92f r8 (1068827891:Int))).bind fun r9 =>
 bif r9 then
 ((F_92e r8 (-(1:Int)))).bind fun r10 =>
 ((F_9d r10 (1065353216:Int))).bind fun r11 =>
 ((F_910 (1073741824:Int) r11)).bind fun r12 =>
 ((F_9f r11 r12)).bind fun r13 =>
 ((F_930 r13 r13)).bind fun r14 =>
 ((F_931 r14 (1046711865:Int) x0)).bind fun r15 =>
 ((F_930 r15 r14)).bind fun r16 =>
 ((F_910 r13 r13)).bind fun r17 =>
 ((F_9e r13 r16 r17)).bind fun r18 =>
 ((F_9c (IntKind.wrap .i64 (x7 + (1:Int))))).bind fun r19 =>
 ((F_9e r19 (901758606:Int) r18)).bind fun r20 =>
 ((F_9e r19 (1060205056:Int) r20)).bind fun r21 =>
 (some r21)
 else
 ((F_9d r8 (1065353216:Int))).bind fun r22 =>
 ((F_910 (1073741824:Int) r22)).bind fun r23 =>
 ((F_9f r22 r23)).bind fun r24 =>
 ((F_930 r24 r24)).bind fun r25 =>
 ((F_931 r25 (1046711865:Int) x0)).bind fun r26 =>
 ((F_930 r26 r25)).bind fun r27 =>
 ((F_910 r24 r24)).bind fun r28 =>
 ((F_9e r24 r27 r28)).bind fun r29 =>
 ((F_9c x7)).bind fun r30 =>
 ((F_9e r30 (901758606:Int) r29)).bind fun r31 =>
 ((F_9e r30 (1060205056:Int) r31)).bind fun r32 =>
 (some r32)
noncomputable def G_915 : T fa_915 → TH hN0 → Option (Int) := fun x y => F_915 x.1
noncomputable def c_915 : Orc := ent i_915 [] 0 (sp fa_915 hN0 fr_915 hN0 G_915 (outN fr_915))
theorem ok_915 : OrcOk PR c_915 := fnT okO_915 mixed p_915 (by kernel_rfl) (by kernel_rfl) (L := L0) (kp := false) (by kernel_rfl) (inn := (innN fr_915)) (out := (outN fr_915)) (fun _ _ => rfl) (loopsL (l := []) (by kernel_rfl) trivial) (fun x y => by kernel_rfl)
end Go.Proofs.Ytfpjkmgfkaoapaa.VI
