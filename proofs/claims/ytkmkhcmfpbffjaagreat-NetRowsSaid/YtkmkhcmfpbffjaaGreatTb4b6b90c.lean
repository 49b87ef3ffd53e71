import Derived.Test.YtkmkhcmfpbffjaaGreatT8908877f
namespace Go.Proofs.YtkmkhcmfpbffjaaGreat.VI
set_option linter.unusedVariables false
set_option linter.unusedSimpArgs false
set_option maxRecDepth 100000
noncomputable def O_966 : Orc := (orm c_96e c_96d)
theorem okO_966 : OrcOk PR O_966 := (orm_ok ok_96e ok_96d)
abbrev fa_966 : Fm := (.pair (.i .i64) (.pair (.si .u32) .unit))
abbrev fr_966 : Fm := (.tup (.pair (.i .u32) (.pair (.agg (.pair .b (.pair .b (.pair .b (.pair .b (.pair .b .unit)))))) (.pair .b .unit))))
abbrev ff_966_0 : Fm := (.pair (.i .i64) (.us 4 (.cst (.ref 0 1 0) (.us 1 (.pair .b (.cst (.ref 1 1 0) (.us 3 (.pair (.si .u32) (.pair (.i .i64) (.pair (.i .i64) (.us 23 .unit)))))))))))
abbrev hf_966_0 : List BF := [(.list 1 y_98 true (.pair .b (.pair .b (.pair .b (.pair .b (.pair .b .unit)))))), (.list 1 y_98 true (.pair .b (.pair .b (.pair .b (.pair .b (.pair .b .unit))))))]
abbrev X_966_0 : Xs := (.one (.exit 0) [0, 5, 7, 8] (.pair (.i .i64) (.us 4 (.cst (.ref 0 1 0) (.us 1 (.pair .b (.cst (.ref 1 1 0) (.us 29 .unit))))))) [(.list 1 y_98 true (.pair .b (.pair .b (.pair .b (.pair .b (.pair .b .unit)))))), (.list 1 y_98 true (.pair .b (.pair .b (.pair .b (.pair .b (.pair .b .unit))))))])
abbrev S_966_0 : Type := T ff_966_0 × TH hf_966_0
abbrev E_966_0 : Type := TX X_966_0
noncomputable def LB_966_0 : Lps := L0
noncomputable def st_966_0 : StepT S_966_0 E_966_0 := fun R v kn ko =>
 let x0 : Int := v.1.1
 let x1 : List Int := v.1.2.2.1
 let x2 : Int := v.1.2.2.2.2.1
 let x3 : Bool := v.1.2.1
 let x4 : Bool := v.2.2.1.1
 bif (decide (x2 < v.1.2.2.2.1)) then
 bif (decide (((0:Int) ≤ x2) ∧ (x2 < (((List.length x1) : Nat) : Int)))) then
 ((F_96e x0 (List.getD x1 (Int.toNat x2) (0:Int)))).bind fun r5 =>
 bif x3 then
 bif x4 then
 (kn ((x0, (true, ((List.take (List.length x1) x1), (v.1.2.2.2.1, ((IntKind.wrap .i64 (x2 + (1:Int))), ()))))), (v.2.1, ((true, v.2.2.1.2), ()))))
 else
 (kn ((x0, (true, ((List.take (List.length x1) x1), (v.1.2.2.2.1, ((IntKind.wrap .i64 (x2 + (1:Int))), ()))))), (v.2.1, (((r5 == (5:Int)), v.2.2.1.2), ()))))
 else
 bif x4 then
 (kn ((x0, ((decide (r5 ≥ (4:Int))), ((List.take (List.length x1) x1), (v.1.2.2.2.1, ((IntKind.wrap .i64 (x2 + (1:Int))), ()))))), (v.2.1, ((true, v.2.2.1.2), ()))))
 else
 (kn ((x0, ((decide (r5 ≥ (4:Int))), ((List.take (List.length x1) x1), (v.1.2.2.2.1, ((IntKind.wrap .i64 (x2 + (1:Int))), ()))))), (v.2.1, (((r5 == (5:Int)), v.2.2.1.2), ()))))
 else
 none
 else
 (ko ((x0, (x3, ())), v.2))
noncomputable def ls_966_0 : St → LTr := (lsum ff_966_0 hf_966_0 X_966_0 Prod.mk id st_966_0 (hd [] [] [0, 5, 7, 8, 12, 13, 14] 0))
theorem lp_966_0 : LoopOk PR 0 (lpN f_966 0) ls_966_0 := loopT okO_966 mixed (L := LB_966_0) (d := 1) (bs := []) (ks := [0, 5, 7, 8, 12, 13, 14]) (loopsL (l := []) (by kernel_rfl) trivial) (by kernel_rfl) (inS := Prod.mk) (outS := id) (fun _ _ => rfl) (inX := id) (outX := id) (fun _ => rfl) (fun v R kn ko => by kernel_rfl) (hd_wk [] [] [0, 5, 7, 8, 12, 13, 14] 0)
noncomputable def L_966 : Lps := (lpB 5 (.by_ ls_966_0) L0)
noncomputable def F_966 (a0 : Int) (a1 : List Int) : Option (Int × (Bool × Bool × Bool × Bool × Bool × Unit) × Bool × Unit) :=
 ((lim st_966_0 ((a0, (false, ((List.take (List.length a1) a1), ((((List.length a1) : Nat) : Int), ((0:Int), ()))))), ((false, (false, (false, (false, (false, ()))))), ((false, (false, (false, (false, (false, ()))))), ()))))).bind fun r0 =>
 ((F_96d r0.1.1)).bind fun r1 =>
 (some (r1, (r0.2.2.1, r0.1.2)))
noncomputable def G_966 : T fa_966 → TH hN0 → Option (Int × (Bool × Bool × Bool × Bool × Bool × Unit) × Bool × Unit) := fun x y => F_966 x.1 x.2.1
noncomputable def c_966 : Orc := ent i_966 [] 0 (sp fa_966 hN0 fr_966 hN0 G_966 (outN fr_966))
theorem ok_966 : OrcOk PR c_966 := fnT okO_966 mixed p_966 (by kernel_rfl) (by kernel_rfl) (L := L_966) (kp := false) (by kernel_rfl) (inn := (innN fr_966)) (out := (outN fr_966)) (fun _ _ => rfl) (loopsL (l := [((lpN f_966 0), ls_966_0)]) (by kernel_rfl) ⟨lp_966_0, trivial⟩) (fun x y => by kernel_rfl)
noncomputable def O_978 : Orc := c_96d
theorem okO_978 : OrcOk PR O_978 := ok_96d
abbrev fa_978 : Fm := (.pair (.i .i64) .unit)
abbrev fr_978 : Fm := (.tup (.pair (.i .u32) (.pair (.agg (.pair .b (.pair .b (.pair .b (.pair .b (.pair .b .unit)))))) .unit)))
noncomputable def F_978 (a0 : Int) : Option (Int × (Bool × Bool × Bool × Bool × Bool × Unit) × Unit) :=
 ((F_96d a0)).bind fun r0 =>
 (some (r0, ((true, (false, (false, (false, (false, ()))))), ())))
noncomputable def G_978 : T fa_978 → TH hN0 → Option (Int × (Bool × Bool × Bool × Bool × Bool × Unit) × Unit) := fun x y => F_978 x.1
noncomputable def c_978 : Orc := ent i_978 [] 0 (sp fa_978 hN0 fr_978 hN0 G_978 (outN fr_978))
theorem ok_978 : OrcOk PR c_978 := fnT okO_978 mixed p_978 (by kernel_rfl) (by kernel_rfl) (L := L0) (kp := false) (by kernel_rfl) (inn := (innN fr_978)) (out := (outN fr_978)) (fun _ _ => rfl) (loopsL (l := []) (by kernel_rfl) trivial) (fun x y => by kernel_rfl)
noncomputable def O_990 : Orc := (orm c_93f c_942)
theorem okO_990 : OrcOk PR O_990 := (orm_ok ok_93f ok_942)
abbrev fa_990 : Fm := (.pair (.i .i64) (.pair (.i .u32) (.pair (.i .u32) .unit)))
abbrev fr_990 : Fm := .b
noncomputable def F_990 (a0 : Int) (a1 : Int) (a2 : Int) : Option (Bool) :=
 ((F_93f a0 a1)).bind fun r0 =>
 bif r0 then
 ((F_942 a0 a2)).bind fun r1 =>
 bif r1 then
 (some true)
 else
 ((F_942 a0 a1)).bind fun r2 =>
 bif r2 then
 ((F_93f a0 a2)).bind fun r3 =>
 (some r3)
 else
 (some false)
 else
 ((F_942 a0 a1)).bind fun r4 =>
 bif r4 then
 ((F_93f a0 a2)).bind fun r5 =>
 (some r5)
 else
 (some false)
noncomputable def G_990 : T fa_990 → TH hN0 → Option (Bool) := fun x y => F_990 x.1 x.2.1 x.2.2.1
noncomputable def c_990 : Orc := ent i_990 [] 0 (sp fa_990 hN0 fr_990 hN0 G_990 (outN fr_990))
theorem ok_990 : OrcOk PR c_990 := fnT okO_990 mixed p_990 (by kernel_rfl) (by kernel_rfl) (L := L0) (kp := false) (by kernel_rfl) (inn := (innN fr_990)) (out := (outN fr_990)) (fun _ _ => rfl) (loopsL (l := []) (by kernel_rfl) trivial) (fun x y => by kernel_rfl)
noncomputable def O_968 : Orc := c_943
theorem okO_968 : OrcOk PR O_968 := ok_943
abbrev fa_968 : Fm := (.pair (.i .i64) (.pair (.i .u32) .unit))
abbrev fr_968 : Fm := (.agg (.pair .b (.pair (.i .i64) (.pair (.i .u64) (.pair .b .unit)))))
noncomputable def F_968 (a0 : Int) (a1 : Int) : Option (Bool × Int × Int × Bool × Unit) :=
 ((F_943 a0 a1)).bind fun r0 =>
 let x1 : Int := r0.2.2.1
 (some (r0.1, (r0.2.1, (x1, (false, ())))))
noncomputable def G_968 : T fa_968 → TH hN0 → Option (Bool × Int × Int × Bool × Unit) := fun x y => F_968 x.1 x.2.1
noncomputable def c_968 : Orc := ent i_968 [] 0 (sp fa_968 hN0 fr_968 hN0 G_968 (outN fr_968))
theorem ok_968 : OrcOk PR c_968 := fnT okO_968 mixed p_968 (by kernel_rfl) (by kernel_rfl) (L := L0) (kp := false) (by kernel_rfl) (inn := (innN fr_968)) (out := (outN fr_968)) (fun _ _ => rfl) (loopsL (l := []) (by kernel_rfl) trivial) (fun x y => by kernel_rfl)
noncomputable def O_991 : Orc := c_968
theorem okO_991 : OrcOk PR O_991 := ok_968
abbrev fa_991 : Fm := (.pair (.i .i64) (.pair (.i .u32) (.pair (.i .u32) .unit)))
abbrev fr_991 : Fm := (.agg (.pair .b (.pair (.i .i64) (.pair (.i .u64) (.pair .b .unit)))))
noncomputable def F_991 (a0 : Int) (a1 : Int) (a2 : Int) : Option (Bool × Int × Int × Bool × Unit) :=
 ((F_968 a0 a1)).bind fun r0 =>
 let x1 : Int := r0.2.2.1
 ((F_968 a0 a2)).bind fun r2 =>
 let x3 : Int := r2.2.2.1
 (some ((!(r0.1 == r2.1)), ((IntKind.wrap .i64 (r0.2.1 + r2.2.1)), ((IntKind.wrap .u64 (x1 * x3)), (false, ())))))
noncomputable def G_991 : T fa_991 → TH hN0 → Option (Bool × Int × Int × Bool × Unit) := fun x y => F_991 x.1 x.2.1 x.2.2.1
noncomputable def c_991 : Orc := ent i_991 [] 0 (sp fa_991 hN0 fr_991 hN0 G_991 (outN fr_991))
theorem ok_991 : OrcOk PR c_991 := fnT okO_991 mixed p_991 (by kernel_rfl) (by kernel_rfl) (L := L0) (kp := false) (by kernel_rfl) (inn := (innN fr_991)) (out := (outN fr_991)) (fun _ _ => rfl) (loopsL (l := []) (by kernel_rfl) trivial) (fun x y => by kernel_rfl)
noncomputable def O_977 : Orc := (orm c_966 (orm c_990 (orm c_978 (orm c_941 (orm c_942 (orm c_940 (orm c_991 c_961)))))))
theorem okO_977 : OrcOk PR O_977 := (orm_ok ok_966 (orm_ok ok_990 (orm_ok ok_978 (orm_ok ok_941 (orm_ok ok_942 (orm_ok ok_940 (orm_ok ok_991 ok_961)))))))
abbrev fa_977 : Fm := (.pair (.i .i64) (.pair (.i .i64) (.pair (.i .u32) (.pair (.i .u32) .unit))))
abbrev fr_977 : Fm := (.tup (.pair (.i .u32) (.pair (.agg (.pair .b (.pair .b (.pair .b (.pair .b (.pair .b .unit)))))) .unit)))
noncomputable def F_977 (a0 : Int) (a1 : Int) (a2 : Int) (a3 : Int) : Option (Int × (Bool × Bool × Bool × Bool × Bool × Unit) × Unit) :=
 ((F_966 a0 [a2, a3])).bind fun r0 =>
 let x1 : Bool := r0.2.2.1
 bif x1 then
 (some (r0.1, (r0.2.1, ())))
 else
 ((F_990 a0 a2 a3)).bind fun r2 =>
 bif r2 then
 ((F_978 a0)).bind fun r3 =>
 (some r3)
 else
 ((F_941 a0 a2)).bind fun r4 =>
 ((F_941 a0 a3)).bind fun r5 =>
 let x6 : Bool := (!(r4 == r5))
 ((F_942 a0 a2)).bind fun r7 =>
 bif r7 then
 ((F_940 a0 x6)).bind fun r8 =>
 (some (r8, ((false, (false, (false, (false, (false, ()))))), ())))
 else
 ((F_942 a0 a3)).bind fun r9 =>
 bif r9 then
 ((F_940 a0 x6)).bind fun r10 =>
 (some (r10, ((false, (false, (false, (false, (false, ()))))), ())))
 else
 ((F_991 a0 a2 a3)).bind fun r11 =>
 let x12 : Int := r11.2.2.1
 ((F_961 a0 a1 x6 r11.2.1 x12 false)).bind fun r13 =>
 (some r13)
noncomputable def G_977 : T fa_977 → TH hN0 → Option (Int × (Bool × Bool × Bool × Bool × Bool × Unit) × Unit) := fun x y => F_977 x.1 x.2.1 x.2.2.1 x.2.2.2.1
noncomputable def c_977 : Orc := ent i_977 [] 0 (sp fa_977 hN0 fr_977 hN0 G_977 (outN fr_977))
theorem ok_977 : OrcOk PR c_977 := fnT okO_977 mixed p_977 (by kernel_rfl) (by kernel_rfl) (L := L0) (kp := false) (by kernel_rfl) (inn := (innN fr_977)) (out := (outN fr_977)) (fun _ _ => rfl) (loopsL (l := []) (by kernel_rfl) trivial) (fun x y => by kernel_rfl)
noncomputable def O_947 : Orc := c_977
theorem okO_947 : OrcOk PR O_947 := ok_977
abbrev fa_947 : Fm := (.pair (.i .u32) (.pair (.i .u32) .unit))
abbrev fr_947 : Fm := (.i .u32)
noncomputable def F_947 (a0 : Int) (a1 : Int) : Option (Int) :=
 ((F_977 (2:Int) (0:Int) a0 a1)).bind fun r0 =>
 (some r0.1)
noncomputable def G_947 : T fa_947 → TH hN0 → Option (Int) := fun x y => F_947 x.1 x.2.1
noncomputable def c_947 : Orc := ent i_947 [] 0 (sp fa_947 hN0 fr_947 hN0 G_947 (outN fr_947))
theorem ok_947 : OrcOk PR c_947 := fnT okO_947 mixed p_947 (by kernel_rfl) (by kernel_rfl) (L := L0) (kp := false) (by kernel_rfl) (inn := (innN fr_947)) (out := (outN fr_947)) (fun _ _ => rfl) (loopsL (l := []) (by kernel_rfl) trivial) (fun x y => by kernel_rfl)
noncomputable def O_967 : Orc := (orm c_978 c_940)
theorem okO_967 : OrcOk PR O_967 := (orm_ok ok_978 ok_940)
abbrev fa_967 : Fm := (.pair (.i .i64) (.pair .b (.pair .b (.pair .b (.pair .b .unit)))))
abbrev fr_967 : Fm := (.tup (.pair (.i .u32) (.pair (.agg (.pair .b (.pair .b (.pair .b (.pair .b (.pair .b .unit)))))) .unit)))
noncomputable def F_967 (a0 : Int) (a1 : Bool) (a2 : Bool) (a3 : Bool) (a4 : Bool) : Option (Int × (Bool × Bool × Bool × Bool × Bool × Unit) × Unit) :=
 bif a3 then
 bif a4 then
 bif (!(a1 == a2)) then
 ((F_978 a0)).bind fun r0 =>
 (some r0)
 else
 bif a3 then
 ((F_940 a0 a1)).bind fun r1 =>
 (some (r1, ((false, (false, (false, (false, (false, ()))))), ())))
 else
 ((F_940 a0 a2)).bind fun r2 =>
 (some (r2, ((false, (false, (false, (false, (false, ()))))), ())))
 else
 bif a3 then
 ((F_940 a0 a1)).bind fun r3 =>
 (some (r3, ((false, (false, (false, (false, (false, ()))))), ())))
 else
 ((F_940 a0 a2)).bind fun r4 =>
 (some (r4, ((false, (false, (false, (false, (false, ()))))), ())))
 else
 bif a3 then
 ((F_940 a0 a1)).bind fun r5 =>
 (some (r5, ((false, (false, (false, (false, (false, ()))))), ())))
 else
 ((F_940 a0 a2)).bind fun r6 =>
 (some (r6, ((false, (false, (false, (false, (false, ()))))), ())))
noncomputable def G_967 : T fa_967 → TH hN0 → Option (Int × (Bool × Bool × Bool × Bool × Bool × Unit) × Unit) := fun x y => F_967 x.1 x.2.1 x.2.2.1 x.2.2.2.1 x.2.2.2.2.1
noncomputable def c_967 : Orc := ent i_967 [] 0 (sp fa_967 hN0 fr_967 hN0 G_967 (outN fr_967))
theorem ok_967 : OrcOk PR c_967 := fnT okO_967 mixed p_967 (by kernel_rfl) (by kernel_rfl) (L := L0) (kp := false) (by kernel_rfl) (inn := (innN fr_967)) (out := (outN fr_967)) (fun _ _ => rfl) (loopsL (l := []) (by kernel_rfl) trivial) (fun x y => by kernel_rfl)
noncomputable def O_996 : Orc := (orm c_944 c_97a)
theorem okO_996 : OrcOk PR O_996 := (orm_ok ok_944 ok_97a)
abbrev fa_996 : Fm := (.pair (.agg (.pair .b (.pair (.i .i64) (.pair (.i .u64) (.pair .b .unit))))) .unit)
abbrev fr_996 : Fm := (.agg (.pair .b (.pair (.i .i64) (.pair (.i .u64) (.pair .b .unit)))))
noncomputable def F_996 (a0 : Bool × Int × Int × Bool × Unit) : Option (Bool × Int × Int × Bool × Unit) :=
 let x0 : Int := a0.2.2.1
 ((F_944 x0)).bind fun r1 =>
 let x2 : Int := (IntKind.wrap .i64 ((62:Int) - r1))
 ((F_97a x0 (IntKind.wrap .i64 ((0:Int) - x2)))).bind fun r3 =>
 (some (a0.1, ((IntKind.wrap .i64 (a0.2.1 - x2)), (r3.1, a0.2.2.2))))
noncomputable def G_996 : T fa_996 → TH hN0 → Option (Bool × Int × Int × Bool × Unit) := fun x y => F_996 x.1
noncomputable def c_996 : Orc := ent i_996 [] 0 (sp fa_996 hN0 fr_996 hN0 G_996 (outN fr_996))
theorem ok_996 : OrcOk PR c_996 := fnT okO_996 mixed p_996 (by kernel_rfl) (by kernel_rfl) (L := L0) (kp := false) (by kernel_rfl) (inn := (innN fr_996)) (out := (outN fr_996)) (fun _ _ => rfl) (loopsL (l := []) (by kernel_rfl) trivial) (fun x y => by kernel_rfl)
noncomputable def O_969 : Orc := (orm c_996 c_97a)
theorem okO_969 : OrcOk PR O_969 := (orm_ok ok_996 ok_97a)
abbrev fa_969 : Fm := (.pair (.agg (.pair .b (.pair (.i .i64) (.pair (.i .u64) (.pair .b .unit))))) (.pair (.agg (.pair .b (.pair (.i .i64) (.pair (.i .u64) (.pair .b .unit))))) .unit))
abbrev fr_969 : Fm := (.agg (.pair .b (.pair (.i .i64) (.pair (.i .u64) (.pair .b .unit)))))
noncomputable def F_969 (a0 : Bool × Int × Int × Bool × Unit) (a1 : Bool × Int × Int × Bool × Unit) : Option (Bool × Int × Int × Bool × Unit) :=
 let x0 : Int := a0.2.2.1
 let x1 : Int := a1.2.2.1
 bif (x0 == (0:Int)) then
 (some a1)
 else
 bif (x1 == (0:Int)) then
 (some a0)
 else
 ((F_996 a0)).bind fun r2 =>
 let x3 : Int := r2.2.2.1
 ((F_996 a1)).bind fun r4 =>
 let x5 : Bool := (r4.1 == r2.1)
 let x6 : Int := r4.2.2.1
 let x7 : Bool := (r2.1 == r4.1)
 bif (decide (r2.2.1 < r4.2.1)) then
 ((F_97a x3 (IntKind.wrap .i64 (r4.2.1 - r2.2.1)))).bind fun r8 =>
 let x9 : Int := (IntKind.wrap .u64 (x6 - r8.1))
 bif x5 then
 (some (r4.1, (r4.2.1, ((IntKind.wrap .u64 (x6 + r8.1)), r8.2))))
 else
 bif r8.2.1 then
 (some (r4.1, (r4.2.1, ((IntKind.wrap .u64 (x9 - (1:Int))), r8.2))))
 else
 (some (r4.1, (r4.2.1, (x9, r8.2))))
 else
 bif (r2.2.1 == r4.2.1) then
 bif (decide (x3 < x6)) then
 ((F_97a x3 (IntKind.wrap .i64 (r4.2.1 - r2.2.1)))).bind fun r10 =>
 let x11 : Int := (IntKind.wrap .u64 (x6 - r10.1))
 bif x5 then
 (some (r4.1, (r4.2.1, ((IntKind.wrap .u64 (x6 + r10.1)), r10.2))))
 else
 bif r10.2.1 then
 (some (r4.1, (r4.2.1, ((IntKind.wrap .u64 (x11 - (1:Int))), r10.2))))
 else
 (some (r4.1, (r4.2.1, (x11, r10.2))))
 else
 ((F_97a x6 (IntKind.wrap .i64 (r2.2.1 - r4.2.1)))).bind fun r12 =>
 let x13 : Int := (IntKind.wrap .u64 (x3 - r12.1))
 bif x7 then
 (some (r2.1, (r2.2.1, ((IntKind.wrap .u64 (x3 + r12.1)), r12.2))))
 else
 bif r12.2.1 then
 (some (r2.1, (r2.2.1, ((IntKind.wrap .u64 (x13 - (1:Int))), r12.2))))
 else
 (some (r2.1, (r2.2.1, (x13, r12.2))))
 else
 ((F_97a x6 (IntKind.wrap .i64 (r2.2.1 - r4.2.1)))).bind fun r14 =>
 let x15 : Int := (IntKind.wrap .u64 (x3 - r14.1))
 bif x7 then
 (some (r2.1, (r2.2.1, ((IntKind.wrap .u64 (x3 + r14.1)), r14.2))))
 else
 bif r14.2.1 then
 (some (r2.1, (r2.2.1, ((IntKind.wrap .u64 (x15 - (1:Int))), r14.2))))
 else
 (some (r2.1, (r2.2.1, (x15, r14.2))))
noncomputable def G_969 : T fa_969 → TH hN0 → Option (Bool × Int × Int × Bool × Unit) := fun x y => F_969 x.1 x.2.1
noncomputable def c_969 : Orc := ent i_969 [] 0 (sp fa_969 hN0 fr_969 hN0 G_969 (outN fr_969))
theorem ok_969 : OrcOk PR c_969 := fnT okO_969 mixed p_969 (by kernel_rfl) (by kernel_rfl) (L := L0) (kp := false) (by kernel_rfl) (inn := (innN fr_969)) (out := (outN fr_969)) (fun _ _ => rfl) (loopsL (l := []) (by kernel_rfl) trivial) (fun x y => by kernel_rfl)
noncomputable def O_96a : Orc := c_979
theorem okO_96a : OrcOk PR O_96a := ok_979
abbrev fa_96a : Fm := (.pair (.i .i64) (.pair (.i .i64) (.pair .b (.pair .b .unit))))
abbrev fr_96a : Fm := (.i .u32)
noncomputable def F_96a (a0 : Int) (a1 : Int) (a2 : Bool) (a3 : Bool) : Option (Int) :=
 bif (a2 == a3) then
 ((F_979 a0 a2)).bind fun r0 =>
 (some r0)
 else
 ((F_979 a0 (a1 == (3:Int)))).bind fun r1 =>
 (some r1)
noncomputable def G_96a : T fa_96a → TH hN0 → Option (Int) := fun x y => F_96a x.1 x.2.1 x.2.2.1 x.2.2.2.1
noncomputable def c_96a : Orc := ent i_96a [] 0 (sp fa_96a hN0 fr_96a hN0 G_96a (outN fr_96a))
theorem ok_96a : OrcOk PR c_96a := fnT okO_96a mixed p_96a (by kernel_rfl) (by kernel_rfl) (L := L0) (kp := false) (by kernel_rfl) (inn := (innN fr_96a)) (out := (outN fr_96a)) (fun _ _ => rfl) (loopsL (l := []) (by kernel_rfl) trivial) (fun x y => by kernel_rfl)
noncomputable def O_960 : Orc := (orm c_990 (orm c_966 (orm c_978 (orm c_941 (orm c_942 (orm c_967 (orm c_991 (orm c_968 (orm c_969 (orm c_96a c_961))))))))))
theorem okO_960 : OrcOk PR O_960 := (orm_ok ok_990 (orm_ok ok_966 (orm_ok ok_978 (orm_ok ok_941 (orm_ok ok_942 (orm_ok ok_967 (orm_ok ok_991 (orm_ok ok_968 (orm_ok ok_969 (orm_ok ok_96a ok_961))))))))))
abbrev fa_960 : Fm := (.pair (.i .i64) (.pair (.i .i64) (.pair (.i .u32) (.pair (.i .u32) (.pair (.i .u32) .unit)))))
abbrev fr_960 : Fm := (.tup (.pair (.i .u32) (.pair (.agg (.pair .b (.pair .b (.pair .b (.pair .b (.pair .b .unit)))))) .unit)))
noncomputable def F_960 (a0 : Int) (a1 : Int) (a2 : Int) (a3 : Int) (a4 : Int) : Option (Int × (Bool × Bool × Bool × Bool × Bool × Unit) × Unit) :=
 ((F_990 a0 a2 a3)).bind fun r0 =>
 ((F_966 a0 [a2, a3, a4])).bind fun r1 =>
 let x2 : Bool := r1.2.2.1
 let x3 : Bool := r1.2.1.1
 bif x2 then
 bif x3 then
 (some (r1.1, ((true, r1.2.1.2), ())))
 else
 (some (r1.1, ((r0, r1.2.1.2), ())))
 else
 bif r0 then
 ((F_978 a0)).bind fun r4 =>
 (some r4)
 else
 ((F_941 a0 a2)).bind fun r5 =>
 ((F_941 a0 a3)).bind fun r6 =>
 let x7 : Bool := (!(r5 == r6))
 ((F_942 a0 a2)).bind fun r8 =>
 bif r8 then
 ((F_942 a0 a4)).bind fun r9 =>
 ((F_941 a0 a4)).bind fun r10 =>
 ((F_967 a0 x7 r10 true r9)).bind fun r11 =>
 (some r11)
 else
 ((F_942 a0 a3)).bind fun r12 =>
 ((F_942 a0 a4)).bind fun r13 =>
 bif r12 then
 ((F_941 a0 a4)).bind fun r14 =>
 ((F_967 a0 x7 r14 r12 r13)).bind fun r15 =>
 (some r15)
 else
 bif r13 then
 ((F_941 a0 a4)).bind fun r16 =>
 ((F_967 a0 x7 r16 r12 r13)).bind fun r17 =>
 (some r17)
 else
 ((F_991 a0 a2 a3)).bind fun r18 =>
 ((F_968 a0 a4)).bind fun r19 =>
 ((F_969 r18 r19)).bind fun r20 =>
 let x21 : Int := r20.2.2.1
 let x22 : Bool := r20.2.2.2.1
 bif (x21 == (0:Int)) then
 bif (!x22) then
 ((F_96a a0 a1 x7 r19.1)).bind fun r23 =>
 (some (r23, ((false, (false, (false, (false, (false, ()))))), ())))
 else
 ((F_961 a0 a1 r20.1 r20.2.1 x21 x22)).bind fun r24 =>
 (some r24)
 else
 ((F_961 a0 a1 r20.1 r20.2.1 x21 x22)).bind fun r25 =>
 (some r25)
noncomputable def G_960 : T fa_960 → TH hN0 → Option (Int × (Bool × Bool × Bool × Bool × Bool × Unit) × Unit) := fun x y => F_960 x.1 x.2.1 x.2.2.1 x.2.2.2.1 x.2.2.2.2.1
noncomputable def c_960 : Orc := ent i_960 [] 0 (sp fa_960 hN0 fr_960 hN0 G_960 (outN fr_960))
theorem ok_960 : OrcOk PR c_960 := fnT okO_960 mixed p_960 (by kernel_rfl) (by kernel_rfl) (L := L0) (kp := false) (by kernel_rfl) (inn := (innN fr_960)) (out := (outN fr_960)) (fun _ _ => rfl) (loopsL (l := []) (by kernel_rfl) trivial) (fun x y => by kernel_rfl)
noncomputable def O_937 : Orc := c_960
theorem okO_937 : OrcOk PR O_937 := ok_960
abbrev fa_937 : Fm := (.pair (.i .u32) (.pair (.i .u32) (.pair (.i .u32) .unit)))
abbrev fr_937 : Fm := (.i .u32)
noncomputable def F_937 (a0 : Int) (a1 : Int) (a2 : Int) : Option (Int) :=
 ((F_960 (2:Int) (0:Int) a0 a1 a2)).bind fun r0 =>
 (some r0.1)
noncomputable def G_937 : T fa_937 → TH hN0 → Option (Int) := fun x y => F_937 x.1 x.2.1 x.2.2.1
noncomputable def c_937 : Orc := ent i_937 [] 0 (sp fa_937 hN0 fr_937 hN0 G_937 (outN fr_937))
theorem ok_937 : OrcOk PR c_937 := fnT okO_937 mixed p_937 (by kernel_rfl) (by kernel_rfl) (L := L0) (kp := false) (by kernel_rfl) (inn := (innN fr_937)) (out := (outN fr_937)) (fun _ _ => rfl) (loopsL (l := []) (by kernel_rfl) trivial) (fun x y => by kernel_rfl)
noncomputable def O_93b : Orc := (orm c_966 (orm c_942 (orm c_941 (orm c_967 (orm c_968 (orm c_969 (orm c_96a c_961)))))))
theorem okO_93b : OrcOk PR O_93b := (orm_ok ok_966 (orm_ok ok_942 (orm_ok ok_941 (orm_ok ok_967 (orm_ok ok_968 (orm_ok ok_969 (orm_ok ok_96a ok_961)))))))
abbrev fa_93b : Fm := (.pair (.i .i64) (.pair (.i .i64) (.pair (.i .u32) (.pair (.i .u32) .unit))))
abbrev fr_93b : Fm := (.tup (.pair (.i .u32) (.pair (.agg (.pair .b (.pair .b (.pair .b (.pair .b (.pair .b .unit)))))) .unit)))
noncomputable def F_93b (a0 : Int) (a1 : Int) (a2 : Int) (a3 : Int) : Option (Int × (Bool × Bool × Bool × Bool × Bool × Unit) × Unit) :=
 ((F_966 a0 [a2, a3])).bind fun r0 =>
 let x1 : Bool := r0.2.2.1
 bif x1 then
 (some (r0.1, (r0.2.1, ())))
 else
 ((F_942 a0 a2)).bind fun r2 =>
 ((F_942 a0 a3)).bind fun r3 =>
 bif r2 then
 ((F_941 a0 a2)).bind fun r4 =>
 ((F_941 a0 a3)).bind fun r5 =>
 ((F_967 a0 r4 r5 r2 r3)).bind fun r6 =>
 (some r6)
 else
 bif r3 then
 ((F_941 a0 a2)).bind fun r7 =>
 ((F_941 a0 a3)).bind fun r8 =>
 ((F_967 a0 r7 r8 r2 r3)).bind fun r9 =>
 (some r9)
 else
 ((F_968 a0 a2)).bind fun r10 =>
 ((F_968 a0 a3)).bind fun r11 =>
 ((F_969 r10 r11)).bind fun r12 =>
 let x13 : Int := r12.2.2.1
 let x14 : Bool := r12.2.2.2.1
 bif (x13 == (0:Int)) then
 bif (!x14) then
 ((F_96a a0 a1 r10.1 r11.1)).bind fun r15 =>
 (some (r15, ((false, (false, (false, (false, (false, ()))))), ())))
 else
 ((F_961 a0 a1 r12.1 r12.2.1 x13 x14)).bind fun r16 =>
 (some r16)
 else
 ((F_961 a0 a1 r12.1 r12.2.1 x13 x14)).bind fun r17 =>
 (some r17)
noncomputable def G_93b : T fa_93b → TH hN0 → Option (Int × (Bool × Bool × Bool × Bool × Bool × Unit) × Unit) := fun x y => F_93b x.1 x.2.1 x.2.2.1 x.2.2.2.1
noncomputable def c_93b : Orc := ent i_93b [] 0 (sp fa_93b hN0 fr_93b hN0 G_93b (outN fr_93b))
theorem ok_93b : OrcOk PR c_93b := fnT okO_93b mixed p_93b (by kernel_rfl) (by kernel_rfl) (L := L0) (kp := false) (by kernel_rfl) (inn := (innN fr_93b)) (out := (outN fr_93b)) (fun _ _ => rfl) (loopsL (l := []) (by kernel_rfl) trivial) (fun x y => by kernel_rfl)
noncomputable def O_93c : Orc := (orm c_966 (orm c_96b c_93b))
theorem okO_93c : OrcOk PR O_93c := (orm_ok ok_966 (orm_ok ok_96b ok_93b))
abbrev fa_93c : Fm := (.pair (.i .i64) (.pair (.i .i64) (.pair (.i .u32) (.pair (.i .u32) .unit))))
abbrev fr_93c : Fm := (.tup (.pair (.i .u32) (.pair (.agg (.pair .b (.pair .b (.pair .b (.pair .b (.pair .b .unit)))))) .unit)))
noncomputable def F_93c (a0 : Int) (a1 : Int) (a2 : Int) (a3 : Int) : Option (Int × (Bool × Bool × Bool × Bool × Bool × Unit) × Unit) :=
 ((F_966 a0 [a2, a3])).bind fun r0 =>
 let x1 : Bool := r0.2.2.1
 bif x1 then
 (some (r0.1, (r0.2.1, ())))
 else
 ((F_96b a0 a3)).bind fun r2 =>
 ((F_93b a0 a1 a2 r2)).bind fun r3 =>
 (some r3)
noncomputable def G_93c : T fa_93c → TH hN0 → Option (Int × (Bool × Bool × Bool × Bool × Bool × Unit) × Unit) := fun x y => F_93c x.1 x.2.1 x.2.2.1 x.2.2.2.1
noncomputable def c_93c : Orc := ent i_93c [] 0 (sp fa_93c hN0 fr_93c hN0 G_93c (outN fr_93c))
theorem ok_93c : OrcOk PR c_93c := fnT okO_93c mixed p_93c (by kernel_rfl) (by kernel_rfl) (L := L0) (kp := false) (by kernel_rfl) (inn := (innN fr_93c)) (out := (outN fr_93c)) (fun _ _ => rfl) (loopsL (l := []) (by kernel_rfl) trivial) (fun x y => by kernel_rfl)
noncomputable def O_91c : Orc := c_93b
theorem okO_91c : OrcOk PR O_91c := ok_93b
abbrev fa_91c : Fm := (.pair (.i .u32) (.pair (.i .u32) .unit))
abbrev fr_91c : Fm := (.i .u32)
noncomputable def F_91c (a0 : Int) (a1 : Int) : Option (Int) :=
 ((F_93b (2:Int) (0:Int) a0 a1)).bind fun r0 =>
 (some r0.1)
noncomputable def G_91c : T fa_91c → TH hN0 → Option (Int) := fun x y => F_91c x.1 x.2.1
noncomputable def c_91c : Orc := ent i_91c [] 0 (sp fa_91c hN0 fr_91c hN0 G_91c (outN fr_91c))
theorem ok_91c : OrcOk PR c_91c := fnT okO_91c mixed p_91c (by kernel_rfl) (by kernel_rfl) (L := L0) (kp := false) (by kernel_rfl) (inn := (innN fr_91c)) (out := (outN fr_91c)) (fun _ _ => rfl) (loopsL (l := []) (by kernel_rfl) trivial) (fun x y => by kernel_rfl)
noncomputable def O_91d : Orc := c_93c
theorem okO_91d : OrcOk PR O_91d := ok_93c
abbrev fa_91d : Fm := (.pair (.i .u32) (.pair (.i .u32) .unit))
abbrev fr_91d : Fm := (.i .u32)
noncomputable def F_91d (a0 : Int) (a1 : Int) : Option (Int) :=
 ((F_93c (2:Int) (0:Int) a0 a1)).bind fun r0 =>
 (some r0.1)
noncomputable def G_91d : T fa_91d → TH hN0 → Option (Int) := fun x y => F_91d x.1 x.2.1
noncomputable def c_91d : Orc := ent i_91d [] 0 (sp fa_91d hN0 fr_91d hN0 G_91d (outN fr_91d))
theorem ok_91d : OrcOk PR c_91d := fnT okO_91d mixed p_91d (by kernel_rfl) (by kernel_rfl) (L := L0) (kp := false) (by kernel_rfl) (inn := (innN fr_91d)) (out := (outN fr_91d)) (fun _ _ => rfl) (loopsL (l := []) (by kernel_rfl) trivial) (fun x y => by kernel_rfl)
noncomputable def O_995 : Orc := (orm c_944 (orm c_992 c_993))
theorem okO_995 : OrcOk PR O_995 := (orm_ok ok_944 (orm_ok ok_992 ok_993))
abbrev fa_995 : Fm := (.pair (.agg (.pair .b (.pair (.i .i64) (.pair (.i .u64) (.pair .b .unit))))) (.pair (.i .i64) .unit))
abbrev fr_995 : Fm := (.tup (.pair (.i .u64) (.pair .b .unit)))
noncomputable def F_995 (a0 : Bool × Int × Int × Bool × Unit) (a1 : Int) : Option (Int × Bool × Unit) :=
 let x0 : Int := a0.2.2.1
 ((F_944 x0)).bind fun r1 =>
 bif (decide ((IntKind.wrap .i64 (a0.2.1 + r1)) > (40:Int))) then
 (some ((1099511627776:Int), (false, ())))
 else
 ((F_992 x0 (IntKind.wrap .i64 ((0:Int) - a0.2.1)) false)).bind fun r2 =>
 ((F_993 a1 a0.1 r2.1 r2.2.1)).bind fun r3 =>
 (some ((bif r3 then (IntKind.wrap .u64 (r2.1 + (1:Int))) else r2.1), ((r2.2.1 != (0:Int)), ())))
noncomputable def G_995 : T fa_995 → TH hN0 → Option (Int × Bool × Unit) := fun x y => F_995 x.1 x.2.1
noncomputable def c_995 : Orc := ent i_995 [] 0 (sp fa_995 hN0 fr_995 hN0 G_995 (outN fr_995))
theorem ok_995 : OrcOk PR c_995 := fnT okO_995 mixed p_995 (by kernel_rfl) (by kernel_rfl) (L := L0) (kp := false) (by kernel_rfl) (inn := (innN fr_995)) (out := (outN fr_995)) (fun _ _ => rfl) (loopsL (l := []) (by kernel_rfl) trivial) (fun x y => by kernel_rfl)
noncomputable def O_964 : Orc := (orm c_989 (orm c_968 c_995))
theorem okO_964 : OrcOk PR O_964 := (orm_ok ok_989 (orm_ok ok_968 ok_995))
abbrev fa_964 : Fm := (.pair (.i .i64) (.pair (.i .i64) (.pair (.i .u32) .unit)))
abbrev fr_964 : Fm := (.tup (.pair (.i .i32) (.pair (.agg (.pair .b (.pair .b (.pair .b (.pair .b (.pair .b .unit)))))) .unit)))
noncomputable def F_964 (a0 : Int) (a1 : Int) (a2 : Int) : Option (Int × (Bool × Bool × Bool × Bool × Bool × Unit) × Unit) :=
 ((F_989 a0 a2)).bind fun r0 =>
 bif r0 then
 ((F_968 a0 a2)).bind fun r1 =>
 ((F_995 r1 a1)).bind fun r2 =>
 let x3 : Int := (IntKind.wrap .i64 r2.1)
 let x4 : Int := (bif r1.1 then (IntKind.wrap .i64 ((0:Int) - x3)) else x3)
 let x5 : Int := (IntKind.wrap .i32 x4)
 bif (x4 == (IntKind.wrap .i64 x5)) then
 (some (x5, ((false, (false, (false, (false, r2.2)))), ())))
 else
 (some ((-(2147483648:Int)), ((true, (false, (false, (false, (false, ()))))), ())))
 else
 (some ((-(2147483648:Int)), ((true, (false, (false, (false, (false, ()))))), ())))
noncomputable def G_964 : T fa_964 → TH hN0 → Option (Int × (Bool × Bool × Bool × Bool × Bool × Unit) × Unit) := fun x y => F_964 x.1 x.2.1 x.2.2.1
noncomputable def c_964 : Orc := ent i_964 [] 0 (sp fa_964 hN0 fr_964 hN0 G_964 (outN fr_964))
theorem ok_964 : OrcOk PR c_964 := fnT okO_964 mixed p_964 (by kernel_rfl) (by kernel_rfl) (L := L0) (kp := false) (by kernel_rfl) (inn := (innN fr_964)) (out := (outN fr_964)) (fun _ _ => rfl) (loopsL (l := []) (by kernel_rfl) trivial) (fun x y => by kernel_rfl)
noncomputable def O_962 : Orc := orn
theorem okO_962 : OrcOk PR O_962 := (orn_ok _)
abbrev fa_962 : Fm := (.pair (.i .i64) .unit)
abbrev fr_962 : Fm := (.i .u64)
noncomputable def F_962 (a0 : Int) : Option (Int) :=
 bif (decide (a0 < (0:Int))) then
 (some (IntKind.wrap .u64 ((0:Int) - (IntKind.wrap .u64 a0))))
 else
 (some (IntKind.wrap .u64 a0))
noncomputable def G_962 : T fa_962 → TH hN0 → Option (Int) := fun x y => F_962 x.1
noncomputable def c_962 : Orc := ent i_962 [] 0 (sp fa_962 hN0 fr_962 hN0 G_962 (outN fr_962))
theorem ok_962 : OrcOk PR c_962 := fnT okO_962 mixed p_962 (by kernel_rfl) (by kernel_rfl) (L := L0) (kp := false) (by kernel_rfl) (inn := (innN fr_962)) (out := (outN fr_962)) (fun _ _ => rfl) (loopsL (l := []) (by kernel_rfl) trivial) (fun x y => by kernel_rfl)
noncomputable def O_939 : Orc := (orm c_962 c_961)
theorem okO_939 : OrcOk PR O_939 := (orm_ok ok_962 ok_961)
abbrev fa_939 : Fm := (.pair (.i .i64) (.pair (.i .i64) (.pair (.i .i64) .unit)))
abbrev fr_939 : Fm := (.tup (.pair (.i .u32) (.pair (.agg (.pair .b (.pair .b (.pair .b (.pair .b (.pair .b .unit)))))) .unit)))
noncomputable def F_939 (a0 : Int) (a1 : Int) (a2 : Int) : Option (Int × (Bool × Bool × Bool × Bool × Bool × Unit) × Unit) :=
 ((F_962 a2)).bind fun r0 =>
 ((F_961 a0 a1 (decide (a2 < (0:Int))) (0:Int) r0 false)).bind fun r1 =>
 (some r1)
noncomputable def G_939 : T fa_939 → TH hN0 → Option (Int × (Bool × Bool × Bool × Bool × Bool × Unit) × Unit) := fun x y => F_939 x.1 x.2.1 x.2.2.1
noncomputable def c_939 : Orc := ent i_939 [] 0 (sp fa_939 hN0 fr_939 hN0 G_939 (outN fr_939))
theorem ok_939 : OrcOk PR c_939 := fnT okO_939 mixed p_939 (by kernel_rfl) (by kernel_rfl) (L := L0) (kp := false) (by kernel_rfl) (inn := (innN fr_939)) (out := (outN fr_939)) (fun _ _ => rfl) (loopsL (l := []) (by kernel_rfl) trivial) (fun x y => by kernel_rfl)
noncomputable def O_91b : Orc := c_939
theorem okO_91b : OrcOk PR O_91b := ok_939
abbrev fa_91b : Fm := (.pair (.i .i64) .unit)
abbrev fr_91b : Fm := (.i .u32)
noncomputable def F_91b (a0 : Int) : Option (Int) :=
 ((F_939 (2:Int) (0:Int) a0)).bind fun r0 =>
 (some r0.1)
noncomputable def G_91b : T fa_91b → TH hN0 → Option (Int) := fun x y => F_91b x.1
noncomputable def c_91b : Orc := ent i_91b [] 0 (sp fa_91b hN0 fr_91b hN0 G_91b (outN fr_91b))
theorem ok_91b : OrcOk PR c_91b := fnT okO_91b mixed p_91b (by kernel_rfl) (by kernel_rfl) (L := L0) (kp := false) (by kernel_rfl) (inn := (innN fr_91b)) (out := (outN fr_91b)) (fun _ _ => rfl) (loopsL (l := []) (by kernel_rfl) trivial) (fun x y => by kernel_rfl)
noncomputable def O_997 : Orc := (orm c_966 (orm c_97f (orm c_942 c_93f)))
theorem okO_997 : OrcOk PR O_997 := (orm_ok ok_966 (orm_ok ok_97f (orm_ok ok_942 ok_93f)))
abbrev fa_997 : Fm := (.pair (.i .i64) (.pair (.i .u32) .unit))
abbrev fr_997 : Fm := (.tup (.pair (.i .u32) (.pair (.agg (.pair .b (.pair .b (.pair .b (.pair .b (.pair .b .unit)))))) (.pair .b .unit))))
noncomputable def F_997 (a0 : Int) (a1 : Int) : Option (Int × (Bool × Bool × Bool × Bool × Bool × Unit) × Bool × Unit) :=
 ((F_966 a0 [a1])).bind fun r0 =>
 let x1 : Bool := r0.2.2.1
 bif x1 then
 (some (r0.1, (r0.2.1, (true, ()))))
 else
 ((F_97f a0)).bind fun r2 =>
 let x3 : Int := (bits .and .u32 a1 r2)
 ((F_942 a0 a1)).bind fun r4 =>
 bif r4 then
 (some (x3, ((false, (false, (false, (false, (false, ()))))), (true, ()))))
 else
 ((F_93f a0 a1)).bind fun r5 =>
 (some (x3, ((false, (false, (false, (false, (false, ()))))), (r5, ()))))
noncomputable def G_997 : T fa_997 → TH hN0 → Option (Int × (Bool × Bool × Bool × Bool × Bool × Unit) × Bool × Unit) := fun x y => F_997 x.1 x.2.1
noncomputable def c_997 : Orc := ent i_997 [] 0 (sp fa_997 hN0 fr_997 hN0 G_997 (outN fr_997))
theorem ok_997 : OrcOk PR c_997 := fnT okO_997 mixed p_997 (by kernel_rfl) (by kernel_rfl) (L := L0) (kp := false) (by kernel_rfl) (inn := (innN fr_997)) (out := (outN fr_997)) (fun _ _ => rfl) (loopsL (l := []) (by kernel_rfl) trivial) (fun x y => by kernel_rfl)
noncomputable def O_975 : Orc := (orm c_997 (orm c_968 c_961))
theorem okO_975 : OrcOk PR O_975 := (orm_ok ok_997 (orm_ok ok_968 ok_961))
abbrev fa_975 : Fm := (.pair (.i .i64) (.pair (.i .i64) (.pair (.i .u32) (.pair (.i .i64) .unit))))
abbrev fr_975 : Fm := (.tup (.pair (.i .u32) (.pair (.agg (.pair .b (.pair .b (.pair .b (.pair .b (.pair .b .unit)))))) .unit)))
noncomputable def F_975 (a0 : Int) (a1 : Int) (a2 : Int) (a3 : Int) : Option (Int × (Bool × Bool × Bool × Bool × Bool × Unit) × Unit) :=
 ((F_997 a0 a2)).bind fun r0 =>
 let x1 : Bool := r0.2.2.1
 bif x1 then
 (some (r0.1, (r0.2.1, ())))
 else
 ((F_968 a0 a2)).bind fun r2 =>
 let x3 : Int := r2.2.2.1
 ((F_961 a0 a1 r2.1 (IntKind.wrap .i64 (r2.2.1 + (mn (mx a3 (-(5000:Int))) (5000:Int)))) x3 false)).bind fun r4 =>
 (some r4)
noncomputable def G_975 : T fa_975 → TH hN0 → Option (Int × (Bool × Bool × Bool × Bool × Bool × Unit) × Unit) := fun x y => F_975 x.1 x.2.1 x.2.2.1 x.2.2.2.1
noncomputable def c_975 : Orc := ent i_975 [] 0 (sp fa_975 hN0 fr_975 hN0 G_975 (outN fr_975))
theorem ok_975 : OrcOk PR c_975 := fnT okO_975 mixed p_975 (by kernel_rfl) (by kernel_rfl) (L := L0) (kp := false) (by kernel_rfl) (inn := (innN fr_975)) (out := (outN fr_975)) (fun _ _ => rfl) (loopsL (l := []) (by kernel_rfl) trivial) (fun x y => by kernel_rfl)
noncomputable def O_945 : Orc := c_975
theorem okO_945 : OrcOk PR O_945 := ok_975
abbrev fa_945 : Fm := (.pair (.i .u32) (.pair (.i .i64) .unit))
abbrev fr_945 : Fm := (.i .u32)
noncomputable def F_945 (a0 : Int) (a1 : Int) : Option (Int) :=
 ((F_975 (2:Int) (0:Int) a0 a1)).bind fun r0 =>
 (some r0.1)
noncomputable def G_945 : T fa_945 → TH hN0 → Option (Int) := fun x y => F_945 x.1 x.2.1
noncomputable def c_945 : Orc := ent i_945 [] 0 (sp fa_945 hN0 fr_945 hN0 G_945 (outN fr_945))
theorem ok_945 : OrcOk PR c_945 := fnT okO_945 mixed p_945 (by kernel_rfl) (by kernel_rfl) (L := L0) (kp := false) (by kernel_rfl) (inn := (innN fr_945)) (out := (outN fr_945)) (fun _ _ => rfl) (loopsL (l := []) (by kernel_rfl) trivial) (fun x y => by kernel_rfl)
noncomputable def O_949 : Orc := (orm c_966 (orm c_941 (orm c_96e (orm c_978 (orm c_940 (orm c_979 (orm c_968 (orm c_944 (orm c_97a c_961)))))))))
theorem okO_949 : OrcOk PR O_949 := (orm_ok ok_966 (orm_ok ok_941 (orm_ok ok_96e (orm_ok ok_978 (orm_ok ok_940 (orm_ok ok_979 (orm_ok ok_968 (orm_ok ok_944 (orm_ok ok_97a ok_961)))))))))
abbrev fa_949 : Fm := (.pair (.i .i64) (.pair (.i .i64) (.pair (.i .u32) (.pair (.i .u32) .unit))))
abbrev fr_949 : Fm := (.tup (.pair (.i .u32) (.pair (.agg (.pair .b (.pair .b (.pair .b (.pair .b (.pair .b .unit)))))) .unit)))
noncomputable def F_949 (a0 : Int) (a1 : Int) (a2 : Int) (a3 : Int) : Option (Int × (Bool × Bool × Bool × Bool × Bool × Unit) × Unit) :=
 ((F_966 a0 [a2, a3])).bind fun r0 =>
 let x1 : Bool := r0.2.2.1
 bif x1 then
 (some (r0.1, (r0.2.1, ())))
 else
 ((F_941 a0 a2)).bind fun r2 =>
 ((F_941 a0 a3)).bind fun r3 =>
 let x4 : Bool := (!(r2 == r3))
 ((F_96e a0 a2)).bind fun r5 =>
 ((F_96e a0 a3)).bind fun r6 =>
 bif (r5 == r6) then
 bif (r5 == (0:Int)) then
 ((F_978 a0)).bind fun r7 =>
 (some r7)
 else
 bif (r5 == (3:Int)) then
 ((F_978 a0)).bind fun r8 =>
 (some r8)
 else
 bif (r5 == (3:Int)) then
 ((F_940 a0 x4)).bind fun r9 =>
 (some (r9, ((false, (false, (false, (false, (false, ()))))), ())))
 else
 bif (r6 == (3:Int)) then
 ((F_979 a0 x4)).bind fun r10 =>
 (some (r10, ((false, (false, (false, (false, (false, ()))))), ())))
 else
 bif (r5 == (0:Int)) then
 ((F_979 a0 x4)).bind fun r11 =>
 (some (r11, ((false, (false, (false, (false, (false, ()))))), ())))
 else
 bif (r6 == (0:Int)) then
 ((F_940 a0 x4)).bind fun r12 =>
 (some (r12, ((false, (true, (false, (false, (false, ()))))), ())))
 else
 ((F_968 a0 a2)).bind fun r13 =>
 let x14 : Int := r13.2.2.1
 ((F_968 a0 a3)).bind fun r15 =>
 let x16 : Int := r15.2.2.1
 let x17 : Bool := (x16 == (0:Int))
 ((F_944 x14)).bind fun r18 =>
 let x19 : Int := (IntKind.wrap .i64 ((62:Int) - r18))
 ((F_97a x14 (IntKind.wrap .i64 ((0:Int) - x19)))).bind fun r20 =>
 bif x17 then
 none
 else
 bif x17 then
 none
 else
 ((F_961 a0 a1 x4 (IntKind.wrap .i64 ((IntKind.wrap .i64 (r13.2.1 - x19)) - r15.2.1)) (IntKind.wrap .u64 (Int.tdiv r20.1 x16)) ((Int.tmod r20.1 x16) != (0:Int)))).bind fun r21 =>
 (some r21)
 else
 bif (r5 == (3:Int)) then
 ((F_940 a0 x4)).bind fun r22 =>
 (some (r22, ((false, (false, (false, (false, (false, ()))))), ())))
 else
 bif (r6 == (3:Int)) then
 ((F_979 a0 x4)).bind fun r23 =>
 (some (r23, ((false, (false, (false, (false, (false, ()))))), ())))
 else
 bif (r5 == (0:Int)) then
 ((F_979 a0 x4)).bind fun r24 =>
 (some (r24, ((false, (false, (false, (false, (false, ()))))), ())))
 else
 bif (r6 == (0:Int)) then
 ((F_940 a0 x4)).bind fun r25 =>
 (some (r25, ((false, (true, (false, (false, (false, ()))))), ())))
 else
 ((F_968 a0 a2)).bind fun r26 =>
 let x27 : Int := r26.2.2.1
 ((F_968 a0 a3)).bind fun r28 =>
 let x29 : Int := r28.2.2.1
 let x30 : Bool := (x29 == (0:Int))
 ((F_944 x27)).bind fun r31 =>
 let x32 : Int := (IntKind.wrap .i64 ((62:Int) - r31))
 ((F_97a x27 (IntKind.wrap .i64 ((0:Int) - x32)))).bind fun r33 =>
 bif x30 then
 none
 else
 bif x30 then
 none
 else
 ((F_961 a0 a1 x4 (IntKind.wrap .i64 ((IntKind.wrap .i64 (r26.2.1 - x32)) - r28.2.1)) (IntKind.wrap .u64 (Int.tdiv r33.1 x29)) ((Int.tmod r33.1 x29) != (0:Int)))).bind fun r34 =>
 (some r34)
noncomputable def G_949 : T fa_949 → TH hN0 → Option (Int × (Bool × Bool × Bool × Bool × Bool × Unit) × Unit) := fun x y => F_949 x.1 x.2.1 x.2.2.1 x.2.2.2.1
noncomputable def c_949 : Orc := ent i_949 [] 0 (sp fa_949 hN0 fr_949 hN0 G_949 (outN fr_949))
theorem ok_949 : OrcOk PR c_949 := fnT okO_949 mixed p_949 (by kernel_rfl) (by kernel_rfl) (L := L0) (kp := false) (by kernel_rfl) (inn := (innN fr_949)) (out := (outN fr_949)) (fun _ _ => rfl) (loopsL (l := []) (by kernel_rfl) trivial) (fun x y => by kernel_rfl)
noncomputable def O_91e : Orc := c_949
theorem okO_91e : OrcOk PR O_91e := ok_949
abbrev fa_91e : Fm := (.pair (.i .u32) (.pair (.i .u32) .unit))
abbrev fr_91e : Fm := (.i .u32)
noncomputable def F_91e (a0 : Int) (a1 : Int) : Option (Int) :=
 ((F_949 (2:Int) (0:Int) a0 a1)).bind fun r0 =>
 (some r0.1)
noncomputable def G_91e : T fa_91e → TH hN0 → Option (Int) := fun x y => F_91e x.1 x.2.1
noncomputable def c_91e : Orc := ent i_91e [] 0 (sp fa_91e hN0 fr_91e hN0 G_91e (outN fr_91e))
theorem ok_91e : OrcOk PR c_91e := fnT okO_91e mixed p_91e (by kernel_rfl) (by kernel_rfl) (L := L0) (kp := false) (by kernel_rfl) (inn := (innN fr_91e)) (out := (outN fr_91e)) (fun _ _ => rfl) (loopsL (l := []) (by kernel_rfl) trivial) (fun x y => by kernel_rfl)
noncomputable def O_956 : Orc := (orm c_96e (orm c_96d (orm c_978 (orm c_941 (orm c_940 (orm c_968 c_961))))))
theorem okO_956 : OrcOk PR O_956 := (orm_ok ok_96e (orm_ok ok_96d (orm_ok ok_978 (orm_ok ok_941 (orm_ok ok_940 (orm_ok ok_968 ok_961))))))
abbrev fa_956 : Fm := (.pair (.i .i64) (.pair (.i .i64) (.pair (.i .i64) (.pair (.i .u32) .unit))))
abbrev fr_956 : Fm := (.tup (.pair (.i .u32) (.pair (.agg (.pair .b (.pair .b (.pair .b (.pair .b (.pair .b .unit)))))) .unit)))
noncomputable def F_956 (a0 : Int) (a1 : Int) (a2 : Int) (a3 : Int) : Option (Int × (Bool × Bool × Bool × Bool × Bool × Unit) × Unit) :=
 ((F_96e a0 a3)).bind fun r0 =>
 bif (r0 == (4:Int)) then
 ((F_96d a1)).bind fun r1 =>
 (some (r1, ((false, (false, (false, (false, (false, ()))))), ())))
 else
 bif (r0 == (5:Int)) then
 ((F_978 a1)).bind fun r2 =>
 (some r2)
 else
 bif (r0 == (3:Int)) then
 ((F_941 a0 a3)).bind fun r3 =>
 ((F_940 a1 r3)).bind fun r4 =>
 (some (r4, ((false, (false, (false, (false, (false, ()))))), ())))
 else
 ((F_968 a0 a3)).bind fun r5 =>
 let x6 : Int := r5.2.2.1
 ((F_961 a1 a2 r5.1 r5.2.1 x6 false)).bind fun r7 =>
 (some r7)
noncomputable def G_956 : T fa_956 → TH hN0 → Option (Int × (Bool × Bool × Bool × Bool × Bool × Unit) × Unit) := fun x y => F_956 x.1 x.2.1 x.2.2.1 x.2.2.2.1
noncomputable def c_956 : Orc := ent i_956 [] 0 (sp fa_956 hN0 fr_956 hN0 G_956 (outN fr_956))
theorem ok_956 : OrcOk PR c_956 := fnT okO_956 mixed p_956 (by kernel_rfl) (by kernel_rfl) (L := L0) (kp := false) (by kernel_rfl) (inn := (innN fr_956)) (out := (outN fr_956)) (fun _ _ => rfl) (loopsL (l := []) (by kernel_rfl) trivial) (fun x y => by kernel_rfl)
noncomputable def O_984 : Orc := c_956
theorem okO_984 : OrcOk PR O_984 := ok_956
abbrev fa_984 : Fm := (.pair (.i .i64) (.pair (.i .u32) .unit))
abbrev fr_984 : Fm := (.i .u32)
noncomputable def F_984 (a0 : Int) (a1 : Int) : Option (Int) :=
 ((F_956 (2:Int) a0 (0:Int) a1)).bind fun r0 =>
 (some r0.1)
noncomputable def G_984 : T fa_984 → TH hN0 → Option (Int) := fun x y => F_984 x.1 x.2.1
noncomputable def c_984 : Orc := ent i_984 [] 0 (sp fa_984 hN0 fr_984 hN0 G_984 (outN fr_984))
theorem ok_984 : OrcOk PR c_984 := fnT okO_984 mixed p_984 (by kernel_rfl) (by kernel_rfl) (L := L0) (kp := false) (by kernel_rfl) (inn := (innN fr_984)) (out := (outN fr_984)) (fun _ _ => rfl) (loopsL (l := []) (by kernel_rfl) trivial) (fun x y => by kernel_rfl)
noncomputable def O_957 : Orc := c_956
theorem okO_957 : OrcOk PR O_957 := ok_956
abbrev fa_957 : Fm := (.pair (.i .i64) (.pair (.i .u32) .unit))
abbrev fr_957 : Fm := (.i .u32)
noncomputable def F_957 (a0 : Int) (a1 : Int) : Option (Int) :=
 ((F_956 a0 (2:Int) (0:Int) a1)).bind fun r0 =>
 (some r0.1)
noncomputable def G_957 : T fa_957 → TH hN0 → Option (Int) := fun x y => F_957 x.1 x.2.1
noncomputable def c_957 : Orc := ent i_957 [] 0 (sp fa_957 hN0 fr_957 hN0 G_957 (outN fr_957))
theorem ok_957 : OrcOk PR c_957 := fnT okO_957 mixed p_957 (by kernel_rfl) (by kernel_rfl) (L := L0) (kp := false) (by kernel_rfl) (inn := (innN fr_957)) (out := (outN fr_957)) (fun _ _ => rfl) (loopsL (l := []) (by kernel_rfl) trivial) (fun x y => by kernel_rfl)
noncomputable def O_93d : Orc := c_96c
theorem okO_93d : OrcOk PR O_93d := ok_96c
abbrev fa_93d : Fm := (.pair (.i .u32) .unit)
abbrev fr_93d : Fm := .b
noncomputable def F_93d (a0 : Int) : Option (Bool) :=
 ((F_96c (2:Int) a0)).bind fun r0 =>
 (some r0)
noncomputable def G_93d : T fa_93d → TH hN0 → Option (Bool) := fun x y => F_93d x.1
noncomputable def c_93d : Orc := ent i_93d [] 0 (sp fa_93d hN0 fr_93d hN0 G_93d (outN fr_93d))
theorem ok_93d : OrcOk PR c_93d := fnT okO_93d mixed p_93d (by kernel_rfl) (by kernel_rfl) (L := L0) (kp := false) (by kernel_rfl) (inn := (innN fr_93d)) (out := (outN fr_93d)) (fun _ _ => rfl) (loopsL (l := []) (by kernel_rfl) trivial) (fun x y => by kernel_rfl)
noncomputable def O_93e : Orc := c_96d
theorem okO_93e : OrcOk PR O_93e := ok_96d
abbrev fa_93e : Fm := .unit
abbrev fr_93e : Fm := (.i .u32)
noncomputable def F_93e  : Option (Int) :=
 (some (2143289344:Int))
noncomputable def G_93e : T fa_93e → TH hN0 → Option (Int) := fun x y => F_93e
noncomputable def c_93e : Orc := ent i_93e [] 0 (sp fa_93e hN0 fr_93e hN0 G_93e (outN fr_93e))
theorem ok_93e : OrcOk PR c_93e := fnT okO_93e mixed p_93e (by kernel_rfl) (by kernel_rfl) (L := L0) (kp := false) (by kernel_rfl) (inn := (innN fr_93e)) (out := (outN fr_93e)) (fun _ _ => rfl) (loopsL (l := []) (by kernel_rfl) trivial) (fun x y => by kernel_rfl)
noncomputable def O_965 : Orc := c_96b
theorem okO_965 : OrcOk PR O_965 := ok_96b
abbrev fa_965 : Fm := (.pair (.i .u32) .unit)
abbrev fr_965 : Fm := (.i .u32)
noncomputable def F_965 (a0 : Int) : Option (Int) :=
 (some (bits .xor .u32 (bits .and .u32 a0 (4294967295:Int)) (2147483648:Int)))
noncomputable def G_965 : T fa_965 → TH hN0 → Option (Int) := fun x y => F_965 x.1
noncomputable def c_965 : Orc := ent i_965 [] 0 (sp fa_965 hN0 fr_965 hN0 G_965 (outN fr_965))
theorem ok_965 : OrcOk PR c_965 := fnT okO_965 mixed p_965 (by kernel_rfl) (by kernel_rfl) (L := L0) (kp := false) (by kernel_rfl) (inn := (innN fr_965)) (out := (outN fr_965)) (fun _ _ => rfl) (loopsL (l := []) (by kernel_rfl) trivial) (fun x y => by kernel_rfl)
noncomputable def O_946 : Orc := c_976
theorem okO_946 : OrcOk PR O_946 := ok_976
abbrev fa_946 : Fm := (.pair (.i .u32) (.pair (.i .u32) .unit))
abbrev fr_946 : Fm := .b
noncomputable def F_946 (a0 : Int) (a1 : Int) : Option (Bool) :=
 ((F_976 (2:Int) a1 a0)).bind fun r0 =>
 (some r0)
noncomputable def G_946 : T fa_946 → TH hN0 → Option (Bool) := fun x y => F_946 x.1 x.2.1
noncomputable def c_946 : Orc := ent i_946 [] 0 (sp fa_946 hN0 fr_946 hN0 G_946 (outN fr_946))
theorem ok_946 : OrcOk PR c_946 := fnT okO_946 mixed p_946 (by kernel_rfl) (by kernel_rfl) (L := L0) (kp := false) (by kernel_rfl) (inn := (innN fr_946)) (out := (outN fr_946)) (fun _ _ => rfl) (loopsL (l := []) (by kernel_rfl) trivial) (fun x y => by kernel_rfl)
end Go.Proofs.YtkmkhcmfpbffjaaGreat.VI
