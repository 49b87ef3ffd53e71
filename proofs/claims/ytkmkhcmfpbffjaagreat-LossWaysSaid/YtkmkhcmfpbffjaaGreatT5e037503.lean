import Derived.Test.YtkmkhcmfpbffjaaGreatT9b80a2a5
namespace Go.Proofs.YtkmkhcmfpbffjaaGreat.VI
set_option linter.unusedVariables false
set_option linter.unusedSimpArgs false
set_option maxRecDepth 100000
noncomputable def O_95b : Orc := (orm c_963 c_962)
theorem okO_95b : OrcOk PR O_95b := (orm_ok ok_963 ok_962)
abbrev fa_95b : Fm := (.pair (.i .i64) (.pair (.si .u32) .unit))
abbrev fr_95b : Fm := (.tup (.pair (.i .u32) (.pair (.agg (.pair .b (.pair .b (.pair .b (.pair .b (.pair .b .unit)))))) (.pair .b .unit))))
abbrev ff_95b_0 : Fm := (.pair (.i .i64) (.us 4 (.cst (.ref 0 1 0) (.us 1 (.pair .b (.cst (.ref 1 1 0) (.us 3 (.pair (.si .u32) (.pair (.i .i64) (.pair (.i .i64) (.us 23 .unit)))))))))))
abbrev hf_95b_0 : List BF := [(.list 1 y_92 true (.pair .b (.pair .b (.pair .b (.pair .b (.pair .b .unit)))))), (.list 1 y_92 true (.pair .b (.pair .b (.pair .b (.pair .b (.pair .b .unit))))))]
abbrev X_95b_0 : Xs := (.one (.exit 0) [0, 5, 7, 8] (.pair (.i .i64) (.us 4 (.cst (.ref 0 1 0) (.us 1 (.pair .b (.cst (.ref 1 1 0) (.us 29 .unit))))))) [(.list 1 y_92 true (.pair .b (.pair .b (.pair .b (.pair .b (.pair .b .unit)))))), (.list 1 y_92 true (.pair .b (.pair .b (.pair .b (.pair .b (.pair .b .unit))))))])
abbrev S_95b_0 : Type := T ff_95b_0 × TH hf_95b_0
abbrev E_95b_0 : Type := TX X_95b_0
noncomputable def LB_95b_0 : Lps := L0
noncomputable def st_95b_0 : StepT S_95b_0 E_95b_0 := fun R v kn ko =>
 let x0 : Int := v.1.1
 let x1 : List Int := v.1.2.2.1
 let x2 : Int := v.1.2.2.2.2.1
 let x3 : Bool := v.1.2.1
 let x4 : Bool := v.2.2.1.1
 bif (decide (x2 < v.1.2.2.2.1)) then
 bif (decide (((0:Int) ≤ x2) ∧ (x2 < (((List.length x1) : Nat) : Int)))) then
 ((F_963 x0 (List.getD x1 (Int.toNat x2) (0:Int)))).bind fun r5 =>
 bif x3 then
 bif x4 then
 (kn ((x0, (true, ((List.take (List.length x1) x1), (v.1.2.2.2.1, ((IntKind.wrap .i64 (x2 + (1:Int))), ()))))), (v.2.1, ((true, v.2.2.1.2), ()))))
 else
 (kn ((x0, (true, ((List.take (List.length x1) x1), (v.1.2.2.2.1, ((IntKind.wrap .i64 (x2 + (1:Int))), ()))))), (v.2.1, (((r5 == (5:Int)), v.2.2.1.2), ()))))
 else
 bif x4 then
 (kn ((x0, ((decide (r5 ≥ (4:Int))), ((List.take (List.length x1) x1), (v.1.2.2.2.1, ((IntKind.wrap .i64 (x2 + (1:Int))), ()))))), (v.2.1, ((true, v.2.2.1.2), ()))))
 else
 (kn ((x0, ((decide (r5 ≥ (4:Int))), ((List.take (List.length x1) x1), (v.1.2.2.2.1, ((IntKind.wrap .i64 (x2 + (1:Int))), ()))))), (v.2.1, (((r5 == (5:Int)), v.2.2.1.2), ()))))
 else
 none
 else
 (ko ((x0, (x3, ())), v.2))
noncomputable def ls_95b_0 : St → LTr := (lsum ff_95b_0 hf_95b_0 X_95b_0 Prod.mk id st_95b_0 (hd [] [] [0, 5, 7, 8, 12, 13, 14] 0))
theorem lp_95b_0 : LoopOk PR 0 (lpN f_95b 0) ls_95b_0 := loopT okO_95b mixed (L := LB_95b_0) (d := 1) (bs := []) (ks := [0, 5, 7, 8, 12, 13, 14]) (loopsL (l := []) (by kernel_rfl) trivial) (by kernel_rfl) (inS := Prod.mk) (outS := id) (fun _ _ => rfl) (inX := id) (outX := id) (fun _ => rfl) (fun v R kn ko => by kernel_rfl) (hd_wk [] [] [0, 5, 7, 8, 12, 13, 14] 0)
noncomputable def L_95b : Lps := (lpB 5 (.by_ ls_95b_0) L0)
noncomputable def F_95b (a0 : Int) (a1 : List Int) : Option (Int × (Bool × Bool × Bool × Bool × Bool × Unit) × Bool × Unit) :=
 ((lim st_95b_0 ((a0, (false, ((List.take (List.length a1) a1), ((((List.length a1) : Nat) : Int), ((0:Int), ()))))), ((false, (false, (false, (false, (false, ()))))), ((false, (false, (false, (false, (false, ()))))), ()))))).bind fun r0 =>
 ((F_962 r0.1.1)).bind fun r1 =>
 (some (r1, (r0.2.2.1, r0.1.2)))
noncomputable def G_95b : T fa_95b → TH hN0 → Option (Int × (Bool × Bool × Bool × Bool × Bool × Unit) × Bool × Unit) := fun x y => F_95b x.1 x.2.1
noncomputable def c_95b : Orc := ent i_95b [] 0 (sp fa_95b hN0 fr_95b hN0 G_95b (outN fr_95b))
theorem ok_95b : OrcOk PR c_95b := fnT okO_95b mixed p_95b (by kernel_rfl) (by kernel_rfl) (L := L_95b) (kp := false) (by kernel_rfl) (inn := (innN fr_95b)) (out := (outN fr_95b)) (fun _ _ => rfl) (loopsL (l := [((lpN f_95b 0), ls_95b_0)]) (by kernel_rfl) ⟨lp_95b_0, trivial⟩) (fun x y => by kernel_rfl)
noncomputable def O_96d : Orc := c_962
theorem okO_96d : OrcOk PR O_96d := ok_962
abbrev fa_96d : Fm := (.pair (.i .i64) .unit)
abbrev fr_96d : Fm := (.tup (.pair (.i .u32) (.pair (.agg (.pair .b (.pair .b (.pair .b (.pair .b (.pair .b .unit)))))) .unit)))
noncomputable def F_96d (a0 : Int) : Option (Int × (Bool × Bool × Bool × Bool × Bool × Unit) × Unit) :=
 ((F_962 a0)).bind fun r0 =>
 (some (r0, ((true, (false, (false, (false, (false, ()))))), ())))
noncomputable def G_96d : T fa_96d → TH hN0 → Option (Int × (Bool × Bool × Bool × Bool × Bool × Unit) × Unit) := fun x y => F_96d x.1
noncomputable def c_96d : Orc := ent i_96d [] 0 (sp fa_96d hN0 fr_96d hN0 G_96d (outN fr_96d))
theorem ok_96d : OrcOk PR c_96d := fnT okO_96d mixed p_96d (by kernel_rfl) (by kernel_rfl) (L := L0) (kp := false) (by kernel_rfl) (inn := (innN fr_96d)) (out := (outN fr_96d)) (fun _ _ => rfl) (loopsL (l := []) (by kernel_rfl) trivial) (fun x y => by kernel_rfl)
noncomputable def O_97c : Orc := (orm c_937 c_93a)
theorem okO_97c : OrcOk PR O_97c := (orm_ok ok_937 ok_93a)
abbrev fa_97c : Fm := (.pair (.i .i64) (.pair (.i .u32) (.pair (.i .u32) .unit)))
abbrev fr_97c : Fm := .b
noncomputable def F_97c (a0 : Int) (a1 : Int) (a2 : Int) : Option (Bool) :=
 ((F_937 a0 a1)).bind fun r0 =>
 bif r0 then
 ((F_93a a0 a2)).bind fun r1 =>
 bif r1 then
 (some true)
 else
 ((F_93a a0 a1)).bind fun r2 =>
 bif r2 then
 ((F_937 a0 a2)).bind fun r3 =>
 (some r3)
 else
 (some false)
 else
 ((F_93a a0 a1)).bind fun r4 =>
 bif r4 then
 ((F_937 a0 a2)).bind fun r5 =>
 (some r5)
 else
 (some false)
noncomputable def G_97c : T fa_97c → TH hN0 → Option (Bool) := fun x y => F_97c x.1 x.2.1 x.2.2.1
noncomputable def c_97c : Orc := ent i_97c [] 0 (sp fa_97c hN0 fr_97c hN0 G_97c (outN fr_97c))
theorem ok_97c : OrcOk PR c_97c := fnT okO_97c mixed p_97c (by kernel_rfl) (by kernel_rfl) (L := L0) (kp := false) (by kernel_rfl) (inn := (innN fr_97c)) (out := (outN fr_97c)) (fun _ _ => rfl) (loopsL (l := []) (by kernel_rfl) trivial) (fun x y => by kernel_rfl)
noncomputable def O_95d : Orc := c_93b
theorem okO_95d : OrcOk PR O_95d := ok_93b
abbrev fa_95d : Fm := (.pair (.i .i64) (.pair (.i .u32) .unit))
abbrev fr_95d : Fm := (.agg (.pair .b (.pair (.i .i64) (.pair (.i .u64) (.pair .b .unit)))))
noncomputable def F_95d (a0 : Int) (a1 : Int) : Option (Bool × Int × Int × Bool × Unit) :=
 ((F_93b a0 a1)).bind fun r0 =>
 let x1 : Int := r0.2.2.1
 (some (r0.1, (r0.2.1, (x1, (false, ())))))
noncomputable def G_95d : T fa_95d → TH hN0 → Option (Bool × Int × Int × Bool × Unit) := fun x y => F_95d x.1 x.2.1
noncomputable def c_95d : Orc := ent i_95d [] 0 (sp fa_95d hN0 fr_95d hN0 G_95d (outN fr_95d))
theorem ok_95d : OrcOk PR c_95d := fnT okO_95d mixed p_95d (by kernel_rfl) (by kernel_rfl) (L := L0) (kp := false) (by kernel_rfl) (inn := (innN fr_95d)) (out := (outN fr_95d)) (fun _ _ => rfl) (loopsL (l := []) (by kernel_rfl) trivial) (fun x y => by kernel_rfl)
noncomputable def O_97d : Orc := c_95d
theorem okO_97d : OrcOk PR O_97d := ok_95d
abbrev fa_97d : Fm := (.pair (.i .i64) (.pair (.i .u32) (.pair (.i .u32) .unit)))
abbrev fr_97d : Fm := (.agg (.pair .b (.pair (.i .i64) (.pair (.i .u64) (.pair .b .unit)))))
noncomputable def F_97d (a0 : Int) (a1 : Int) (a2 : Int) : Option (Bool × Int × Int × Bool × Unit) :=
 ((F_95d a0 a1)).bind fun r0 =>
 let x1 : Int := r0.2.2.1
 ((F_95d a0 a2)).bind fun r2 =>
 let x3 : Int := r2.2.2.1
 (some ((!(r0.1 == r2.1)), ((IntKind.wrap .i64 (r0.2.1 + r2.2.1)), ((IntKind.wrap .u64 (x1 * x3)), (false, ())))))
noncomputable def G_97d : T fa_97d → TH hN0 → Option (Bool × Int × Int × Bool × Unit) := fun x y => F_97d x.1 x.2.1 x.2.2.1
noncomputable def c_97d : Orc := ent i_97d [] 0 (sp fa_97d hN0 fr_97d hN0 G_97d (outN fr_97d))
theorem ok_97d : OrcOk PR c_97d := fnT okO_97d mixed p_97d (by kernel_rfl) (by kernel_rfl) (L := L0) (kp := false) (by kernel_rfl) (inn := (innN fr_97d)) (out := (outN fr_97d)) (fun _ _ => rfl) (loopsL (l := []) (by kernel_rfl) trivial) (fun x y => by kernel_rfl)
noncomputable def O_96c : Orc := (orm c_95b (orm c_97c (orm c_96d (orm c_939 (orm c_93a (orm c_938 (orm c_97d c_955)))))))
theorem okO_96c : OrcOk PR O_96c := (orm_ok ok_95b (orm_ok ok_97c (orm_ok ok_96d (orm_ok ok_939 (orm_ok ok_93a (orm_ok ok_938 (orm_ok ok_97d ok_955)))))))
abbrev fa_96c : Fm := (.pair (.i .i64) (.pair (.i .i64) (.pair (.i .u32) (.pair (.i .u32) .unit))))
abbrev fr_96c : Fm := (.tup (.pair (.i .u32) (.pair (.agg (.pair .b (.pair .b (.pair .b (.pair .b (.pair .b .unit)))))) .unit)))
noncomputable def F_96c (a0 : Int) (a1 : Int) (a2 : Int) (a3 : Int) : Option (Int × (Bool × Bool × Bool × Bool × Bool × Unit) × Unit) :=
 ((F_95b a0 [a2, a3])).bind fun r0 =>
 let x1 : Bool := r0.2.2.1
 bif x1 then
 (some (r0.1, (r0.2.1, ())))
 else
 ((F_97c a0 a2 a3)).bind fun r2 =>
 bif r2 then
 ((F_96d a0)).bind fun r3 =>
 (some r3)
 else
 ((F_939 a0 a2)).bind fun r4 =>
 ((F_939 a0 a3)).bind fun r5 =>
 let x6 : Bool := (!(r4 == r5))
 ((F_93a a0 a2)).bind fun r7 =>
 bif r7 then
 ((F_938 a0 x6)).bind fun r8 =>
 (some (r8, ((false, (false, (false, (false, (false, ()))))), ())))
 else
 ((F_93a a0 a3)).bind fun r9 =>
 bif r9 then
 ((F_938 a0 x6)).bind fun r10 =>
 (some (r10, ((false, (false, (false, (false, (false, ()))))), ())))
 else
 ((F_97d a0 a2 a3)).bind fun r11 =>
 let x12 : Int := r11.2.2.1
 ((F_955 a0 a1 x6 r11.2.1 x12 false)).bind fun r13 =>
 (some r13)
noncomputable def G_96c : T fa_96c → TH hN0 → Option (Int × (Bool × Bool × Bool × Bool × Bool × Unit) × Unit) := fun x y => F_96c x.1 x.2.1 x.2.2.1 x.2.2.2.1
noncomputable def c_96c : Orc := ent i_96c [] 0 (sp fa_96c hN0 fr_96c hN0 G_96c (outN fr_96c))
theorem ok_96c : OrcOk PR c_96c := fnT okO_96c mixed p_96c (by kernel_rfl) (by kernel_rfl) (L := L0) (kp := false) (by kernel_rfl) (inn := (innN fr_96c)) (out := (outN fr_96c)) (fun _ _ => rfl) (loopsL (l := []) (by kernel_rfl) trivial) (fun x y => by kernel_rfl)
noncomputable def O_93f : Orc := c_96c
theorem okO_93f : OrcOk PR O_93f := ok_96c
abbrev fa_93f : Fm := (.pair (.i .u32) (.pair (.i .u32) .unit))
abbrev fr_93f : Fm := (.i .u32)
noncomputable def F_93f (a0 : Int) (a1 : Int) : Option (Int) :=
 ((F_96c (2:Int) (0:Int) a0 a1)).bind fun r0 =>
 (some r0.1)
noncomputable def G_93f : T fa_93f → TH hN0 → Option (Int) := fun x y => F_93f x.1 x.2.1
noncomputable def c_93f : Orc := ent i_93f [] 0 (sp fa_93f hN0 fr_93f hN0 G_93f (outN fr_93f))
theorem ok_93f : OrcOk PR c_93f := fnT okO_93f mixed p_93f (by kernel_rfl) (by kernel_rfl) (L := L0) (kp := false) (by kernel_rfl) (inn := (innN fr_93f)) (out := (outN fr_93f)) (fun _ _ => rfl) (loopsL (l := []) (by kernel_rfl) trivial) (fun x y => by kernel_rfl)
noncomputable def O_95c : Orc := (orm c_96d c_938)
theorem okO_95c : OrcOk PR O_95c := (orm_ok ok_96d ok_938)
abbrev fa_95c : Fm := (.pair (.i .i64) (.pair .b (.pair .b (.pair .b (.pair .b .unit)))))
abbrev fr_95c : Fm := (.tup (.pair (.i .u32) (.pair (.agg (.pair .b (.pair .b (.pair .b (.pair .b (.pair .b .unit)))))) .unit)))
noncomputable def F_95c (a0 : Int) (a1 : Bool) (a2 : Bool) (a3 : Bool) (a4 : Bool) : Option (Int × (Bool × Bool × Bool × Bool × Bool × Unit) × Unit) :=
 bif a3 then
 bif a4 then
 bif (!(a1 == a2)) then
 ((F_96d a0)).bind fun r0 =>
 (some r0)
 else
 bif a3 then
 ((F_938 a0 a1)).bind fun r1 =>
 (some (r1, ((false, (false, (false, (false, (false, ()))))), ())))
 else
 ((F_938 a0 a2)).bind fun r2 =>
 (some (r2, ((false, (false, (false, (false, (false, ()))))), ())))
 else
 bif a3 then
 ((F_938 a0 a1)).bind fun r3 =>
 (some (r3, ((false, (false, (false, (false, (false, ()))))), ())))
 else
 ((F_938 a0 a2)).bind fun r4 =>
 (some (r4, ((false, (false, (false, (false, (false, ()))))), ())))
 else
 bif a3 then
 ((F_938 a0 a1)).bind fun r5 =>
 (some (r5, ((false, (false, (false, (false, (false, ()))))), ())))
 else
 ((F_938 a0 a2)).bind fun r6 =>
 (some (r6, ((false, (false, (false, (false, (false, ()))))), ())))
noncomputable def G_95c : T fa_95c → TH hN0 → Option (Int × (Bool × Bool × Bool × Bool × Bool × Unit) × Unit) := fun x y => F_95c x.1 x.2.1 x.2.2.1 x.2.2.2.1 x.2.2.2.2.1
noncomputable def c_95c : Orc := ent i_95c [] 0 (sp fa_95c hN0 fr_95c hN0 G_95c (outN fr_95c))
theorem ok_95c : OrcOk PR c_95c := fnT okO_95c mixed p_95c (by kernel_rfl) (by kernel_rfl) (L := L0) (kp := false) (by kernel_rfl) (inn := (innN fr_95c)) (out := (outN fr_95c)) (fun _ _ => rfl) (loopsL (l := []) (by kernel_rfl) trivial) (fun x y => by kernel_rfl)
noncomputable def O_982 : Orc := (orm c_93c c_96f)
theorem okO_982 : OrcOk PR O_982 := (orm_ok ok_93c ok_96f)
abbrev fa_982 : Fm := (.pair (.agg (.pair .b (.pair (.i .i64) (.pair (.i .u64) (.pair .b .unit))))) .unit)
abbrev fr_982 : Fm := (.agg (.pair .b (.pair (.i .i64) (.pair (.i .u64) (.pair .b .unit)))))
noncomputable def F_982 (a0 : Bool × Int × Int × Bool × Unit) : Option (Bool × Int × Int × Bool × Unit) :=
 let x0 : Int := a0.2.2.1
 ((F_93c x0)).bind fun r1 =>
 let x2 : Int := (IntKind.wrap .i64 ((62:Int) - r1))
 ((F_96f x0 (IntKind.wrap .i64 ((0:Int) - x2)))).bind fun r3 =>
 (some (a0.1, ((IntKind.wrap .i64 (a0.2.1 - x2)), (r3.1, a0.2.2.2))))
noncomputable def G_982 : T fa_982 → TH hN0 → Option (Bool × Int × Int × Bool × Unit) := fun x y => F_982 x.1
noncomputable def c_982 : Orc := ent i_982 [] 0 (sp fa_982 hN0 fr_982 hN0 G_982 (outN fr_982))
theorem ok_982 : OrcOk PR c_982 := fnT okO_982 mixed p_982 (by kernel_rfl) (by kernel_rfl) (L := L0) (kp := false) (by kernel_rfl) (inn := (innN fr_982)) (out := (outN fr_982)) (fun _ _ => rfl) (loopsL (l := []) (by kernel_rfl) trivial) (fun x y => by kernel_rfl)
noncomputable def O_95e : Orc := (orm c_982 c_96f)
theorem okO_95e : OrcOk PR O_95e := (orm_ok ok_982 ok_96f)
abbrev fa_95e : Fm := (.pair (.agg (.pair .b (.pair (.i .i64) (.pair (.i .u64) (.pair .b .unit))))) (.pair (.agg (.pair .b (.pair (.i .i64) (.pair (.i .u64) (.pair .b .unit))))) .unit))
abbrev fr_95e : Fm := (.agg (.pair .b (.pair (.i .i64) (.pair (.i .u64) (.pair .b .unit)))))
noncomputable def F_95e (a0 : Bool × Int × Int × Bool × Unit) (a1 : Bool × Int × Int × Bool × Unit) : Option (Bool × Int × Int × Bool × Unit) :=
 let x0 : Int := a0.2.2.1
 let x1 : Int := a1.2.2.1
 bif (x0 == (0:Int)) then
 (some a1)
 else
 bif (x1 == (0:Int)) then
 (some a0)
 else
 ((F_982 a0)).bind fun r2 =>
 let x3 : Int := r2.2.2.1
 ((F_982 a1)).bind fun r4 =>
 let x5 : Bool := (r4.1 == r2.1)
 let x6 : Int := r4.2.2.1
 let x7 : Bool := (r2.1 == r4.1)
 bif (decide (r2.2.1 < r4.2.1)) then
 ((F_96f x3 (IntKind.wrap .i64 (r4.2.1 - r2.2.1)))).bind fun r8 =>
 let x9 : Int := (IntKind.wrap .u64 (x6 - r8.1))
 bif x5 then
 (some (r4.1, (r4.2.1, ((IntKind.wrap .u64 (x6 + r8.1)), r8.2))))
 else
 bif r8.2.1 then
 (some (r4.1, (r4.2.1, ((IntKind.wrap .u64 (x9 - (1:Int))), r8.2))))
 else
 (some (r4.1, (r4.2.1, (x9, r8.2))))
 else
 bif (r2.2.1 == r4.2.1) then
 bif (decide (x3 < x6)) then
 ((F_96f x3 (IntKind.wrap .i64 (r4.2.1 - r2.2.1)))).bind fun r10 =>
 let x11 : Int := (IntKind.wrap .u64 (x6 - r10.1))
 bif x5 then
 (some (r4.1, (r4.2.1, ((IntKind.wrap .u64 (x6 + r10.1)), r10.2))))
 else
 bif r10.2.1 then
 (some (r4.1, (r4.2.1, ((IntKind.wrap .u64 (x11 - (1:Int))), r10.2))))
 else
 (some (r4.1, (r4.2.1, (x11, r10.2))))
 else
 ((F_96f x6 (IntKind.wrap .i64 (r2.2.1 - r4.2.1)))).bind fun r12 =>
 let x13 : Int := (IntKind.wrap .u64 (x3 - r12.1))
 bif x7 then
 (some (r2.1, (r2.2.1, ((IntKind.wrap .u64 (x3 + r12.1)), r12.2))))
 else
 bif r12.2.1 then
 (some (r2.1, (r2.2.1, ((IntKind.wrap .u64 (x13 - (1:Int))), r12.2))))
 else
 (some (r2.1, (r2.2.1, (x13, r12.2))))
 else
 ((F_96f x6 (IntKind.wrap .i64 (r2.2.1 - r4.2.1)))).bind fun r14 =>
 let x15 : Int := (IntKind.wrap .u64 (x3 - r14.1))
 bif x7 then
 (some (r2.1, (r2.2.1, ((IntKind.wrap .u64 (x3 + r14.1)), r14.2))))
 else
 bif r14.2.1 then
 (some (r2.1, (r2.2.1, ((IntKind.wrap .u64 (x15 - (1:Int))), r14.2))))
 else
 (some (r2.1, (r2.2.1, (x15, r14.2))))
noncomputable def G_95e : T fa_95e → TH hN0 → Option (Bool × Int × Int × Bool × Unit) := fun x y => F_95e x.1 x.2.1
noncomputable def c_95e : Orc := ent i_95e [] 0 (sp fa_95e hN0 fr_95e hN0 G_95e (outN fr_95e))
theorem ok_95e : OrcOk PR c_95e := fnT okO_95e mixed p_95e (by kernel_rfl) (by kernel_rfl) (L := L0) (kp := false) (by kernel_rfl) (inn := (innN fr_95e)) (out := (outN fr_95e)) (fun _ _ => rfl) (loopsL (l := []) (by kernel_rfl) trivial) (fun x y => by kernel_rfl)
noncomputable def O_95f : Orc := c_96e
theorem okO_95f : OrcOk PR O_95f := ok_96e
abbrev fa_95f : Fm := (.pair (.i .i64) (.pair (.i .i64) (.pair .b (.pair .b .unit))))
abbrev fr_95f : Fm := (.i .u32)
noncomputable def F_95f (a0 : Int) (a1 : Int) (a2 : Bool) (a3 : Bool) : Option (Int) :=
 bif (a2 == a3) then
 ((F_96e a0 a2)).bind fun r0 =>
 (some r0)
 else
 ((F_96e a0 (a1 == (3:Int)))).bind fun r1 =>
 (some r1)
noncomputable def G_95f : T fa_95f → TH hN0 → Option (Int) := fun x y => F_95f x.1 x.2.1 x.2.2.1 x.2.2.2.1
noncomputable def c_95f : Orc := ent i_95f [] 0 (sp fa_95f hN0 fr_95f hN0 G_95f (outN fr_95f))
theorem ok_95f : OrcOk PR c_95f := fnT okO_95f mixed p_95f (by kernel_rfl) (by kernel_rfl) (L := L0) (kp := false) (by kernel_rfl) (inn := (innN fr_95f)) (out := (outN fr_95f)) (fun _ _ => rfl) (loopsL (l := []) (by kernel_rfl) trivial) (fun x y => by kernel_rfl)
noncomputable def O_954 : Orc := (orm c_97c (orm c_95b (orm c_96d (orm c_939 (orm c_93a (orm c_95c (orm c_97d (orm c_95d (orm c_95e (orm c_95f c_955))))))))))
theorem okO_954 : OrcOk PR O_954 := (orm_ok ok_97c (orm_ok ok_95b (orm_ok ok_96d (orm_ok ok_939 (orm_ok ok_93a (orm_ok ok_95c (orm_ok ok_97d (orm_ok ok_95d (orm_ok ok_95e (orm_ok ok_95f ok_955))))))))))
abbrev fa_954 : Fm := (.pair (.i .i64) (.pair (.i .i64) (.pair (.i .u32) (.pair (.i .u32) (.pair (.i .u32) .unit)))))
abbrev fr_954 : Fm := (.tup (.pair (.i .u32) (.pair (.agg (.pair .b (.pair .b (.pair .b (.pair .b (.pair .b .unit)))))) .unit)))
noncomputable def F_954 (a0 : Int) (a1 : Int) (a2 : Int) (a3 : Int) (a4 : Int) : Option (Int × (Bool × Bool × Bool × Bool × Bool × Unit) × Unit) :=
 ((F_97c a0 a2 a3)).bind fun r0 =>
 ((F_95b a0 [a2, a3, a4])).bind fun r1 =>
 let x2 : Bool := r1.2.2.1
 let x3 : Bool := r1.2.1.1
 bif x2 then
 bif x3 then
 (some (r1.1, ((true, r1.2.1.2), ())))
 else
 (some (r1.1, ((r0, r1.2.1.2), ())))
 else
 bif r0 then
 ((F_96d a0)).bind fun r4 =>
 (some r4)
 else
 ((F_939 a0 a2)).bind fun r5 =>
 ((F_939 a0 a3)).bind fun r6 =>
 let x7 : Bool := (!(r5 == r6))
 ((F_93a a0 a2)).bind fun r8 =>
 bif r8 then
 ((F_93a a0 a4)).bind fun r9 =>
 ((F_939 a0 a4)).bind fun r10 =>
 ((F_95c a0 x7 r10 true r9)).bind fun r11 =>
 (some r11)
 else
 ((F_93a a0 a3)).bind fun r12 =>
 ((F_93a a0 a4)).bind fun r13 =>
 bif r12 then
 ((F_939 a0 a4)).bind fun r14 =>
 ((F_95c a0 x7 r14 r12 r13)).bind fun r15 =>
 (some r15)
 else
 bif r13 then
 ((F_939 a0 a4)).bind fun r16 =>
 ((F_95c a0 x7 r16 r12 r13)).bind fun r17 =>
 (some r17)
 else
 ((F_97d a0 a2 a3)).bind fun r18 =>
 ((F_95d a0 a4)).bind fun r19 =>
 ((F_95e r18 r19)).bind fun r20 =>
 let x21 : Int := r20.2.2.1
 let x22 : Bool := r20.2.2.2.1
 bif (x21 == (0:Int)) then
 bif (!x22) then
 ((F_95f a0 a1 x7 r19.1)).bind fun r23 =>
 (some (r23, ((false, (false, (false, (false, (false, ()))))), ())))
 else
 ((F_955 a0 a1 r20.1 r20.2.1 x21 x22)).bind fun r24 =>
 (some r24)
 else
 ((F_955 a0 a1 r20.1 r20.2.1 x21 x22)).bind fun r25 =>
 (some r25)
noncomputable def G_954 : T fa_954 → TH hN0 → Option (Int × (Bool × Bool × Bool × Bool × Bool × Unit) × Unit) := fun x y => F_954 x.1 x.2.1 x.2.2.1 x.2.2.2.1 x.2.2.2.2.1
noncomputable def c_954 : Orc := ent i_954 [] 0 (sp fa_954 hN0 fr_954 hN0 G_954 (outN fr_954))
theorem ok_954 : OrcOk PR c_954 := fnT okO_954 mixed p_954 (by kernel_rfl) (by kernel_rfl) (L := L0) (kp := false) (by kernel_rfl) (inn := (innN fr_954)) (out := (outN fr_954)) (fun _ _ => rfl) (loopsL (l := []) (by kernel_rfl) trivial) (fun x y => by kernel_rfl)
noncomputable def O_92e : Orc := c_954
theorem okO_92e : OrcOk PR O_92e := ok_954
abbrev fa_92e : Fm := (.pair (.i .u32) (.pair (.i .u32) (.pair (.i .u32) .unit)))
abbrev fr_92e : Fm := (.i .u32)
noncomputable def F_92e (a0 : Int) (a1 : Int) (a2 : Int) : Option (Int) :=
 ((F_954 (2:Int) (0:Int) a0 a1 a2)).bind fun r0 =>
 (some r0.1)
noncomputable def G_92e : T fa_92e → TH hN0 → Option (Int) := fun x y => F_92e x.1 x.2.1 x.2.2.1
noncomputable def c_92e : Orc := ent i_92e [] 0 (sp fa_92e hN0 fr_92e hN0 G_92e (outN fr_92e))
theorem ok_92e : OrcOk PR c_92e := fnT okO_92e mixed p_92e (by kernel_rfl) (by kernel_rfl) (L := L0) (kp := false) (by kernel_rfl) (inn := (innN fr_92e)) (out := (outN fr_92e)) (fun _ _ => rfl) (loopsL (l := []) (by kernel_rfl) trivial) (fun x y => by kernel_rfl)
noncomputable def O_933 : Orc := (orm c_95b (orm c_93a (orm c_939 (orm c_95c (orm c_95d (orm c_95e (orm c_95f c_955)))))))
theorem okO_933 : OrcOk PR O_933 := (orm_ok ok_95b (orm_ok ok_93a (orm_ok ok_939 (orm_ok ok_95c (orm_ok ok_95d (orm_ok ok_95e (orm_ok ok_95f ok_955)))))))
abbrev fa_933 : Fm := (.pair (.i .i64) (.pair (.i .i64) (.pair (.i .u32) (.pair (.i .u32) .unit))))
abbrev fr_933 : Fm := (.tup (.pair (.i .u32) (.pair (.agg (.pair .b (.pair .b (.pair .b (.pair .b (.pair .b .unit)))))) .unit)))
noncomputable def F_933 (a0 : Int) (a1 : Int) (a2 : Int) (a3 : Int) : Option (Int × (Bool × Bool × Bool × Bool × Bool × Unit) × Unit) :=
 ((F_95b a0 [a2, a3])).bind fun r0 =>
 let x1 : Bool := r0.2.2.1
 bif x1 then
 (some (r0.1, (r0.2.1, ())))
 else
 ((F_93a a0 a2)).bind fun r2 =>
 ((F_93a a0 a3)).bind fun r3 =>
 bif r2 then
 ((F_939 a0 a2)).bind fun r4 =>
 ((F_939 a0 a3)).bind fun r5 =>
 ((F_95c a0 r4 r5 r2 r3)).bind fun r6 =>
 (some r6)
 else
 bif r3 then
 ((F_939 a0 a2)).bind fun r7 =>
 ((F_939 a0 a3)).bind fun r8 =>
 ((F_95c a0 r7 r8 r2 r3)).bind fun r9 =>
 (some r9)
 else
 ((F_95d a0 a2)).bind fun r10 =>
 ((F_95d a0 a3)).bind fun r11 =>
 ((F_95e r10 r11)).bind fun r12 =>
 let x13 : Int := r12.2.2.1
 let x14 : Bool := r12.2.2.2.1
 bif (x13 == (0:Int)) then
 bif (!x14) then
 ((F_95f a0 a1 r10.1 r11.1)).bind fun r15 =>
 (some (r15, ((false, (false, (false, (false, (false, ()))))), ())))
 else
 ((F_955 a0 a1 r12.1 r12.2.1 x13 x14)).bind fun r16 =>
 (some r16)
 else
 ((F_955 a0 a1 r12.1 r12.2.1 x13 x14)).bind fun r17 =>
 (some r17)
noncomputable def G_933 : T fa_933 → TH hN0 → Option (Int × (Bool × Bool × Bool × Bool × Bool × Unit) × Unit) := fun x y => F_933 x.1 x.2.1 x.2.2.1 x.2.2.2.1
noncomputable def c_933 : Orc := ent i_933 [] 0 (sp fa_933 hN0 fr_933 hN0 G_933 (outN fr_933))
theorem ok_933 : OrcOk PR c_933 := fnT okO_933 mixed p_933 (by kernel_rfl) (by kernel_rfl) (L := L0) (kp := false) (by kernel_rfl) (inn := (innN fr_933)) (out := (outN fr_933)) (fun _ _ => rfl) (loopsL (l := []) (by kernel_rfl) trivial) (fun x y => by kernel_rfl)
noncomputable def O_934 : Orc := (orm c_95b (orm c_960 c_933))
theorem okO_934 : OrcOk PR O_934 := (orm_ok ok_95b (orm_ok ok_960 ok_933))
abbrev fa_934 : Fm := (.pair (.i .i64) (.pair (.i .i64) (.pair (.i .u32) (.pair (.i .u32) .unit))))
abbrev fr_934 : Fm := (.tup (.pair (.i .u32) (.pair (.agg (.pair .b (.pair .b (.pair .b (.pair .b (.pair .b .unit)))))) .unit)))
noncomputable def F_934 (a0 : Int) (a1 : Int) (a2 : Int) (a3 : Int) : Option (Int × (Bool × Bool × Bool × Bool × Bool × Unit) × Unit) :=
 ((F_95b a0 [a2, a3])).bind fun r0 =>
 let x1 : Bool := r0.2.2.1
 bif x1 then
 (some (r0.1, (r0.2.1, ())))
 else
 ((F_960 a0 a3)).bind fun r2 =>
 ((F_933 a0 a1 a2 r2)).bind fun r3 =>
 (some r3)
noncomputable def G_934 : T fa_934 → TH hN0 → Option (Int × (Bool × Bool × Bool × Bool × Bool × Unit) × Unit) := fun x y => F_934 x.1 x.2.1 x.2.2.1 x.2.2.2.1
noncomputable def c_934 : Orc := ent i_934 [] 0 (sp fa_934 hN0 fr_934 hN0 G_934 (outN fr_934))
theorem ok_934 : OrcOk PR c_934 := fnT okO_934 mixed p_934 (by kernel_rfl) (by kernel_rfl) (L := L0) (kp := false) (by kernel_rfl) (inn := (innN fr_934)) (out := (outN fr_934)) (fun _ _ => rfl) (loopsL (l := []) (by kernel_rfl) trivial) (fun x y => by kernel_rfl)
noncomputable def O_915 : Orc := c_933
theorem okO_915 : OrcOk PR O_915 := ok_933
abbrev fa_915 : Fm := (.pair (.i .u32) (.pair (.i .u32) .unit))
abbrev fr_915 : Fm := (.i .u32)
noncomputable def F_915 (a0 : Int) (a1 : Int) : Option (Int) :=
 ((F_933 (2:Int) (0:Int) a0 a1)).bind fun r0 =>
 (some r0.1)
noncomputable def G_915 : T fa_915 → TH hN0 → Option (Int) := fun x y => F_915 x.1 x.2.1
noncomputable def c_915 : Orc := ent i_915 [] 0 (sp fa_915 hN0 fr_915 hN0 G_915 (outN fr_915))
theorem ok_915 : OrcOk PR c_915 := fnT okO_915 mixed p_915 (by kernel_rfl) (by kernel_rfl) (L := L0) (kp := false) (by kernel_rfl) (inn := (innN fr_915)) (out := (outN fr_915)) (fun _ _ => rfl) (loopsL (l := []) (by kernel_rfl) trivial) (fun x y => by kernel_rfl)
noncomputable def O_916 : Orc := c_934
theorem okO_916 : OrcOk PR O_916 := ok_934
abbrev fa_916 : Fm := (.pair (.i .u32) (.pair (.i .u32) .unit))
abbrev fr_916 : Fm := (.i .u32)
noncomputable def F_916 (a0 : Int) (a1 : Int) : Option (Int) :=
 ((F_934 (2:Int) (0:Int) a0 a1)).bind fun r0 =>
 (some r0.1)
noncomputable def G_916 : T fa_916 → TH hN0 → Option (Int) := fun x y => F_916 x.1 x.2.1
noncomputable def c_916 : Orc := ent i_916 [] 0 (sp fa_916 hN0 fr_916 hN0 G_916 (outN fr_916))
theorem ok_916 : OrcOk PR c_916 := fnT okO_916 mixed p_916 (by kernel_rfl) (by kernel_rfl) (L := L0) (kp := false) (by kernel_rfl) (inn := (innN fr_916)) (out := (outN fr_916)) (fun _ _ => rfl) (loopsL (l := []) (by kernel_rfl) trivial) (fun x y => by kernel_rfl)
noncomputable def O_981 : Orc := (orm c_93c (orm c_97e c_97f))
theorem okO_981 : OrcOk PR O_981 := (orm_ok ok_93c (orm_ok ok_97e ok_97f))
abbrev fa_981 : Fm := (.pair (.agg (.pair .b (.pair (.i .i64) (.pair (.i .u64) (.pair .b .unit))))) (.pair (.i .i64) .unit))
abbrev fr_981 : Fm := (.tup (.pair (.i .u64) (.pair .b .unit)))
noncomputable def F_981 (a0 : Bool × Int × Int × Bool × Unit) (a1 : Int) : Option (Int × Bool × Unit) :=
 let x0 : Int := a0.2.2.1
 ((F_93c x0)).bind fun r1 =>
 bif (decide ((IntKind.wrap .i64 (a0.2.1 + r1)) > (40:Int))) then
 (some ((1099511627776:Int), (false, ())))
 else
 ((F_97e x0 (IntKind.wrap .i64 ((0:Int) - a0.2.1)) false)).bind fun r2 =>
 ((F_97f a1 a0.1 r2.1 r2.2.1)).bind fun r3 =>
 (some ((bif r3 then (IntKind.wrap .u64 (r2.1 + (1:Int))) else r2.1), ((r2.2.1 != (0:Int)), ())))
noncomputable def G_981 : T fa_981 → TH hN0 → Option (Int × Bool × Unit) := fun x y => F_981 x.1 x.2.1
noncomputable def c_981 : Orc := ent i_981 [] 0 (sp fa_981 hN0 fr_981 hN0 G_981 (outN fr_981))
theorem ok_981 : OrcOk PR c_981 := fnT okO_981 mixed p_981 (by kernel_rfl) (by kernel_rfl) (L := L0) (kp := false) (by kernel_rfl) (inn := (innN fr_981)) (out := (outN fr_981)) (fun _ _ => rfl) (loopsL (l := []) (by kernel_rfl) trivial) (fun x y => by kernel_rfl)
noncomputable def O_959 : Orc := (orm c_978 (orm c_95d c_981))
theorem okO_959 : OrcOk PR O_959 := (orm_ok ok_978 (orm_ok ok_95d ok_981))
abbrev fa_959 : Fm := (.pair (.i .i64) (.pair (.i .i64) (.pair (.i .u32) .unit)))
abbrev fr_959 : Fm := (.tup (.pair (.i .i32) (.pair (.agg (.pair .b (.pair .b (.pair .b (.pair .b (.pair .b .unit)))))) .unit)))
noncomputable def F_959 (a0 : Int) (a1 : Int) (a2 : Int) : Option (Int × (Bool × Bool × Bool × Bool × Bool × Unit) × Unit) :=
 ((F_978 a0 a2)).bind fun r0 =>
 bif r0 then
 ((F_95d a0 a2)).bind fun r1 =>
 ((F_981 r1 a1)).bind fun r2 =>
 let x3 : Int := (IntKind.wrap .i64 r2.1)
 let x4 : Int := (bif r1.1 then (IntKind.wrap .i64 ((0:Int) - x3)) else x3)
 let x5 : Int := (IntKind.wrap .i32 x4)
 bif (x4 == (IntKind.wrap .i64 x5)) then
 (some (x5, ((false, (false, (false, (false, r2.2)))), ())))
 else
 (some ((-(2147483648:Int)), ((true, (false, (false, (false, (false, ()))))), ())))
 else
 (some ((-(2147483648:Int)), ((true, (false, (false, (false, (false, ()))))), ())))
noncomputable def G_959 : T fa_959 → TH hN0 → Option (Int × (Bool × Bool × Bool × Bool × Bool × Unit) × Unit) := fun x y => F_959 x.1 x.2.1 x.2.2.1
noncomputable def c_959 : Orc := ent i_959 [] 0 (sp fa_959 hN0 fr_959 hN0 G_959 (outN fr_959))
theorem ok_959 : OrcOk PR c_959 := fnT okO_959 mixed p_959 (by kernel_rfl) (by kernel_rfl) (L := L0) (kp := false) (by kernel_rfl) (inn := (innN fr_959)) (out := (outN fr_959)) (fun _ _ => rfl) (loopsL (l := []) (by kernel_rfl) trivial) (fun x y => by kernel_rfl)
noncomputable def O_956 : Orc := orn
theorem okO_956 : OrcOk PR O_956 := (orn_ok _)
abbrev fa_956 : Fm := (.pair (.i .i64) .unit)
abbrev fr_956 : Fm := (.i .u64)
noncomputable def F_956 (a0 : Int) : Option (Int) :=
 bif (decide (a0 < (0:Int))) then
 (some (IntKind.wrap .u64 ((0:Int) - (IntKind.wrap .u64 a0))))
 else
 (some (IntKind.wrap .u64 a0))
noncomputable def G_956 : T fa_956 → TH hN0 → Option (Int) := fun x y => F_956 x.1
noncomputable def c_956 : Orc := ent i_956 [] 0 (sp fa_956 hN0 fr_956 hN0 G_956 (outN fr_956))
theorem ok_956 : OrcOk PR c_956 := fnT okO_956 mixed p_956 (by kernel_rfl) (by kernel_rfl) (L := L0) (kp := false) (by kernel_rfl) (inn := (innN fr_956)) (out := (outN fr_956)) (fun _ _ => rfl) (loopsL (l := []) (by kernel_rfl) trivial) (fun x y => by kernel_rfl)
noncomputable def O_930 : Orc := (orm c_956 c_955)
theorem okO_930 : OrcOk PR O_930 := (orm_ok ok_956 ok_955)
abbrev fa_930 : Fm := (.pair (.i .i64) (.pair (.i .i64) (.pair (.i .i64) .unit)))
abbrev fr_930 : Fm := (.tup (.pair (.i .u32) (.pair (.agg (.pair .b (.pair .b (.pair .b (.pair .b (.pair .b .unit)))))) .unit)))
noncomputable def F_930 (a0 : Int) (a1 : Int) (a2 : Int) : Option (Int × (Bool × Bool × Bool × Bool × Bool × Unit) × Unit) :=
 ((F_956 a2)).bind fun r0 =>
 ((F_955 a0 a1 (decide (a2 < (0:Int))) (0:Int) r0 false)).bind fun r1 =>
 (some r1)
noncomputable def G_930 : T fa_930 → TH hN0 → Option (Int × (Bool × Bool × Bool × Bool × Bool × Unit) × Unit) := fun x y => F_930 x.1 x.2.1 x.2.2.1
noncomputable def c_930 : Orc := ent i_930 [] 0 (sp fa_930 hN0 fr_930 hN0 G_930 (outN fr_930))
theorem ok_930 : OrcOk PR c_930 := fnT okO_930 mixed p_930 (by kernel_rfl) (by kernel_rfl) (L := L0) (kp := false) (by kernel_rfl) (inn := (innN fr_930)) (out := (outN fr_930)) (fun _ _ => rfl) (loopsL (l := []) (by kernel_rfl) trivial) (fun x y => by kernel_rfl)
noncomputable def O_912 : Orc := c_930
theorem okO_912 : OrcOk PR O_912 := ok_930
abbrev fa_912 : Fm := (.pair (.i .i64) .unit)
abbrev fr_912 : Fm := (.i .u32)
noncomputable def F_912 (a0 : Int) : Option (Int) :=
 ((F_930 (2:Int) (0:Int) a0)).bind fun r0 =>
 (some r0.1)
noncomputable def G_912 : T fa_912 → TH hN0 → Option (Int) := fun x y => F_912 x.1
noncomputable def c_912 : Orc := ent i_912 [] 0 (sp fa_912 hN0 fr_912 hN0 G_912 (outN fr_912))
theorem ok_912 : OrcOk PR c_912 := fnT okO_912 mixed p_912 (by kernel_rfl) (by kernel_rfl) (L := L0) (kp := false) (by kernel_rfl) (inn := (innN fr_912)) (out := (outN fr_912)) (fun _ _ => rfl) (loopsL (l := []) (by kernel_rfl) trivial) (fun x y => by kernel_rfl)
noncomputable def O_983 : Orc := (orm c_95b (orm c_977 (orm c_93a c_937)))
theorem okO_983 : OrcOk PR O_983 := (orm_ok ok_95b (orm_ok ok_977 (orm_ok ok_93a ok_937)))
abbrev fa_983 : Fm := (.pair (.i .i64) (.pair (.i .u32) .unit))
abbrev fr_983 : Fm := (.tup (.pair (.i .u32) (.pair (.agg (.pair .b (.pair .b (.pair .b (.pair .b (.pair .b .unit)))))) (.pair .b .unit))))
noncomputable def F_983 (a0 : Int) (a1 : Int) : Option (Int × (Bool × Bool × Bool × Bool × Bool × Unit) × Bool × Unit) :=
 ((F_95b a0 [a1])).bind fun r0 =>
 let x1 : Bool := r0.2.2.1
 bif x1 then
 (some (r0.1, (r0.2.1, (true, ()))))
 else
 ((F_977 a0)).bind fun r2 =>
 let x3 : Int := (bits .and .u32 a1 r2)
 ((F_93a a0 a1)).bind fun r4 =>
 bif r4 then
 (some (x3, ((false, (false, (false, (false, (false, ()))))), (true, ()))))
 else
 ((F_937 a0 a1)).bind fun r5 =>
 (some (x3, ((false, (false, (false, (false, (false, ()))))), (r5, ()))))
noncomputable def G_983 : T fa_983 → TH hN0 → Option (Int × (Bool × Bool × Bool × Bool × Bool × Unit) × Bool × Unit) := fun x y => F_983 x.1 x.2.1
noncomputable def c_983 : Orc := ent i_983 [] 0 (sp fa_983 hN0 fr_983 hN0 G_983 (outN fr_983))
theorem ok_983 : OrcOk PR c_983 := fnT okO_983 mixed p_983 (by kernel_rfl) (by kernel_rfl) (L := L0) (kp := false) (by kernel_rfl) (inn := (innN fr_983)) (out := (outN fr_983)) (fun _ _ => rfl) (loopsL (l := []) (by kernel_rfl) trivial) (fun x y => by kernel_rfl)
noncomputable def O_96a : Orc := (orm c_983 (orm c_95d c_955))
theorem okO_96a : OrcOk PR O_96a := (orm_ok ok_983 (orm_ok ok_95d ok_955))
abbrev fa_96a : Fm := (.pair (.i .i64) (.pair (.i .i64) (.pair (.i .u32) (.pair (.i .i64) .unit))))
abbrev fr_96a : Fm := (.tup (.pair (.i .u32) (.pair (.agg (.pair .b (.pair .b (.pair .b (.pair .b (.pair .b .unit)))))) .unit)))
noncomputable def F_96a (a0 : Int) (a1 : Int) (a2 : Int) (a3 : Int) : Option (Int × (Bool × Bool × Bool × Bool × Bool × Unit) × Unit) :=
 ((F_983 a0 a2)).bind fun r0 =>
 let x1 : Bool := r0.2.2.1
 bif x1 then
 (some (r0.1, (r0.2.1, ())))
 else
 ((F_95d a0 a2)).bind fun r2 =>
 let x3 : Int := r2.2.2.1
 ((F_955 a0 a1 r2.1 (IntKind.wrap .i64 (r2.2.1 + (mn (mx a3 (-(5000:Int))) (5000:Int)))) x3 false)).bind fun r4 =>
 (some r4)
noncomputable def G_96a : T fa_96a → TH hN0 → Option (Int × (Bool × Bool × Bool × Bool × Bool × Unit) × Unit) := fun x y => F_96a x.1 x.2.1 x.2.2.1 x.2.2.2.1
noncomputable def c_96a : Orc := ent i_96a [] 0 (sp fa_96a hN0 fr_96a hN0 G_96a (outN fr_96a))
theorem ok_96a : OrcOk PR c_96a := fnT okO_96a mixed p_96a (by kernel_rfl) (by kernel_rfl) (L := L0) (kp := false) (by kernel_rfl) (inn := (innN fr_96a)) (out := (outN fr_96a)) (fun _ _ => rfl) (loopsL (l := []) (by kernel_rfl) trivial) (fun x y => by kernel_rfl)
noncomputable def O_93d : Orc := c_96a
theorem okO_93d : OrcOk PR O_93d := ok_96a
abbrev fa_93d : Fm := (.pair (.i .u32) (.pair (.i .i64) .unit))
abbrev fr_93d : Fm := (.i .u32)
noncomputable def F_93d (a0 : Int) (a1 : Int) : Option (Int) :=
 ((F_96a (2:Int) (0:Int) a0 a1)).bind fun r0 =>
 (some r0.1)
noncomputable def G_93d : T fa_93d → TH hN0 → Option (Int) := fun x y => F_93d x.1 x.2.1
noncomputable def c_93d : Orc := ent i_93d [] 0 (sp fa_93d hN0 fr_93d hN0 G_93d (outN fr_93d))
theorem ok_93d : OrcOk PR c_93d := fnT okO_93d mixed p_93d (by kernel_rfl) (by kernel_rfl) (L := L0) (kp := false) (by kernel_rfl) (inn := (innN fr_93d)) (out := (outN fr_93d)) (fun _ _ => rfl) (loopsL (l := []) (by kernel_rfl) trivial) (fun x y => by kernel_rfl)
noncomputable def O_941 : Orc := (orm c_95b (orm c_939 (orm c_963 (orm c_96d (orm c_938 (orm c_96e (orm c_95d (orm c_93c (orm c_96f c_955)))))))))
theorem okO_941 : OrcOk PR O_941 := (orm_ok ok_95b (orm_ok ok_939 (orm_ok ok_963 (orm_ok ok_96d (orm_ok ok_938 (orm_ok ok_96e (orm_ok ok_95d (orm_ok ok_93c (orm_ok ok_96f ok_955)))))))))
abbrev fa_941 : Fm := (.pair (.i .i64) (.pair (.i .i64) (.pair (.i .u32) (.pair (.i .u32) .unit))))
abbrev fr_941 : Fm := (.tup (.pair (.i .u32) (.pair (.agg (.pair .b (.pair .b (.pair .b (.pair .b (.pair .b .unit)))))) .unit)))
noncomputable def F_941 (a0 : Int) (a1 : Int) (a2 : Int) (a3 : Int) : Option (Int × (Bool × Bool × Bool × Bool × Bool × Unit) × Unit) :=
 ((F_95b a0 [a2, a3])).bind fun r0 =>
 let x1 : Bool := r0.2.2.1
 bif x1 then
 (some (r0.1, (r0.2.1, ())))
 else
 ((F_939 a0 a2)).bind fun r2 =>
 ((F_939 a0 a3)).bind fun r3 =>
 let x4 : Bool := (!(r2 == r3))
 ((F_963 a0 a2)).bind fun r5 =>
 ((F_963 a0 a3)).bind fun r6 =>
 bif (r5 == r6) then
 bif (r5 == (0:Int)) then
 ((F_96d a0)).bind fun r7 =>
 (some r7)
 else
 bif (r5 == (3:Int)) then
 ((F_96d a0)).bind fun r8 =>
 (some r8)
 else
 bif (r5 == (3:Int)) then
 ((F_938 a0 x4)).bind fun r9 =>
 (some (r9, ((false, (false, (false, (false, (false, ()))))), ())))
 else
 bif (r6 == (3:Int)) then
 ((F_96e a0 x4)).bind fun r10 =>
 (some (r10, ((false, (false, (false, (false, (false, ()))))), ())))
 else
 bif (r5 == (0:Int)) then
 ((F_96e a0 x4)).bind fun r11 =>
 (some (r11, ((false, (false, (false, (false, (false, ()))))), ())))
 else
 bif (r6 == (0:Int)) then
 ((F_938 a0 x4)).bind fun r12 =>
 (some (r12, ((false, (true, (false, (false, (false, ()))))), ())))
 else
 ((F_95d a0 a2)).bind fun r13 =>
 let x14 : Int := r13.2.2.1
 ((F_95d a0 a3)).bind fun r15 =>
 let x16 : Int := r15.2.2.1
 let x17 : Bool := (x16 == (0:Int))
 ((F_93c x14)).bind fun r18 =>
 let x19 : Int := (IntKind.wrap .i64 ((62:Int) - r18))
 ((F_96f x14 (IntKind.wrap .i64 ((0:Int) - x19)))).bind fun r20 =>
 bif x17 then
 none
 else
 bif x17 then
 none
 else
 ((F_955 a0 a1 x4 (IntKind.wrap .i64 ((IntKind.wrap .i64 (r13.2.1 - x19)) - r15.2.1)) (IntKind.wrap .u64 (Int.tdiv r20.1 x16)) ((Int.tmod r20.1 x16) != (0:Int)))).bind fun r21 =>
 (some r21)
 else
 bif (r5 == (3:Int)) then
 ((F_938 a0 x4)).bind fun r22 =>
 (some (r22, ((false, (false, (false, (false, (false, ()))))), ())))
 else
 bif (r6 == (3:Int)) then
 ((F_96e a0 x4)).bind fun r23 =>
 (some (r23, ((false, (false, (false, (false, (false, ()))))), ())))
 else
 bif (r5 == (0:Int)) then
 ((F_96e a0 x4)).bind fun r24 =>
 (some (r24, ((false, (false, (false, (false, (false, ()))))), ())))
 else
 bif (r6 == (0:Int)) then
 ((F_938 a0 x4)).bind fun r25 =>
 (some (r25, ((false, (true, (false, (false, (false, ()))))), ())))
 else
 ((F_95d a0 a2)).bind fun r26 =>
 let x27 : Int := r26.2.2.1
 ((F_95d a0 a3)).bind fun r28 =>
 let x29 : Int := r28.2.2.1
 let x30 : Bool := (x29 == (0:Int))
 ((F_93c x27)).bind fun r31 =>
 let x32 : Int := (IntKind.wrap .i64 ((62:Int) - r31))
 ((F_96f x27 (IntKind.wrap .i64 ((0:Int) - x32)))).bind fun r33 =>
 bif x30 then
 none
 else
 bif x30 then
 none
 else
 ((F_955 a0 a1 x4 (IntKind.wrap .i64 ((IntKind.wrap .i64 (r26.2.1 - x32)) - r28.2.1)) (IntKind.wrap .u64 (Int.tdiv r33.1 x29)) ((Int.tmod r33.1 x29) != (0:Int)))).bind fun r34 =>
 (some r34)
noncomputable def G_941 : T fa_941 → TH hN0 → Option (Int × (Bool × Bool × Bool × Bool × Bool × Unit) × Unit) := fun x y => F_941 x.1 x.2.1 x.2.2.1 x.2.2.2.1
noncomputable def c_941 : Orc := ent i_941 [] 0 (sp fa_941 hN0 fr_941 hN0 G_941 (outN fr_941))
theorem ok_941 : OrcOk PR c_941 := fnT okO_941 mixed p_941 (by kernel_rfl) (by kernel_rfl) (L := L0) (kp := false) (by kernel_rfl) (inn := (innN fr_941)) (out := (outN fr_941)) (fun _ _ => rfl) (loopsL (l := []) (by kernel_rfl) trivial) (fun x y => by kernel_rfl)
noncomputable def O_918 : Orc := c_941
theorem okO_918 : OrcOk PR O_918 := ok_941
abbrev fa_918 : Fm := (.pair (.i .u32) (.pair (.i .u32) .unit))
abbrev fr_918 : Fm := (.i .u32)
noncomputable def F_918 (a0 : Int) (a1 : Int) : Option (Int) :=
 ((F_941 (2:Int) (0:Int) a0 a1)).bind fun r0 =>
 (some r0.1)
noncomputable def G_918 : T fa_918 → TH hN0 → Option (Int) := fun x y => F_918 x.1 x.2.1
noncomputable def c_918 : Orc := ent i_918 [] 0 (sp fa_918 hN0 fr_918 hN0 G_918 (outN fr_918))
theorem ok_918 : OrcOk PR c_918 := fnT okO_918 mixed p_918 (by kernel_rfl) (by kernel_rfl) (L := L0) (kp := false) (by kernel_rfl) (inn := (innN fr_918)) (out := (outN fr_918)) (fun _ _ => rfl) (loopsL (l := []) (by kernel_rfl) trivial) (fun x y => by kernel_rfl)
noncomputable def O_94c : Orc := (orm c_963 (orm c_962 (orm c_96d (orm c_939 (orm c_938 (orm c_95d c_955))))))
theorem okO_94c : OrcOk PR O_94c := (orm_ok ok_963 (orm_ok ok_962 (orm_ok ok_96d (orm_ok ok_939 (orm_ok ok_938 (orm_ok ok_95d ok_955))))))
abbrev fa_94c : Fm := (.pair (.i .i64) (.pair (.i .i64) (.pair (.i .i64) (.pair (.i .u32) .unit))))
abbrev fr_94c : Fm := (.tup (.pair (.i .u32) (.pair (.agg (.pair .b (.pair .b (.pair .b (.pair .b (.pair .b .unit)))))) .unit)))
noncomputable def F_94c (a0 : Int) (a1 : Int) (a2 : Int) (a3 : Int) : Option (Int × (Bool × Bool × Bool × Bool × Bool × Unit) × Unit) :=
 ((F_963 a0 a3)).bind fun r0 =>
 bif (r0 == (4:Int)) then
 ((F_962 a1)).bind fun r1 =>
 (some (r1, ((false, (false, (false, (false, (false, ()))))), ())))
 else
 bif (r0 == (5:Int)) then
 ((F_96d a1)).bind fun r2 =>
 (some r2)
 else
 bif (r0 == (3:Int)) then
 ((F_939 a0 a3)).bind fun r3 =>
 ((F_938 a1 r3)).bind fun r4 =>
 (some (r4, ((false, (false, (false, (false, (false, ()))))), ())))
 else
 ((F_95d a0 a3)).bind fun r5 =>
 let x6 : Int := r5.2.2.1
 ((F_955 a1 a2 r5.1 r5.2.1 x6 false)).bind fun r7 =>
 (some r7)
noncomputable def G_94c : T fa_94c → TH hN0 → Option (Int × (Bool × Bool × Bool × Bool × Bool × Unit) × Unit) := fun x y => F_94c x.1 x.2.1 x.2.2.1 x.2.2.2.1
noncomputable def c_94c : Orc := ent i_94c [] 0 (sp fa_94c hN0 fr_94c hN0 G_94c (outN fr_94c))
theorem ok_94c : OrcOk PR c_94c := fnT okO_94c mixed p_94c (by kernel_rfl) (by kernel_rfl) (L := L0) (kp := false) (by kernel_rfl) (inn := (innN fr_94c)) (out := (outN fr_94c)) (fun _ _ => rfl) (loopsL (l := []) (by kernel_rfl) trivial) (fun x y => by kernel_rfl)
noncomputable def O_94d : Orc := c_94c
theorem okO_94d : OrcOk PR O_94d := ok_94c
abbrev fa_94d : Fm := (.pair (.i .i64) (.pair (.i .u32) .unit))
abbrev fr_94d : Fm := (.i .u32)
noncomputable def F_94d (a0 : Int) (a1 : Int) : Option (Int) :=
 ((F_94c a0 (2:Int) (0:Int) a1)).bind fun r0 =>
 (some r0.1)
noncomputable def G_94d : T fa_94d → TH hN0 → Option (Int) := fun x y => F_94d x.1 x.2.1
noncomputable def c_94d : Orc := ent i_94d [] 0 (sp fa_94d hN0 fr_94d hN0 G_94d (outN fr_94d))
theorem ok_94d : OrcOk PR c_94d := fnT okO_94d mixed p_94d (by kernel_rfl) (by kernel_rfl) (L := L0) (kp := false) (by kernel_rfl) (inn := (innN fr_94d)) (out := (outN fr_94d)) (fun _ _ => rfl) (loopsL (l := []) (by kernel_rfl) trivial) (fun x y => by kernel_rfl)
noncomputable def O_935 : Orc := c_961
theorem okO_935 : OrcOk PR O_935 := ok_961
abbrev fa_935 : Fm := (.pair (.i .u32) .unit)
abbrev fr_935 : Fm := .b
noncomputable def F_935 (a0 : Int) : Option (Bool) :=
 ((F_961 (2:Int) a0)).bind fun r0 =>
 (some r0)
noncomputable def G_935 : T fa_935 → TH hN0 → Option (Bool) := fun x y => F_935 x.1
noncomputable def c_935 : Orc := ent i_935 [] 0 (sp fa_935 hN0 fr_935 hN0 G_935 (outN fr_935))
theorem ok_935 : OrcOk PR c_935 := fnT okO_935 mixed p_935 (by kernel_rfl) (by kernel_rfl) (L := L0) (kp := false) (by kernel_rfl) (inn := (innN fr_935)) (out := (outN fr_935)) (fun _ _ => rfl) (loopsL (l := []) (by kernel_rfl) trivial) (fun x y => by kernel_rfl)
noncomputable def O_936 : Orc := c_962
theorem okO_936 : OrcOk PR O_936 := ok_962
abbrev fa_936 : Fm := .unit
abbrev fr_936 : Fm := (.i .u32)
noncomputable def F_936  : Option (Int) :=
 (some (2143289344:Int))
noncomputable def G_936 : T fa_936 → TH hN0 → Option (Int) := fun x y => F_936
noncomputable def c_936 : Orc := ent i_936 [] 0 (sp fa_936 hN0 fr_936 hN0 G_936 (outN fr_936))
theorem ok_936 : OrcOk PR c_936 := fnT okO_936 mixed p_936 (by kernel_rfl) (by kernel_rfl) (L := L0) (kp := false) (by kernel_rfl) (inn := (innN fr_936)) (out := (outN fr_936)) (fun _ _ => rfl) (loopsL (l := []) (by kernel_rfl) trivial) (fun x y => by kernel_rfl)
noncomputable def O_95a : Orc := c_960
theorem okO_95a : OrcOk PR O_95a := ok_960
abbrev fa_95a : Fm := (.pair (.i .u32) .unit)
abbrev fr_95a : Fm := (.i .u32)
noncomputable def F_95a (a0 : Int) : Option (Int) :=
 (some (bits .xor .u32 (bits .and .u32 a0 (4294967295:Int)) (2147483648:Int)))
noncomputable def G_95a : T fa_95a → TH hN0 → Option (Int) := fun x y => F_95a x.1
noncomputable def c_95a : Orc := ent i_95a [] 0 (sp fa_95a hN0 fr_95a hN0 G_95a (outN fr_95a))
theorem ok_95a : OrcOk PR c_95a := fnT okO_95a mixed p_95a (by kernel_rfl) (by kernel_rfl) (L := L0) (kp := false) (by kernel_rfl) (inn := (innN fr_95a)) (out := (outN fr_95a)) (fun _ _ => rfl) (loopsL (l := []) (by kernel_rfl) trivial) (fun x y => by kernel_rfl)
noncomputable def O_93e : Orc := c_96b
theorem okO_93e : OrcOk PR O_93e := ok_96b
abbrev fa_93e : Fm := (.pair (.i .u32) (.pair (.i .u32) .unit))
abbrev fr_93e : Fm := .b
noncomputable def F_93e (a0 : Int) (a1 : Int) : Option (Bool) :=
 ((F_96b (2:Int) a1 a0)).bind fun r0 =>
 (some r0)
noncomputable def G_93e : T fa_93e → TH hN0 → Option (Bool) := fun x y => F_93e x.1 x.2.1
noncomputable def c_93e : Orc := ent i_93e [] 0 (sp fa_93e hN0 fr_93e hN0 G_93e (outN fr_93e))
theorem ok_93e : OrcOk PR c_93e := fnT okO_93e mixed p_93e (by kernel_rfl) (by kernel_rfl) (L := L0) (kp := false) (by kernel_rfl) (inn := (innN fr_93e)) (out := (outN fr_93e)) (fun _ _ => rfl) (loopsL (l := []) (by kernel_rfl) trivial) (fun x y => by kernel_rfl)
end Go.Proofs.YtkmkhcmfpbffjaaGreat.VI
