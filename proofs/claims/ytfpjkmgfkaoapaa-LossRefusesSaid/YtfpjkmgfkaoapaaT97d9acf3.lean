import Derived.Test.YtfpjkmgfkaoapaaTbdc31540
namespace Go.Proofs.Ytfpjkmgfkaoapaa.VI
set_option linter.unusedVariables false
set_option linter.unusedSimpArgs false
set_option maxRecDepth 100000
noncomputable def O_93a : Orc := (orm c_943 c_94b)
theorem okO_93a : OrcOk PR O_93a := (orm_ok ok_943 ok_94b)
abbrev fa_93a : Fm := (.pair (.i .i64) (.pair (.si .u32) .unit))
abbrev fr_93a : Fm := (.tup (.pair (.i .u32) (.pair (.agg (.pair .b (.pair .b (.pair .b (.pair .b (.pair .b .unit)))))) (.pair .b .unit))))
abbrev ff_93a_0 : Fm := (.pair (.i .i64) (.us 4 (.cst (.ref 0 1 0) (.us 1 (.pair .b (.cst (.ref 1 1 0) (.us 3 (.pair (.si .u32) (.pair (.i .i64) (.pair (.i .i64) (.us 23 .unit)))))))))))
abbrev hf_93a_0 : List BF := [(.list 1 y_92 true (.pair .b (.pair .b (.pair .b (.pair .b (.pair .b .unit)))))), (.list 1 y_92 true (.pair .b (.pair .b (.pair .b (.pair .b (.pair .b .unit))))))]
abbrev X_93a_0 : Xs := (.one (.exit 0) [0, 5, 7, 8] (.pair (.i .i64) (.us 4 (.cst (.ref 0 1 0) (.us 1 (.pair .b (.cst (.ref 1 1 0) (.us 29 .unit))))))) [(.list 1 y_92 true (.pair .b (.pair .b (.pair .b (.pair .b (.pair .b .unit)))))), (.list 1 y_92 true (.pair .b (.pair .b (.pair .b (.pair .b (.pair .b .unit))))))])
abbrev S_93a_0 : Type := T ff_93a_0 × TH hf_93a_0
abbrev E_93a_0 : Type := TX X_93a_0
noncomputable def LB_93a_0 : Lps := L0
noncomputable def st_93a_0 : StepT S_93a_0 E_93a_0 := fun R v kn ko =>
 let x0 : Int := v.1.1
 let x1 : List Int := v.1.2.2.1
 let x2 : Int := v.1.2.2.2.2.1
 let x3 : Bool := v.1.2.1
 let x4 : Bool := v.2.2.1.1
 bif (decide (x2 < v.1.2.2.2.1)) then
 bif (decide (((0:Int) ≤ x2) ∧ (x2 < (((List.length x1) : Nat) : Int)))) then
 ((F_943 x0 (List.getD x1 (Int.toNat x2) (0:Int)))).bind fun r5 =>
 bif x3 then
 bif x4 then
 (kn ((x0, (true, ((List.take (List.length x1) x1), (v.1.2.2.2.1, ((IntKind.wrap .i64 (x2 + (1:Int))), ()))))), (v.2.1, ((true, v.2.2.1.2), ()))))
 else
 (kn ((x0, (true, ((List.take (List.length x1) x1), (v.1.2.2.2.1, ((IntKind.wrap .i64 (x2 + (1:Int))), ()))))), (v.2.1, (((r5 == (5:Int)), v.2.2.1.2), ()))))
 else
 bif x4 then
 (kn ((x0, ((decide (r5 ≥ (4:Int))), ((List.take (List.length x1) x1), (v.1.2.2.2.1, ((IntKind.wrap .i64 (x2 + (1:Int))), ()))))), (v.2.1, ((true, v.2.2.1.2), ()))))
 else
 (kn ((x0, ((decide (r5 ≥ (4:Int))), ((List.take (List.length x1) x1), (v.1.2.2.2.1, ((IntKind.wrap .i64 (x2 + (1:Int))), ()))))), (v.2.1, (((r5 == (5:Int)), v.2.2.1.2), ()))))
 else
 none
 else
 (ko ((x0, (x3, ())), v.2))
noncomputable def ls_93a_0 : St → LTr := (lsum ff_93a_0 hf_93a_0 X_93a_0 Prod.mk id st_93a_0 (hd [] [] [0, 5, 7, 8, 12, 13, 14] 0))
theorem lp_93a_0 : LoopOk PR 0 (lpN f_93a 0) ls_93a_0 := loopT okO_93a mixed (L := LB_93a_0) (d := 1) (bs := []) (ks := [0, 5, 7, 8, 12, 13, 14]) (loopsL (l := []) (by kernel_rfl) trivial) (by kernel_rfl) (inS := Prod.mk) (outS := id) (fun _ _ => rfl) (inX := id) (outX := id) (fun _ => rfl) (fun v R kn ko => by kernel_rfl) (hd_wk [] [] [0, 5, 7, 8, 12, 13, 14] 0)
noncomputable def L_93a : Lps := (lpB 5 (.by_ ls_93a_0) L0)
noncomputable def F_93a (a0 : Int) (a1 : List Int) : Option (Int × (Bool × Bool × Bool × Bool × Bool × Unit) × Bool × Unit) :=
 ((lim st_93a_0 ((a0, (false, ((List.take (List.length a1) a1), ((((List.length a1) : Nat) : Int), ((0:Int), ()))))), ((false, (false, (false, (false, (false, ()))))), ((false, (false, (false, (false, (false, ()))))), ()))))).bind fun r0 =>
 ((F_94b r0.1.1)).bind fun r1 =>
 (some (r1, (r0.2.2.1, r0.1.2)))
noncomputable def G_93a : T fa_93a → TH hN0 → Option (Int × (Bool × Bool × Bool × Bool × Bool × Unit) × Bool × Unit) := fun x y => F_93a x.1 x.2.1
noncomputable def c_93a : Orc := ent i_93a [] 0 (sp fa_93a hN0 fr_93a hN0 G_93a (outN fr_93a))
theorem ok_93a : OrcOk PR c_93a := fnT okO_93a mixed p_93a (by kernel_rfl) (by kernel_rfl) (L := L_93a) (kp := false) (by kernel_rfl) (inn := (innN fr_93a)) (out := (outN fr_93a)) (fun _ _ => rfl) (loopsL (l := [((lpN f_93a 0), ls_93a_0)]) (by kernel_rfl) ⟨lp_93a_0, trivial⟩) (fun x y => by kernel_rfl)
noncomputable def O_93d : Orc := c_94b
theorem okO_93d : OrcOk PR O_93d := ok_94b
abbrev fa_93d : Fm := (.pair (.i .i64) .unit)
abbrev fr_93d : Fm := (.tup (.pair (.i .u32) (.pair (.agg (.pair .b (.pair .b (.pair .b (.pair .b (.pair .b .unit)))))) .unit)))
noncomputable def F_93d (a0 : Int) : Option (Int × (Bool × Bool × Bool × Bool × Bool × Unit) × Unit) :=
 ((F_94b a0)).bind fun r0 =>
 (some (r0, ((true, (false, (false, (false, (false, ()))))), ())))
noncomputable def G_93d : T fa_93d → TH hN0 → Option (Int × (Bool × Bool × Bool × Bool × Bool × Unit) × Unit) := fun x y => F_93d x.1
noncomputable def c_93d : Orc := ent i_93d [] 0 (sp fa_93d hN0 fr_93d hN0 G_93d (outN fr_93d))
theorem ok_93d : OrcOk PR c_93d := fnT okO_93d mixed p_93d (by kernel_rfl) (by kernel_rfl) (L := L0) (kp := false) (by kernel_rfl) (inn := (innN fr_93d)) (out := (outN fr_93d)) (fun _ _ => rfl) (loopsL (l := []) (by kernel_rfl) trivial) (fun x y => by kernel_rfl)
noncomputable def O_93c : Orc := (orm c_928 c_92b)
theorem okO_93c : OrcOk PR O_93c := (orm_ok ok_928 ok_92b)
abbrev fa_93c : Fm := (.pair (.i .i64) (.pair (.i .u32) (.pair (.i .u32) .unit)))
abbrev fr_93c : Fm := .b
noncomputable def F_93c (a0 : Int) (a1 : Int) (a2 : Int) : Option (Bool) :=
 ((F_928 a0 a1)).bind fun r0 =>
 bif r0 then
 ((F_92b a0 a2)).bind fun r1 =>
 bif r1 then
 (some true)
 else
 ((F_92b a0 a1)).bind fun r2 =>
 bif r2 then
 ((F_928 a0 a2)).bind fun r3 =>
 (some r3)
 else
 (some false)
 else
 ((F_92b a0 a1)).bind fun r4 =>
 bif r4 then
 ((F_928 a0 a2)).bind fun r5 =>
 (some r5)
 else
 (some false)
noncomputable def G_93c : T fa_93c → TH hN0 → Option (Bool) := fun x y => F_93c x.1 x.2.1 x.2.2.1
noncomputable def c_93c : Orc := ent i_93c [] 0 (sp fa_93c hN0 fr_93c hN0 G_93c (outN fr_93c))
theorem ok_93c : OrcOk PR c_93c := fnT okO_93c mixed p_93c (by kernel_rfl) (by kernel_rfl) (L := L0) (kp := false) (by kernel_rfl) (inn := (innN fr_93c)) (out := (outN fr_93c)) (fun _ _ => rfl) (loopsL (l := []) (by kernel_rfl) trivial) (fun x y => by kernel_rfl)
noncomputable def O_940 : Orc := c_92c
theorem okO_940 : OrcOk PR O_940 := ok_92c
abbrev fa_940 : Fm := (.pair (.i .i64) (.pair (.i .u32) .unit))
abbrev fr_940 : Fm := (.agg (.pair .b (.pair (.i .i64) (.pair (.i .u64) (.pair .b .unit)))))
noncomputable def F_940 (a0 : Int) (a1 : Int) : Option (Bool × Int × Int × Bool × Unit) :=
 ((F_92c a0 a1)).bind fun r0 =>
 let x1 : Int := r0.2.2.1
 (some (r0.1, (r0.2.1, (x1, (false, ())))))
noncomputable def G_940 : T fa_940 → TH hN0 → Option (Bool × Int × Int × Bool × Unit) := fun x y => F_940 x.1 x.2.1
noncomputable def c_940 : Orc := ent i_940 [] 0 (sp fa_940 hN0 fr_940 hN0 G_940 (outN fr_940))
theorem ok_940 : OrcOk PR c_940 := fnT okO_940 mixed p_940 (by kernel_rfl) (by kernel_rfl) (L := L0) (kp := false) (by kernel_rfl) (inn := (innN fr_940)) (out := (outN fr_940)) (fun _ _ => rfl) (loopsL (l := []) (by kernel_rfl) trivial) (fun x y => by kernel_rfl)
noncomputable def O_93f : Orc := c_940
theorem okO_93f : OrcOk PR O_93f := ok_940
abbrev fa_93f : Fm := (.pair (.i .i64) (.pair (.i .u32) (.pair (.i .u32) .unit)))
abbrev fr_93f : Fm := (.agg (.pair .b (.pair (.i .i64) (.pair (.i .u64) (.pair .b .unit)))))
noncomputable def F_93f (a0 : Int) (a1 : Int) (a2 : Int) : Option (Bool × Int × Int × Bool × Unit) :=
 ((F_940 a0 a1)).bind fun r0 =>
 let x1 : Int := r0.2.2.1
 ((F_940 a0 a2)).bind fun r2 =>
 let x3 : Int := r2.2.2.1
 (some ((!(r0.1 == r2.1)), ((IntKind.wrap .i64 (r0.2.1 + r2.2.1)), ((IntKind.wrap .u64 (x1 * x3)), (false, ())))))
noncomputable def G_93f : T fa_93f → TH hN0 → Option (Bool × Int × Int × Bool × Unit) := fun x y => F_93f x.1 x.2.1 x.2.2.1
noncomputable def c_93f : Orc := ent i_93f [] 0 (sp fa_93f hN0 fr_93f hN0 G_93f (outN fr_93f))
theorem ok_93f : OrcOk PR c_93f := fnT okO_93f mixed p_93f (by kernel_rfl) (by kernel_rfl) (L := L0) (kp := false) (by kernel_rfl) (inn := (innN fr_93f)) (out := (outN fr_93f)) (fun _ _ => rfl) (loopsL (l := []) (by kernel_rfl) trivial) (fun x y => by kernel_rfl)
noncomputable def O_954 : Orc := (orm c_93a (orm c_93c (orm c_93d (orm c_92a (orm c_92b (orm c_929 (orm c_93f c_938)))))))
theorem okO_954 : OrcOk PR O_954 := (orm_ok ok_93a (orm_ok ok_93c (orm_ok ok_93d (orm_ok ok_92a (orm_ok ok_92b (orm_ok ok_929 (orm_ok ok_93f ok_938)))))))
abbrev fa_954 : Fm := (.pair (.i .i64) (.pair (.i .i64) (.pair (.i .u32) (.pair (.i .u32) .unit))))
abbrev fr_954 : Fm := (.tup (.pair (.i .u32) (.pair (.agg (.pair .b (.pair .b (.pair .b (.pair .b (.pair .b .unit)))))) .unit)))
noncomputable def F_954 (a0 : Int) (a1 : Int) (a2 : Int) (a3 : Int) : Option (Int × (Bool × Bool × Bool × Bool × Bool × Unit) × Unit) :=
 ((F_93a a0 [a2, a3])).bind fun r0 =>
 let x1 : Bool := r0.2.2.1
 bif x1 then
 (some (r0.1, (r0.2.1, ())))
 else
 ((F_93c a0 a2 a3)).bind fun r2 =>
 bif r2 then
 ((F_93d a0)).bind fun r3 =>
 (some r3)
 else
 ((F_92a a0 a2)).bind fun r4 =>
 ((F_92a a0 a3)).bind fun r5 =>
 let x6 : Bool := (!(r4 == r5))
 ((F_92b a0 a2)).bind fun r7 =>
 bif r7 then
 ((F_929 a0 x6)).bind fun r8 =>
 (some (r8, ((false, (false, (false, (false, (false, ()))))), ())))
 else
 ((F_92b a0 a3)).bind fun r9 =>
 bif r9 then
 ((F_929 a0 x6)).bind fun r10 =>
 (some (r10, ((false, (false, (false, (false, (false, ()))))), ())))
 else
 ((F_93f a0 a2 a3)).bind fun r11 =>
 let x12 : Int := r11.2.2.1
 ((F_938 a0 a1 x6 r11.2.1 x12 false)).bind fun r13 =>
 (some r13)
noncomputable def G_954 : T fa_954 → TH hN0 → Option (Int × (Bool × Bool × Bool × Bool × Bool × Unit) × Unit) := fun x y => F_954 x.1 x.2.1 x.2.2.1 x.2.2.2.1
noncomputable def c_954 : Orc := ent i_954 [] 0 (sp fa_954 hN0 fr_954 hN0 G_954 (outN fr_954))
theorem ok_954 : OrcOk PR c_954 := fnT okO_954 mixed p_954 (by kernel_rfl) (by kernel_rfl) (L := L0) (kp := false) (by kernel_rfl) (inn := (innN fr_954)) (out := (outN fr_954)) (fun _ _ => rfl) (loopsL (l := []) (by kernel_rfl) trivial) (fun x y => by kernel_rfl)
noncomputable def O_930 : Orc := c_954
theorem okO_930 : OrcOk PR O_930 := ok_954
abbrev fa_930 : Fm := (.pair (.i .u32) (.pair (.i .u32) .unit))
abbrev fr_930 : Fm := (.i .u32)
noncomputable def F_930 (a0 : Int) (a1 : Int) : Option (Int) :=
 ((F_954 (2:Int) (0:Int) a0 a1)).bind fun r0 =>
 (some r0.1)
noncomputable def G_930 : T fa_930 → TH hN0 → Option (Int) := fun x y => F_930 x.1 x.2.1
noncomputable def c_930 : Orc := ent i_930 [] 0 (sp fa_930 hN0 fr_930 hN0 G_930 (outN fr_930))
theorem ok_930 : OrcOk PR c_930 := fnT okO_930 mixed p_930 (by kernel_rfl) (by kernel_rfl) (L := L0) (kp := false) (by kernel_rfl) (inn := (innN fr_930)) (out := (outN fr_930)) (fun _ _ => rfl) (loopsL (l := []) (by kernel_rfl) trivial) (fun x y => by kernel_rfl)
noncomputable def O_93e : Orc := (orm c_93d c_929)
theorem okO_93e : OrcOk PR O_93e := (orm_ok ok_93d ok_929)
abbrev fa_93e : Fm := (.pair (.i .i64) (.pair .b (.pair .b (.pair .b (.pair .b .unit)))))
abbrev fr_93e : Fm := (.tup (.pair (.i .u32) (.pair (.agg (.pair .b (.pair .b (.pair .b (.pair .b (.pair .b .unit)))))) .unit)))
noncomputable def F_93e (a0 : Int) (a1 : Bool) (a2 : Bool) (a3 : Bool) (a4 : Bool) : Option (Int × (Bool × Bool × Bool × Bool × Bool × Unit) × Unit) :=
 bif a3 then
 bif a4 then
 bif (!(a1 == a2)) then
 ((F_93d a0)).bind fun r0 =>
 (some r0)
 else
 bif a3 then
 ((F_929 a0 a1)).bind fun r1 =>
 (some (r1, ((false, (false, (false, (false, (false, ()))))), ())))
 else
 ((F_929 a0 a2)).bind fun r2 =>
 (some (r2, ((false, (false, (false, (false, (false, ()))))), ())))
 else
 bif a3 then
 ((F_929 a0 a1)).bind fun r3 =>
 (some (r3, ((false, (false, (false, (false, (false, ()))))), ())))
 else
 ((F_929 a0 a2)).bind fun r4 =>
 (some (r4, ((false, (false, (false, (false, (false, ()))))), ())))
 else
 bif a3 then
 ((F_929 a0 a1)).bind fun r5 =>
 (some (r5, ((false, (false, (false, (false, (false, ()))))), ())))
 else
 ((F_929 a0 a2)).bind fun r6 =>
 (some (r6, ((false, (false, (false, (false, (false, ()))))), ())))
noncomputable def G_93e : T fa_93e → TH hN0 → Option (Int × (Bool × Bool × Bool × Bool × Bool × Unit) × Unit) := fun x y => F_93e x.1 x.2.1 x.2.2.1 x.2.2.2.1 x.2.2.2.2.1
noncomputable def c_93e : Orc := ent i_93e [] 0 (sp fa_93e hN0 fr_93e hN0 G_93e (outN fr_93e))
theorem ok_93e : OrcOk PR c_93e := fnT okO_93e mixed p_93e (by kernel_rfl) (by kernel_rfl) (L := L0) (kp := false) (by kernel_rfl) (inn := (innN fr_93e)) (out := (outN fr_93e)) (fun _ _ => rfl) (loopsL (l := []) (by kernel_rfl) trivial) (fun x y => by kernel_rfl)
noncomputable def O_95b : Orc := (orm c_92d c_945)
theorem okO_95b : OrcOk PR O_95b := (orm_ok ok_92d ok_945)
abbrev fa_95b : Fm := (.pair (.agg (.pair .b (.pair (.i .i64) (.pair (.i .u64) (.pair .b .unit))))) .unit)
abbrev fr_95b : Fm := (.agg (.pair .b (.pair (.i .i64) (.pair (.i .u64) (.pair .b .unit)))))
noncomputable def F_95b (a0 : Bool × Int × Int × Bool × Unit) : Option (Bool × Int × Int × Bool × Unit) :=
 let x0 : Int := a0.2.2.1
 ((F_92d x0)).bind fun r1 =>
 let x2 : Int := (IntKind.wrap .i64 ((62:Int) - r1))
 ((F_945 x0 (IntKind.wrap .i64 ((0:Int) - x2)))).bind fun r3 =>
 (some (a0.1, ((IntKind.wrap .i64 (a0.2.1 - x2)), (r3.1, a0.2.2.2))))
noncomputable def G_95b : T fa_95b → TH hN0 → Option (Bool × Int × Int × Bool × Unit) := fun x y => F_95b x.1
noncomputable def c_95b : Orc := ent i_95b [] 0 (sp fa_95b hN0 fr_95b hN0 G_95b (outN fr_95b))
theorem ok_95b : OrcOk PR c_95b := fnT okO_95b mixed p_95b (by kernel_rfl) (by kernel_rfl) (L := L0) (kp := false) (by kernel_rfl) (inn := (innN fr_95b)) (out := (outN fr_95b)) (fun _ _ => rfl) (loopsL (l := []) (by kernel_rfl) trivial) (fun x y => by kernel_rfl)
noncomputable def O_941 : Orc := (orm c_95b c_945)
theorem okO_941 : OrcOk PR O_941 := (orm_ok ok_95b ok_945)
abbrev fa_941 : Fm := (.pair (.agg (.pair .b (.pair (.i .i64) (.pair (.i .u64) (.pair .b .unit))))) (.pair (.agg (.pair .b (.pair (.i .i64) (.pair (.i .u64) (.pair .b .unit))))) .unit))
abbrev fr_941 : Fm := (.agg (.pair .b (.pair (.i .i64) (.pair (.i .u64) (.pair .b .unit)))))
noncomputable def F_941 (a0 : Bool × Int × Int × Bool × Unit) (a1 : Bool × Int × Int × Bool × Unit) : Option (Bool × Int × Int × Bool × Unit) :=
 let x0 : Int := a0.2.2.1
 let x1 : Int := a1.2.2.1
 bif (x0 == (0:Int)) then
 (some a1)
 else
 bif (x1 == (0:Int)) then
 (some a0)
 else
 ((F_95b a0)).bind fun r2 =>
 let x3 : Int := r2.2.2.1
 ((F_95b a1)).bind fun r4 =>
 let x5 : Bool := (r4.1 == r2.1)
 let x6 : Int := r4.2.2.1
 let x7 : Bool := (r2.1 == r4.1)
 bif (decide (r2.2.1 < r4.2.1)) then
 ((F_945 x3 (IntKind.wrap .i64 (r4.2.1 - r2.2.1)))).bind fun r8 =>
 let x9 : Int := (IntKind.wrap .u64 (x6 - r8.1))
 bif x5 then
 (some (r4.1, (r4.2.1, ((IntKind.wrap .u64 (x6 + r8.1)), r8.2))))
 else
 bif r8.2.1 then
 (some (r4.1, (r4.2.1, ((IntKind.wrap .u64 (x9 - (1:Int))), r8.2))))
 else
 (some (r4.1, (r4.2.1, (x9, r8.2))))
 else
 bif (r2.2.1 == r4.2.1) then
 bif (decide (x3 < x6)) then
 ((F_945 x3 (IntKind.wrap .i64 (r4.2.1 - r2.2.1)))).bind fun r10 =>
 let x11 : Int := (IntKind.wrap .u64 (x6 - r10.1))
 bif x5 then
 (some (r4.1, (r4.2.1, ((IntKind.wrap .u64 (x6 + r10.1)), r10.2))))
 else
 bif r10.2.1 then
 (some (r4.1, (r4.2.1, ((IntKind.wrap .u64 (x11 - (1:Int))), r10.2))))
 else
 (some (r4.1, (r4.2.1, (x11, r10.2))))
 else
 ((F_945 x6 (IntKind.wrap .i64 (r2.2.1 - r4.2.1)))).bind fun r12 =>
 let x13 : Int := (IntKind.wrap .u64 (x3 - r12.1))
 bif x7 then
 (some (r2.1, (r2.2.1, ((IntKind.wrap .u64 (x3 + r12.1)), r12.2))))
 else
 bif r12.2.1 then
 (some (r2.1, (r2.2.1, ((IntKind.wrap .u64 (x13 - (1:Int))), r12.2))))
 else
 (some (r2.1, (r2.2.1, (x13, r12.2))))
 else
 ((F_945 x6 (IntKind.wrap .i64 (r2.2.1 - r4.2.1)))).bind fun r14 =>
 let x15 : Int := (IntKind.wrap .u64 (x3 - r14.1))
 bif x7 then
 (some (r2.1, (r2.2.1, ((IntKind.wrap .u64 (x3 + r14.1)), r14.2))))
 else
 bif r14.2.1 then
 (some (r2.1, (r2.2.1, ((IntKind.wrap .u64 (x15 - (1:Int))), r14.2))))
 else
 (some (r2.1, (r2.2.1, (x15, r14.2))))
noncomputable def G_941 : T fa_941 → TH hN0 → Option (Bool × Int × Int × Bool × Unit) := fun x y => F_941 x.1 x.2.1
noncomputable def c_941 : Orc := ent i_941 [] 0 (sp fa_941 hN0 fr_941 hN0 G_941 (outN fr_941))
theorem ok_941 : OrcOk PR c_941 := fnT okO_941 mixed p_941 (by kernel_rfl) (by kernel_rfl) (L := L0) (kp := false) (by kernel_rfl) (inn := (innN fr_941)) (out := (outN fr_941)) (fun _ _ => rfl) (loopsL (l := []) (by kernel_rfl) trivial) (fun x y => by kernel_rfl)
noncomputable def O_942 : Orc := c_944
theorem okO_942 : OrcOk PR O_942 := ok_944
abbrev fa_942 : Fm := (.pair (.i .i64) (.pair (.i .i64) (.pair .b (.pair .b .unit))))
abbrev fr_942 : Fm := (.i .u32)
noncomputable def F_942 (a0 : Int) (a1 : Int) (a2 : Bool) (a3 : Bool) : Option (Int) :=
 bif (a2 == a3) then
 ((F_944 a0 a2)).bind fun r0 =>
 (some r0)
 else
 ((F_944 a0 (a1 == (3:Int)))).bind fun r1 =>
 (some r1)
noncomputable def G_942 : T fa_942 → TH hN0 → Option (Int) := fun x y => F_942 x.1 x.2.1 x.2.2.1 x.2.2.2.1
noncomputable def c_942 : Orc := ent i_942 [] 0 (sp fa_942 hN0 fr_942 hN0 G_942 (outN fr_942))
theorem ok_942 : OrcOk PR c_942 := fnT okO_942 mixed p_942 (by kernel_rfl) (by kernel_rfl) (L := L0) (kp := false) (by kernel_rfl) (inn := (innN fr_942)) (out := (outN fr_942)) (fun _ _ => rfl) (loopsL (l := []) (by kernel_rfl) trivial) (fun x y => by kernel_rfl)
noncomputable def O_920 : Orc := (orm c_93c (orm c_93a (orm c_93d (orm c_92a (orm c_92b (orm c_93e (orm c_93f (orm c_940 (orm c_941 (orm c_942 c_938))))))))))
theorem okO_920 : OrcOk PR O_920 := (orm_ok ok_93c (orm_ok ok_93a (orm_ok ok_93d (orm_ok ok_92a (orm_ok ok_92b (orm_ok ok_93e (orm_ok ok_93f (orm_ok ok_940 (orm_ok ok_941 (orm_ok ok_942 ok_938))))))))))
abbrev fa_920 : Fm := (.pair (.i .i64) (.pair (.i .i64) (.pair (.i .u32) (.pair (.i .u32) (.pair (.i .u32) .unit)))))
abbrev fr_920 : Fm := (.tup (.pair (.i .u32) (.pair (.agg (.pair .b (.pair .b (.pair .b (.pair .b (.pair .b .unit)))))) .unit)))
noncomputable def F_920 (a0 : Int) (a1 : Int) (a2 : Int) (a3 : Int) (a4 : Int) : Option (Int × (Bool × Bool × Bool × Bool × Bool × Unit) × Unit) :=
 ((F_93c a0 a2 a3)).bind fun r0 =>
 ((F_93a a0 [a2, a3, a4])).bind fun r1 =>
 let x2 : Bool := r1.2.2.1
 let x3 : Bool := r1.2.1.1
 bif x2 then
 bif x3 then
 (some (r1.1, ((true, r1.2.1.2), ())))
 else
 (some (r1.1, ((r0, r1.2.1.2), ())))
 else
 bif r0 then
 ((F_93d a0)).bind fun r4 =>
 (some r4)
 else
 ((F_92a a0 a2)).bind fun r5 =>
 ((F_92a a0 a3)).bind fun r6 =>
 let x7 : Bool := (!(r5 == r6))
 ((F_92b a0 a2)).bind fun r8 =>
 bif r8 then
 ((F_92b a0 a4)).bind fun r9 =>
 ((F_92a a0 a4)).bind fun r10 =>
 ((F_93e a0 x7 r10 true r9)).bind fun r11 =>
 (some r11)
 else
 ((F_92b a0 a3)).bind fun r12 =>
 ((F_92b a0 a4)).bind fun r13 =>
 bif r12 then
 ((F_92a a0 a4)).bind fun r14 =>
 ((F_93e a0 x7 r14 r12 r13)).bind fun r15 =>
 (some r15)
 else
 bif r13 then
 ((F_92a a0 a4)).bind fun r16 =>
 ((F_93e a0 x7 r16 r12 r13)).bind fun r17 =>
 (some r17)
 else
 ((F_93f a0 a2 a3)).bind fun r18 =>
 ((F_940 a0 a4)).bind fun r19 =>
 ((F_941 r18 r19)).bind fun r20 =>
 let x21 : Int := r20.2.2.1
 let x22 : Bool := r20.2.2.2.1
 bif (x21 == (0:Int)) then
 bif (!x22) then
 ((F_942 a0 a1 x7 r19.1)).bind fun r23 =>
 (some (r23, ((false, (false, (false, (false, (false, ()))))), ())))
 else
 ((F_938 a0 a1 r20.1 r20.2.1 x21 x22)).bind fun r24 =>
 (some r24)
 else
 ((F_938 a0 a1 r20.1 r20.2.1 x21 x22)).bind fun r25 =>
 (some r25)
noncomputable def G_920 : T fa_920 → TH hN0 → Option (Int × (Bool × Bool × Bool × Bool × Bool × Unit) × Unit) := fun x y => F_920 x.1 x.2.1 x.2.2.1 x.2.2.2.1 x.2.2.2.2.1
noncomputable def c_920 : Orc := ent i_920 [] 0 (sp fa_920 hN0 fr_920 hN0 G_920 (outN fr_920))
theorem ok_920 : OrcOk PR c_920 := fnT okO_920 mixed p_920 (by kernel_rfl) (by kernel_rfl) (L := L0) (kp := false) (by kernel_rfl) (inn := (innN fr_920)) (out := (outN fr_920)) (fun _ _ => rfl) (loopsL (l := []) (by kernel_rfl) trivial) (fun x y => by kernel_rfl)
noncomputable def O_9e : Orc := c_920
theorem okO_9e : OrcOk PR O_9e := ok_920
abbrev fa_9e : Fm := (.pair (.i .u32) (.pair (.i .u32) (.pair (.i .u32) .unit)))
abbrev fr_9e : Fm := (.i .u32)
noncomputable def F_9e (a0 : Int) (a1 : Int) (a2 : Int) : Option (Int) :=
 ((F_920 (2:Int) (0:Int) a0 a1 a2)).bind fun r0 =>
 (some r0.1)
noncomputable def G_9e : T fa_9e → TH hN0 → Option (Int) := fun x y => F_9e x.1 x.2.1 x.2.2.1
noncomputable def c_9e : Orc := ent i_9e [] 0 (sp fa_9e hN0 fr_9e hN0 G_9e (outN fr_9e))
theorem ok_9e : OrcOk PR c_9e := fnT okO_9e mixed p_9e (by kernel_rfl) (by kernel_rfl) (L := L0) (kp := false) (by kernel_rfl) (inn := (innN fr_9e)) (out := (outN fr_9e)) (fun _ _ => rfl) (loopsL (l := []) (by kernel_rfl) trivial) (fun x y => by kernel_rfl)
noncomputable def O_922 : Orc := (orm c_93a (orm c_92b (orm c_92a (orm c_93e (orm c_940 (orm c_941 (orm c_942 c_938)))))))
theorem okO_922 : OrcOk PR O_922 := (orm_ok ok_93a (orm_ok ok_92b (orm_ok ok_92a (orm_ok ok_93e (orm_ok ok_940 (orm_ok ok_941 (orm_ok ok_942 ok_938)))))))
abbrev fa_922 : Fm := (.pair (.i .i64) (.pair (.i .i64) (.pair (.i .u32) (.pair (.i .u32) .unit))))
abbrev fr_922 : Fm := (.tup (.pair (.i .u32) (.pair (.agg (.pair .b (.pair .b (.pair .b (.pair .b (.pair .b .unit)))))) .unit)))
noncomputable def F_922 (a0 : Int) (a1 : Int) (a2 : Int) (a3 : Int) : Option (Int × (Bool × Bool × Bool × Bool × Bool × Unit) × Unit) :=
 ((F_93a a0 [a2, a3])).bind fun r0 =>
 let x1 : Bool := r0.2.2.1
 bif x1 then
 (some (r0.1, (r0.2.1, ())))
 else
 ((F_92b a0 a2)).bind fun r2 =>
 ((F_92b a0 a3)).bind fun r3 =>
 bif r2 then
 ((F_92a a0 a2)).bind fun r4 =>
 ((F_92a a0 a3)).bind fun r5 =>
 ((F_93e a0 r4 r5 r2 r3)).bind fun r6 =>
 (some r6)
 else
 bif r3 then
 ((F_92a a0 a2)).bind fun r7 =>
 ((F_92a a0 a3)).bind fun r8 =>
 ((F_93e a0 r7 r8 r2 r3)).bind fun r9 =>
 (some r9)
 else
 ((F_940 a0 a2)).bind fun r10 =>
 ((F_940 a0 a3)).bind fun r11 =>
 ((F_941 r10 r11)).bind fun r12 =>
 let x13 : Int := r12.2.2.1
 let x14 : Bool := r12.2.2.2.1
 bif (x13 == (0:Int)) then
 bif (!x14) then
 ((F_942 a0 a1 r10.1 r11.1)).bind fun r15 =>
 (some (r15, ((false, (false, (false, (false, (false, ()))))), ())))
 else
 ((F_938 a0 a1 r12.1 r12.2.1 x13 x14)).bind fun r16 =>
 (some r16)
 else
 ((F_938 a0 a1 r12.1 r12.2.1 x13 x14)).bind fun r17 =>
 (some r17)
noncomputable def G_922 : T fa_922 → TH hN0 → Option (Int × (Bool × Bool × Bool × Bool × Bool × Unit) × Unit) := fun x y => F_922 x.1 x.2.1 x.2.2.1 x.2.2.2.1
noncomputable def c_922 : Orc := ent i_922 [] 0 (sp fa_922 hN0 fr_922 hN0 G_922 (outN fr_922))
theorem ok_922 : OrcOk PR c_922 := fnT okO_922 mixed p_922 (by kernel_rfl) (by kernel_rfl) (L := L0) (kp := false) (by kernel_rfl) (inn := (innN fr_922)) (out := (outN fr_922)) (fun _ _ => rfl) (loopsL (l := []) (by kernel_rfl) trivial) (fun x y => by kernel_rfl)
noncomputable def O_91f : Orc := (orm c_93a (orm c_93b c_922))
theorem okO_91f : OrcOk PR O_91f := (orm_ok ok_93a (orm_ok ok_93b ok_922))
abbrev fa_91f : Fm := (.pair (.i .i64) (.pair (.i .i64) (.pair (.i .u32) (.pair (.i .u32) .unit))))
abbrev fr_91f : Fm := (.tup (.pair (.i .u32) (.pair (.agg (.pair .b (.pair .b (.pair .b (.pair .b (.pair .b .unit)))))) .unit)))
noncomputable def F_91f (a0 : Int) (a1 : Int) (a2 : Int) (a3 : Int) : Option (Int × (Bool × Bool × Bool × Bool × Bool × Unit) × Unit) :=
 ((F_93a a0 [a2, a3])).bind fun r0 =>
 let x1 : Bool := r0.2.2.1
 bif x1 then
 (some (r0.1, (r0.2.1, ())))
 else
 ((F_93b a0 a3)).bind fun r2 =>
 ((F_922 a0 a1 a2 r2)).bind fun r3 =>
 (some r3)
noncomputable def G_91f : T fa_91f → TH hN0 → Option (Int × (Bool × Bool × Bool × Bool × Bool × Unit) × Unit) := fun x y => F_91f x.1 x.2.1 x.2.2.1 x.2.2.2.1
noncomputable def c_91f : Orc := ent i_91f [] 0 (sp fa_91f hN0 fr_91f hN0 G_91f (outN fr_91f))
theorem ok_91f : OrcOk PR c_91f := fnT okO_91f mixed p_91f (by kernel_rfl) (by kernel_rfl) (L := L0) (kp := false) (by kernel_rfl) (inn := (innN fr_91f)) (out := (outN fr_91f)) (fun _ _ => rfl) (loopsL (l := []) (by kernel_rfl) trivial) (fun x y => by kernel_rfl)
noncomputable def O_910 : Orc := c_922
theorem okO_910 : OrcOk PR O_910 := ok_922
abbrev fa_910 : Fm := (.pair (.i .u32) (.pair (.i .u32) .unit))
abbrev fr_910 : Fm := (.i .u32)
noncomputable def F_910 (a0 : Int) (a1 : Int) : Option (Int) :=
 ((F_922 (2:Int) (0:Int) a0 a1)).bind fun r0 =>
 (some r0.1)
noncomputable def G_910 : T fa_910 → TH hN0 → Option (Int) := fun x y => F_910 x.1 x.2.1
noncomputable def c_910 : Orc := ent i_910 [] 0 (sp fa_910 hN0 fr_910 hN0 G_910 (outN fr_910))
theorem ok_910 : OrcOk PR c_910 := fnT okO_910 mixed p_910 (by kernel_rfl) (by kernel_rfl) (L := L0) (kp := false) (by kernel_rfl) (inn := (innN fr_910)) (out := (outN fr_910)) (fun _ _ => rfl) (loopsL (l := []) (by kernel_rfl) trivial) (fun x y => by kernel_rfl)
noncomputable def O_9d : Orc := c_91f
theorem okO_9d : OrcOk PR O_9d := ok_91f
abbrev fa_9d : Fm := (.pair (.i .u32) (.pair (.i .u32) .unit))
abbrev fr_9d : Fm := (.i .u32)
noncomputable def F_9d (a0 : Int) (a1 : Int) : Option (Int) :=
 ((F_91f (2:Int) (0:Int) a0 a1)).bind fun r0 =>
 (some r0.1)
noncomputable def G_9d : T fa_9d → TH hN0 → Option (Int) := fun x y => F_9d x.1 x.2.1
noncomputable def c_9d : Orc := ent i_9d [] 0 (sp fa_9d hN0 fr_9d hN0 G_9d (outN fr_9d))
theorem ok_9d : OrcOk PR c_9d := fnT okO_9d mixed p_9d (by kernel_rfl) (by kernel_rfl) (L := L0) (kp := false) (by kernel_rfl) (inn := (innN fr_9d)) (out := (outN fr_9d)) (fun _ _ => rfl) (loopsL (l := []) (by kernel_rfl) trivial) (fun x y => by kernel_rfl)
noncomputable def O_95d : Orc := (orm c_92d (orm c_957 c_958))
theorem okO_95d : OrcOk PR O_95d := (orm_ok ok_92d (orm_ok ok_957 ok_958))
abbrev fa_95d : Fm := (.pair (.agg (.pair .b (.pair (.i .i64) (.pair (.i .u64) (.pair .b .unit))))) (.pair (.i .i64) .unit))
abbrev fr_95d : Fm := (.tup (.pair (.i .u64) (.pair .b .unit)))
noncomputable def F_95d (a0 : Bool × Int × Int × Bool × Unit) (a1 : Int) : Option (Int × Bool × Unit) :=
 let x0 : Int := a0.2.2.1
 ((F_92d x0)).bind fun r1 =>
 bif (decide ((IntKind.wrap .i64 (a0.2.1 + r1)) > (40:Int))) then
 (some ((1099511627776:Int), (false, ())))
 else
 ((F_957 x0 (IntKind.wrap .i64 ((0:Int) - a0.2.1)) false)).bind fun r2 =>
 ((F_958 a1 a0.1 r2.1 r2.2.1)).bind fun r3 =>
 (some ((bif r3 then (IntKind.wrap .u64 (r2.1 + (1:Int))) else r2.1), ((r2.2.1 != (0:Int)), ())))
noncomputable def G_95d : T fa_95d → TH hN0 → Option (Int × Bool × Unit) := fun x y => F_95d x.1 x.2.1
noncomputable def c_95d : Orc := ent i_95d [] 0 (sp fa_95d hN0 fr_95d hN0 G_95d (outN fr_95d))
theorem ok_95d : OrcOk PR c_95d := fnT okO_95d mixed p_95d (by kernel_rfl) (by kernel_rfl) (L := L0) (kp := false) (by kernel_rfl) (inn := (innN fr_95d)) (out := (outN fr_95d)) (fun _ _ => rfl) (loopsL (l := []) (by kernel_rfl) trivial) (fun x y => by kernel_rfl)
noncomputable def O_948 : Orc := (orm c_95c (orm c_940 c_95d))
theorem okO_948 : OrcOk PR O_948 := (orm_ok ok_95c (orm_ok ok_940 ok_95d))
abbrev fa_948 : Fm := (.pair (.i .i64) (.pair (.i .i64) (.pair (.i .u32) .unit)))
abbrev fr_948 : Fm := (.tup (.pair (.i .i32) (.pair (.agg (.pair .b (.pair .b (.pair .b (.pair .b (.pair .b .unit)))))) .unit)))
noncomputable def F_948 (a0 : Int) (a1 : Int) (a2 : Int) : Option (Int × (Bool × Bool × Bool × Bool × Bool × Unit) × Unit) :=
 ((F_95c a0 a2)).bind fun r0 =>
 bif r0 then
 ((F_940 a0 a2)).bind fun r1 =>
 ((F_95d r1 a1)).bind fun r2 =>
 let x3 : Int := (IntKind.wrap .i64 r2.1)
 let x4 : Int := (bif r1.1 then (IntKind.wrap .i64 ((0:Int) - x3)) else x3)
 let x5 : Int := (IntKind.wrap .i32 x4)
 bif (x4 == (IntKind.wrap .i64 x5)) then
 (some (x5, ((false, (false, (false, (false, r2.2)))), ())))
 else
 (some ((-(2147483648:Int)), ((true, (false, (false, (false, (false, ()))))), ())))
 else
 (some ((-(2147483648:Int)), ((true, (false, (false, (false, (false, ()))))), ())))
noncomputable def G_948 : T fa_948 → TH hN0 → Option (Int × (Bool × Bool × Bool × Bool × Bool × Unit) × Unit) := fun x y => F_948 x.1 x.2.1 x.2.2.1
noncomputable def c_948 : Orc := ent i_948 [] 0 (sp fa_948 hN0 fr_948 hN0 G_948 (outN fr_948))
theorem ok_948 : OrcOk PR c_948 := fnT okO_948 mixed p_948 (by kernel_rfl) (by kernel_rfl) (L := L0) (kp := false) (by kernel_rfl) (inn := (innN fr_948)) (out := (outN fr_948)) (fun _ _ => rfl) (loopsL (l := []) (by kernel_rfl) trivial) (fun x y => by kernel_rfl)
noncomputable def O_939 : Orc := orn
theorem okO_939 : OrcOk PR O_939 := (orn_ok _)
abbrev fa_939 : Fm := (.pair (.i .i64) .unit)
abbrev fr_939 : Fm := (.i .u64)
noncomputable def F_939 (a0 : Int) : Option (Int) :=
 bif (decide (a0 < (0:Int))) then
 (some (IntKind.wrap .u64 ((0:Int) - (IntKind.wrap .u64 a0))))
 else
 (some (IntKind.wrap .u64 a0))
noncomputable def G_939 : T fa_939 → TH hN0 → Option (Int) := fun x y => F_939 x.1
noncomputable def c_939 : Orc := ent i_939 [] 0 (sp fa_939 hN0 fr_939 hN0 G_939 (outN fr_939))
theorem ok_939 : OrcOk PR c_939 := fnT okO_939 mixed p_939 (by kernel_rfl) (by kernel_rfl) (L := L0) (kp := false) (by kernel_rfl) (inn := (innN fr_939)) (out := (outN fr_939)) (fun _ _ => rfl) (loopsL (l := []) (by kernel_rfl) trivial) (fun x y => by kernel_rfl)
noncomputable def O_91e : Orc := (orm c_939 c_938)
theorem okO_91e : OrcOk PR O_91e := (orm_ok ok_939 ok_938)
abbrev fa_91e : Fm := (.pair (.i .i64) (.pair (.i .i64) (.pair (.i .i64) .unit)))
abbrev fr_91e : Fm := (.tup (.pair (.i .u32) (.pair (.agg (.pair .b (.pair .b (.pair .b (.pair .b (.pair .b .unit)))))) .unit)))
noncomputable def F_91e (a0 : Int) (a1 : Int) (a2 : Int) : Option (Int × (Bool × Bool × Bool × Bool × Bool × Unit) × Unit) :=
 ((F_939 a2)).bind fun r0 =>
 ((F_938 a0 a1 (decide (a2 < (0:Int))) (0:Int) r0 false)).bind fun r1 =>
 (some r1)
noncomputable def G_91e : T fa_91e → TH hN0 → Option (Int × (Bool × Bool × Bool × Bool × Bool × Unit) × Unit) := fun x y => F_91e x.1 x.2.1 x.2.2.1
noncomputable def c_91e : Orc := ent i_91e [] 0 (sp fa_91e hN0 fr_91e hN0 G_91e (outN fr_91e))
theorem ok_91e : OrcOk PR c_91e := fnT okO_91e mixed p_91e (by kernel_rfl) (by kernel_rfl) (L := L0) (kp := false) (by kernel_rfl) (inn := (innN fr_91e)) (out := (outN fr_91e)) (fun _ _ => rfl) (loopsL (l := []) (by kernel_rfl) trivial) (fun x y => by kernel_rfl)
noncomputable def O_9c : Orc := c_91e
theorem okO_9c : OrcOk PR O_9c := ok_91e
abbrev fa_9c : Fm := (.pair (.i .i64) .unit)
abbrev fr_9c : Fm := (.i .u32)
noncomputable def F_9c (a0 : Int) : Option (Int) :=
 ((F_91e (2:Int) (0:Int) a0)).bind fun r0 =>
 (some r0.1)
noncomputable def G_9c : T fa_9c → TH hN0 → Option (Int) := fun x y => F_9c x.1
noncomputable def c_9c : Orc := ent i_9c [] 0 (sp fa_9c hN0 fr_9c hN0 G_9c (outN fr_9c))
theorem ok_9c : OrcOk PR c_9c := fnT okO_9c mixed p_9c (by kernel_rfl) (by kernel_rfl) (L := L0) (kp := false) (by kernel_rfl) (inn := (innN fr_9c)) (out := (outN fr_9c)) (fun _ _ => rfl) (loopsL (l := []) (by kernel_rfl) trivial) (fun x y => by kernel_rfl)
noncomputable def O_95e : Orc := (orm c_93a (orm c_936 (orm c_92b c_928)))
theorem okO_95e : OrcOk PR O_95e := (orm_ok ok_93a (orm_ok ok_936 (orm_ok ok_92b ok_928)))
abbrev fa_95e : Fm := (.pair (.i .i64) (.pair (.i .u32) .unit))
abbrev fr_95e : Fm := (.tup (.pair (.i .u32) (.pair (.agg (.pair .b (.pair .b (.pair .b (.pair .b (.pair .b .unit)))))) (.pair .b .unit))))
noncomputable def F_95e (a0 : Int) (a1 : Int) : Option (Int × (Bool × Bool × Bool × Bool × Bool × Unit) × Bool × Unit) :=
 ((F_93a a0 [a1])).bind fun r0 =>
 let x1 : Bool := r0.2.2.1
 bif x1 then
 (some (r0.1, (r0.2.1, (true, ()))))
 else
 ((F_936 a0)).bind fun r2 =>
 let x3 : Int := (bits .and .u32 a1 r2)
 ((F_92b a0 a1)).bind fun r4 =>
 bif r4 then
 (some (x3, ((false, (false, (false, (false, (false, ()))))), (true, ()))))
 else
 ((F_928 a0 a1)).bind fun r5 =>
 (some (x3, ((false, (false, (false, (false, (false, ()))))), (r5, ()))))
noncomputable def G_95e : T fa_95e → TH hN0 → Option (Int × (Bool × Bool × Bool × Bool × Bool × Unit) × Bool × Unit) := fun x y => F_95e x.1 x.2.1
noncomputable def c_95e : Orc := ent i_95e [] 0 (sp fa_95e hN0 fr_95e hN0 G_95e (outN fr_95e))
theorem ok_95e : OrcOk PR c_95e := fnT okO_95e mixed p_95e (by kernel_rfl) (by kernel_rfl) (L := L0) (kp := false) (by kernel_rfl) (inn := (innN fr_95e)) (out := (outN fr_95e)) (fun _ _ => rfl) (loopsL (l := []) (by kernel_rfl) trivial) (fun x y => by kernel_rfl)
noncomputable def O_952 : Orc := (orm c_95e (orm c_940 c_938))
theorem okO_952 : OrcOk PR O_952 := (orm_ok ok_95e (orm_ok ok_940 ok_938))
abbrev fa_952 : Fm := (.pair (.i .i64) (.pair (.i .i64) (.pair (.i .u32) (.pair (.i .i64) .unit))))
abbrev fr_952 : Fm := (.tup (.pair (.i .u32) (.pair (.agg (.pair .b (.pair .b (.pair .b (.pair .b (.pair .b .unit)))))) .unit)))
noncomputable def F_952 (a0 : Int) (a1 : Int) (a2 : Int) (a3 : Int) : Option (Int × (Bool × Bool × Bool × Bool × Bool × Unit) × Unit) :=
 ((F_95e a0 a2)).bind fun r0 =>
 let x1 : Bool := r0.2.2.1
 bif x1 then
 (some (r0.1, (r0.2.1, ())))
 else
 ((F_940 a0 a2)).bind fun r2 =>
 let x3 : Int := r2.2.2.1
 ((F_938 a0 a1 r2.1 (IntKind.wrap .i64 (r2.2.1 + (mn (mx a3 (-(5000:Int))) (5000:Int)))) x3 false)).bind fun r4 =>
 (some r4)
noncomputable def G_952 : T fa_952 → TH hN0 → Option (Int × (Bool × Bool × Bool × Bool × Bool × Unit) × Unit) := fun x y => F_952 x.1 x.2.1 x.2.2.1 x.2.2.2.1
noncomputable def c_952 : Orc := ent i_952 [] 0 (sp fa_952 hN0 fr_952 hN0 G_952 (outN fr_952))
theorem ok_952 : OrcOk PR c_952 := fnT okO_952 mixed p_952 (by kernel_rfl) (by kernel_rfl) (L := L0) (kp := false) (by kernel_rfl) (inn := (innN fr_952)) (out := (outN fr_952)) (fun _ _ => rfl) (loopsL (l := []) (by kernel_rfl) trivial) (fun x y => by kernel_rfl)
noncomputable def O_92e : Orc := c_952
theorem okO_92e : OrcOk PR O_92e := ok_952
abbrev fa_92e : Fm := (.pair (.i .u32) (.pair (.i .i64) .unit))
abbrev fr_92e : Fm := (.i .u32)
noncomputable def F_92e (a0 : Int) (a1 : Int) : Option (Int) :=
 ((F_952 (2:Int) (0:Int) a0 a1)).bind fun r0 =>
 (some r0.1)
noncomputable def G_92e : T fa_92e → TH hN0 → Option (Int) := fun x y => F_92e x.1 x.2.1
noncomputable def c_92e : Orc := ent i_92e [] 0 (sp fa_92e hN0 fr_92e hN0 G_92e (outN fr_92e))
theorem ok_92e : OrcOk PR c_92e := fnT okO_92e mixed p_92e (by kernel_rfl) (by kernel_rfl) (L := L0) (kp := false) (by kernel_rfl) (inn := (innN fr_92e)) (out := (outN fr_92e)) (fun _ _ => rfl) (loopsL (l := []) (by kernel_rfl) trivial) (fun x y => by kernel_rfl)
noncomputable def O_921 : Orc := (orm c_93a (orm c_92a (orm c_943 (orm c_93d (orm c_929 (orm c_944 (orm c_940 (orm c_92d (orm c_945 c_938)))))))))
theorem okO_921 : OrcOk PR O_921 := (orm_ok ok_93a (orm_ok ok_92a (orm_ok ok_943 (orm_ok ok_93d (orm_ok ok_929 (orm_ok ok_944 (orm_ok ok_940 (orm_ok ok_92d (orm_ok ok_945 ok_938)))))))))
abbrev fa_921 : Fm := (.pair (.i .i64) (.pair (.i .i64) (.pair (.i .u32) (.pair (.i .u32) .unit))))
abbrev fr_921 : Fm := (.tup (.pair (.i .u32) (.pair (.agg (.pair .b (.pair .b (.pair .b (.pair .b (.pair .b .unit)))))) .unit)))
noncomputable def F_921 (a0 : Int) (a1 : Int) (a2 : Int) (a3 : Int) : Option (Int × (Bool × Bool × Bool × Bool × Bool × Unit) × Unit) :=
 ((F_93a a0 [a2, a3])).bind fun r0 =>
 let x1 : Bool := r0.2.2.1
 bif x1 then
 (some (r0.1, (r0.2.1, ())))
 else
 ((F_92a a0 a2)).bind fun r2 =>
 ((F_92a a0 a3)).bind fun r3 =>
 let x4 : Bool := (!(r2 == r3))
 ((F_943 a0 a2)).bind fun r5 =>
 ((F_943 a0 a3)).bind fun r6 =>
 bif (r5 == r6) then
 bif (r5 == (0:Int)) then
 ((F_93d a0)).bind fun r7 =>
 (some r7)
 else
 bif (r5 == (3:Int)) then
 ((F_93d a0)).bind fun r8 =>
 (some r8)
 else
 bif (r5 == (3:Int)) then
 ((F_929 a0 x4)).bind fun r9 =>
 (some (r9, ((false, (false, (false, (false, (false, ()))))), ())))
 else
 bif (r6 == (3:Int)) then
 ((F_944 a0 x4)).bind fun r10 =>
 (some (r10, ((false, (false, (false, (false, (false, ()))))), ())))
 else
 bif (r5 == (0:Int)) then
 ((F_944 a0 x4)).bind fun r11 =>
 (some (r11, ((false, (false, (false, (false, (false, ()))))), ())))
 else
 bif (r6 == (0:Int)) then
 ((F_929 a0 x4)).bind fun r12 =>
 (some (r12, ((false, (true, (false, (false, (false, ()))))), ())))
 else
 ((F_940 a0 a2)).bind fun r13 =>
 let x14 : Int := r13.2.2.1
 ((F_940 a0 a3)).bind fun r15 =>
 let x16 : Int := r15.2.2.1
 let x17 : Bool := (x16 == (0:Int))
 ((F_92d x14)).bind fun r18 =>
 let x19 : Int := (IntKind.wrap .i64 ((62:Int) - r18))
 ((F_945 x14 (IntKind.wrap .i64 ((0:Int) - x19)))).bind fun r20 =>
 bif x17 then
 none
 else
 bif x17 then
 none
 else
 ((F_938 a0 a1 x4 (IntKind.wrap .i64 ((IntKind.wrap .i64 (r13.2.1 - x19)) - r15.2.1)) (IntKind.wrap .u64 (Int.tdiv r20.1 x16)) ((Int.tmod r20.1 x16) != (0:Int)))).bind fun r21 =>
 (some r21)
 else
 bif (r5 == (3:Int)) then
 ((F_929 a0 x4)).bind fun r22 =>
 (some (r22, ((false, (false, (false, (false, (false, ()))))), ())))
 else
 bif (r6 == (3:Int)) then
 ((F_944 a0 x4)).bind fun r23 =>
 (some (r23, ((false, (false, (false, (false, (false, ()))))), ())))
 else
 bif (r5 == (0:Int)) then
 ((F_944 a0 x4)).bind fun r24 =>
 (some (r24, ((false, (false, (false, (false, (false, ()))))), ())))
 else
 bif (r6 == (0:Int)) then
 ((F_929 a0 x4)).bind fun r25 =>
 (some (r25, ((false, (true, (false, (false, (false, ()))))), ())))
 else
 ((F_940 a0 a2)).bind fun r26 =>
 let x27 : Int := r26.2.2.1
 ((F_940 a0 a3)).bind fun r28 =>
 let x29 : Int := r28.2.2.1
 let x30 : Bool := (x29 == (0:Int))
 ((F_92d x27)).bind fun r31 =>
 let x32 : Int := (IntKind.wrap .i64 ((62:Int) - r31))
 ((F_945 x27 (IntKind.wrap .i64 ((0:Int) - x32)))).bind fun r33 =>
 bif x30 then
 none
 else
 bif x30 then
 none
 else
 ((F_938 a0 a1 x4 (IntKind.wrap .i64 ((IntKind.wrap .i64 (r26.2.1 - x32)) - r28.2.1)) (IntKind.wrap .u64 (Int.tdiv r33.1 x29)) ((Int.tmod r33.1 x29) != (0:Int)))).bind fun r34 =>
 (some r34)
noncomputable def G_921 : T fa_921 → TH hN0 → Option (Int × (Bool × Bool × Bool × Bool × Bool × Unit) × Unit) := fun x y => F_921 x.1 x.2.1 x.2.2.1 x.2.2.2.1
noncomputable def c_921 : Orc := ent i_921 [] 0 (sp fa_921 hN0 fr_921 hN0 G_921 (outN fr_921))
theorem ok_921 : OrcOk PR c_921 := fnT okO_921 mixed p_921 (by kernel_rfl) (by kernel_rfl) (L := L0) (kp := false) (by kernel_rfl) (inn := (innN fr_921)) (out := (outN fr_921)) (fun _ _ => rfl) (loopsL (l := []) (by kernel_rfl) trivial) (fun x y => by kernel_rfl)
noncomputable def O_9f : Orc := c_921
theorem okO_9f : OrcOk PR O_9f := ok_921
abbrev fa_9f : Fm := (.pair (.i .u32) (.pair (.i .u32) .unit))
abbrev fr_9f : Fm := (.i .u32)
noncomputable def F_9f (a0 : Int) (a1 : Int) : Option (Int) :=
 ((F_921 (2:Int) (0:Int) a0 a1)).bind fun r0 =>
 (some r0.1)
noncomputable def G_9f : T fa_9f → TH hN0 → Option (Int) := fun x y => F_9f x.1 x.2.1
noncomputable def c_9f : Orc := ent i_9f [] 0 (sp fa_9f hN0 fr_9f hN0 G_9f (outN fr_9f))
theorem ok_9f : OrcOk PR c_9f := fnT okO_9f mixed p_9f (by kernel_rfl) (by kernel_rfl) (L := L0) (kp := false) (by kernel_rfl) (inn := (innN fr_9f)) (out := (outN fr_9f)) (fun _ _ => rfl) (loopsL (l := []) (by kernel_rfl) trivial) (fun x y => by kernel_rfl)
noncomputable def O_937 : Orc := (orm c_943 (orm c_94b (orm c_93d (orm c_92a (orm c_929 (orm c_940 c_938))))))
theorem okO_937 : OrcOk PR O_937 := (orm_ok ok_943 (orm_ok ok_94b (orm_ok ok_93d (orm_ok ok_92a (orm_ok ok_929 (orm_ok ok_940 ok_938))))))
abbrev fa_937 : Fm := (.pair (.i .i64) (.pair (.i .i64) (.pair (.i .i64) (.pair (.i .u32) .unit))))
abbrev fr_937 : Fm := (.tup (.pair (.i .u32) (.pair (.agg (.pair .b (.pair .b (.pair .b (.pair .b (.pair .b .unit)))))) .unit)))
noncomputable def F_937 (a0 : Int) (a1 : Int) (a2 : Int) (a3 : Int) : Option (Int × (Bool × Bool × Bool × Bool × Bool × Unit) × Unit) :=
 ((F_943 a0 a3)).bind fun r0 =>
 bif (r0 == (4:Int)) then
 ((F_94b a1)).bind fun r1 =>
 (some (r1, ((false, (false, (false, (false, (false, ()))))), ())))
 else
 bif (r0 == (5:Int)) then
 ((F_93d a1)).bind fun r2 =>
 (some r2)
 else
 bif (r0 == (3:Int)) then
 ((F_92a a0 a3)).bind fun r3 =>
 ((F_929 a1 r3)).bind fun r4 =>
 (some (r4, ((false, (false, (false, (false, (false, ()))))), ())))
 else
 ((F_940 a0 a3)).bind fun r5 =>
 let x6 : Int := r5.2.2.1
 ((F_938 a1 a2 r5.1 r5.2.1 x6 false)).bind fun r7 =>
 (some r7)
noncomputable def G_937 : T fa_937 → TH hN0 → Option (Int × (Bool × Bool × Bool × Bool × Bool × Unit) × Unit) := fun x y => F_937 x.1 x.2.1 x.2.2.1 x.2.2.2.1
noncomputable def c_937 : Orc := ent i_937 [] 0 (sp fa_937 hN0 fr_937 hN0 G_937 (outN fr_937))
theorem ok_937 : OrcOk PR c_937 := fnT okO_937 mixed p_937 (by kernel_rfl) (by kernel_rfl) (L := L0) (kp := false) (by kernel_rfl) (inn := (innN fr_937)) (out := (outN fr_937)) (fun _ _ => rfl) (loopsL (l := []) (by kernel_rfl) trivial) (fun x y => by kernel_rfl)
noncomputable def O_91d : Orc := c_937
theorem okO_91d : OrcOk PR O_91d := ok_937
abbrev fa_91d : Fm := (.pair (.i .i64) (.pair (.i .u32) .unit))
abbrev fr_91d : Fm := (.i .u32)
noncomputable def F_91d (a0 : Int) (a1 : Int) : Option (Int) :=
 ((F_937 a0 (2:Int) (0:Int) a1)).bind fun r0 =>
 (some r0.1)
noncomputable def G_91d : T fa_91d → TH hN0 → Option (Int) := fun x y => F_91d x.1 x.2.1
noncomputable def c_91d : Orc := ent i_91d [] 0 (sp fa_91d hN0 fr_91d hN0 G_91d (outN fr_91d))
theorem ok_91d : OrcOk PR c_91d := fnT okO_91d mixed p_91d (by kernel_rfl) (by kernel_rfl) (L := L0) (kp := false) (by kernel_rfl) (inn := (innN fr_91d)) (out := (outN fr_91d)) (fun _ _ => rfl) (loopsL (l := []) (by kernel_rfl) trivial) (fun x y => by kernel_rfl)
noncomputable def O_926 : Orc := c_94a
theorem okO_926 : OrcOk PR O_926 := ok_94a
abbrev fa_926 : Fm := (.pair (.i .u32) .unit)
abbrev fr_926 : Fm := .b
noncomputable def F_926 (a0 : Int) : Option (Bool) :=
 ((F_94a (2:Int) a0)).bind fun r0 =>
 (some r0)
noncomputable def G_926 : T fa_926 → TH hN0 → Option (Bool) := fun x y => F_926 x.1
noncomputable def c_926 : Orc := ent i_926 [] 0 (sp fa_926 hN0 fr_926 hN0 G_926 (outN fr_926))
theorem ok_926 : OrcOk PR c_926 := fnT okO_926 mixed p_926 (by kernel_rfl) (by kernel_rfl) (L := L0) (kp := false) (by kernel_rfl) (inn := (innN fr_926)) (out := (outN fr_926)) (fun _ _ => rfl) (loopsL (l := []) (by kernel_rfl) trivial) (fun x y => by kernel_rfl)
noncomputable def O_927 : Orc := c_94b
theorem okO_927 : OrcOk PR O_927 := ok_94b
abbrev fa_927 : Fm := .unit
abbrev fr_927 : Fm := (.i .u32)
noncomputable def F_927  : Option (Int) :=
 (some (2143289344:Int))
noncomputable def G_927 : T fa_927 → TH hN0 → Option (Int) := fun x y => F_927
noncomputable def c_927 : Orc := ent i_927 [] 0 (sp fa_927 hN0 fr_927 hN0 G_927 (outN fr_927))
theorem ok_927 : OrcOk PR c_927 := fnT okO_927 mixed p_927 (by kernel_rfl) (by kernel_rfl) (L := L0) (kp := false) (by kernel_rfl) (inn := (innN fr_927)) (out := (outN fr_927)) (fun _ _ => rfl) (loopsL (l := []) (by kernel_rfl) trivial) (fun x y => by kernel_rfl)
noncomputable def O_949 : Orc := c_93b
theorem okO_949 : OrcOk PR O_949 := ok_93b
abbrev fa_949 : Fm := (.pair (.i .u32) .unit)
abbrev fr_949 : Fm := (.i .u32)
noncomputable def F_949 (a0 : Int) : Option (Int) :=
 (some (bits .xor .u32 (bits .and .u32 a0 (4294967295:Int)) (2147483648:Int)))
noncomputable def G_949 : T fa_949 → TH hN0 → Option (Int) := fun x y => F_949 x.1
noncomputable def c_949 : Orc := ent i_949 [] 0 (sp fa_949 hN0 fr_949 hN0 G_949 (outN fr_949))
theorem ok_949 : OrcOk PR c_949 := fnT okO_949 mixed p_949 (by kernel_rfl) (by kernel_rfl) (L := L0) (kp := false) (by kernel_rfl) (inn := (innN fr_949)) (out := (outN fr_949)) (fun _ _ => rfl) (loopsL (l := []) (by kernel_rfl) trivial) (fun x y => by kernel_rfl)
noncomputable def O_92f : Orc := c_953
theorem okO_92f : OrcOk PR O_92f := ok_953
abbrev fa_92f : Fm := (.pair (.i .u32) (.pair (.i .u32) .unit))
abbrev fr_92f : Fm := .b
noncomputable def F_92f (a0 : Int) (a1 : Int) : Option (Bool) :=
 ((F_953 (2:Int) a1 a0)).bind fun r0 =>
 (some r0)
noncomputable def G_92f : T fa_92f → TH hN0 → Option (Bool) := fun x y => F_92f x.1 x.2.1
noncomputable def c_92f : Orc := ent i_92f [] 0 (sp fa_92f hN0 fr_92f hN0 G_92f (outN fr_92f))
theorem ok_92f : OrcOk PR c_92f := fnT okO_92f mixed p_92f (by kernel_rfl) (by kernel_rfl) (L := L0) (kp := false) (by kernel_rfl) (inn := (innN fr_92f)) (out := (outN fr_92f)) (fun _ _ => rfl) (loopsL (l := []) (by kernel_rfl) trivial) (fun x y => by kernel_rfl)
end Go.Proofs.Ytfpjkmgfkaoapaa.VI
