import Derived.Test.YtfpjkmgfkaoapaaT3dd2d5a7
namespace Go.Proofs.Ytfpjkmgfkaoapaa.VI
set_option linter.unusedVariables false
set_option linter.unusedSimpArgs false
set_option maxRecDepth 100000
noncomputable def O_937 : Orc := orn
theorem okO_937 : OrcOk PR O_937 := (orn_ok _)
abbrev fa_937 : Fm := (.pair (.i .i64) .unit)
abbrev fr_937 : Fm := .b
noncomputable def F_937 (a0 : Int) : Option (Bool) :=
 bif (a0 == (0:Int)) then
 (some true)
 else
 bif (a0 == (1:Int)) then
 (some true)
 else
 (some (a0 == (2:Int)))
noncomputable def G_937 : T fa_937 → TH hN0 → Option (Bool) := fun x y => F_937 x.1
noncomputable def c_937 : Orc := ent i_937 [] 0 (sp fa_937 hN0 fr_937 hN0 G_937 (outN fr_937))
theorem ok_937 : OrcOk PR c_937 := fnT okO_937 mixed p_937 (by kernel_rfl) (by kernel_rfl) (L := L0) (kp := false) (by kernel_rfl) (inn := (innN fr_937)) (out := (outN fr_937)) (fun _ _ => rfl) (loopsL (l := []) (by kernel_rfl) trivial) (fun x y => by kernel_rfl)
noncomputable def O_939 : Orc := c_93a
theorem okO_939 : OrcOk PR O_939 := ok_93a
abbrev fa_939 : Fm := (.pair (.i .u32) (.cst (.ref 0 1 0) .unit))
abbrev ha_939 : List BF := [(.list 1 y_90 true (.pair (.i .i64) (.pair (.i .i64) (.pair (.i .i64) (.pair (.si .u32) .unit)))))]
abbrev fr_939 : Fm := .b
abbrev hr_939 : List BF := [(.list 1 y_90 true (.pair (.i .i64) (.pair (.i .i64) (.pair (.i .i64) (.pair (.si .u32) .unit)))))]
def inn_939 : T fr_939 → TH hr_939 → (Bool) × ((Int × Int × Int × List Int × Unit) × Unit) := Prod.mk
def out_939 : (Bool) × ((Int × Int × Int × List Int × Unit) × Unit) → T fr_939 × TH hr_939 := id
noncomputable def F_939 (a0 : Int) (a1 : Int × Int × Int × List Int × Unit) : Option ((Bool) × ((Int × Int × Int × List Int × Unit) × Unit)) :=
 let x0 : Int := a1.2.2.1
 let x1 : List Int := a1.2.2.2.1
 ((F_93a x0)).bind fun r2 =>
 (some (((bits .andNot .u32 a0 r2) != (0:Int)), ((a1.1, (a1.2.1, (x0, ((List.take (List.length x1) x1), ())))), ())))
noncomputable def G_939 : T fa_939 → TH ha_939 → Option ((Bool) × ((Int × Int × Int × List Int × Unit) × Unit)) := fun x y => F_939 x.1 y.1
noncomputable def c_939 : Orc := ent i_939 [false, true] 0 (sp fa_939 ha_939 fr_939 hr_939 G_939 out_939)
theorem ok_939 : OrcOk PR c_939 := fnT okO_939 mixed p_939 (by kernel_rfl) (by kernel_rfl) (L := L0) (kp := false) (by kernel_rfl) (inn := inn_939) (out := out_939) (fun _ _ => rfl) (loopsL (l := []) (by kernel_rfl) trivial) (fun x y => by kernel_rfl)
noncomputable def O_965 : Orc := c_939
theorem okO_965 : OrcOk PR O_965 := ok_939
abbrev fa_965 : Fm := (.pair (.si .u32) (.pair (.fn i_939 (.pair (.ref 0 1 0) .unit)) .unit))
abbrev ha_965 : List BF := [(.list 1 y_90 true (.pair (.i .i64) (.pair (.i .i64) (.pair (.i .i64) (.pair (.si .u32) .unit)))))]
abbrev fr_965 : Fm := (.i .i64)
abbrev hr_965 : List BF := [(.list 1 y_90 true (.pair (.i .i64) (.pair (.i .i64) (.pair (.i .i64) (.pair (.si .u32) .unit)))))]
abbrev ff_965_0 : Fm := (.pair (.si .u32) (.cst (.fn i_939 (.cst (.ref 0 1 0) .unit)) (.us 5 (.pair (.i .i64) (.pair (.i .i64) (.us 10 .unit))))))
abbrev hf_965_0 : List BF := [(.list 1 y_90 true (.pair (.i .i64) (.pair (.i .i64) (.pair (.i .i64) (.pair (.si .u32) .unit)))))]
abbrev X_965_0 : Xs := (.alt (.exit 0) [] (.us 19 .unit) [(.list 1 y_90 true (.pair (.i .i64) (.pair (.i .i64) (.pair (.i .i64) (.pair (.si .u32) .unit)))))] (.one .ret [4] (.us 4 (.pair (.i .i64) (.us 14 .unit))) [(.list 1 y_90 true (.pair (.i .i64) (.pair (.i .i64) (.pair (.i .i64) (.pair (.si .u32) .unit)))))]))
abbrev S_965_0 : Type := T ff_965_0 × TH hf_965_0
abbrev E_965_0 : Type := TX X_965_0
noncomputable def LB_965_0 : Lps := L0
noncomputable def st_965_0 : StepT S_965_0 E_965_0 := fun R v kn ko =>
 let x0 : List Int := v.1.1
 let x1 : Int := v.1.2.2.1
 let x2 : List Int := v.2.1.2.2.2.1
 bif (decide (x1 < v.1.2.1)) then
 bif (decide (((0:Int) ≤ x1) ∧ (x1 < (((List.length x0) : Nat) : Int)))) then
 ((F_939 (List.getD x0 (Int.toNat x1) (0:Int)) (v.2.1.1, (v.2.1.2.1, (v.2.1.2.2.1, ((List.take (List.length x2) x2), ())))))).bind fun r3 =>
 let x4 : List Int := r3.2.1.2.2.2.1
 bif r3.1 then
 (ko (Sum.inr (v.1.2.2, ((r3.2.1.1, (r3.2.1.2.1, (r3.2.1.2.2.1, ((List.take (List.length x4) x4), ())))), ()))))
 else
 (kn (((List.take (List.length x0) x0), (v.1.2.1, ((IntKind.wrap .i64 (x1 + (1:Int))), ()))), ((r3.2.1.1, (r3.2.1.2.1, (r3.2.1.2.2.1, ((List.take (List.length x4) x4), ())))), ())))
 else
 none
 else
 (ko (Sum.inl ((), ((v.2.1.1, (v.2.1.2.1, (v.2.1.2.2.1, ((List.take (List.length x2) x2), ())))), ()))))
noncomputable def ls_965_0 : St → LTr := (lsum ff_965_0 hf_965_0 X_965_0 Prod.mk id st_965_0 (hd [] [] [0, 1, 7, 8] 1))
theorem lp_965_0 : LoopOk PR 1 (lpN f_95a 0) ls_965_0 := loopT okO_965 mixed (L := LB_965_0) (d := 1) (bs := []) (ks := [0, 1, 7, 8]) (loopsL (l := []) (by kernel_rfl) trivial) (by kernel_rfl) (inS := Prod.mk) (outS := id) (fun _ _ => rfl) (inX := id) (outX := id) (fun _ => rfl) (fun v R kn ko => by kernel_rfl) (hd_wk [] [] [0, 1, 7, 8] 1)
noncomputable def L_965 : Lps := (lpB 3 (.by_ ls_965_0) L0)
def inn_965 : T fr_965 → TH hr_965 → (Int) × ((Int × Int × Int × List Int × Unit) × Unit) := Prod.mk
def out_965 : (Int) × ((Int × Int × Int × List Int × Unit) × Unit) → T fr_965 × TH hr_965 := id
noncomputable def F_965 (a0 : List Int) (a1 : Int × Int × Int × List Int × Unit) : Option ((Int) × ((Int × Int × Int × List Int × Unit) × Unit)) :=
 let x0 : Int := a1.2.2.1
 let x1 : List Int := a1.2.2.2.1
 ((lim st_965_0 (((List.take (List.length a0) a0), ((((List.length a0) : Nat) : Int), ((0:Int), ()))), ((a1.1, (a1.2.1, (x0, ((List.take (List.length x1) x1), ())))), ())))).bind fun r2 =>
 els (fun l3 =>
 let x5 : Int := l3.2.1.1
 let x6 : Int := l3.2.1.2.1
 let x7 : Int := l3.2.1.2.2.1
 let x8 : List Int := l3.2.1.2.2.2.1
 (some ((-(1:Int)), ((x5, (x6, (x7, ((List.take (List.length x8) x8), ())))), ())))) (fun r4 =>
 let x9 : Int := r4.2.1.1
 let x10 : Int := r4.2.1.2.1
 let x11 : Int := r4.2.1.2.2.1
 let x12 : List Int := r4.2.1.2.2.2.1
 (some (r4.1.1, ((x9, (x10, (x11, ((List.take (List.length x12) x12), ())))), ())))) r2
noncomputable def G_965 : T fa_965 → TH ha_965 → Option ((Int) × ((Int × Int × Int × List Int × Unit) × Unit)) := fun x y => F_965 x.1 y.1
noncomputable def c_965 : Orc := ent i_95a [false, true] 0 (sp fa_965 ha_965 fr_965 hr_965 G_965 out_965)
theorem ok_965 : OrcOk PR c_965 := fnT okO_965 mixed p_95a (by kernel_rfl) (by kernel_rfl) (L := L_965) (kp := false) (by kernel_rfl) (inn := inn_965) (out := out_965) (fun _ _ => rfl) (loopsL (l := [((lpN f_95a 0), ls_965_0)]) (by kernel_rfl) ⟨lp_965_0, trivial⟩) (fun x y => by kernel_rfl)
noncomputable def O_966 : Orc := c_965
theorem okO_966 : OrcOk PR O_966 := ok_965
abbrev fa_966 : Fm := (.pair (.si .u32) (.pair (.fn i_939 (.pair (.ref 0 1 0) .unit)) .unit))
abbrev ha_966 : List BF := [(.list 1 y_90 true (.pair (.i .i64) (.pair (.i .i64) (.pair (.i .i64) (.pair (.si .u32) .unit)))))]
abbrev fr_966 : Fm := .b
abbrev hr_966 : List BF := [(.list 1 y_90 true (.pair (.i .i64) (.pair (.i .i64) (.pair (.i .i64) (.pair (.si .u32) .unit)))))]
def inn_966 : T fr_966 → TH hr_966 → (Bool) × ((Int × Int × Int × List Int × Unit) × Unit) := Prod.mk
def out_966 : (Bool) × ((Int × Int × Int × List Int × Unit) × Unit) → T fr_966 × TH hr_966 := id
noncomputable def F_966 (a0 : List Int) (a1 : Int × Int × Int × List Int × Unit) : Option ((Bool) × ((Int × Int × Int × List Int × Unit) × Unit)) :=
 let x0 : Int := a1.2.2.1
 let x1 : List Int := a1.2.2.2.1
 ((F_965 (List.take (List.length a0) a0) (a1.1, (a1.2.1, (x0, ((List.take (List.length x1) x1), ())))))).bind fun r2 =>
 let x3 : List Int := r2.2.1.2.2.2.1
 (some ((decide (r2.1 ≥ (0:Int))), ((r2.2.1.1, (r2.2.1.2.1, (r2.2.1.2.2.1, ((List.take (List.length x3) x3), ())))), ())))
noncomputable def G_966 : T fa_966 → TH ha_966 → Option ((Bool) × ((Int × Int × Int × List Int × Unit) × Unit)) := fun x y => F_966 x.1 y.1
noncomputable def c_966 : Orc := ent i_938 [false, true] 0 (sp fa_966 ha_966 fr_966 hr_966 G_966 out_966)
theorem ok_966 : OrcOk PR c_966 := fnT okO_966 mixed p_938 (by kernel_rfl) (by kernel_rfl) (L := L0) (kp := false) (by kernel_rfl) (inn := inn_966) (out := out_966) (fun _ _ => rfl) (loopsL (l := []) (by kernel_rfl) trivial) (fun x y => by kernel_rfl)
noncomputable def O_91c : Orc := (orm c_937 (orm c_966 c_939))
theorem okO_91c : OrcOk PR O_91c := (orm_ok ok_937 (orm_ok ok_966 ok_939))
abbrev fa_91c : Fm := (.pair (.agg (.pair (.i .i64) (.pair (.i .i64) (.pair (.i .i64) (.pair (.si .u32) .unit))))) .unit)
abbrev fr_91c : Fm := .b
noncomputable def F_91c (a0 : Int × Int × Int × List Int × Unit) : Option (Bool) :=
 let x0 : Int := a0.2.2.1
 let x1 : List Int := a0.2.2.2.1
 let x2 : Nat := (List.length x1)
 let x3 : List Int := (List.take x2 x1)
 bif (decide (a0.1 < (0:Int))) then
 (some false)
 else
 bif (decide (a0.1 > (4096:Int))) then
 (some false)
 else
 bif (decide (a0.2.1 < (0:Int))) then
 (some false)
 else
 bif (decide (a0.2.1 > (4096:Int))) then
 (some false)
 else
 ((F_937 x0)).bind fun r4 =>
 bif (!r4) then
 (some false)
 else
 bif (((x2 : Nat) : Int) != (IntKind.wrap .i64 (a0.1 * a0.2.1))) then
 (some false)
 else
 ((F_966 x3 (a0.1, (a0.2.1, (x0, (x3, ())))))).bind fun r5 =>
 (some (!r5.1))
noncomputable def G_91c : T fa_91c → TH hN0 → Option (Bool) := fun x y => F_91c x.1
noncomputable def c_91c : Orc := ent i_91c [] 0 (sp fa_91c hN0 fr_91c hN0 G_91c (outN fr_91c))
theorem ok_91c : OrcOk PR c_91c := fnT okO_91c mixed p_91c (by kernel_rfl) (by kernel_rfl) (L := L0) (kp := false) (by kernel_rfl) (inn := (innN fr_91c)) (out := (outN fr_91c)) (fun _ _ => rfl) (loopsL (l := []) (by kernel_rfl) trivial) (fun x y => by kernel_rfl)
noncomputable def O_91e : Orc := c_91f
theorem okO_91e : OrcOk PR O_91e := ok_91f
abbrev fa_91e : Fm := (.pair (.i .i64) (.pair (.i .u32) (.cst (.ref 0 1 0) .unit)))
abbrev ha_91e : List BF := [(.list 1 y_90 true (.pair (.i .i64) (.pair (.i .i64) (.pair (.i .i64) (.pair (.si .u32) .unit)))))]
abbrev fr_91e : Fm := (.i .u32)
abbrev hr_91e : List BF := [(.list 1 y_90 true (.pair (.i .i64) (.pair (.i .i64) (.pair (.i .i64) (.pair (.si .u32) .unit)))))]
def inn_91e : T fr_91e → TH hr_91e → (Int) × ((Int × Int × Int × List Int × Unit) × Unit) := Prod.mk
def out_91e : (Int) × ((Int × Int × Int × List Int × Unit) × Unit) → T fr_91e × TH hr_91e := id
noncomputable def F_91e (a0 : Int) (a1 : Int) (a2 : Int × Int × Int × List Int × Unit) : Option ((Int) × ((Int × Int × Int × List Int × Unit) × Unit)) :=
 let x0 : Int := a2.2.2.1
 let x1 : List Int := a2.2.2.2.1
 ((F_91f x0 a1)).bind fun r2 =>
 (some (r2, ((a2.1, (a2.2.1, (x0, ((List.take (List.length x1) x1), ())))), ())))
noncomputable def G_91e : T fa_91e → TH ha_91e → Option ((Int) × ((Int × Int × Int × List Int × Unit) × Unit)) := fun x y => F_91e x.1 x.2.1 y.1
noncomputable def c_91e : Orc := ent i_91e [false, false, true] 0 (sp fa_91e ha_91e fr_91e hr_91e G_91e out_91e)
theorem ok_91e : OrcOk PR c_91e := fnT okO_91e mixed p_91e (by kernel_rfl) (by kernel_rfl) (L := L0) (kp := false) (by kernel_rfl) (inn := inn_91e) (out := out_91e) (fun _ _ => rfl) (loopsL (l := []) (by kernel_rfl) trivial) (fun x y => by kernel_rfl)
noncomputable def O_967 : Orc := c_91e
theorem okO_967 : OrcOk PR O_967 := ok_91e
abbrev fa_967 : Fm := (.pair (.agg (.pair (.i .i64) (.pair (.i .i64) (.pair (.i .i64) (.pair (.si .u32) .unit))))) (.pair (.i .i64) (.pair (.fn i_91e (.pair (.ref 0 1 0) .unit)) .unit)))
abbrev ha_967 : List BF := [(.list 1 y_90 true (.pair (.i .i64) (.pair (.i .i64) (.pair (.i .i64) (.pair (.si .u32) .unit)))))]
abbrev fr_967 : Fm := (.agg (.pair (.i .i64) (.pair (.i .i64) (.pair (.i .i64) (.pair (.si .u32) .unit)))))
abbrev hr_967 : List BF := [(.list 1 y_90 true (.pair (.i .i64) (.pair (.i .i64) (.pair (.i .i64) (.pair (.si .u32) .unit)))))]
abbrev ff_967_0 : Fm := (.us 2 (.cst (.fn i_91e (.cst (.ref 0 1 0) .unit)) (.us 3 (.cst (.ref 1 1 0) (.cst (.ref 2 1 0) (.us 13 (.pair (.si .u32) (.pair (.i .i64) (.pair (.i .i64) (.us 14 .unit))))))))))
abbrev hf_967_0 : List BF := [(.list 1 y_90 true (.pair (.i .i64) (.pair (.i .i64) (.pair (.i .i64) (.pair (.si .u32) .unit))))), (.list 1 y_90 true (.pair (.i .i64) (.pair (.i .i64) (.pair (.i .i64) (.cst .nils .unit))))), (.list 1 y_90 true (.pair (.i .i64) (.pair (.i .i64) (.pair (.i .i64) (.pair (.own 3 1 0 1) .unit))))), (.ints 1 y_91 true .u32)]
abbrev X_967_0 : Xs := (.one (.exit 0) [6, 7] (.us 6 (.cst (.ref 1 1 0) (.cst (.ref 2 1 0) (.us 30 .unit)))) [(.list 1 y_90 true (.pair (.i .i64) (.pair (.i .i64) (.pair (.i .i64) (.pair (.si .u32) .unit))))), (.list 1 y_90 true (.pair (.i .i64) (.pair (.i .i64) (.pair (.i .i64) (.cst .nils .unit))))), (.list 1 y_90 true (.pair (.i .i64) (.pair (.i .i64) (.pair (.i .i64) (.pair (.own 3 1 0 1) .unit))))), (.ints 1 y_91 true .u32)])
abbrev S_967_0 : Type := T ff_967_0 × TH hf_967_0
abbrev E_967_0 : Type := TX X_967_0
noncomputable def LB_967_0 : Lps := L0
noncomputable def st_967_0 : StepT S_967_0 E_967_0 := fun R v kn ko =>
 let x0 : Int := v.1.2.2.1
 let x1 : List Int := v.1.1
 let x2 : Nat := (Int.toNat x0)
 let x3 : List Int := v.2.1.2.2.2.1
 bif (decide (x0 < v.1.2.1)) then
 bif (decide (((0:Int) ≤ x0) ∧ (x0 < (((List.length x1) : Nat) : Int)))) then
 ((F_91e x0 (List.getD x1 x2 (0:Int)) (v.2.1.1, (v.2.1.2.1, (v.2.1.2.2.1, ((List.take (List.length x3) x3), ())))))).bind fun r4 =>
 let x5 : List Int := r4.2.1.2.2.2.1
 bif (decide (((0:Int) ≤ x0) ∧ (x0 < ((v.2.2.2.1.2.2.2.1 : Nat) : Int)))) then
 bif (decide (((0:Nat) + (x2 * (1:Nat))) < (List.length v.2.2.2.2.1))) then
 (kn (((List.take (List.length x1) x1), (v.1.2.1, ((IntKind.wrap .i64 (x0 + (1:Int))), ()))), ((r4.2.1.1, (r4.2.1.2.1, (r4.2.1.2.2.1, ((List.take (List.length x5) x5), ())))), (v.2.2.1, (v.2.2.2.1, ((List.set v.2.2.2.2.1 ((0:Nat) + (x2 * (1:Nat))) r4.1), ()))))))
 else
 none
 else
 none
 else
 none
 else
 (ko ((), ((v.2.1.1, (v.2.1.2.1, (v.2.1.2.2.1, ((List.take (List.length x3) x3), ())))), v.2.2)))
noncomputable def ls_967_0 : St → LTr := (lsum ff_967_0 hf_967_0 X_967_0 Prod.mk id st_967_0 (hd [] [] [2, 6, 7, 21, 22, 23] 1))
theorem lp_967_0 : LoopOk PR 1 (lpN f_91d 0) ls_967_0 := loopT okO_967 mixed (L := LB_967_0) (d := 1) (bs := []) (ks := [2, 6, 7, 21, 22, 23]) (loopsL (l := []) (by kernel_rfl) trivial) (by kernel_rfl) (inS := Prod.mk) (outS := id) (fun _ _ => rfl) (inX := id) (outX := id) (fun _ => rfl) (fun v R kn ko => by kernel_rfl) (hd_wk [] [] [2, 6, 7, 21, 22, 23] 1)
noncomputable def L_967 : Lps := (lpB 4 (.by_ ls_967_0) L0)
def inn_967 : T fr_967 → TH hr_967 → (Int × Int × Int × List Int × Unit) × ((Int × Int × Int × List Int × Unit) × Unit) := Prod.mk
def out_967 : (Int × Int × Int × List Int × Unit) × ((Int × Int × Int × List Int × Unit) × Unit) → T fr_967 × TH hr_967 := id
noncomputable def F_967 (a0 : Int × Int × Int × List Int × Unit) (a1 : Int) (a2 : Int × Int × Int × List Int × Unit) : Option ((Int × Int × Int × List Int × Unit) × ((Int × Int × Int × List Int × Unit) × Unit)) :=
 let x0 : List Int := a0.2.2.2.1
 let x1 : Nat := (List.length x0)
 let x2 : Int := ((x1 : Nat) : Int)
 let x3 : Int := a2.2.2.1
 let x4 : List Int := a2.2.2.2.1
 let x5 : Nat := (Int.toNat x2)
 bif (decide (((0:Int) ≤ x2) ∧ (x2 ≤ (1073741824:Int)))) then
 ((lim st_967_0 (((List.take x1 x0), (x2, ((0:Int), ()))), ((a2.1, (a2.2.1, (x3, ((List.take (List.length x4) x4), ())))), (((0:Int), ((0:Int), ((0:Int), ()))), ((a0.1, (a0.2.1, (a1, (x5, ())))), ((List.replicate x5 (0:Int)), ()))))))).bind fun r6 =>
 let x7 : List Int := r6.2.1.2.2.2.1
 (some ((r6.2.2.2.1.1, (r6.2.2.2.1.2.1, (r6.2.2.2.1.2.2.1, ((List.take r6.2.2.2.1.2.2.2.1 (List.drop (0:Nat) r6.2.2.2.2.1)), ())))), ((r6.2.1.1, (r6.2.1.2.1, (r6.2.1.2.2.1, ((List.take (List.length x7) x7), ())))), ())))
 else
 none
noncomputable def G_967 : T fa_967 → TH ha_967 → Option ((Int × Int × Int × List Int × Unit) × ((Int × Int × Int × List Int × Unit) × Unit)) := fun x y => F_967 x.1 x.2.1 y.1
noncomputable def c_967 : Orc := ent i_91d [false, false, true] 0 (sp fa_967 ha_967 fr_967 hr_967 G_967 out_967)
theorem ok_967 : OrcOk PR c_967 := fnT okO_967 mixed p_91d (by kernel_rfl) (by kernel_rfl) (L := L_967) (kp := false) (by kernel_rfl) (inn := inn_967) (out := out_967) (fun _ _ => rfl) (loopsL (l := [((lpN f_91d 0), ls_967_0)]) (by kernel_rfl) ⟨lp_967_0, trivial⟩) (fun x y => by kernel_rfl)
noncomputable def O_9b : Orc := (orm c_91c (orm c_967 c_91e))
theorem okO_9b : OrcOk PR O_9b := (orm_ok ok_91c (orm_ok ok_967 ok_91e))
abbrev fa_9b : Fm := (.pair (.agg (.pair (.i .i64) (.pair (.i .i64) (.pair (.i .i64) (.pair (.si .u32) .unit))))) .unit)
abbrev fr_9b : Fm := (.tup (.pair (.agg (.pair (.i .i64) (.pair (.i .i64) (.pair (.i .i64) (.pair (.si .u32) .unit))))) (.pair (.i .i64) .unit)))
noncomputable def F_9b (a0 : Int × Int × Int × List Int × Unit) : Option ((Int × Int × Int × List Int × Unit) × Int × Unit) :=
 let x0 : Int := a0.2.2.1
 let x1 : List Int := a0.2.2.2.1
 ((F_91c (a0.1, (a0.2.1, (x0, ((List.take (List.length x1) x1), ())))))).bind fun r2 =>
 bif (!r2) then
 (some (((0:Int), ((0:Int), ((0:Int), ([], ())))), ((21:Int), ())))
 else
 ((F_967 (a0.1, (a0.2.1, (x0, ((List.take (List.length x1) x1), ())))) (2:Int) (a0.1, (a0.2.1, (x0, ((List.take (List.length x1) x1), ())))))).bind fun r3 =>
 let x4 : List Int := r3.1.2.2.2.1
 (some ((r3.1.1, (r3.1.2.1, (r3.1.2.2.1, ((List.take (List.length x4) x4), ())))), ((0:Int), ())))
noncomputable def G_9b : T fa_9b → TH hN0 → Option ((Int × Int × Int × List Int × Unit) × Int × Unit) := fun x y => F_9b x.1
noncomputable def c_9b : Orc := ent i_9b [] 0 (sp fa_9b hN0 fr_9b hN0 G_9b (outN fr_9b))
theorem ok_9b : OrcOk PR c_9b := fnT okO_9b mixed p_9b (by kernel_rfl) (by kernel_rfl) (L := L0) (kp := false) (by kernel_rfl) (inn := (innN fr_9b)) (out := (outN fr_9b)) (fun _ _ => rfl) (loopsL (l := []) (by kernel_rfl) trivial) (fun x y => by kernel_rfl)
noncomputable def O_95 : Orc := (orm c_99 c_9a)
theorem okO_95 : OrcOk PR O_95 := (orm_ok ok_99 ok_9a)
abbrev fa_95 : Fm := (.pair (.i .i64) (.pair (.i .i64) (.pair (.i .i64) (.pair (.si .u32) (.pair .b .unit)))))
abbrev fr_95 : Fm := (.agg (.pair (.i .i64) (.pair (.i .i64) (.pair (.i .i64) (.pair (.si .u32) .unit)))))
abbrev ff_95_0 : Fm := (.pair (.i .i64) (.pair (.i .i64) (.pair (.i .i64) (.pair (.si .u32) (.pair .b (.us 5 (.cst (.ref 0 1 0) (.cst (.ref 1 1 0) (.pair (.i .i64) (.us 50 .unit))))))))))
abbrev hf_95_0 : List BF := [(.list 1 y_90 true (.pair (.i .i64) (.pair (.i .i64) (.pair (.i .i64) (.cst .nils .unit))))), (.list 1 y_90 true (.pair (.i .i64) (.pair (.i .i64) (.pair (.i .i64) (.pair (.own 2 1 0 1) .unit))))), (.ints 1 y_91 true .u32)]
abbrev X_95_0 : Xs := (.one (.exit 0) [10, 11] (.us 10 (.cst (.ref 0 1 0) (.cst (.ref 1 1 0) (.us 51 .unit)))) [(.list 1 y_90 true (.pair (.i .i64) (.pair (.i .i64) (.pair (.i .i64) (.cst .nils .unit))))), (.list 1 y_90 true (.pair (.i .i64) (.pair (.i .i64) (.pair (.i .i64) (.pair (.own 2 1 0 1) .unit))))), (.ints 1 y_91 true .u32)])
abbrev S_95_0 : Type := T ff_95_0 × TH hf_95_0
abbrev E_95_0 : Type := TX X_95_0
noncomputable def LB_95_0 : Lps := L0
noncomputable def st_95_0 : StepT S_95_0 E_95_0 := fun R v kn ko =>
 let x0 : List Int := v.1.2.2.2.1
 let x1 : Nat := (List.length x0)
 let x2 : Int := ((x1 : Nat) : Int)
 let x3 : Bool := (x2 == (0:Int))
 let x4 : Bool := v.1.2.2.2.2.1
 let x5 : Int := v.1.2.2.1
 let x6 : Int := v.1.2.2.2.2.2.1
 let x7 : Int := (IntKind.wrap .u32 ((List.getD x0 (Int.toNat (Int.tmod x6 x2)) (0:Int)) + (IntKind.wrap .u32 ((IntKind.wrap .u32 (IntKind.wrap .i64 (Int.tdiv x6 x2))) * (40503:Int)))))
 let x8 : Nat := v.2.2.1.2.2.2.1
 let x9 : List Int := (List.take x8 v.2.2.2.1)
 let x10 : Int := (IntKind.wrap .u32 ((IntKind.wrap .u32 x6) * (2654435761:Int)))
 bif (decide (x6 < (IntKind.wrap .i64 (v.1.1 * v.1.2.1)))) then
 bif (decide (x2 > (0:Int))) then
 bif x3 then
 none
 else
 bif (decide (((0:Int) ≤ (Int.tmod x6 x2)) ∧ ((Int.tmod x6 x2) < x2))) then
 bif x3 then
 none
 else
 bif x4 then
 ((F_99 x5 x7)).bind fun r11 =>
 bif (decide ((x8 + (1:Nat)) ≤ (1073741824:Nat))) then
 (kn ((v.1.1, (v.1.2.1, (x5, ((List.take x1 x0), (x4, ((IntKind.wrap .i64 (x6 + (1:Int))), ())))))), (v.2.1, ((v.2.2.1.1, (v.2.2.1.2.1, (v.2.2.1.2.2.1, ((x8 + (1:Nat)), ())))), ((x9 ++ [r11]), ())))))
 else
 none
 else
 ((F_9a x5 x7)).bind fun r12 =>
 bif (decide ((x8 + (1:Nat)) ≤ (1073741824:Nat))) then
 (kn ((v.1.1, (v.1.2.1, (x5, ((List.take x1 x0), (x4, ((IntKind.wrap .i64 (x6 + (1:Int))), ())))))), (v.2.1, ((v.2.2.1.1, (v.2.2.1.2.1, (v.2.2.1.2.2.1, ((x8 + (1:Nat)), ())))), ((x9 ++ [r12]), ())))))
 else
 none
 else
 none
 else
 bif x4 then
 ((F_99 x5 x10)).bind fun r13 =>
 bif (decide ((x8 + (1:Nat)) ≤ (1073741824:Nat))) then
 (kn ((v.1.1, (v.1.2.1, (x5, ((List.take x1 x0), (x4, ((IntKind.wrap .i64 (x6 + (1:Int))), ())))))), (v.2.1, ((v.2.2.1.1, (v.2.2.1.2.1, (v.2.2.1.2.2.1, ((x8 + (1:Nat)), ())))), ((x9 ++ [r13]), ())))))
 else
 none
 else
 ((F_9a x5 x10)).bind fun r14 =>
 bif (decide ((x8 + (1:Nat)) ≤ (1073741824:Nat))) then
 (kn ((v.1.1, (v.1.2.1, (x5, ((List.take x1 x0), (x4, ((IntKind.wrap .i64 (x6 + (1:Int))), ())))))), (v.2.1, ((v.2.2.1.1, (v.2.2.1.2.1, (v.2.2.1.2.2.1, ((x8 + (1:Nat)), ())))), ((x9 ++ [r14]), ())))))
 else
 none
 else
 (ko ((), v.2))
noncomputable def ls_95_0 : St → LTr := (lsum ff_95_0 hf_95_0 X_95_0 Prod.mk id st_95_0 (hd [(.via 11 3, y_91, 0, .ints .u32)] [] [0, 1, 2, 3, 4, 10, 11, 12] 0))
theorem lp_95_0 : LoopOk PR 0 (lpN f_95 0) ls_95_0 := loopT okO_95 mixed (L := LB_95_0) (d := 1) (bs := []) (ks := [0, 1, 2, 3, 4, 10, 11, 12]) (loopsL (l := []) (by kernel_rfl) trivial) (by kernel_rfl) (inS := Prod.mk) (outS := id) (fun _ _ => rfl) (inX := id) (outX := id) (fun _ => rfl) (fun v R kn ko => by kernel_rfl) (hd_wk [(.via 11 3, y_91, 0, .ints .u32)] [] [0, 1, 2, 3, 4, 10, 11, 12] 0)
noncomputable def L_95 : Lps := (lpB 4 (.by_ ls_95_0) L0)
noncomputable def F_95 (a0 : Int) (a1 : Int) (a2 : Int) (a3 : List Int) (a4 : Bool) : Option (Int × Int × Int × List Int × Unit) :=
 ((lim st_95_0 ((a0, (a1, (a2, ((List.take (List.length a3) a3), (a4, ((0:Int), ())))))), (((0:Int), ((0:Int), ((0:Int), ()))), ((a0, (a1, (a2, ((0:Nat), ())))), ([], ())))))).bind fun r0 =>
 (some (r0.2.2.1.1, (r0.2.2.1.2.1, (r0.2.2.1.2.2.1, ((List.take r0.2.2.1.2.2.2.1 (List.drop (0:Nat) r0.2.2.2.1)), ())))))
noncomputable def G_95 : T fa_95 → TH hN0 → Option (Int × Int × Int × List Int × Unit) := fun x y => F_95 x.1 x.2.1 x.2.2.1 x.2.2.2.1 x.2.2.2.2.1
noncomputable def c_95 : Orc := ent i_95 [] 0 (sp fa_95 hN0 fr_95 hN0 G_95 (outN fr_95))
theorem ok_95 : OrcOk PR c_95 := fnT okO_95 mixed p_95 (by kernel_rfl) (by kernel_rfl) (L := L_95) (kp := false) (by kernel_rfl) (inn := (innN fr_95)) (out := (outN fr_95)) (fun _ _ => rfl) (loopsL (l := [((lpN f_95 0), ls_95_0)]) (by kernel_rfl) ⟨lp_95_0, trivial⟩) (fun x y => by kernel_rfl)
end Go.Proofs.Ytfpjkmgfkaoapaa.VI
