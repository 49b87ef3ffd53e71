import Derived.Test.YtkmkhcmfpbffjaaGreatTb4b6b90c
namespace Go.Proofs.YtkmkhcmfpbffjaaGreat.VI
set_option linter.unusedVariables false
set_option linter.unusedSimpArgs false
set_option maxRecDepth 100000
noncomputable def O_97c : Orc := orn
theorem okO_97c : OrcOk PR O_97c := (orn_ok _)
abbrev fa_97c : Fm := (.pair (.i .i64) .unit)
abbrev fr_97c : Fm := .b
noncomputable def F_97c (a0 : Int) : Option (Bool) :=
 bif (a0 == (0:Int)) then
 (some true)
 else
 bif (a0 == (1:Int)) then
 (some true)
 else
 (some (a0 == (2:Int)))
noncomputable def G_97c : T fa_97c → TH hN0 → Option (Bool) := fun x y => F_97c x.1
noncomputable def c_97c : Orc := ent i_97c [] 0 (sp fa_97c hN0 fr_97c hN0 G_97c (outN fr_97c))
theorem ok_97c : OrcOk PR c_97c := fnT okO_97c mixed p_97c (by kernel_rfl) (by kernel_rfl) (L := L0) (kp := false) (by kernel_rfl) (inn := (innN fr_97c)) (out := (outN fr_97c)) (fun _ _ => rfl) (loopsL (l := []) (by kernel_rfl) trivial) (fun x y => by kernel_rfl)
noncomputable def O_97e : Orc := c_97f
theorem okO_97e : OrcOk PR O_97e := ok_97f
abbrev fa_97e : Fm := (.pair (.i .u32) (.cst (.ref 0 1 0) .unit))
abbrev ha_97e : List BF := [(.list 1 y_92 true (.pair (.i .i64) (.pair (.i .i64) (.pair (.i .i64) (.pair (.si .u32) .unit)))))]
abbrev fr_97e : Fm := .b
abbrev hr_97e : List BF := [(.list 1 y_92 true (.pair (.i .i64) (.pair (.i .i64) (.pair (.i .i64) (.pair (.si .u32) .unit)))))]
def inn_97e : T fr_97e → TH hr_97e → (Bool) × ((Int × Int × Int × List Int × Unit) × Unit) := Prod.mk
def out_97e : (Bool) × ((Int × Int × Int × List Int × Unit) × Unit) → T fr_97e × TH hr_97e := id
noncomputable def F_97e (a0 : Int) (a1 : Int × Int × Int × List Int × Unit) : Option ((Bool) × ((Int × Int × Int × List Int × Unit) × Unit)) :=
 let x0 : Int := a1.2.2.1
 let x1 : List Int := a1.2.2.2.1
 ((F_97f x0)).bind fun r2 =>
 (some (((bits .andNot .u32 a0 r2) != (0:Int)), ((a1.1, (a1.2.1, (x0, ((List.take (List.length x1) x1), ())))), ())))
noncomputable def G_97e : T fa_97e → TH ha_97e → Option ((Bool) × ((Int × Int × Int × List Int × Unit) × Unit)) := fun x y => F_97e x.1 y.1
noncomputable def c_97e : Orc := ent i_97e [false, true] 0 (sp fa_97e ha_97e fr_97e hr_97e G_97e out_97e)
theorem ok_97e : OrcOk PR c_97e := fnT okO_97e mixed p_97e (by kernel_rfl) (by kernel_rfl) (L := L0) (kp := false) (by kernel_rfl) (inn := inn_97e) (out := out_97e) (fun _ _ => rfl) (loopsL (l := []) (by kernel_rfl) trivial) (fun x y => by kernel_rfl)
noncomputable def O_9a3 : Orc := c_97e
theorem okO_9a3 : OrcOk PR O_9a3 := ok_97e
abbrev fa_9a3 : Fm := (.pair (.si .u32) (.pair (.fn i_97e (.pair (.ref 0 1 0) .unit)) .unit))
abbrev ha_9a3 : List BF := [(.list 1 y_92 true (.pair (.i .i64) (.pair (.i .i64) (.pair (.i .i64) (.pair (.si .u32) .unit)))))]
abbrev fr_9a3 : Fm := (.i .i64)
abbrev hr_9a3 : List BF := [(.list 1 y_92 true (.pair (.i .i64) (.pair (.i .i64) (.pair (.i .i64) (.pair (.si .u32) .unit)))))]
abbrev ff_9a3_0 : Fm := (.pair (.si .u32) (.cst (.fn i_97e (.cst (.ref 0 1 0) .unit)) (.us 5 (.pair (.i .i64) (.pair (.i .i64) (.us 10 .unit))))))
abbrev hf_9a3_0 : List BF := [(.list 1 y_92 true (.pair (.i .i64) (.pair (.i .i64) (.pair (.i .i64) (.pair (.si .u32) .unit)))))]
abbrev X_9a3_0 : Xs := (.alt (.exit 0) [] (.us 19 .unit) [(.list 1 y_92 true (.pair (.i .i64) (.pair (.i .i64) (.pair (.i .i64) (.pair (.si .u32) .unit)))))] (.one .ret [4] (.us 4 (.pair (.i .i64) (.us 14 .unit))) [(.list 1 y_92 true (.pair (.i .i64) (.pair (.i .i64) (.pair (.i .i64) (.pair (.si .u32) .unit)))))]))
abbrev S_9a3_0 : Type := T ff_9a3_0 × TH hf_9a3_0
abbrev E_9a3_0 : Type := TX X_9a3_0
noncomputable def LB_9a3_0 : Lps := L0
noncomputable def st_9a3_0 : StepT S_9a3_0 E_9a3_0 := fun R v kn ko =>
 let x0 : List Int := v.1.1
 let x1 : Int := v.1.2.2.1
 let x2 : List Int := v.2.1.2.2.2.1
 bif (decide (x1 < v.1.2.1)) then
 bif (decide (((0:Int) ≤ x1) ∧ (x1 < (((List.length x0) : Nat) : Int)))) then
 ((F_97e (List.getD x0 (Int.toNat x1) (0:Int)) (v.2.1.1, (v.2.1.2.1, (v.2.1.2.2.1, ((List.take (List.length x2) x2), ())))))).bind fun r3 =>
 let x4 : List Int := r3.2.1.2.2.2.1
 bif r3.1 then
 (ko (Sum.inr (v.1.2.2, ((r3.2.1.1, (r3.2.1.2.1, (r3.2.1.2.2.1, ((List.take (List.length x4) x4), ())))), ()))))
 else
 (kn (((List.take (List.length x0) x0), (v.1.2.1, ((IntKind.wrap .i64 (x1 + (1:Int))), ()))), ((r3.2.1.1, (r3.2.1.2.1, (r3.2.1.2.2.1, ((List.take (List.length x4) x4), ())))), ())))
 else
 none
 else
 (ko (Sum.inl ((), ((v.2.1.1, (v.2.1.2.1, (v.2.1.2.2.1, ((List.take (List.length x2) x2), ())))), ()))))
noncomputable def ls_9a3_0 : St → LTr := (lsum ff_9a3_0 hf_9a3_0 X_9a3_0 Prod.mk id st_9a3_0 (hd [] [] [0, 1, 7, 8] 1))
theorem lp_9a3_0 : LoopOk PR 1 (lpN f_998 0) ls_9a3_0 := loopT okO_9a3 mixed (L := LB_9a3_0) (d := 1) (bs := []) (ks := [0, 1, 7, 8]) (loopsL (l := []) (by kernel_rfl) trivial) (by kernel_rfl) (inS := Prod.mk) (outS := id) (fun _ _ => rfl) (inX := id) (outX := id) (fun _ => rfl) (fun v R kn ko => by kernel_rfl) (hd_wk [] [] [0, 1, 7, 8] 1)
noncomputable def L_9a3 : Lps := (lpB 3 (.by_ ls_9a3_0) L0)
def inn_9a3 : T fr_9a3 → TH hr_9a3 → (Int) × ((Int × Int × Int × List Int × Unit) × Unit) := Prod.mk
def out_9a3 : (Int) × ((Int × Int × Int × List Int × Unit) × Unit) → T fr_9a3 × TH hr_9a3 := id
noncomputable def F_9a3 (a0 : List Int) (a1 : Int × Int × Int × List Int × Unit) : Option ((Int) × ((Int × Int × Int × List Int × Unit) × Unit)) :=
 let x0 : Int := a1.2.2.1
 let x1 : List Int := a1.2.2.2.1
 ((lim st_9a3_0 (((List.take (List.length a0) a0), ((((List.length a0) : Nat) : Int), ((0:Int), ()))), ((a1.1, (a1.2.1, (x0, ((List.take (List.length x1) x1), ())))), ())))).bind fun r2 =>
 els (fun l3 =>
 let x5 : Int := l3.2.1.1
 let x6 : Int := l3.2.1.2.1
 let x7 : Int := l3.2.1.2.2.1
 let x8 : List Int := l3.2.1.2.2.2.1
 (some ((-(1:Int)), ((x5, (x6, (x7, ((List.take (List.length x8) x8), ())))), ())))) (fun r4 =>
 let x9 : Int := r4.2.1.1
 let x10 : Int := r4.2.1.2.1
 let x11 : Int := r4.2.1.2.2.1
 let x12 : List Int := r4.2.1.2.2.2.1
 (some (r4.1.1, ((x9, (x10, (x11, ((List.take (List.length x12) x12), ())))), ())))) r2
noncomputable def G_9a3 : T fa_9a3 → TH ha_9a3 → Option ((Int) × ((Int × Int × Int × List Int × Unit) × Unit)) := fun x y => F_9a3 x.1 y.1
noncomputable def c_9a3 : Orc := ent i_998 [false, true] 0 (sp fa_9a3 ha_9a3 fr_9a3 hr_9a3 G_9a3 out_9a3)
theorem ok_9a3 : OrcOk PR c_9a3 := fnT okO_9a3 mixed p_998 (by kernel_rfl) (by kernel_rfl) (L := L_9a3) (kp := false) (by kernel_rfl) (inn := inn_9a3) (out := out_9a3) (fun _ _ => rfl) (loopsL (l := [((lpN f_998 0), ls_9a3_0)]) (by kernel_rfl) ⟨lp_9a3_0, trivial⟩) (fun x y => by kernel_rfl)
noncomputable def O_9a4 : Orc := c_9a3
theorem okO_9a4 : OrcOk PR O_9a4 := ok_9a3
abbrev fa_9a4 : Fm := (.pair (.si .u32) (.pair (.fn i_97e (.pair (.ref 0 1 0) .unit)) .unit))
abbrev ha_9a4 : List BF := [(.list 1 y_92 true (.pair (.i .i64) (.pair (.i .i64) (.pair (.i .i64) (.pair (.si .u32) .unit)))))]
abbrev fr_9a4 : Fm := .b
abbrev hr_9a4 : List BF := [(.list 1 y_92 true (.pair (.i .i64) (.pair (.i .i64) (.pair (.i .i64) (.pair (.si .u32) .unit)))))]
def inn_9a4 : T fr_9a4 → TH hr_9a4 → (Bool) × ((Int × Int × Int × List Int × Unit) × Unit) := Prod.mk
def out_9a4 : (Bool) × ((Int × Int × Int × List Int × Unit) × Unit) → T fr_9a4 × TH hr_9a4 := id
noncomputable def F_9a4 (a0 : List Int) (a1 : Int × Int × Int × List Int × Unit) : Option ((Bool) × ((Int × Int × Int × List Int × Unit) × Unit)) :=
 let x0 : Int := a1.2.2.1
 let x1 : List Int := a1.2.2.2.1
 ((F_9a3 (List.take (List.length a0) a0) (a1.1, (a1.2.1, (x0, ((List.take (List.length x1) x1), ())))))).bind fun r2 =>
 let x3 : List Int := r2.2.1.2.2.2.1
 (some ((decide (r2.1 ≥ (0:Int))), ((r2.2.1.1, (r2.2.1.2.1, (r2.2.1.2.2.1, ((List.take (List.length x3) x3), ())))), ())))
noncomputable def G_9a4 : T fa_9a4 → TH ha_9a4 → Option ((Bool) × ((Int × Int × Int × List Int × Unit) × Unit)) := fun x y => F_9a4 x.1 y.1
noncomputable def c_9a4 : Orc := ent i_97d [false, true] 0 (sp fa_9a4 ha_9a4 fr_9a4 hr_9a4 G_9a4 out_9a4)
theorem ok_9a4 : OrcOk PR c_9a4 := fnT okO_9a4 mixed p_97d (by kernel_rfl) (by kernel_rfl) (L := L0) (kp := false) (by kernel_rfl) (inn := inn_9a4) (out := out_9a4) (fun _ _ => rfl) (loopsL (l := []) (by kernel_rfl) trivial) (fun x y => by kernel_rfl)
noncomputable def O_94d : Orc := (orm c_97c (orm c_9a4 c_97e))
theorem okO_94d : OrcOk PR O_94d := (orm_ok ok_97c (orm_ok ok_9a4 ok_97e))
abbrev fa_94d : Fm := (.pair (.agg (.pair (.i .i64) (.pair (.i .i64) (.pair (.i .i64) (.pair (.si .u32) .unit))))) .unit)
abbrev fr_94d : Fm := .b
noncomputable def F_94d (a0 : Int × Int × Int × List Int × Unit) : Option (Bool) :=
 let x0 : Int := a0.2.2.1
 let x1 : List Int := a0.2.2.2.1
 let x2 : Nat := (List.length x1)
 let x3 : List Int := (List.take x2 x1)
 bif (decide (a0.1 < (0:Int))) then
 (some false)
 else
 bif (decide (a0.1 > (4096:Int))) then
 (some false)
 else
 bif (decide (a0.2.1 < (0:Int))) then
 (some false)
 else
 bif (decide (a0.2.1 > (4096:Int))) then
 (some false)
 else
 ((F_97c x0)).bind fun r4 =>
 bif (!r4) then
 (some false)
 else
 bif (((x2 : Nat) : Int) != (IntKind.wrap .i64 (a0.1 * a0.2.1))) then
 (some false)
 else
 ((F_9a4 x3 (a0.1, (a0.2.1, (x0, (x3, ())))))).bind fun r5 =>
 (some (!r5.1))
noncomputable def G_94d : T fa_94d → TH hN0 → Option (Bool) := fun x y => F_94d x.1
noncomputable def c_94d : Orc := ent i_94d [] 0 (sp fa_94d hN0 fr_94d hN0 G_94d (outN fr_94d))
theorem ok_94d : OrcOk PR c_94d := fnT okO_94d mixed p_94d (by kernel_rfl) (by kernel_rfl) (L := L0) (kp := false) (by kernel_rfl) (inn := (innN fr_94d)) (out := (outN fr_94d)) (fun _ _ => rfl) (loopsL (l := []) (by kernel_rfl) trivial) (fun x y => by kernel_rfl)
noncomputable def O_95f : Orc := c_957
theorem okO_95f : OrcOk PR O_95f := ok_957
abbrev fa_95f : Fm := (.pair (.i .i64) (.pair (.i .u32) (.cst (.ref 0 1 0) .unit)))
abbrev ha_95f : List BF := [(.list 1 y_92 true (.pair (.i .i64) (.pair (.i .i64) (.pair (.i .i64) (.pair (.si .u32) .unit)))))]
abbrev fr_95f : Fm := (.i .u32)
abbrev hr_95f : List BF := [(.list 1 y_92 true (.pair (.i .i64) (.pair (.i .i64) (.pair (.i .i64) (.pair (.si .u32) .unit)))))]
def inn_95f : T fr_95f → TH hr_95f → (Int) × ((Int × Int × Int × List Int × Unit) × Unit) := Prod.mk
def out_95f : (Int) × ((Int × Int × Int × List Int × Unit) × Unit) → T fr_95f × TH hr_95f := id
noncomputable def F_95f (a0 : Int) (a1 : Int) (a2 : Int × Int × Int × List Int × Unit) : Option ((Int) × ((Int × Int × Int × List Int × Unit) × Unit)) :=
 let x0 : Int := a2.2.2.1
 let x1 : List Int := a2.2.2.2.1
 ((F_957 x0 a1)).bind fun r2 =>
 (some (r2, ((a2.1, (a2.2.1, (x0, ((List.take (List.length x1) x1), ())))), ())))
noncomputable def G_95f : T fa_95f → TH ha_95f → Option ((Int) × ((Int × Int × Int × List Int × Unit) × Unit)) := fun x y => F_95f x.1 x.2.1 y.1
noncomputable def c_95f : Orc := ent i_95f [false, false, true] 0 (sp fa_95f ha_95f fr_95f hr_95f G_95f out_95f)
theorem ok_95f : OrcOk PR c_95f := fnT okO_95f mixed p_95f (by kernel_rfl) (by kernel_rfl) (L := L0) (kp := false) (by kernel_rfl) (inn := inn_95f) (out := out_95f) (fun _ _ => rfl) (loopsL (l := []) (by kernel_rfl) trivial) (fun x y => by kernel_rfl)
noncomputable def O_9a5 : Orc := c_95f
theorem okO_9a5 : OrcOk PR O_9a5 := ok_95f
abbrev fa_9a5 : Fm := (.pair (.agg (.pair (.i .i64) (.pair (.i .i64) (.pair (.i .i64) (.pair (.si .u32) .unit))))) (.pair (.i .i64) (.pair (.fn i_95f (.pair (.ref 0 1 0) .unit)) .unit)))
abbrev ha_9a5 : List BF := [(.list 1 y_92 true (.pair (.i .i64) (.pair (.i .i64) (.pair (.i .i64) (.pair (.si .u32) .unit)))))]
abbrev fr_9a5 : Fm := (.agg (.pair (.i .i64) (.pair (.i .i64) (.pair (.i .i64) (.pair (.si .u32) .unit)))))
abbrev hr_9a5 : List BF := [(.list 1 y_92 true (.pair (.i .i64) (.pair (.i .i64) (.pair (.i .i64) (.pair (.si .u32) .unit)))))]
abbrev ff_9a5_0 : Fm := (.us 2 (.cst (.fn i_95f (.cst (.ref 0 1 0) .unit)) (.us 3 (.cst (.ref 1 1 0) (.cst (.ref 2 1 0) (.us 13 (.pair (.si .u32) (.pair (.i .i64) (.pair (.i .i64) (.us 14 .unit))))))))))
abbrev hf_9a5_0 : List BF := [(.list 1 y_92 true (.pair (.i .i64) (.pair (.i .i64) (.pair (.i .i64) (.pair (.si .u32) .unit))))), (.list 1 y_92 true (.pair (.i .i64) (.pair (.i .i64) (.pair (.i .i64) (.cst .nils .unit))))), (.list 1 y_92 true (.pair (.i .i64) (.pair (.i .i64) (.pair (.i .i64) (.pair (.own 3 1 0 1) .unit))))), (.ints 1 y_91 true .u32)]
abbrev X_9a5_0 : Xs := (.one (.exit 0) [6, 7] (.us 6 (.cst (.ref 1 1 0) (.cst (.ref 2 1 0) (.us 30 .unit)))) [(.list 1 y_92 true (.pair (.i .i64) (.pair (.i .i64) (.pair (.i .i64) (.pair (.si .u32) .unit))))), (.list 1 y_92 true (.pair (.i .i64) (.pair (.i .i64) (.pair (.i .i64) (.cst .nils .unit))))), (.list 1 y_92 true (.pair (.i .i64) (.pair (.i .i64) (.pair (.i .i64) (.pair (.own 3 1 0 1) .unit))))), (.ints 1 y_91 true .u32)])
abbrev S_9a5_0 : Type := T ff_9a5_0 × TH hf_9a5_0
abbrev E_9a5_0 : Type := TX X_9a5_0
noncomputable def LB_9a5_0 : Lps := L0
noncomputable def st_9a5_0 : StepT S_9a5_0 E_9a5_0 := fun R v kn ko =>
 let x0 : Int := v.1.2.2.1
 let x1 : List Int := v.1.1
 let x2 : Nat := (Int.toNat x0)
 let x3 : List Int := v.2.1.2.2.2.1
 bif (decide (x0 < v.1.2.1)) then
 bif (decide (((0:Int) ≤ x0) ∧ (x0 < (((List.length x1) : Nat) : Int)))) then
 ((F_95f x0 (List.getD x1 x2 (0:Int)) (v.2.1.1, (v.2.1.2.1, (v.2.1.2.2.1, ((List.take (List.length x3) x3), ())))))).bind fun r4 =>
 let x5 : List Int := r4.2.1.2.2.2.1
 bif (decide (((0:Int) ≤ x0) ∧ (x0 < ((v.2.2.2.1.2.2.2.1 : Nat) : Int)))) then
 bif (decide (((0:Nat) + (x2 * (1:Nat))) < (List.length v.2.2.2.2.1))) then
 (kn (((List.take (List.length x1) x1), (v.1.2.1, ((IntKind.wrap .i64 (x0 + (1:Int))), ()))), ((r4.2.1.1, (r4.2.1.2.1, (r4.2.1.2.2.1, ((List.take (List.length x5) x5), ())))), (v.2.2.1, (v.2.2.2.1, ((List.set v.2.2.2.2.1 ((0:Nat) + (x2 * (1:Nat))) r4.1), ()))))))
 else
 none
 else
 none
 else
 none
 else
 (ko ((), ((v.2.1.1, (v.2.1.2.1, (v.2.1.2.2.1, ((List.take (List.length x3) x3), ())))), v.2.2)))
noncomputable def ls_9a5_0 : St → LTr := (lsum ff_9a5_0 hf_9a5_0 X_9a5_0 Prod.mk id st_9a5_0 (hd [] [] [2, 6, 7, 21, 22, 23] 1))
theorem lp_9a5_0 : LoopOk PR 1 (lpN f_95e 0) ls_9a5_0 := loopT okO_9a5 mixed (L := LB_9a5_0) (d := 1) (bs := []) (ks := [2, 6, 7, 21, 22, 23]) (loopsL (l := []) (by kernel_rfl) trivial) (by kernel_rfl) (inS := Prod.mk) (outS := id) (fun _ _ => rfl) (inX := id) (outX := id) (fun _ => rfl) (fun v R kn ko => by kernel_rfl) (hd_wk [] [] [2, 6, 7, 21, 22, 23] 1)
noncomputable def L_9a5 : Lps := (lpB 4 (.by_ ls_9a5_0) L0)
def inn_9a5 : T fr_9a5 → TH hr_9a5 → (Int × Int × Int × List Int × Unit) × ((Int × Int × Int × List Int × Unit) × Unit) := Prod.mk
def out_9a5 : (Int × Int × Int × List Int × Unit) × ((Int × Int × Int × List Int × Unit) × Unit) → T fr_9a5 × TH hr_9a5 := id
noncomputable def F_9a5 (a0 : Int × Int × Int × List Int × Unit) (a1 : Int) (a2 : Int × Int × Int × List Int × Unit) : Option ((Int × Int × Int × List Int × Unit) × ((Int × Int × Int × List Int × Unit) × Unit)) :=
 let x0 : List Int := a0.2.2.2.1
 let x1 : Nat := (List.length x0)
 let x2 : Int := ((x1 : Nat) : Int)
 let x3 : Int := a2.2.2.1
 let x4 : List Int := a2.2.2.2.1
 let x5 : Nat := (Int.toNat x2)
 bif (decide (((0:Int) ≤ x2) ∧ (x2 ≤ (1073741824:Int)))) then
 ((lim st_9a5_0 (((List.take x1 x0), (x2, ((0:Int), ()))), ((a2.1, (a2.2.1, (x3, ((List.take (List.length x4) x4), ())))), (((0:Int), ((0:Int), ((0:Int), ()))), ((a0.1, (a0.2.1, (a1, (x5, ())))), ((List.replicate x5 (0:Int)), ()))))))).bind fun r6 =>
 let x7 : List Int := r6.2.1.2.2.2.1
 (some ((r6.2.2.2.1.1, (r6.2.2.2.1.2.1, (r6.2.2.2.1.2.2.1, ((List.take r6.2.2.2.1.2.2.2.1 (List.drop (0:Nat) r6.2.2.2.2.1)), ())))), ((r6.2.1.1, (r6.2.1.2.1, (r6.2.1.2.2.1, ((List.take (List.length x7) x7), ())))), ())))
 else
 none
noncomputable def G_9a5 : T fa_9a5 → TH ha_9a5 → Option ((Int × Int × Int × List Int × Unit) × ((Int × Int × Int × List Int × Unit) × Unit)) := fun x y => F_9a5 x.1 x.2.1 y.1
noncomputable def c_9a5 : Orc := ent i_95e [false, false, true] 0 (sp fa_9a5 ha_9a5 fr_9a5 hr_9a5 G_9a5 out_9a5)
theorem ok_9a5 : OrcOk PR c_9a5 := fnT okO_9a5 mixed p_95e (by kernel_rfl) (by kernel_rfl) (L := L_9a5) (kp := false) (by kernel_rfl) (inn := inn_9a5) (out := out_9a5) (fun _ _ => rfl) (loopsL (l := [((lpN f_95e 0), ls_9a5_0)]) (by kernel_rfl) ⟨lp_9a5_0, trivial⟩) (fun x y => by kernel_rfl)
noncomputable def O_936 : Orc := (orm c_94d (orm c_9a5 c_95f))
theorem okO_936 : OrcOk PR O_936 := (orm_ok ok_94d (orm_ok ok_9a5 ok_95f))
abbrev fa_936 : Fm := (.pair (.agg (.pair (.i .i64) (.pair (.i .i64) (.pair (.i .i64) (.pair (.si .u32) .unit))))) .unit)
abbrev fr_936 : Fm := (.tup (.pair (.agg (.pair (.i .i64) (.pair (.i .i64) (.pair (.i .i64) (.pair (.si .u32) .unit))))) (.pair (.i .i64) .unit)))
noncomputable def F_936 (a0 : Int × Int × Int × List Int × Unit) : Option ((Int × Int × Int × List Int × Unit) × Int × Unit) :=
 let x0 : Int := a0.2.2.1
 let x1 : List Int := a0.2.2.2.1
 ((F_94d (a0.1, (a0.2.1, (x0, ((List.take (List.length x1) x1), ())))))).bind fun r2 =>
 bif (!r2) then
 (some (((0:Int), ((0:Int), ((0:Int), ([], ())))), ((21:Int), ())))
 else
 ((F_9a5 (a0.1, (a0.2.1, (x0, ((List.take (List.length x1) x1), ())))) (2:Int) (a0.1, (a0.2.1, (x0, ((List.take (List.length x1) x1), ())))))).bind fun r3 =>
 let x4 : List Int := r3.1.2.2.2.1
 (some ((r3.1.1, (r3.1.2.1, (r3.1.2.2.1, ((List.take (List.length x4) x4), ())))), ((0:Int), ())))
noncomputable def G_936 : T fa_936 → TH hN0 → Option ((Int × Int × Int × List Int × Unit) × Int × Unit) := fun x y => F_936 x.1
noncomputable def c_936 : Orc := ent i_936 [] 0 (sp fa_936 hN0 fr_936 hN0 G_936 (outN fr_936))
theorem ok_936 : OrcOk PR c_936 := fnT okO_936 mixed p_936 (by kernel_rfl) (by kernel_rfl) (L := L0) (kp := false) (by kernel_rfl) (inn := (innN fr_936)) (out := (outN fr_936)) (fun _ _ => rfl) (loopsL (l := []) (by kernel_rfl) trivial) (fun x y => by kernel_rfl)
noncomputable def O_980 : Orc := c_936
theorem okO_980 : OrcOk PR O_980 := ok_936
abbrev fa_980 : Fm := (.pair (.agg (.pair (.i .i64) (.pair (.i .i64) (.pair (.i .i64) (.pair (.si .u32) .unit))))) (.pair (.agg (.pair (.i .i64) (.pair (.i .i64) (.pair (.i .i64) (.pair (.si .u32) .unit))))) .unit))
abbrev fr_980 : Fm := (.tup (.pair (.agg (.pair (.i .i64) (.pair (.i .i64) (.pair (.i .i64) (.pair (.si .u32) .unit))))) (.pair (.agg (.pair (.i .i64) (.pair (.i .i64) (.pair (.i .i64) (.pair (.si .u32) .unit))))) (.pair .b .unit))))
noncomputable def F_980 (a0 : Int × Int × Int × List Int × Unit) (a1 : Int × Int × Int × List Int × Unit) : Option ((Int × Int × Int × List Int × Unit) × (Int × Int × Int × List Int × Unit) × Bool × Unit) :=
 let x0 : Int := a0.2.2.1
 let x1 : List Int := a0.2.2.2.1
 let x2 : Int := a1.2.2.1
 let x3 : List Int := a1.2.2.2.1
 ((F_936 (a0.1, (a0.2.1, (x0, ((List.take (List.length x1) x1), ())))))).bind fun r4 =>
 let x5 : Int := r4.1.2.1
 let x6 : Int := r4.1.2.2.1
 let x7 : List Int := r4.1.2.2.2.1
 ((F_936 (a1.1, (a1.2.1, (x2, ((List.take (List.length x3) x3), ())))))).bind fun r8 =>
 let x9 : Int := r8.1.2.1
 let x10 : Int := r8.1.2.2.1
 let x11 : List Int := r8.1.2.2.2.1
 bif (r4.2.1 == (0:Int)) then
 (some ((r4.1.1, (x5, (x6, ((List.take (List.length x7) x7), ())))), ((r8.1.1, (x9, (x10, ((List.take (List.length x11) x11), ())))), ((r8.2.1 == (0:Int)), ()))))
 else
 (some ((r4.1.1, (x5, (x6, ((List.take (List.length x7) x7), ())))), ((r8.1.1, (x9, (x10, ((List.take (List.length x11) x11), ())))), (false, ()))))
noncomputable def G_980 : T fa_980 → TH hN0 → Option ((Int × Int × Int × List Int × Unit) × (Int × Int × Int × List Int × Unit) × Bool × Unit) := fun x y => F_980 x.1 x.2.1
noncomputable def c_980 : Orc := ent i_980 [] 0 (sp fa_980 hN0 fr_980 hN0 G_980 (outN fr_980))
theorem ok_980 : OrcOk PR c_980 := fnT okO_980 mixed p_980 (by kernel_rfl) (by kernel_rfl) (L := L0) (kp := false) (by kernel_rfl) (inn := (innN fr_980)) (out := (outN fr_980)) (fun _ _ => rfl) (loopsL (l := []) (by kernel_rfl) trivial) (fun x y => by kernel_rfl)
noncomputable def O_99f : Orc := orn
theorem okO_99f : OrcOk PR O_99f := (orn_ok _)
abbrev fa_99f : Fm := (.pair (.agg (.pair (.i .i64) (.pair (.i .i64) (.pair (.i .i64) (.pair (.si .u32) .unit))))) (.pair (.i .i64) .unit))
abbrev fr_99f : Fm := (.si .u32)
noncomputable def F_99f (a0 : Int × Int × Int × List Int × Unit) (a1 : Int) : Option (List Int) :=
 let x0 : Nat := (Int.toNat (IntKind.wrap .i64 (a1 * a0.2.1)))
 let x1 : Nat := ((Int.toNat (IntKind.wrap .i64 ((IntKind.wrap .i64 (a1 + (1:Int))) * a0.2.1))) - x0)
 let x2 : List Int := a0.2.2.2.1
 bif (decide (((0:Int) ≤ (IntKind.wrap .i64 (a1 * a0.2.1))) ∧ (((IntKind.wrap .i64 (a1 * a0.2.1)) ≤ (IntKind.wrap .i64 ((IntKind.wrap .i64 (a1 + (1:Int))) * a0.2.1))) ∧ ((IntKind.wrap .i64 ((IntKind.wrap .i64 (a1 + (1:Int))) * a0.2.1)) ≤ (((List.length x2) : Nat) : Int))))) then
 (some (List.take x1 (List.take x1 (List.drop x0 x2))))
 else
 none
noncomputable def G_99f : T fa_99f → TH hN0 → Option (List Int) := fun x y => F_99f x.1 x.2.1
noncomputable def c_99f : Orc := ent i_99f [] 0 (sp fa_99f hN0 fr_99f hN0 G_99f (outN fr_99f))
theorem ok_99f : OrcOk PR c_99f := fnT okO_99f mixed p_99f (by kernel_rfl) (by kernel_rfl) (L := L0) (kp := false) (by kernel_rfl) (inn := (innN fr_99f)) (out := (outN fr_99f)) (fun _ _ => rfl) (loopsL (l := []) (by kernel_rfl) trivial) (fun x y => by kernel_rfl)
noncomputable def O_99e : Orc := c_937
theorem okO_99e : OrcOk PR O_99e := ok_937
abbrev fa_99e : Fm := (.pair (.si .u32) (.pair (.si .u32) .unit))
abbrev fr_99e : Fm := (.tup (.pair (.i .u32) (.pair (.i .i64) .unit)))
abbrev ff_99e_0 : Fm := (.us 1 (.pair (.si .u32) (.us 4 (.pair (.i .u32) (.us 7 (.pair (.si .u32) (.pair (.i .i64) (.pair (.i .i64) (.us 13 .unit)))))))))
abbrev hf_99e_0 : List BF := []
abbrev X_99e_0 : Xs := (.one (.exit 0) [6] (.us 6 (.pair (.i .u32) (.us 23 .unit))) [])
abbrev S_99e_0 : Type := T ff_99e_0 × TH hf_99e_0
abbrev E_99e_0 : Type := TX X_99e_0
noncomputable def LB_99e_0 : Lps := L0
noncomputable def st_99e_0 : StepT S_99e_0 E_99e_0 := fun R v kn ko =>
 let x0 : List Int := v.1.2.2.1
 let x1 : Int := v.1.2.2.2.2.1
 let x2 : Nat := (Int.toNat x1)
 let x3 : List Int := v.1.1
 let x4 : Int := v.1.2.1
 bif (decide (x1 < v.1.2.2.2.1)) then
 bif (decide (((0:Int) ≤ x1) ∧ (x1 < (((List.length x0) : Nat) : Int)))) then
 bif (decide (((0:Int) ≤ x1) ∧ (x1 < (((List.length x3) : Nat) : Int)))) then
 ((F_937 (List.getD x0 x2 (0:Int)) (List.getD x3 x2 (0:Int)) x4)).bind fun r5 =>
 (kn (((List.take (List.length x3) x3), (r5, ((List.take (List.length x0) x0), (v.1.2.2.2.1, ((IntKind.wrap .i64 (x1 + (1:Int))), ()))))), ()))
 else
 none
 else
 none
 else
 (ko ((x4, ()), ()))
noncomputable def ls_99e_0 : St → LTr := (lsum ff_99e_0 hf_99e_0 X_99e_0 Prod.mk id st_99e_0 (hd [] [] [1, 6, 14, 15, 16] 0))
theorem lp_99e_0 : LoopOk PR 0 (lpN f_99e 0) ls_99e_0 := loopT okO_99e mixed (L := LB_99e_0) (d := 1) (bs := []) (ks := [1, 6, 14, 15, 16]) (loopsL (l := []) (by kernel_rfl) trivial) (by kernel_rfl) (inS := Prod.mk) (outS := id) (fun _ _ => rfl) (inX := id) (outX := id) (fun _ => rfl) (fun v R kn ko => by kernel_rfl) (hd_wk [] [] [1, 6, 14, 15, 16] 0)
noncomputable def L_99e : Lps := (lpB 6 (.by_ ls_99e_0) L0)
noncomputable def F_99e (a0 : List Int) (a1 : List Int) : Option (Int × Int × Unit) :=
 bif ((((List.length a0) : Nat) : Int) != (((List.length a1) : Nat) : Int)) then
 (some ((0:Int), ((21:Int), ())))
 else
 ((lim st_99e_0 (((List.take (List.length a1) a1), ((0:Int), ((List.take (List.length a0) a0), ((((List.length a0) : Nat) : Int), ((0:Int), ()))))), ()))).bind fun r0 =>
 (some (r0.1.1, ((0:Int), ())))
noncomputable def G_99e : T fa_99e → TH hN0 → Option (Int × Int × Unit) := fun x y => F_99e x.1 x.2.1
noncomputable def c_99e : Orc := ent i_99e [] 0 (sp fa_99e hN0 fr_99e hN0 G_99e (outN fr_99e))
theorem ok_99e : OrcOk PR c_99e := fnT okO_99e mixed p_99e (by kernel_rfl) (by kernel_rfl) (L := L_99e) (kp := false) (by kernel_rfl) (inn := (innN fr_99e)) (out := (outN fr_99e)) (fun _ _ => rfl) (loopsL (l := [((lpN f_99e 0), ls_99e_0)]) (by kernel_rfl) ⟨lp_99e_0, trivial⟩) (fun x y => by kernel_rfl)
noncomputable def O_948 : Orc := c_937
theorem okO_948 : OrcOk PR O_948 := ok_937
abbrev fa_948 : Fm := (.pair (.i .u32) (.pair (.i .u32) (.pair (.si .u32) .unit)))
abbrev fr_948 : Fm := (.i .u32)
abbrev ff_948_0 : Fm := (.pair (.i .u32) (.pair (.i .u32) (.us 7 (.pair (.si .u32) (.pair (.i .i64) (.pair (.i .i64) (.us 9 .unit)))))))
abbrev hf_948_0 : List BF := []
abbrev X_948_0 : Xs := (.one (.exit 0) [1] (.us 1 (.pair (.i .u32) (.us 19 .unit))) [])
abbrev S_948_0 : Type := T ff_948_0 × TH hf_948_0
abbrev E_948_0 : Type := TX X_948_0
noncomputable def LB_948_0 : Lps := L0
noncomputable def st_948_0 : StepT S_948_0 E_948_0 := fun R v kn ko =>
 let x0 : Int := v.1.2.1
 let x1 : Int := v.1.1
 let x2 : List Int := v.1.2.2.1
 let x3 : Int := v.1.2.2.2.2.1
 bif (decide (x3 < v.1.2.2.2.1)) then
 bif (decide (((0:Int) ≤ x3) ∧ (x3 < (((List.length x2) : Nat) : Int)))) then
 ((F_937 x0 x1 (List.getD x2 (Int.toNat x3) (0:Int)))).bind fun r4 =>
 (kn ((x1, (r4, ((List.take (List.length x2) x2), (v.1.2.2.2.1, ((IntKind.wrap .i64 (x3 + (1:Int))), ()))))), ()))
 else
 none
 else
 (ko ((x0, ()), ()))
noncomputable def ls_948_0 : St → LTr := (lsum ff_948_0 hf_948_0 X_948_0 Prod.mk id st_948_0 (hd [] [] [0, 1, 9, 10, 11] 0))
theorem lp_948_0 : LoopOk PR 0 (lpN f_948 0) ls_948_0 := loopT okO_948 mixed (L := LB_948_0) (d := 1) (bs := []) (ks := [0, 1, 9, 10, 11]) (loopsL (l := []) (by kernel_rfl) trivial) (by kernel_rfl) (inS := Prod.mk) (outS := id) (fun _ _ => rfl) (inX := id) (outX := id) (fun _ => rfl) (fun v R kn ko => by kernel_rfl) (hd_wk [] [] [0, 1, 9, 10, 11] 0)
noncomputable def L_948 : Lps := (lpB 3 (.by_ ls_948_0) L0)
noncomputable def F_948 (a0 : Int) (a1 : Int) (a2 : List Int) : Option (Int) :=
 ((lim st_948_0 ((a0, (a1, ((List.take (List.length a2) a2), ((((List.length a2) : Nat) : Int), ((0:Int), ()))))), ()))).bind fun r0 =>
 (some r0.1.1)
noncomputable def G_948 : T fa_948 → TH hN0 → Option (Int) := fun x y => F_948 x.1 x.2.1 x.2.2.1
noncomputable def c_948 : Orc := ent i_948 [] 0 (sp fa_948 hN0 fr_948 hN0 G_948 (outN fr_948))
theorem ok_948 : OrcOk PR c_948 := fnT okO_948 mixed p_948 (by kernel_rfl) (by kernel_rfl) (L := L_948) (kp := false) (by kernel_rfl) (inn := (innN fr_948)) (out := (outN fr_948)) (fun _ _ => rfl) (loopsL (l := [((lpN f_948 0), ls_948_0)]) (by kernel_rfl) ⟨lp_948_0, trivial⟩) (fun x y => by kernel_rfl)
noncomputable def O_93a : Orc := (orm c_93d (orm c_93e (orm c_946 (orm c_940 (orm c_947 (orm c_964 (orm c_91b (orm c_965 (orm c_937 (orm c_948 c_945))))))))))
theorem okO_93a : OrcOk PR O_93a := (orm_ok ok_93d (orm_ok ok_93e (orm_ok ok_946 (orm_ok ok_940 (orm_ok ok_947 (orm_ok ok_964 (orm_ok ok_91b (orm_ok ok_965 (orm_ok ok_937 (orm_ok ok_948 ok_945))))))))))
abbrev fa_93a : Fm := (.pair (.i .u32) .unit)
abbrev fr_93a : Fm := (.i .u32)
noncomputable def F_93a (a0 : Int) : Option (Int) :=
 ((F_93d a0)).bind fun r0 =>
 bif r0 then
 (some (2143289344:Int))
 else
 ((F_946 a0 (1118925336:Int))).bind fun r1 =>
 bif r1 then
 (some (2139095040:Int))
 else
 ((F_946 (3268407733:Int) a0)).bind fun r2 =>
 bif r2 then
 (some (0:Int))
 else
 ((F_947 a0 (1069066811:Int))).bind fun r3 =>
 ((F_964 (2:Int) (0:Int) r3)).bind fun r4 =>
 let x5 : Int := (IntKind.wrap .i64 r4.1)
 ((F_91b x5)).bind fun r6 =>
 let x7 : Int := (bits .xor .u32 (bits .and .u32 r6 (4294967295:Int)) (2147483648:Int))
 ((F_937 x7 (1060205056:Int) a0)).bind fun r8 =>
 ((F_937 x7 (901758606:Int) r8)).bind fun r9 =>
 ((F_948 r9 (985008993:Int) [(1007192201:Int), (1026206379:Int), (1042983595:Int), (1056964608:Int), (1065353216:Int), (1065353216:Int)])).bind fun r10 =>
 ((F_945 r10 x5)).bind fun r11 =>
 (some r11)
noncomputable def G_93a : T fa_93a → TH hN0 → Option (Int) := fun x y => F_93a x.1
noncomputable def c_93a : Orc := ent i_93a [] 0 (sp fa_93a hN0 fr_93a hN0 G_93a (outN fr_93a))
theorem ok_93a : OrcOk PR c_93a := fnT okO_93a mixed p_93a (by kernel_rfl) (by kernel_rfl) (L := L0) (kp := false) (by kernel_rfl) (inn := (innN fr_93a)) (out := (outN fr_93a)) (fun _ _ => rfl) (loopsL (l := []) (by kernel_rfl) trivial) (fun x y => by kernel_rfl)
noncomputable def O_99a : Orc := (orm c_93d (orm c_93e (orm c_93f (orm c_941 (orm c_965 (orm c_946 (orm c_91c (orm c_93a (orm c_91e c_91d)))))))))
theorem okO_99a : OrcOk PR O_99a := (orm_ok ok_93d (orm_ok ok_93e (orm_ok ok_93f (orm_ok ok_941 (orm_ok ok_965 (orm_ok ok_946 (orm_ok ok_91c (orm_ok ok_93a (orm_ok ok_91e ok_91d)))))))))
abbrev fa_99a : Fm := (.pair (.i .u32) .unit)
abbrev fr_99a : Fm := (.i .u32)
noncomputable def F_99a (a0 : Int) : Option (Int) :=
 let x0 : Bool := ((bits .and .u32 (a0 / (2147483648:Int)) (1:Int)) == (1:Int))
 let x1 : Int := (bits .xor .u32 (bits .and .u32 a0 (4294967295:Int)) (2147483648:Int))
 ((F_93d a0)).bind fun r2 =>
 bif r2 then
 (some (2143289344:Int))
 else
 ((F_93f (2:Int) a0)).bind fun r3 =>
 bif r3 then
 (some a0)
 else
 bif x0 then
 ((F_946 x1 (1091579060:Int))).bind fun r4 =>
 bif (!r4) then
 ((F_91c x1 x1)).bind fun r5 =>
 ((F_93a r5)).bind fun r6 =>
 ((F_91c r6 (1065353216:Int))).bind fun r7 =>
 ((F_91e (1073741824:Int) r7)).bind fun r8 =>
 ((F_91d (1065353216:Int) r8)).bind fun r9 =>
 bif x0 then
 (some (bits .xor .u32 (bits .and .u32 r9 (4294967295:Int)) (2147483648:Int)))
 else
 (some r9)
 else
 bif x0 then
 (some (3212836864:Int))
 else
 (some (1065353216:Int))
 else
 ((F_946 a0 (1091579060:Int))).bind fun r10 =>
 bif (!r10) then
 ((F_91c a0 a0)).bind fun r11 =>
 ((F_93a r11)).bind fun r12 =>
 ((F_91c r12 (1065353216:Int))).bind fun r13 =>
 ((F_91e (1073741824:Int) r13)).bind fun r14 =>
 ((F_91d (1065353216:Int) r14)).bind fun r15 =>
 bif x0 then
 (some (bits .xor .u32 (bits .and .u32 r15 (4294967295:Int)) (2147483648:Int)))
 else
 (some r15)
 else
 bif x0 then
 (some (3212836864:Int))
 else
 (some (1065353216:Int))
noncomputable def G_99a : T fa_99a → TH hN0 → Option (Int) := fun x y => F_99a x.1
noncomputable def c_99a : Orc := ent i_99a [] 0 (sp fa_99a hN0 fr_99a hN0 G_99a (outN fr_99a))
theorem ok_99a : OrcOk PR c_99a := fnT okO_99a mixed p_99a (by kernel_rfl) (by kernel_rfl) (L := L0) (kp := false) (by kernel_rfl) (inn := (innN fr_99a)) (out := (outN fr_99a)) (fun _ _ => rfl) (loopsL (l := []) (by kernel_rfl) trivial) (fun x y => by kernel_rfl)
noncomputable def O_9a2 : Orc := (orm c_947 c_937)
theorem okO_9a2 : OrcOk PR O_9a2 := (orm_ok ok_947 ok_937)
abbrev fa_9a2 : Fm := (.pair (.i .u32) .unit)
abbrev fr_9a2 : Fm := (.i .u32)
noncomputable def F_9a2 (a0 : Int) : Option (Int) :=
 ((F_947 a0 a0)).bind fun r0 =>
 ((F_947 r0 a0)).bind fun r1 =>
 ((F_937 (1027024659:Int) r1 a0)).bind fun r2 =>
 ((F_947 (1061962282:Int) r2)).bind fun r3 =>
 (some r3)
noncomputable def G_9a2 : T fa_9a2 → TH hN0 → Option (Int) := fun x y => F_9a2 x.1
noncomputable def c_9a2 : Orc := ent i_9a2 [] 0 (sp fa_9a2 hN0 fr_9a2 hN0 G_9a2 (outN fr_9a2))
theorem ok_9a2 : OrcOk PR c_9a2 := fnT okO_9a2 mixed p_9a2 (by kernel_rfl) (by kernel_rfl) (L := L0) (kp := false) (by kernel_rfl) (inn := (innN fr_9a2)) (out := (outN fr_9a2)) (fun _ _ => rfl) (loopsL (l := []) (by kernel_rfl) trivial) (fun x y => by kernel_rfl)
noncomputable def O_99b : Orc := (orm c_947 (orm c_9a2 (orm c_99a c_91c)))
theorem okO_99b : OrcOk PR O_99b := (orm_ok ok_947 (orm_ok ok_9a2 (orm_ok ok_99a ok_91c)))
abbrev fa_99b : Fm := (.pair (.i .u32) .unit)
abbrev fr_99b : Fm := (.i .u32)
noncomputable def F_99b (a0 : Int) : Option (Int) :=
 ((F_947 (1056964608:Int) a0)).bind fun r0 =>
 ((F_9a2 a0)).bind fun r1 =>
 ((F_99a r1)).bind fun r2 =>
 ((F_91c (1065353216:Int) r2)).bind fun r3 =>
 ((F_947 r0 r3)).bind fun r4 =>
 (some r4)
noncomputable def G_99b : T fa_99b → TH hN0 → Option (Int) := fun x y => F_99b x.1
noncomputable def c_99b : Orc := ent i_99b [] 0 (sp fa_99b hN0 fr_99b hN0 G_99b (outN fr_99b))
theorem ok_99b : OrcOk PR c_99b := fnT okO_99b mixed p_99b (by kernel_rfl) (by kernel_rfl) (L := L0) (kp := false) (by kernel_rfl) (inn := (innN fr_99b)) (out := (outN fr_99b)) (fun _ _ => rfl) (loopsL (l := []) (by kernel_rfl) trivial) (fun x y => by kernel_rfl)
noncomputable def O_999 : Orc := c_96d
theorem okO_999 : OrcOk PR O_999 := ok_96d
abbrev fa_999 : Fm := .unit
abbrev fr_999 : Fm := (.i .u32)
noncomputable def F_999  : Option (Int) :=
 (some (2143289344:Int))
noncomputable def G_999 : T fa_999 → TH hN0 → Option (Int) := fun x y => F_999
noncomputable def c_999 : Orc := ent i_999 [] 0 (sp fa_999 hN0 fr_999 hN0 G_999 (outN fr_999))
theorem ok_999 : OrcOk PR c_999 := fnT okO_999 mixed p_999 (by kernel_rfl) (by kernel_rfl) (L := L0) (kp := false) (by kernel_rfl) (inn := (innN fr_999)) (out := (outN fr_999)) (fun _ _ => rfl) (loopsL (l := []) (by kernel_rfl) trivial) (fun x y => by kernel_rfl)
noncomputable def O_982 : Orc := orn
theorem okO_982 : OrcOk PR O_982 := (orn_ok _)
abbrev fa_982 : Fm := (.pair (.i .i64) .unit)
abbrev fr_982 : Fm := .b
noncomputable def F_982 (a0 : Int) : Option (Bool) :=
 bif (decide (a0 ≥ (0:Int))) then
 (some (decide (a0 ≤ (3:Int))))
 else
 (some false)
noncomputable def G_982 : T fa_982 → TH hN0 → Option (Bool) := fun x y => F_982 x.1
noncomputable def c_982 : Orc := ent i_982 [] 0 (sp fa_982 hN0 fr_982 hN0 G_982 (outN fr_982))
theorem ok_982 : OrcOk PR c_982 := fnT okO_982 mixed p_982 (by kernel_rfl) (by kernel_rfl) (L := L0) (kp := false) (by kernel_rfl) (inn := (innN fr_982)) (out := (outN fr_982)) (fun _ _ => rfl) (loopsL (l := []) (by kernel_rfl) trivial) (fun x y => by kernel_rfl)
noncomputable def O_985 : Orc := (orm c_93d (orm c_999 (orm c_946 (orm c_99a c_99b))))
theorem okO_985 : OrcOk PR O_985 := (orm_ok ok_93d (orm_ok ok_999 (orm_ok ok_946 (orm_ok ok_99a ok_99b))))
abbrev fa_985 : Fm := (.pair (.i .i64) (.pair (.i .u32) .unit))
abbrev fr_985 : Fm := (.i .u32)
noncomputable def F_985 (a0 : Int) (a1 : Int) : Option (Int) :=
 bif (a0 == (0:Int)) then
 (some a1)
 else
 bif (a0 == (1:Int)) then
 ((F_93d a1)).bind fun r0 =>
 bif r0 then
 (some (2143289344:Int))
 else
 ((F_946 a1 (0:Int))).bind fun r1 =>
 bif r1 then
 (some a1)
 else
 (some (0:Int))
 else
 bif (a0 == (2:Int)) then
 ((F_99a a1)).bind fun r2 =>
 (some r2)
 else
 bif (a0 == (3:Int)) then
 ((F_99b a1)).bind fun r3 =>
 (some r3)
 else
 (some (2143289344:Int))
noncomputable def G_985 : T fa_985 → TH hN0 → Option (Int) := fun x y => F_985 x.1 x.2.1
noncomputable def c_985 : Orc := ent i_985 [] 0 (sp fa_985 hN0 fr_985 hN0 G_985 (outN fr_985))
theorem ok_985 : OrcOk PR c_985 := fnT okO_985 mixed p_985 (by kernel_rfl) (by kernel_rfl) (L := L0) (kp := false) (by kernel_rfl) (inn := (innN fr_985)) (out := (outN fr_985)) (fun _ _ => rfl) (loopsL (l := []) (by kernel_rfl) trivial) (fun x y => by kernel_rfl)
end Go.Proofs.YtkmkhcmfpbffjaaGreat.VI
