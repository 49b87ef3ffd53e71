import Derived.Test.YtfpjkmgfkaoapaaGreatTb8f6a722
namespace Go.Proofs.YtfpjkmgfkaoapaaGreat.VI
set_option linter.unusedVariables false
set_option linter.unusedSimpArgs false
set_option maxRecDepth 100000
noncomputable def O_948 : Orc := orn
theorem okO_948 : OrcOk PR O_948 := (orn_ok _)
abbrev fa_948 : Fm := (.pair (.i .i64) .unit)
abbrev fr_948 : Fm := .b
noncomputable def F_948 (a0 : Int) : Option (Bool) :=
 bif (a0 == (0:Int)) then
 (some true)
 else
 bif (a0 == (1:Int)) then
 (some true)
 else
 (some (a0 == (2:Int)))
noncomputable def G_948 : T fa_948 → TH hN0 → Option (Bool) := fun x y => F_948 x.1
noncomputable def c_948 : Orc := ent i_948 [] 0 (sp fa_948 hN0 fr_948 hN0 G_948 (outN fr_948))
theorem ok_948 : OrcOk PR c_948 := fnT okO_948 mixed p_948 (by kernel_rfl) (by kernel_rfl) (L := L0) (kp := false) (by kernel_rfl) (inn := (innN fr_948)) (out := (outN fr_948)) (fun _ _ => rfl) (loopsL (l := []) (by kernel_rfl) trivial) (fun x y => by kernel_rfl)
noncomputable def O_94a : Orc := c_94b
theorem okO_94a : OrcOk PR O_94a := ok_94b
abbrev fa_94a : Fm := (.pair (.i .u32) (.cst (.ref 0 1 0) .unit))
abbrev ha_94a : List BF := [(.list 1 y_91 true (.pair (.i .i64) (.pair (.i .i64) (.pair (.i .i64) (.pair (.si .u32) .unit)))))]
abbrev fr_94a : Fm := .b
abbrev hr_94a : List BF := [(.list 1 y_91 true (.pair (.i .i64) (.pair (.i .i64) (.pair (.i .i64) (.pair (.si .u32) .unit)))))]
def inn_94a : T fr_94a → TH hr_94a → (Bool) × ((Int × Int × Int × List Int × Unit) × Unit) := Prod.mk
def out_94a : (Bool) × ((Int × Int × Int × List Int × Unit) × Unit) → T fr_94a × TH hr_94a := id
noncomputable def F_94a (a0 : Int) (a1 : Int × Int × Int × List Int × Unit) : Option ((Bool) × ((Int × Int × Int × List Int × Unit) × Unit)) :=
 let x0 : Int := a1.2.2.1
 let x1 : List Int := a1.2.2.2.1
 ((F_94b x0)).bind fun r2 =>
 (some (((bits .andNot .u32 a0 r2) != (0:Int)), ((a1.1, (a1.2.1, (x0, ((List.take (List.length x1) x1), ())))), ())))
noncomputable def G_94a : T fa_94a → TH ha_94a → Option ((Bool) × ((Int × Int × Int × List Int × Unit) × Unit)) := fun x y => F_94a x.1 y.1
noncomputable def c_94a : Orc := ent i_94a [false, true] 0 (sp fa_94a ha_94a fr_94a hr_94a G_94a out_94a)
theorem ok_94a : OrcOk PR c_94a := fnT okO_94a mixed p_94a (by kernel_rfl) (by kernel_rfl) (L := L0) (kp := false) (by kernel_rfl) (inn := inn_94a) (out := out_94a) (fun _ _ => rfl) (loopsL (l := []) (by kernel_rfl) trivial) (fun x y => by kernel_rfl)
noncomputable def O_9a4 : Orc := c_94a
theorem okO_9a4 : OrcOk PR O_9a4 := ok_94a
abbrev fa_9a4 : Fm := (.pair (.si .u32) (.pair (.fn i_94a (.pair (.ref 0 1 0) .unit)) .unit))
abbrev ha_9a4 : List BF := [(.list 1 y_91 true (.pair (.i .i64) (.pair (.i .i64) (.pair (.i .i64) (.pair (.si .u32) .unit)))))]
abbrev fr_9a4 : Fm := (.i .i64)
abbrev hr_9a4 : List BF := [(.list 1 y_91 true (.pair (.i .i64) (.pair (.i .i64) (.pair (.i .i64) (.pair (.si .u32) .unit)))))]
abbrev ff_9a4_0 : Fm := (.pair (.si .u32) (.cst (.fn i_94a (.cst (.ref 0 1 0) .unit)) (.us 5 (.pair (.i .i64) (.pair (.i .i64) (.us 10 .unit))))))
abbrev hf_9a4_0 : List BF := [(.list 1 y_91 true (.pair (.i .i64) (.pair (.i .i64) (.pair (.i .i64) (.pair (.si .u32) .unit)))))]
abbrev X_9a4_0 : Xs := (.alt (.exit 0) [] (.us 19 .unit) [(.list 1 y_91 true (.pair (.i .i64) (.pair (.i .i64) (.pair (.i .i64) (.pair (.si .u32) .unit)))))] (.one .ret [4] (.us 4 (.pair (.i .i64) (.us 14 .unit))) [(.list 1 y_91 true (.pair (.i .i64) (.pair (.i .i64) (.pair (.i .i64) (.pair (.si .u32) .unit)))))]))
abbrev S_9a4_0 : Type := T ff_9a4_0 × TH hf_9a4_0
abbrev E_9a4_0 : Type := TX X_9a4_0
noncomputable def LB_9a4_0 : Lps := L0
noncomputable def st_9a4_0 : StepT S_9a4_0 E_9a4_0 := fun R v kn ko =>
 let x0 : List Int := v.1.1
 let x1 : Int := v.1.2.2.1
 let x2 : List Int := v.2.1.2.2.2.1
 bif (decide (x1 < v.1.2.1)) then
 bif (decide (((0:Int) ≤ x1) ∧ (x1 < (((List.length x0) : Nat) : Int)))) then
 ((F_94a (List.getD x0 (Int.toNat x1) (0:Int)) (v.2.1.1, (v.2.1.2.1, (v.2.1.2.2.1, ((List.take (List.length x2) x2), ())))))).bind fun r3 =>
 let x4 : List Int := r3.2.1.2.2.2.1
 bif r3.1 then
 (ko (Sum.inr (v.1.2.2, ((r3.2.1.1, (r3.2.1.2.1, (r3.2.1.2.2.1, ((List.take (List.length x4) x4), ())))), ()))))
 else
 (kn (((List.take (List.length x0) x0), (v.1.2.1, ((IntKind.wrap .i64 (x1 + (1:Int))), ()))), ((r3.2.1.1, (r3.2.1.2.1, (r3.2.1.2.2.1, ((List.take (List.length x4) x4), ())))), ())))
 else
 none
 else
 (ko (Sum.inl ((), ((v.2.1.1, (v.2.1.2.1, (v.2.1.2.2.1, ((List.take (List.length x2) x2), ())))), ()))))
noncomputable def ls_9a4_0 : St → LTr := (lsum ff_9a4_0 hf_9a4_0 X_9a4_0 Prod.mk id st_9a4_0 (hd [] [] [0, 1, 7, 8] 1))
theorem lp_9a4_0 : LoopOk PR 1 (lpN f_976 0) ls_9a4_0 := loopT okO_9a4 mixed (L := LB_9a4_0) (d := 1) (bs := []) (ks := [0, 1, 7, 8]) (loopsL (l := []) (by kernel_rfl) trivial) (by kernel_rfl) (inS := Prod.mk) (outS := id) (fun _ _ => rfl) (inX := id) (outX := id) (fun _ => rfl) (fun v R kn ko => by kernel_rfl) (hd_wk [] [] [0, 1, 7, 8] 1)
noncomputable def L_9a4 : Lps := (lpB 3 (.by_ ls_9a4_0) L0)
def inn_9a4 : T fr_9a4 → TH hr_9a4 → (Int) × ((Int × Int × Int × List Int × Unit) × Unit) := Prod.mk
def out_9a4 : (Int) × ((Int × Int × Int × List Int × Unit) × Unit) → T fr_9a4 × TH hr_9a4 := id
noncomputable def F_9a4 (a0 : List Int) (a1 : Int × Int × Int × List Int × Unit) : Option ((Int) × ((Int × Int × Int × List Int × Unit) × Unit)) :=
 let x0 : Int := a1.2.2.1
 let x1 : List Int := a1.2.2.2.1
 ((lim st_9a4_0 (((List.take (List.length a0) a0), ((((List.length a0) : Nat) : Int), ((0:Int), ()))), ((a1.1, (a1.2.1, (x0, ((List.take (List.length x1) x1), ())))), ())))).bind fun r2 =>
 els (fun l3 =>
 let x5 : Int := l3.2.1.1
 let x6 : Int := l3.2.1.2.1
 let x7 : Int := l3.2.1.2.2.1
 let x8 : List Int := l3.2.1.2.2.2.1
 (some ((-(1:Int)), ((x5, (x6, (x7, ((List.take (List.length x8) x8), ())))), ())))) (fun r4 =>
 let x9 : Int := r4.2.1.1
 let x10 : Int := r4.2.1.2.1
 let x11 : Int := r4.2.1.2.2.1
 let x12 : List Int := r4.2.1.2.2.2.1
 (some (r4.1.1, ((x9, (x10, (x11, ((List.take (List.length x12) x12), ())))), ())))) r2
noncomputable def G_9a4 : T fa_9a4 → TH ha_9a4 → Option ((Int) × ((Int × Int × Int × List Int × Unit) × Unit)) := fun x y => F_9a4 x.1 y.1
noncomputable def c_9a4 : Orc := ent i_976 [false, true] 0 (sp fa_9a4 ha_9a4 fr_9a4 hr_9a4 G_9a4 out_9a4)
theorem ok_9a4 : OrcOk PR c_9a4 := fnT okO_9a4 mixed p_976 (by kernel_rfl) (by kernel_rfl) (L := L_9a4) (kp := false) (by kernel_rfl) (inn := inn_9a4) (out := out_9a4) (fun _ _ => rfl) (loopsL (l := [((lpN f_976 0), ls_9a4_0)]) (by kernel_rfl) ⟨lp_9a4_0, trivial⟩) (fun x y => by kernel_rfl)
noncomputable def O_9a5 : Orc := c_9a4
theorem okO_9a5 : OrcOk PR O_9a5 := ok_9a4
abbrev fa_9a5 : Fm := (.pair (.si .u32) (.pair (.fn i_94a (.pair (.ref 0 1 0) .unit)) .unit))
abbrev ha_9a5 : List BF := [(.list 1 y_91 true (.pair (.i .i64) (.pair (.i .i64) (.pair (.i .i64) (.pair (.si .u32) .unit)))))]
abbrev fr_9a5 : Fm := .b
abbrev hr_9a5 : List BF := [(.list 1 y_91 true (.pair (.i .i64) (.pair (.i .i64) (.pair (.i .i64) (.pair (.si .u32) .unit)))))]
def inn_9a5 : T fr_9a5 → TH hr_9a5 → (Bool) × ((Int × Int × Int × List Int × Unit) × Unit) := Prod.mk
def out_9a5 : (Bool) × ((Int × Int × Int × List Int × Unit) × Unit) → T fr_9a5 × TH hr_9a5 := id
noncomputable def F_9a5 (a0 : List Int) (a1 : Int × Int × Int × List Int × Unit) : Option ((Bool) × ((Int × Int × Int × List Int × Unit) × Unit)) :=
 let x0 : Int := a1.2.2.1
 let x1 : List Int := a1.2.2.2.1
 ((F_9a4 (List.take (List.length a0) a0) (a1.1, (a1.2.1, (x0, ((List.take (List.length x1) x1), ())))))).bind fun r2 =>
 let x3 : List Int := r2.2.1.2.2.2.1
 (some ((decide (r2.1 ≥ (0:Int))), ((r2.2.1.1, (r2.2.1.2.1, (r2.2.1.2.2.1, ((List.take (List.length x3) x3), ())))), ())))
noncomputable def G_9a5 : T fa_9a5 → TH ha_9a5 → Option ((Bool) × ((Int × Int × Int × List Int × Unit) × Unit)) := fun x y => F_9a5 x.1 y.1
noncomputable def c_9a5 : Orc := ent i_949 [false, true] 0 (sp fa_9a5 ha_9a5 fr_9a5 hr_9a5 G_9a5 out_9a5)
theorem ok_9a5 : OrcOk PR c_9a5 := fnT okO_9a5 mixed p_949 (by kernel_rfl) (by kernel_rfl) (L := L0) (kp := false) (by kernel_rfl) (inn := inn_9a5) (out := out_9a5) (fun _ _ => rfl) (loopsL (l := []) (by kernel_rfl) trivial) (fun x y => by kernel_rfl)
noncomputable def O_91d : Orc := (orm c_948 (orm c_9a5 c_94a))
theorem okO_91d : OrcOk PR O_91d := (orm_ok ok_948 (orm_ok ok_9a5 ok_94a))
abbrev fa_91d : Fm := (.pair (.agg (.pair (.i .i64) (.pair (.i .i64) (.pair (.i .i64) (.pair (.si .u32) .unit))))) .unit)
abbrev fr_91d : Fm := .b
noncomputable def F_91d (a0 : Int × Int × Int × List Int × Unit) : Option (Bool) :=
 let x0 : Int := a0.2.2.1
 let x1 : List Int := a0.2.2.2.1
 let x2 : Nat := (List.length x1)
 let x3 : List Int := (List.take x2 x1)
 bif (decide (a0.1 < (0:Int))) then
 (some false)
 else
 bif (decide (a0.1 > (4096:Int))) then
 (some false)
 else
 bif (decide (a0.2.1 < (0:Int))) then
 (some false)
 else
 bif (decide (a0.2.1 > (4096:Int))) then
 (some false)
 else
 ((F_948 x0)).bind fun r4 =>
 bif (!r4) then
 (some false)
 else
 bif (((x2 : Nat) : Int) != (IntKind.wrap .i64 (a0.1 * a0.2.1))) then
 (some false)
 else
 ((F_9a5 x3 (a0.1, (a0.2.1, (x0, (x3, ())))))).bind fun r5 =>
 (some (!r5.1))
noncomputable def G_91d : T fa_91d → TH hN0 → Option (Bool) := fun x y => F_91d x.1
noncomputable def c_91d : Orc := ent i_91d [] 0 (sp fa_91d hN0 fr_91d hN0 G_91d (outN fr_91d))
theorem ok_91d : OrcOk PR c_91d := fnT okO_91d mixed p_91d (by kernel_rfl) (by kernel_rfl) (L := L0) (kp := false) (by kernel_rfl) (inn := (innN fr_91d)) (out := (outN fr_91d)) (fun _ _ => rfl) (loopsL (l := []) (by kernel_rfl) trivial) (fun x y => by kernel_rfl)
noncomputable def O_96b : Orc := c_91f
theorem okO_96b : OrcOk PR O_96b := ok_91f
abbrev fa_96b : Fm := (.pair (.i .i64) (.pair (.i .u32) (.cst (.ref 0 1 0) .unit)))
abbrev ha_96b : List BF := [(.list 1 y_91 true (.pair (.i .i64) (.pair (.i .i64) (.pair (.i .i64) (.pair (.si .u32) .unit)))))]
abbrev fr_96b : Fm := (.i .u32)
abbrev hr_96b : List BF := [(.list 1 y_91 true (.pair (.i .i64) (.pair (.i .i64) (.pair (.i .i64) (.pair (.si .u32) .unit)))))]
def inn_96b : T fr_96b → TH hr_96b → (Int) × ((Int × Int × Int × List Int × Unit) × Unit) := Prod.mk
def out_96b : (Int) × ((Int × Int × Int × List Int × Unit) × Unit) → T fr_96b × TH hr_96b := id
noncomputable def F_96b (a0 : Int) (a1 : Int) (a2 : Int × Int × Int × List Int × Unit) : Option ((Int) × ((Int × Int × Int × List Int × Unit) × Unit)) :=
 let x0 : Int := a2.2.2.1
 let x1 : List Int := a2.2.2.2.1
 ((F_91f x0 a1)).bind fun r2 =>
 (some (r2, ((a2.1, (a2.2.1, (x0, ((List.take (List.length x1) x1), ())))), ())))
noncomputable def G_96b : T fa_96b → TH ha_96b → Option ((Int) × ((Int × Int × Int × List Int × Unit) × Unit)) := fun x y => F_96b x.1 x.2.1 y.1
noncomputable def c_96b : Orc := ent i_96b [false, false, true] 0 (sp fa_96b ha_96b fr_96b hr_96b G_96b out_96b)
theorem ok_96b : OrcOk PR c_96b := fnT okO_96b mixed p_96b (by kernel_rfl) (by kernel_rfl) (L := L0) (kp := false) (by kernel_rfl) (inn := inn_96b) (out := out_96b) (fun _ _ => rfl) (loopsL (l := []) (by kernel_rfl) trivial) (fun x y => by kernel_rfl)
noncomputable def O_9a6 : Orc := c_96b
theorem okO_9a6 : OrcOk PR O_9a6 := ok_96b
abbrev fa_9a6 : Fm := (.pair (.agg (.pair (.i .i64) (.pair (.i .i64) (.pair (.i .i64) (.pair (.si .u32) .unit))))) (.pair (.i .i64) (.pair (.fn i_96b (.pair (.ref 0 1 0) .unit)) .unit)))
abbrev ha_9a6 : List BF := [(.list 1 y_91 true (.pair (.i .i64) (.pair (.i .i64) (.pair (.i .i64) (.pair (.si .u32) .unit)))))]
abbrev fr_9a6 : Fm := (.agg (.pair (.i .i64) (.pair (.i .i64) (.pair (.i .i64) (.pair (.si .u32) .unit)))))
abbrev hr_9a6 : List BF := [(.list 1 y_91 true (.pair (.i .i64) (.pair (.i .i64) (.pair (.i .i64) (.pair (.si .u32) .unit)))))]
abbrev ff_9a6_0 : Fm := (.us 2 (.cst (.fn i_96b (.cst (.ref 0 1 0) .unit)) (.us 3 (.cst (.ref 1 1 0) (.cst (.ref 2 1 0) (.us 13 (.pair (.si .u32) (.pair (.i .i64) (.pair (.i .i64) (.us 14 .unit))))))))))
abbrev hf_9a6_0 : List BF := [(.list 1 y_91 true (.pair (.i .i64) (.pair (.i .i64) (.pair (.i .i64) (.pair (.si .u32) .unit))))), (.list 1 y_91 true (.pair (.i .i64) (.pair (.i .i64) (.pair (.i .i64) (.cst .nils .unit))))), (.list 1 y_91 true (.pair (.i .i64) (.pair (.i .i64) (.pair (.i .i64) (.pair (.own 3 1 0 1) .unit))))), (.ints 1 y_92 true .u32)]
abbrev X_9a6_0 : Xs := (.one (.exit 0) [6, 7] (.us 6 (.cst (.ref 1 1 0) (.cst (.ref 2 1 0) (.us 30 .unit)))) [(.list 1 y_91 true (.pair (.i .i64) (.pair (.i .i64) (.pair (.i .i64) (.pair (.si .u32) .unit))))), (.list 1 y_91 true (.pair (.i .i64) (.pair (.i .i64) (.pair (.i .i64) (.cst .nils .unit))))), (.list 1 y_91 true (.pair (.i .i64) (.pair (.i .i64) (.pair (.i .i64) (.pair (.own 3 1 0 1) .unit))))), (.ints 1 y_92 true .u32)])
abbrev S_9a6_0 : Type := T ff_9a6_0 × TH hf_9a6_0
abbrev E_9a6_0 : Type := TX X_9a6_0
noncomputable def LB_9a6_0 : Lps := L0
noncomputable def st_9a6_0 : StepT S_9a6_0 E_9a6_0 := fun R v kn ko =>
 let x0 : Int := v.1.2.2.1
 let x1 : List Int := v.1.1
 let x2 : Nat := (Int.toNat x0)
 let x3 : List Int := v.2.1.2.2.2.1
 bif (decide (x0 < v.1.2.1)) then
 bif (decide (((0:Int) ≤ x0) ∧ (x0 < (((List.length x1) : Nat) : Int)))) then
 ((F_96b x0 (List.getD x1 x2 (0:Int)) (v.2.1.1, (v.2.1.2.1, (v.2.1.2.2.1, ((List.take (List.length x3) x3), ())))))).bind fun r4 =>
 let x5 : List Int := r4.2.1.2.2.2.1
 bif (decide (((0:Int) ≤ x0) ∧ (x0 < ((v.2.2.2.1.2.2.2.1 : Nat) : Int)))) then
 bif (decide (((0:Nat) + (x2 * (1:Nat))) < (List.length v.2.2.2.2.1))) then
 (kn (((List.take (List.length x1) x1), (v.1.2.1, ((IntKind.wrap .i64 (x0 + (1:Int))), ()))), ((r4.2.1.1, (r4.2.1.2.1, (r4.2.1.2.2.1, ((List.take (List.length x5) x5), ())))), (v.2.2.1, (v.2.2.2.1, ((List.set v.2.2.2.2.1 ((0:Nat) + (x2 * (1:Nat))) r4.1), ()))))))
 else
 none
 else
 none
 else
 none
 else
 (ko ((), ((v.2.1.1, (v.2.1.2.1, (v.2.1.2.2.1, ((List.take (List.length x3) x3), ())))), v.2.2)))
noncomputable def ls_9a6_0 : St → LTr := (lsum ff_9a6_0 hf_9a6_0 X_9a6_0 Prod.mk id st_9a6_0 (hd [] [] [2, 6, 7, 21, 22, 23] 1))
theorem lp_9a6_0 : LoopOk PR 1 (lpN f_91e 0) ls_9a6_0 := loopT okO_9a6 mixed (L := LB_9a6_0) (d := 1) (bs := []) (ks := [2, 6, 7, 21, 22, 23]) (loopsL (l := []) (by kernel_rfl) trivial) (by kernel_rfl) (inS := Prod.mk) (outS := id) (fun _ _ => rfl) (inX := id) (outX := id) (fun _ => rfl) (fun v R kn ko => by kernel_rfl) (hd_wk [] [] [2, 6, 7, 21, 22, 23] 1)
noncomputable def L_9a6 : Lps := (lpB 4 (.by_ ls_9a6_0) L0)
def inn_9a6 : T fr_9a6 → TH hr_9a6 → (Int × Int × Int × List Int × Unit) × ((Int × Int × Int × List Int × Unit) × Unit) := Prod.mk
def out_9a6 : (Int × Int × Int × List Int × Unit) × ((Int × Int × Int × List Int × Unit) × Unit) → T fr_9a6 × TH hr_9a6 := id
noncomputable def F_9a6 (a0 : Int × Int × Int × List Int × Unit) (a1 : Int) (a2 : Int × Int × Int × List Int × Unit) : Option ((Int × Int × Int × List Int × Unit) × ((Int × Int × Int × List Int × Unit) × Unit)) :=
 let x0 : List Int := a0.2.2.2.1
 let x1 : Nat := (List.length x0)
 let x2 : Int := ((x1 : Nat) : Int)
 let x3 : Int := a2.2.2.1
 let x4 : List Int := a2.2.2.2.1
 let x5 : Nat := (Int.toNat x2)
 bif (decide (((0:Int) ≤ x2) ∧ (x2 ≤ (1073741824:Int)))) then
 ((lim st_9a6_0 (((List.take x1 x0), (x2, ((0:Int), ()))), ((a2.1, (a2.2.1, (x3, ((List.take (List.length x4) x4), ())))), (((0:Int), ((0:Int), ((0:Int), ()))), ((a0.1, (a0.2.1, (a1, (x5, ())))), ((List.replicate x5 (0:Int)), ()))))))).bind fun r6 =>
 let x7 : List Int := r6.2.1.2.2.2.1
 (some ((r6.2.2.2.1.1, (r6.2.2.2.1.2.1, (r6.2.2.2.1.2.2.1, ((List.take r6.2.2.2.1.2.2.2.1 (List.drop (0:Nat) r6.2.2.2.2.1)), ())))), ((r6.2.1.1, (r6.2.1.2.1, (r6.2.1.2.2.1, ((List.take (List.length x7) x7), ())))), ())))
 else
 none
noncomputable def G_9a6 : T fa_9a6 → TH ha_9a6 → Option ((Int × Int × Int × List Int × Unit) × ((Int × Int × Int × List Int × Unit) × Unit)) := fun x y => F_9a6 x.1 x.2.1 y.1
noncomputable def c_9a6 : Orc := ent i_91e [false, false, true] 0 (sp fa_9a6 ha_9a6 fr_9a6 hr_9a6 G_9a6 out_9a6)
theorem ok_9a6 : OrcOk PR c_9a6 := fnT okO_9a6 mixed p_91e (by kernel_rfl) (by kernel_rfl) (L := L_9a6) (kp := false) (by kernel_rfl) (inn := inn_9a6) (out := out_9a6) (fun _ _ => rfl) (loopsL (l := [((lpN f_91e 0), ls_9a6_0)]) (by kernel_rfl) ⟨lp_9a6_0, trivial⟩) (fun x y => by kernel_rfl)
noncomputable def O_939 : Orc := (orm c_91d (orm c_9a6 c_96b))
theorem okO_939 : OrcOk PR O_939 := (orm_ok ok_91d (orm_ok ok_9a6 ok_96b))
abbrev fa_939 : Fm := (.pair (.agg (.pair (.i .i64) (.pair (.i .i64) (.pair (.i .i64) (.pair (.si .u32) .unit))))) .unit)
abbrev fr_939 : Fm := (.tup (.pair (.agg (.pair (.i .i64) (.pair (.i .i64) (.pair (.i .i64) (.pair (.si .u32) .unit))))) (.pair (.i .i64) .unit)))
noncomputable def F_939 (a0 : Int × Int × Int × List Int × Unit) : Option ((Int × Int × Int × List Int × Unit) × Int × Unit) :=
 let x0 : Int := a0.2.2.1
 let x1 : List Int := a0.2.2.2.1
 ((F_91d (a0.1, (a0.2.1, (x0, ((List.take (List.length x1) x1), ())))))).bind fun r2 =>
 bif (!r2) then
 (some (((0:Int), ((0:Int), ((0:Int), ([], ())))), ((21:Int), ())))
 else
 ((F_9a6 (a0.1, (a0.2.1, (x0, ((List.take (List.length x1) x1), ())))) (2:Int) (a0.1, (a0.2.1, (x0, ((List.take (List.length x1) x1), ())))))).bind fun r3 =>
 let x4 : List Int := r3.1.2.2.2.1
 (some ((r3.1.1, (r3.1.2.1, (r3.1.2.2.1, ((List.take (List.length x4) x4), ())))), ((0:Int), ())))
noncomputable def G_939 : T fa_939 → TH hN0 → Option ((Int × Int × Int × List Int × Unit) × Int × Unit) := fun x y => F_939 x.1
noncomputable def c_939 : Orc := ent i_939 [] 0 (sp fa_939 hN0 fr_939 hN0 G_939 (outN fr_939))
theorem ok_939 : OrcOk PR c_939 := fnT okO_939 mixed p_939 (by kernel_rfl) (by kernel_rfl) (L := L0) (kp := false) (by kernel_rfl) (inn := (innN fr_939)) (out := (outN fr_939)) (fun _ _ => rfl) (loopsL (l := []) (by kernel_rfl) trivial) (fun x y => by kernel_rfl)
noncomputable def F_9a7 (a0 : Int × Int × Int × List Int × Unit) (a1 : Int) : Option (List Int) :=
 let x0 : Nat := (Int.toNat (IntKind.wrap .i64 (a1 * a0.2.1)))
 let x1 : Nat := ((Int.toNat (IntKind.wrap .i64 ((IntKind.wrap .i64 (a1 + (1:Int))) * a0.2.1))) - x0)
 let x2 : List Int := a0.2.2.2.1
 bif (decide (((0:Int) ≤ (IntKind.wrap .i64 (a1 * a0.2.1))) ∧ (((IntKind.wrap .i64 (a1 * a0.2.1)) ≤ (IntKind.wrap .i64 ((IntKind.wrap .i64 (a1 + (1:Int))) * a0.2.1))) ∧ ((IntKind.wrap .i64 ((IntKind.wrap .i64 (a1 + (1:Int))) * a0.2.1)) ≤ (((List.length x2) : Nat) : Int))))) then
 (some (List.take x1 (List.take x1 (List.drop x0 x2))))
 else
 none
noncomputable def O_91a : Orc := orn
theorem okO_91a : OrcOk PR O_91a := (orn_ok _)
abbrev fa_91a : Fm := (.pair (.si .u32) (.pair (.si .u32) .unit))
abbrev fr_91a : Fm := .b
abbrev ff_91a_0 : Fm := (.pair (.si .u32) (.pair (.si .u32) (.us 3 (.pair (.i .i64) (.us 20 .unit)))))
abbrev hf_91a_0 : List BF := []
abbrev X_91a_0 : Xs := (.alt (.exit 0) [] (.us 26 .unit) [] (.one .ret [4] (.us 4 (.pair .b (.us 21 .unit))) []))
abbrev S_91a_0 : Type := T ff_91a_0 × TH hf_91a_0
abbrev E_91a_0 : Type := TX X_91a_0
noncomputable def LB_91a_0 : Lps := L0
noncomputable def st_91a_0 : StepT S_91a_0 E_91a_0 := fun R v kn ko =>
 let x0 : List Int := v.1.1
 let x1 : Int := v.1.2.2.1
 let x2 : Nat := (Int.toNat x1)
 let x3 : List Int := v.1.2.1
 bif (decide (x1 < (((List.length x0) : Nat) : Int))) then
 bif (decide (((0:Int) ≤ x1) ∧ (x1 < (((List.length x0) : Nat) : Int)))) then
 bif (decide (((0:Int) ≤ x1) ∧ (x1 < (((List.length x3) : Nat) : Int)))) then
 bif ((List.getD x0 x2 (0:Int)) != (List.getD x3 x2 (0:Int))) then
 (ko (Sum.inr ((false, ()), ())))
 else
 (kn (((List.take (List.length x0) x0), ((List.take (List.length x3) x3), ((IntKind.wrap .i64 (x1 + (1:Int))), ()))), ()))
 else
 none
 else
 none
 else
 (ko (Sum.inl ((), ())))
noncomputable def ls_91a_0 : St → LTr := (lsum ff_91a_0 hf_91a_0 X_91a_0 Prod.mk id st_91a_0 (hd [] [] [0, 1, 5] 0))
theorem lp_91a_0 : LoopOk PR 0 (lpN f_91a 0) ls_91a_0 := loopT okO_91a mixed (L := LB_91a_0) (d := 1) (bs := []) (ks := [0, 1, 5]) (loopsL (l := []) (by kernel_rfl) trivial) (by kernel_rfl) (inS := Prod.mk) (outS := id) (fun _ _ => rfl) (inX := id) (outX := id) (fun _ => rfl) (fun v R kn ko => by kernel_rfl) (hd_wk [] [] [0, 1, 5] 0)
noncomputable def L_91a : Lps := (lpB 5 (.by_ ls_91a_0) L0)
noncomputable def F_91a (a0 : List Int) (a1 : List Int) : Option (Bool) :=
 bif ((((List.length a0) : Nat) : Int) != (((List.length a1) : Nat) : Int)) then
 (some false)
 else
 ((lim st_91a_0 (((List.take (List.length a0) a0), ((List.take (List.length a1) a1), ((0:Int), ()))), ()))).bind fun r0 =>
 els (fun l1 =>
 (some true)) (fun r2 =>
 (some r2.1.1)) r0
noncomputable def G_91a : T fa_91a → TH hN0 → Option (Bool) := fun x y => F_91a x.1 x.2.1
noncomputable def c_91a : Orc := ent i_91a [] 0 (sp fa_91a hN0 fr_91a hN0 G_91a (outN fr_91a))
theorem ok_91a : OrcOk PR c_91a := fnT okO_91a mixed p_91a (by kernel_rfl) (by kernel_rfl) (L := L_91a) (kp := false) (by kernel_rfl) (inn := (innN fr_91a)) (out := (outN fr_91a)) (fun _ _ => rfl) (loopsL (l := [((lpN f_91a 0), ls_91a_0)]) (by kernel_rfl) ⟨lp_91a_0, trivial⟩) (fun x y => by kernel_rfl)
noncomputable def O_9b : Orc := c_91a
theorem okO_9b : OrcOk PR O_9b := ok_91a
abbrev fa_9b : Fm := (.pair (.agg (.pair (.i .i64) (.pair (.i .i64) (.pair (.i .i64) (.pair (.si .u32) .unit))))) (.pair (.agg (.pair (.i .i64) (.pair (.i .i64) (.pair (.i .i64) (.pair (.si .u32) .unit))))) .unit))
abbrev fr_9b : Fm := .b
noncomputable def F_9b (a0 : Int × Int × Int × List Int × Unit) (a1 : Int × Int × Int × List Int × Unit) : Option (Bool) :=
 let x0 : Int := a0.2.2.1
 let x1 : Int := a1.2.2.1
 let x2 : List Int := a0.2.2.2.1
 let x3 : List Int := a1.2.2.2.1
 bif (a0.1 == a1.1) then
 bif (a0.2.1 == a1.2.1) then
 bif (x0 == x1) then
 ((F_91a (List.take (List.length x2) x2) (List.take (List.length x3) x3))).bind fun r4 =>
 (some r4)
 else
 (some false)
 else
 (some false)
 else
 (some false)
noncomputable def G_9b : T fa_9b → TH hN0 → Option (Bool) := fun x y => F_9b x.1 x.2.1
noncomputable def c_9b : Orc := ent i_9b [] 0 (sp fa_9b hN0 fr_9b hN0 G_9b (outN fr_9b))
theorem ok_9b : OrcOk PR c_9b := fnT okO_9b mixed p_9b (by kernel_rfl) (by kernel_rfl) (L := L0) (kp := false) (by kernel_rfl) (inn := (innN fr_9b)) (out := (outN fr_9b)) (fun _ _ => rfl) (loopsL (l := []) (by kernel_rfl) trivial) (fun x y => by kernel_rfl)
noncomputable def O_96 : Orc := (orm c_9a c_99)
theorem okO_96 : OrcOk PR O_96 := (orm_ok ok_9a ok_99)
abbrev fa_96 : Fm := (.pair (.i .i64) (.pair (.i .i64) (.pair (.i .i64) (.pair (.si .u32) (.pair .b .unit)))))
abbrev fr_96 : Fm := (.agg (.pair (.i .i64) (.pair (.i .i64) (.pair (.i .i64) (.pair (.si .u32) .unit)))))
abbrev ff_96_0 : Fm := (.pair (.i .i64) (.pair (.i .i64) (.pair (.i .i64) (.pair (.si .u32) (.pair .b (.us 5 (.cst (.ref 0 1 0) (.cst (.ref 1 1 0) (.pair (.i .i64) (.us 50 .unit))))))))))
abbrev hf_96_0 : List BF := [(.list 1 y_91 true (.pair (.i .i64) (.pair (.i .i64) (.pair (.i .i64) (.cst .nils .unit))))), (.list 1 y_91 true (.pair (.i .i64) (.pair (.i .i64) (.pair (.i .i64) (.pair (.own 2 1 0 1) .unit))))), (.ints 1 y_92 true .u32)]
abbrev X_96_0 : Xs := (.one (.exit 0) [10, 11] (.us 10 (.cst (.ref 0 1 0) (.cst (.ref 1 1 0) (.us 51 .unit)))) [(.list 1 y_91 true (.pair (.i .i64) (.pair (.i .i64) (.pair (.i .i64) (.cst .nils .unit))))), (.list 1 y_91 true (.pair (.i .i64) (.pair (.i .i64) (.pair (.i .i64) (.pair (.own 2 1 0 1) .unit))))), (.ints 1 y_92 true .u32)])
abbrev S_96_0 : Type := T ff_96_0 × TH hf_96_0
abbrev E_96_0 : Type := TX X_96_0
noncomputable def LB_96_0 : Lps := L0
noncomputable def st_96_0 : StepT S_96_0 E_96_0 := fun R v kn ko =>
 let x0 : List Int := v.1.2.2.2.1
 let x1 : Nat := (List.length x0)
 let x2 : Int := ((x1 : Nat) : Int)
 let x3 : Bool := (x2 == (0:Int))
 let x4 : Bool := v.1.2.2.2.2.1
 let x5 : Int := v.1.2.2.1
 let x6 : Int := v.1.2.2.2.2.2.1
 let x7 : Int := (IntKind.wrap .u32 ((List.getD x0 (Int.toNat (Int.tmod x6 x2)) (0:Int)) + (IntKind.wrap .u32 ((IntKind.wrap .u32 (IntKind.wrap .i64 (Int.tdiv x6 x2))) * (40503:Int)))))
 let x8 : Nat := v.2.2.1.2.2.2.1
 let x9 : List Int := (List.take x8 v.2.2.2.1)
 let x10 : Int := (IntKind.wrap .u32 ((IntKind.wrap .u32 x6) * (2654435761:Int)))
 bif (decide (x6 < (IntKind.wrap .i64 (v.1.1 * v.1.2.1)))) then
 bif (decide (x2 > (0:Int))) then
 bif x3 then
 none
 else
 bif (decide (((0:Int) ≤ (Int.tmod x6 x2)) ∧ ((Int.tmod x6 x2) < x2))) then
 bif x3 then
 none
 else
 bif x4 then
 ((F_9a x5 x7)).bind fun r11 =>
 bif (decide ((x8 + (1:Nat)) ≤ (1073741824:Nat))) then
 (kn ((v.1.1, (v.1.2.1, (x5, ((List.take x1 x0), (x4, ((IntKind.wrap .i64 (x6 + (1:Int))), ())))))), (v.2.1, ((v.2.2.1.1, (v.2.2.1.2.1, (v.2.2.1.2.2.1, ((x8 + (1:Nat)), ())))), ((x9 ++ [r11]), ())))))
 else
 none
 else
 ((F_99 x5 x7)).bind fun r12 =>
 bif (decide ((x8 + (1:Nat)) ≤ (1073741824:Nat))) then
 (kn ((v.1.1, (v.1.2.1, (x5, ((List.take x1 x0), (x4, ((IntKind.wrap .i64 (x6 + (1:Int))), ())))))), (v.2.1, ((v.2.2.1.1, (v.2.2.1.2.1, (v.2.2.1.2.2.1, ((x8 + (1:Nat)), ())))), ((x9 ++ [r12]), ())))))
 else
 none
 else
 none
 else
 bif x4 then
 ((F_9a x5 x10)).bind fun r13 =>
 bif (decide ((x8 + (1:Nat)) ≤ (1073741824:Nat))) then
 (kn ((v.1.1, (v.1.2.1, (x5, ((List.take x1 x0), (x4, ((IntKind.wrap .i64 (x6 + (1:Int))), ())))))), (v.2.1, ((v.2.2.1.1, (v.2.2.1.2.1, (v.2.2.1.2.2.1, ((x8 + (1:Nat)), ())))), ((x9 ++ [r13]), ())))))
 else
 none
 else
 ((F_99 x5 x10)).bind fun r14 =>
 bif (decide ((x8 + (1:Nat)) ≤ (1073741824:Nat))) then
 (kn ((v.1.1, (v.1.2.1, (x5, ((List.take x1 x0), (x4, ((IntKind.wrap .i64 (x6 + (1:Int))), ())))))), (v.2.1, ((v.2.2.1.1, (v.2.2.1.2.1, (v.2.2.1.2.2.1, ((x8 + (1:Nat)), ())))), ((x9 ++ [r14]), ())))))
 else
 none
 else
 (ko ((), v.2))
noncomputable def ls_96_0 : St → LTr := (lsum ff_96_0 hf_96_0 X_96_0 Prod.mk id st_96_0 (hd [(.via 11 3, y_92, 0, .ints .u32)] [] [0, 1, 2, 3, 4, 10, 11, 12] 0))
theorem lp_96_0 : LoopOk PR 0 (lpN f_96 0) ls_96_0 := loopT okO_96 mixed (L := LB_96_0) (d := 1) (bs := []) (ks := [0, 1, 2, 3, 4, 10, 11, 12]) (loopsL (l := []) (by kernel_rfl) trivial) (by kernel_rfl) (inS := Prod.mk) (outS := id) (fun _ _ => rfl) (inX := id) (outX := id) (fun _ => rfl) (fun v R kn ko => by kernel_rfl) (hd_wk [(.via 11 3, y_92, 0, .ints .u32)] [] [0, 1, 2, 3, 4, 10, 11, 12] 0)
noncomputable def L_96 : Lps := (lpB 4 (.by_ ls_96_0) L0)
noncomputable def F_96 (a0 : Int) (a1 : Int) (a2 : Int) (a3 : List Int) (a4 : Bool) : Option (Int × Int × Int × List Int × Unit) :=
 ((lim st_96_0 ((a0, (a1, (a2, ((List.take (List.length a3) a3), (a4, ((0:Int), ())))))), (((0:Int), ((0:Int), ((0:Int), ()))), ((a0, (a1, (a2, ((0:Nat), ())))), ([], ())))))).bind fun r0 =>
 (some (r0.2.2.1.1, (r0.2.2.1.2.1, (r0.2.2.1.2.2.1, ((List.take r0.2.2.1.2.2.2.1 (List.drop (0:Nat) r0.2.2.2.1)), ())))))
noncomputable def G_96 : T fa_96 → TH hN0 → Option (Int × Int × Int × List Int × Unit) := fun x y => F_96 x.1 x.2.1 x.2.2.1 x.2.2.2.1 x.2.2.2.2.1
noncomputable def c_96 : Orc := ent i_96 [] 0 (sp fa_96 hN0 fr_96 hN0 G_96 (outN fr_96))
theorem ok_96 : OrcOk PR c_96 := fnT okO_96 mixed p_96 (by kernel_rfl) (by kernel_rfl) (L := L_96) (kp := false) (by kernel_rfl) (inn := (innN fr_96)) (out := (outN fr_96)) (fun _ _ => rfl) (loopsL (l := [((lpN f_96 0), ls_96_0)]) (by kernel_rfl) ⟨lp_96_0, trivial⟩) (fun x y => by kernel_rfl)
end Go.Proofs.YtfpjkmgfkaoapaaGreat.VI
