import Derived.Test.YtkmkhcmfpbffjaaGreatT294bdc79
namespace Go.Proofs.YtkmkhcmfpbffjaaGreat.VI
set_option linter.unusedVariables false
set_option linter.unusedSimpArgs false
set_option maxRecDepth 100000
noncomputable def O_974 : Orc := orn
theorem okO_974 : OrcOk PR O_974 := (orn_ok _)
abbrev fa_974 : Fm := (.pair (.i .i64) .unit)
abbrev fr_974 : Fm := .b
noncomputable def F_974 (a0 : Int) : Option (Bool) :=
 bif (a0 == (0:Int)) then
 (some true)
 else
 bif (a0 == (1:Int)) then
 (some true)
 else
 (some (a0 == (2:Int)))
noncomputable def G_974 : T fa_974 → TH hN0 → Option (Bool) := fun x y => F_974 x.1
noncomputable def c_974 : Orc := ent i_974 [] 0 (sp fa_974 hN0 fr_974 hN0 G_974 (outN fr_974))
theorem ok_974 : OrcOk PR c_974 := fnT okO_974 mixed p_974 (by kernel_rfl) (by kernel_rfl) (L := L0) (kp := false) (by kernel_rfl) (inn := (innN fr_974)) (out := (outN fr_974)) (fun _ _ => rfl) (loopsL (l := []) (by kernel_rfl) trivial) (fun x y => by kernel_rfl)
noncomputable def O_976 : Orc := c_977
theorem okO_976 : OrcOk PR O_976 := ok_977
abbrev fa_976 : Fm := (.pair (.i .u32) (.cst (.ref 0 1 0) .unit))
abbrev ha_976 : List BF := [(.list 1 y_91 true (.pair (.i .i64) (.pair (.i .i64) (.pair (.i .i64) (.pair (.si .u32) .unit)))))]
abbrev fr_976 : Fm := .b
abbrev hr_976 : List BF := [(.list 1 y_91 true (.pair (.i .i64) (.pair (.i .i64) (.pair (.i .i64) (.pair (.si .u32) .unit)))))]
def inn_976 : T fr_976 → TH hr_976 → (Bool) × ((Int × Int × Int × List Int × Unit) × Unit) := Prod.mk
def out_976 : (Bool) × ((Int × Int × Int × List Int × Unit) × Unit) → T fr_976 × TH hr_976 := id
noncomputable def F_976 (a0 : Int) (a1 : Int × Int × Int × List Int × Unit) : Option ((Bool) × ((Int × Int × Int × List Int × Unit) × Unit)) :=
 let x0 : Int := a1.2.2.1
 let x1 : List Int := a1.2.2.2.1
 ((F_977 x0)).bind fun r2 =>
 (some (((bits .andNot .u32 a0 r2) != (0:Int)), ((a1.1, (a1.2.1, (x0, ((List.take (List.length x1) x1), ())))), ())))
noncomputable def G_976 : T fa_976 → TH ha_976 → Option ((Bool) × ((Int × Int × Int × List Int × Unit) × Unit)) := fun x y => F_976 x.1 y.1
noncomputable def c_976 : Orc := ent i_976 [false, true] 0 (sp fa_976 ha_976 fr_976 hr_976 G_976 out_976)
theorem ok_976 : OrcOk PR c_976 := fnT okO_976 mixed p_976 (by kernel_rfl) (by kernel_rfl) (L := L0) (kp := false) (by kernel_rfl) (inn := inn_976) (out := out_976) (fun _ _ => rfl) (loopsL (l := []) (by kernel_rfl) trivial) (fun x y => by kernel_rfl)
noncomputable def O_98c : Orc := c_976
theorem okO_98c : OrcOk PR O_98c := ok_976
abbrev fa_98c : Fm := (.pair (.si .u32) (.pair (.fn i_976 (.pair (.ref 0 1 0) .unit)) .unit))
abbrev ha_98c : List BF := [(.list 1 y_91 true (.pair (.i .i64) (.pair (.i .i64) (.pair (.i .i64) (.pair (.si .u32) .unit)))))]
abbrev fr_98c : Fm := (.i .i64)
abbrev hr_98c : List BF := [(.list 1 y_91 true (.pair (.i .i64) (.pair (.i .i64) (.pair (.i .i64) (.pair (.si .u32) .unit)))))]
abbrev ff_98c_0 : Fm := (.pair (.si .u32) (.cst (.fn i_976 (.cst (.ref 0 1 0) .unit)) (.us 5 (.pair (.i .i64) (.pair (.i .i64) (.us 10 .unit))))))
abbrev hf_98c_0 : List BF := [(.list 1 y_91 true (.pair (.i .i64) (.pair (.i .i64) (.pair (.i .i64) (.pair (.si .u32) .unit)))))]
abbrev X_98c_0 : Xs := (.alt (.exit 0) [] (.us 19 .unit) [(.list 1 y_91 true (.pair (.i .i64) (.pair (.i .i64) (.pair (.i .i64) (.pair (.si .u32) .unit)))))] (.one .ret [4] (.us 4 (.pair (.i .i64) (.us 14 .unit))) [(.list 1 y_91 true (.pair (.i .i64) (.pair (.i .i64) (.pair (.i .i64) (.pair (.si .u32) .unit)))))]))
abbrev S_98c_0 : Type := T ff_98c_0 × TH hf_98c_0
abbrev E_98c_0 : Type := TX X_98c_0
noncomputable def LB_98c_0 : Lps := L0
noncomputable def st_98c_0 : StepT S_98c_0 E_98c_0 := fun R v kn ko =>
 let x0 : List Int := v.1.1
 let x1 : Int := v.1.2.2.1
 let x2 : List Int := v.2.1.2.2.2.1
 bif (decide (x1 < v.1.2.1)) then
 bif (decide (((0:Int) ≤ x1) ∧ (x1 < (((List.length x0) : Nat) : Int)))) then
 ((F_976 (List.getD x0 (Int.toNat x1) (0:Int)) (v.2.1.1, (v.2.1.2.1, (v.2.1.2.2.1, ((List.take (List.length x2) x2), ())))))).bind fun r3 =>
 let x4 : List Int := r3.2.1.2.2.2.1
 bif r3.1 then
 (ko (Sum.inr (v.1.2.2, ((r3.2.1.1, (r3.2.1.2.1, (r3.2.1.2.2.1, ((List.take (List.length x4) x4), ())))), ()))))
 else
 (kn (((List.take (List.length x0) x0), (v.1.2.1, ((IntKind.wrap .i64 (x1 + (1:Int))), ()))), ((r3.2.1.1, (r3.2.1.2.1, (r3.2.1.2.2.1, ((List.take (List.length x4) x4), ())))), ())))
 else
 none
 else
 (ko (Sum.inl ((), ((v.2.1.1, (v.2.1.2.1, (v.2.1.2.2.1, ((List.take (List.length x2) x2), ())))), ()))))
noncomputable def ls_98c_0 : St → LTr := (lsum ff_98c_0 hf_98c_0 X_98c_0 Prod.mk id st_98c_0 (hd [] [] [0, 1, 7, 8] 1))
theorem lp_98c_0 : LoopOk PR 1 (lpN f_988 0) ls_98c_0 := loopT okO_98c mixed (L := LB_98c_0) (d := 1) (bs := []) (ks := [0, 1, 7, 8]) (loopsL (l := []) (by kernel_rfl) trivial) (by kernel_rfl) (inS := Prod.mk) (outS := id) (fun _ _ => rfl) (inX := id) (outX := id) (fun _ => rfl) (fun v R kn ko => by kernel_rfl) (hd_wk [] [] [0, 1, 7, 8] 1)
noncomputable def L_98c : Lps := (lpB 3 (.by_ ls_98c_0) L0)
def inn_98c : T fr_98c → TH hr_98c → (Int) × ((Int × Int × Int × List Int × Unit) × Unit) := Prod.mk
def out_98c : (Int) × ((Int × Int × Int × List Int × Unit) × Unit) → T fr_98c × TH hr_98c := id
noncomputable def F_98c (a0 : List Int) (a1 : Int × Int × Int × List Int × Unit) : Option ((Int) × ((Int × Int × Int × List Int × Unit) × Unit)) :=
 let x0 : Int := a1.2.2.1
 let x1 : List Int := a1.2.2.2.1
 ((lim st_98c_0 (((List.take (List.length a0) a0), ((((List.length a0) : Nat) : Int), ((0:Int), ()))), ((a1.1, (a1.2.1, (x0, ((List.take (List.length x1) x1), ())))), ())))).bind fun r2 =>
 els (fun l3 =>
 let x5 : Int := l3.2.1.1
 let x6 : Int := l3.2.1.2.1
 let x7 : Int := l3.2.1.2.2.1
 let x8 : List Int := l3.2.1.2.2.2.1
 (some ((-(1:Int)), ((x5, (x6, (x7, ((List.take (List.length x8) x8), ())))), ())))) (fun r4 =>
 let x9 : Int := r4.2.1.1
 let x10 : Int := r4.2.1.2.1
 let x11 : Int := r4.2.1.2.2.1
 let x12 : List Int := r4.2.1.2.2.2.1
 (some (r4.1.1, ((x9, (x10, (x11, ((List.take (List.length x12) x12), ())))), ())))) r2
noncomputable def G_98c : T fa_98c → TH ha_98c → Option ((Int) × ((Int × Int × Int × List Int × Unit) × Unit)) := fun x y => F_98c x.1 y.1
noncomputable def c_98c : Orc := ent i_988 [false, true] 0 (sp fa_98c ha_98c fr_98c hr_98c G_98c out_98c)
theorem ok_98c : OrcOk PR c_98c := fnT okO_98c mixed p_988 (by kernel_rfl) (by kernel_rfl) (L := L_98c) (kp := false) (by kernel_rfl) (inn := inn_98c) (out := out_98c) (fun _ _ => rfl) (loopsL (l := [((lpN f_988 0), ls_98c_0)]) (by kernel_rfl) ⟨lp_98c_0, trivial⟩) (fun x y => by kernel_rfl)
noncomputable def O_98d : Orc := c_98c
theorem okO_98d : OrcOk PR O_98d := ok_98c
abbrev fa_98d : Fm := (.pair (.si .u32) (.pair (.fn i_976 (.pair (.ref 0 1 0) .unit)) .unit))
abbrev ha_98d : List BF := [(.list 1 y_91 true (.pair (.i .i64) (.pair (.i .i64) (.pair (.i .i64) (.pair (.si .u32) .unit)))))]
abbrev fr_98d : Fm := .b
abbrev hr_98d : List BF := [(.list 1 y_91 true (.pair (.i .i64) (.pair (.i .i64) (.pair (.i .i64) (.pair (.si .u32) .unit)))))]
def inn_98d : T fr_98d → TH hr_98d → (Bool) × ((Int × Int × Int × List Int × Unit) × Unit) := Prod.mk
def out_98d : (Bool) × ((Int × Int × Int × List Int × Unit) × Unit) → T fr_98d × TH hr_98d := id
noncomputable def F_98d (a0 : List Int) (a1 : Int × Int × Int × List Int × Unit) : Option ((Bool) × ((Int × Int × Int × List Int × Unit) × Unit)) :=
 let x0 : Int := a1.2.2.1
 let x1 : List Int := a1.2.2.2.1
 ((F_98c (List.take (List.length a0) a0) (a1.1, (a1.2.1, (x0, ((List.take (List.length x1) x1), ())))))).bind fun r2 =>
 let x3 : List Int := r2.2.1.2.2.2.1
 (some ((decide (r2.1 ≥ (0:Int))), ((r2.2.1.1, (r2.2.1.2.1, (r2.2.1.2.2.1, ((List.take (List.length x3) x3), ())))), ())))
noncomputable def G_98d : T fa_98d → TH ha_98d → Option ((Bool) × ((Int × Int × Int × List Int × Unit) × Unit)) := fun x y => F_98d x.1 y.1
noncomputable def c_98d : Orc := ent i_975 [false, true] 0 (sp fa_98d ha_98d fr_98d hr_98d G_98d out_98d)
theorem ok_98d : OrcOk PR c_98d := fnT okO_98d mixed p_975 (by kernel_rfl) (by kernel_rfl) (L := L0) (kp := false) (by kernel_rfl) (inn := inn_98d) (out := out_98d) (fun _ _ => rfl) (loopsL (l := []) (by kernel_rfl) trivial) (fun x y => by kernel_rfl)
noncomputable def O_94b : Orc := (orm c_974 (orm c_98d c_976))
theorem okO_94b : OrcOk PR O_94b := (orm_ok ok_974 (orm_ok ok_98d ok_976))
abbrev fa_94b : Fm := (.pair (.agg (.pair (.i .i64) (.pair (.i .i64) (.pair (.i .i64) (.pair (.si .u32) .unit))))) .unit)
abbrev fr_94b : Fm := .b
noncomputable def F_94b (a0 : Int × Int × Int × List Int × Unit) : Option (Bool) :=
 let x0 : Int := a0.2.2.1
 let x1 : List Int := a0.2.2.2.1
 let x2 : Nat := (List.length x1)
 let x3 : List Int := (List.take x2 x1)
 bif (decide (a0.1 < (0:Int))) then
 (some false)
 else
 bif (decide (a0.1 > (4096:Int))) then
 (some false)
 else
 bif (decide (a0.2.1 < (0:Int))) then
 (some false)
 else
 bif (decide (a0.2.1 > (4096:Int))) then
 (some false)
 else
 ((F_974 x0)).bind fun r4 =>
 bif (!r4) then
 (some false)
 else
 bif (((x2 : Nat) : Int) != (IntKind.wrap .i64 (a0.1 * a0.2.1))) then
 (some false)
 else
 ((F_98d x3 (a0.1, (a0.2.1, (x0, (x3, ())))))).bind fun r5 =>
 (some (!r5.1))
noncomputable def G_94b : T fa_94b → TH hN0 → Option (Bool) := fun x y => F_94b x.1
noncomputable def c_94b : Orc := ent i_94b [] 0 (sp fa_94b hN0 fr_94b hN0 G_94b (outN fr_94b))
theorem ok_94b : OrcOk PR c_94b := fnT okO_94b mixed p_94b (by kernel_rfl) (by kernel_rfl) (L := L0) (kp := false) (by kernel_rfl) (inn := (innN fr_94b)) (out := (outN fr_94b)) (fun _ _ => rfl) (loopsL (l := []) (by kernel_rfl) trivial) (fun x y => by kernel_rfl)
noncomputable def O_953 : Orc := c_94d
theorem okO_953 : OrcOk PR O_953 := ok_94d
abbrev fa_953 : Fm := (.pair (.i .i64) (.pair (.i .u32) (.cst (.ref 0 1 0) .unit)))
abbrev ha_953 : List BF := [(.list 1 y_91 true (.pair (.i .i64) (.pair (.i .i64) (.pair (.i .i64) (.pair (.si .u32) .unit)))))]
abbrev fr_953 : Fm := (.i .u32)
abbrev hr_953 : List BF := [(.list 1 y_91 true (.pair (.i .i64) (.pair (.i .i64) (.pair (.i .i64) (.pair (.si .u32) .unit)))))]
def inn_953 : T fr_953 → TH hr_953 → (Int) × ((Int × Int × Int × List Int × Unit) × Unit) := Prod.mk
def out_953 : (Int) × ((Int × Int × Int × List Int × Unit) × Unit) → T fr_953 × TH hr_953 := id
noncomputable def F_953 (a0 : Int) (a1 : Int) (a2 : Int × Int × Int × List Int × Unit) : Option ((Int) × ((Int × Int × Int × List Int × Unit) × Unit)) :=
 let x0 : Int := a2.2.2.1
 let x1 : List Int := a2.2.2.2.1
 ((F_94d x0 a1)).bind fun r2 =>
 (some (r2, ((a2.1, (a2.2.1, (x0, ((List.take (List.length x1) x1), ())))), ())))
noncomputable def G_953 : T fa_953 → TH ha_953 → Option ((Int) × ((Int × Int × Int × List Int × Unit) × Unit)) := fun x y => F_953 x.1 x.2.1 y.1
noncomputable def c_953 : Orc := ent i_953 [false, false, true] 0 (sp fa_953 ha_953 fr_953 hr_953 G_953 out_953)
theorem ok_953 : OrcOk PR c_953 := fnT okO_953 mixed p_953 (by kernel_rfl) (by kernel_rfl) (L := L0) (kp := false) (by kernel_rfl) (inn := inn_953) (out := out_953) (fun _ _ => rfl) (loopsL (l := []) (by kernel_rfl) trivial) (fun x y => by kernel_rfl)
noncomputable def O_98e : Orc := c_953
theorem okO_98e : OrcOk PR O_98e := ok_953
abbrev fa_98e : Fm := (.pair (.agg (.pair (.i .i64) (.pair (.i .i64) (.pair (.i .i64) (.pair (.si .u32) .unit))))) (.pair (.i .i64) (.pair (.fn i_953 (.pair (.ref 0 1 0) .unit)) .unit)))
abbrev ha_98e : List BF := [(.list 1 y_91 true (.pair (.i .i64) (.pair (.i .i64) (.pair (.i .i64) (.pair (.si .u32) .unit)))))]
abbrev fr_98e : Fm := (.agg (.pair (.i .i64) (.pair (.i .i64) (.pair (.i .i64) (.pair (.si .u32) .unit)))))
abbrev hr_98e : List BF := [(.list 1 y_91 true (.pair (.i .i64) (.pair (.i .i64) (.pair (.i .i64) (.pair (.si .u32) .unit)))))]
abbrev ff_98e_0 : Fm := (.us 2 (.cst (.fn i_953 (.cst (.ref 0 1 0) .unit)) (.us 3 (.cst (.ref 1 1 0) (.cst (.ref 2 1 0) (.us 13 (.pair (.si .u32) (.pair (.i .i64) (.pair (.i .i64) (.us 14 .unit))))))))))
abbrev hf_98e_0 : List BF := [(.list 1 y_91 true (.pair (.i .i64) (.pair (.i .i64) (.pair (.i .i64) (.pair (.si .u32) .unit))))), (.list 1 y_91 true (.pair (.i .i64) (.pair (.i .i64) (.pair (.i .i64) (.cst .nils .unit))))), (.list 1 y_91 true (.pair (.i .i64) (.pair (.i .i64) (.pair (.i .i64) (.pair (.own 3 1 0 1) .unit))))), (.ints 1 y_90 true .u32)]
abbrev X_98e_0 : Xs := (.one (.exit 0) [6, 7] (.us 6 (.cst (.ref 1 1 0) (.cst (.ref 2 1 0) (.us 30 .unit)))) [(.list 1 y_91 true (.pair (.i .i64) (.pair (.i .i64) (.pair (.i .i64) (.pair (.si .u32) .unit))))), (.list 1 y_91 true (.pair (.i .i64) (.pair (.i .i64) (.pair (.i .i64) (.cst .nils .unit))))), (.list 1 y_91 true (.pair (.i .i64) (.pair (.i .i64) (.pair (.i .i64) (.pair (.own 3 1 0 1) .unit))))), (.ints 1 y_90 true .u32)])
abbrev S_98e_0 : Type := T ff_98e_0 × TH hf_98e_0
abbrev E_98e_0 : Type := TX X_98e_0
noncomputable def LB_98e_0 : Lps := L0
noncomputable def st_98e_0 : StepT S_98e_0 E_98e_0 := fun R v kn ko =>
 let x0 : Int := v.1.2.2.1
 let x1 : List Int := v.1.1
 let x2 : Nat := (Int.toNat x0)
 let x3 : List Int := v.2.1.2.2.2.1
 bif (decide (x0 < v.1.2.1)) then
 bif (decide (((0:Int) ≤ x0) ∧ (x0 < (((List.length x1) : Nat) : Int)))) then
 ((F_953 x0 (List.getD x1 x2 (0:Int)) (v.2.1.1, (v.2.1.2.1, (v.2.1.2.2.1, ((List.take (List.length x3) x3), ())))))).bind fun r4 =>
 let x5 : List Int := r4.2.1.2.2.2.1
 bif (decide (((0:Int) ≤ x0) ∧ (x0 < ((v.2.2.2.1.2.2.2.1 : Nat) : Int)))) then
 bif (decide (((0:Nat) + (x2 * (1:Nat))) < (List.length v.2.2.2.2.1))) then
 (kn (((List.take (List.length x1) x1), (v.1.2.1, ((IntKind.wrap .i64 (x0 + (1:Int))), ()))), ((r4.2.1.1, (r4.2.1.2.1, (r4.2.1.2.2.1, ((List.take (List.length x5) x5), ())))), (v.2.2.1, (v.2.2.2.1, ((List.set v.2.2.2.2.1 ((0:Nat) + (x2 * (1:Nat))) r4.1), ()))))))
 else
 none
 else
 none
 else
 none
 else
 (ko ((), ((v.2.1.1, (v.2.1.2.1, (v.2.1.2.2.1, ((List.take (List.length x3) x3), ())))), v.2.2)))
noncomputable def ls_98e_0 : St → LTr := (lsum ff_98e_0 hf_98e_0 X_98e_0 Prod.mk id st_98e_0 (hd [] [] [2, 6, 7, 21, 22, 23] 1))
theorem lp_98e_0 : LoopOk PR 1 (lpN f_952 0) ls_98e_0 := loopT okO_98e mixed (L := LB_98e_0) (d := 1) (bs := []) (ks := [2, 6, 7, 21, 22, 23]) (loopsL (l := []) (by kernel_rfl) trivial) (by kernel_rfl) (inS := Prod.mk) (outS := id) (fun _ _ => rfl) (inX := id) (outX := id) (fun _ => rfl) (fun v R kn ko => by kernel_rfl) (hd_wk [] [] [2, 6, 7, 21, 22, 23] 1)
noncomputable def L_98e : Lps := (lpB 4 (.by_ ls_98e_0) L0)
def inn_98e : T fr_98e → TH hr_98e → (Int × Int × Int × List Int × Unit) × ((Int × Int × Int × List Int × Unit) × Unit) := Prod.mk
def out_98e : (Int × Int × Int × List Int × Unit) × ((Int × Int × Int × List Int × Unit) × Unit) → T fr_98e × TH hr_98e := id
noncomputable def F_98e (a0 : Int × Int × Int × List Int × Unit) (a1 : Int) (a2 : Int × Int × Int × List Int × Unit) : Option ((Int × Int × Int × List Int × Unit) × ((Int × Int × Int × List Int × Unit) × Unit)) :=
 let x0 : List Int := a0.2.2.2.1
 let x1 : Nat := (List.length x0)
 let x2 : Int := ((x1 : Nat) : Int)
 let x3 : Int := a2.2.2.1
 let x4 : List Int := a2.2.2.2.1
 let x5 : Nat := (Int.toNat x2)
 bif (decide (((0:Int) ≤ x2) ∧ (x2 ≤ (1073741824:Int)))) then
 ((lim st_98e_0 (((List.take x1 x0), (x2, ((0:Int), ()))), ((a2.1, (a2.2.1, (x3, ((List.take (List.length x4) x4), ())))), (((0:Int), ((0:Int), ((0:Int), ()))), ((a0.1, (a0.2.1, (a1, (x5, ())))), ((List.replicate x5 (0:Int)), ()))))))).bind fun r6 =>
 let x7 : List Int := r6.2.1.2.2.2.1
 (some ((r6.2.2.2.1.1, (r6.2.2.2.1.2.1, (r6.2.2.2.1.2.2.1, ((List.take r6.2.2.2.1.2.2.2.1 (List.drop (0:Nat) r6.2.2.2.2.1)), ())))), ((r6.2.1.1, (r6.2.1.2.1, (r6.2.1.2.2.1, ((List.take (List.length x7) x7), ())))), ())))
 else
 none
noncomputable def G_98e : T fa_98e → TH ha_98e → Option ((Int × Int × Int × List Int × Unit) × ((Int × Int × Int × List Int × Unit) × Unit)) := fun x y => F_98e x.1 x.2.1 y.1
noncomputable def c_98e : Orc := ent i_952 [false, false, true] 0 (sp fa_98e ha_98e fr_98e hr_98e G_98e out_98e)
theorem ok_98e : OrcOk PR c_98e := fnT okO_98e mixed p_952 (by kernel_rfl) (by kernel_rfl) (L := L_98e) (kp := false) (by kernel_rfl) (inn := inn_98e) (out := out_98e) (fun _ _ => rfl) (loopsL (l := [((lpN f_952 0), ls_98e_0)]) (by kernel_rfl) ⟨lp_98e_0, trivial⟩) (fun x y => by kernel_rfl)
noncomputable def O_92d : Orc := (orm c_94b (orm c_98e c_953))
theorem okO_92d : OrcOk PR O_92d := (orm_ok ok_94b (orm_ok ok_98e ok_953))
abbrev fa_92d : Fm := (.pair (.agg (.pair (.i .i64) (.pair (.i .i64) (.pair (.i .i64) (.pair (.si .u32) .unit))))) .unit)
abbrev fr_92d : Fm := (.tup (.pair (.agg (.pair (.i .i64) (.pair (.i .i64) (.pair (.i .i64) (.pair (.si .u32) .unit))))) (.pair (.i .i64) .unit)))
noncomputable def F_92d (a0 : Int × Int × Int × List Int × Unit) : Option ((Int × Int × Int × List Int × Unit) × Int × Unit) :=
 let x0 : Int := a0.2.2.1
 let x1 : List Int := a0.2.2.2.1
 ((F_94b (a0.1, (a0.2.1, (x0, ((List.take (List.length x1) x1), ())))))).bind fun r2 =>
 bif (!r2) then
 (some (((0:Int), ((0:Int), ((0:Int), ([], ())))), ((21:Int), ())))
 else
 ((F_98e (a0.1, (a0.2.1, (x0, ((List.take (List.length x1) x1), ())))) (2:Int) (a0.1, (a0.2.1, (x0, ((List.take (List.length x1) x1), ())))))).bind fun r3 =>
 let x4 : List Int := r3.1.2.2.2.1
 (some ((r3.1.1, (r3.1.2.1, (r3.1.2.2.1, ((List.take (List.length x4) x4), ())))), ((0:Int), ())))
noncomputable def G_92d : T fa_92d → TH hN0 → Option ((Int × Int × Int × List Int × Unit) × Int × Unit) := fun x y => F_92d x.1
noncomputable def c_92d : Orc := ent i_92d [] 0 (sp fa_92d hN0 fr_92d hN0 G_92d (outN fr_92d))
theorem ok_92d : OrcOk PR c_92d := fnT okO_92d mixed p_92d (by kernel_rfl) (by kernel_rfl) (L := L0) (kp := false) (by kernel_rfl) (inn := (innN fr_92d)) (out := (outN fr_92d)) (fun _ _ => rfl) (loopsL (l := []) (by kernel_rfl) trivial) (fun x y => by kernel_rfl)
noncomputable def F_98f (a0 : Int × Int × Int × List Int × Unit) (a1 : Int) : Option (List Int) :=
 let x0 : Nat := (Int.toNat (IntKind.wrap .i64 (a1 * a0.2.1)))
 let x1 : Nat := ((Int.toNat (IntKind.wrap .i64 ((IntKind.wrap .i64 (a1 + (1:Int))) * a0.2.1))) - x0)
 let x2 : List Int := a0.2.2.2.1
 bif (decide (((0:Int) ≤ (IntKind.wrap .i64 (a1 * a0.2.1))) ∧ (((IntKind.wrap .i64 (a1 * a0.2.1)) ≤ (IntKind.wrap .i64 ((IntKind.wrap .i64 (a1 + (1:Int))) * a0.2.1))) ∧ ((IntKind.wrap .i64 ((IntKind.wrap .i64 (a1 + (1:Int))) * a0.2.1)) ≤ (((List.length x2) : Nat) : Int))))) then
 (some (List.take x1 (List.take x1 (List.drop x0 x2))))
 else
 none
set_option maxHeartbeats 4000000
abbrev TsT : Type := Int × Int × Int × List Int × Unit
abbrev wl (l : List Int) : Prop := ∀ a ∈ l, w32 a
theorem wl_get {l : List Int} (h : wl l) (i : Nat) : w32 (l.getD i 0) := by
  rw [List.getD_eq_getElem?_getD]
  cases e : l[i]? with
  | none => exact ⟨by decide, by decide⟩
  | some a => exact h a (List.mem_of_getElem? e)
def knownS (f : Int) : Bool := decide (f = 0 ∨ f = 1 ∨ f = 2)
def fits (f v : Int) : Bool := decide (v < 2 * TT f)
def rightS (t : TsT) : Bool := decide (0 ≤ t.1 ∧ t.1 ≤ 4096 ∧ 0 ≤ t.2.1 ∧ t.2.1 ≤ 4096) && (knownS t.2.2.1 && (decide ((t.2.2.2.1.length : Int) = t.1 * t.2.1) && t.2.2.2.1.all (fits t.2.2.1)))
theorem known_t (f : Int) : F_974 f = some (knownS f) := by
  unfold F_974 knownS
  rw [bif_eq, bif_eq]
  by_cases h0 : f = 0
  · simp [h0]
  · by_cases h1 : f = 1
    · simp [h1]
    · simp only [if_neg h0, if_neg h1]
      congr 1; rw [Bool.eq_iff_iff]; simp [h0, h1]
theorem nat_hi (y : Nat) (h : y < 2 ^ 32) : y &&& (4294967295 - 65535) = 0 ↔ y < 65536 := by
  constructor
  · intro k
    have e : (y &&& (4294967295 - 65535)) >>> 16 = (y >>> 16) &&& 65535 := by rw [Nat.shiftRight_and_distrib]; rfl
    rw [k] at e
    have e2 : (y >>> 16) &&& 65535 = (y >>> 16) % 65536 := Nat.and_two_pow_sub_one_eq_mod _ 16
    rw [e2, Nat.shiftRight_eq_div_pow] at e
    simp at e
    omega
  · intro k
    apply Nat.eq_of_testBit_eq
    intro i
    rw [Nat.testBit_and, Nat.zero_testBit]
    by_cases hi : i < 16
    · have : Nat.testBit (4294967295 - 65535) i = false := by
        rw [show 4294967295 - 65535 = 2 ^ 16 * 65535 by rfl, Nat.testBit_two_pow_mul]; simp; omega
      rw [this, Bool.and_false]
    · have : y.testBit i = false := Nat.testBit_lt_two_pow (Nat.lt_of_lt_of_le (show y < 2 ^ 16 from k) (Nat.pow_le_pow_right (by omega) (by omega)))
      rw [this, Bool.false_and]
theorem andNot_fits (f : Int) {v : Int} (h : w32 v) : (bits .andNot .u32 v (2 * TT f - 1) != 0) = !(fits f v) := by
  unfold fits
  rcases TT_cs f with e | e <;> rw [e]
  · rw [show (2 * 32768 - 1 : Int) = 65535 from rfl, u32_andNot _ _ h.1 h.2 (by omega) (by omega)]
    have := nat_hi v.toNat (by omega)
    rw [show (65535 : Int).toNat = 65535 from rfl, Bool.eq_iff_iff]
    simp only [bne_iff_ne, Bool.not_eq_true', decide_eq_false_iff_not]
    have h2 : ((v.toNat &&& (4294967295 - 65535) : Nat) : Int) ≠ 0 ↔ ¬ (v.toNat &&& (4294967295 - 65535)) = 0 := by omega
    rw [h2, this]; omega
  · rw [show (2 * 2147483648 - 1 : Int) = 4294967295 from rfl, u32_andNot _ _ h.1 h.2 (by omega) (by omega)]
    rw [show (4294967295 : Int).toNat = 4294967295 from rfl, Nat.sub_self, Nat.and_zero]
    have : decide (v < 2 * 2147483648) = true := by simp; omega
    rw [this]; rfl
theorem first_or (p : Nat → Bool) (n : Nat) : (∀ i, i < n → p i = false) ∨ ∃ k, k < n ∧ (∀ i, i < k → p i = false) ∧ p k = true := by
  induction n with
  | zero => left; intro i h; omega
  | succ n ih =>
    rcases ih with h | ⟨k, h1, h2, h3⟩
    · cases hp : p n with
      | false => left; intro i hi; by_cases e : i = n
                 · rw [e]; exact hp
                 · exact h i (by omega)
      | true => right; exact ⟨n, by omega, h, hp⟩
    · right; exact ⟨k, by omega, h2, h3⟩
theorem all_get {l : List Int} {p : Int → Bool} : l.all p = true ↔ ∀ i, i < l.length → p (l.getD i 0) = true := by
  rw [List.all_eq_true]
  constructor
  · intro h i hi; rw [gtd hi]; exact h _ (List.getElem_mem hi)
  · intro h a ha
    obtain ⟨i, hi, rfl⟩ := List.getElem_of_mem ha
    have := h i hi; rwa [gtd hi] at this
theorem index_eq (l : List Int) (b : TsT) (hl : wl l) (hn : l.length < 4611686018427387904) :
    ∃ r, F_98c l b = some (r, (b, ())) ∧ (r ≥ 0 ↔ ¬ l.all (fits b.2.2.1) = true) := by
  obtain ⟨b1, b2, b3, b4, ⟨⟩⟩ := b
  unfold F_98c
  dsimp only
  simp only [List.take_length]
  have step : ∀ i, i < l.length → fits b3 (l.getD i 0) = true → ∀ R kn ko, st_98c_0 R ((l, ((l.length : Int), ((i : Int), ()))), ((b1, (b2, (b3, (b4, ())))), ())) kn ko = kn ((l, ((l.length : Int), (((i + 1 : Nat) : Int), ()))), ((b1, (b2, (b3, (b4, ())))), ())) := by
    intro i hi hf R kn ko
    unfold st_98c_0 F_976
    dsimp only
    simp only [List.take_length, bif_dec]
    rw [if_pos (by omega), if_pos (by omega), Int.toNat_natCast, mask_eq]
    simp only [Option.bind_some]
    rw [andNot_fits b3 (wl_get hl i), hf, wi64 (by omega), show ((i + 1 : Nat) : Int) = (i : Int) + 1 by omega]; rfl
  rcases first_or (fun i => !(fits b3 (l.getD i 0))) l.length with h | ⟨k, h1, h2, h3⟩
  · have := lim_seq (st := st_98c_0) (fun i => ((l, ((l.length : Int), ((i : Int), ()))), ((b1, (b2, (b3, (b4, ())))), ()))) (b := Sum.inl ((), ((b1, (b2, (b3, (b4, ())))), ()))) l.length
      (fun i hi R kn ko => step i hi (by simpa using h i hi) R kn ko)
      (fun R kn ko => by
        unfold st_98c_0
        dsimp only
        simp only [List.take_length, bif_dec]
        rw [if_neg (by omega)])
    have e : lim st_98c_0 ((l, ((l.length : Int), ((0 : Int), ()))), ((b1, (b2, (b3, (b4, ())))), ())) = _ := this
    rw [e]
    refine ⟨-1, by simp only [Option.bind_some, els, List.take_length], ?_⟩
    have ha : l.all (fits b3) = true := all_get.2 fun i hi => by simpa using h i hi
    simp [ha]
  · have := lim_seq (st := st_98c_0) (fun i => ((l, ((l.length : Int), ((i : Int), ()))), ((b1, (b2, (b3, (b4, ())))), ()))) (b := Sum.inr (((k : Int), ()), ((b1, (b2, (b3, (b4, ())))), ()))) k
      (fun i hi R kn ko => step i (by omega) (by simpa using h2 i hi) R kn ko)
      (fun R kn ko => by
        unfold st_98c_0 F_976
        dsimp only
        simp only [List.take_length, bif_dec]
        rw [if_pos (by omega), if_pos (by omega), Int.toNat_natCast, mask_eq]
        simp only [Option.bind_some]
        rw [andNot_fits b3 (wl_get hl k), h3]; rfl)
    have e : lim st_98c_0 ((l, ((l.length : Int), ((0 : Int), ()))), ((b1, (b2, (b3, (b4, ())))), ())) = _ := this
    rw [e]
    refine ⟨(k : Int), by simp only [Option.bind_some, els, List.take_length], ?_⟩
    have ha : ¬ l.all (fits b3) = true := fun h => by
      have q := all_get.1 h k h1; rw [q] at h3; cases h3
    exact ⟨fun _ => ha, fun _ => by omega⟩
theorem right_eq (t : TsT) (hl : wl t.2.2.2.1) (hn : t.2.2.2.1.length < 4611686018427387904) : F_94b t = some (rightS t) := by
  obtain ⟨a, b, f, l, ⟨⟩⟩ := t
  simp only at hl hn
  obtain ⟨r, hr, hr2⟩ := index_eq l (a, b, f, l, ()) hl hn
  unfold F_94b rightS F_98d
  dsimp only
  simp only [List.take_length, bif_dec, known_t, Option.bind_some, hr, bif_ne]
  by_cases h1 : 0 ≤ a ∧ a ≤ 4096 ∧ 0 ≤ b ∧ b ≤ 4096
  · rw [if_neg (by omega), if_neg (by omega), if_neg (by omega), if_neg (by omega), decide_eq_true h1]
    have hm : IntKind.i64.wrap (a * b) = a * b := by
      have : 0 ≤ a * b := Int.mul_nonneg h1.1 h1.2.2.1
      have : a * b ≤ 4096 * 4096 := Int.mul_le_mul h1.2.1 h1.2.2.2 h1.2.2.1 (by omega)
      exact wi64 (by omega)
    rw [hm]
    cases knownS f
    · rfl
    · by_cases h2 : (l.length : Int) = a * b
      · rw [if_pos h2, decide_eq_true h2]
        simp only [Bool.not_true, cond_false, Bool.true_and]
        congr 1
        have hb : decide (r ≥ 0) = !(l.all (fits f)) := by
          rw [Bool.eq_iff_iff, decide_eq_true_eq, hr2]; simp
        rw [hb]; simp
      · rw [if_neg h2, decide_eq_false h2]; rfl
  · rw [decide_eq_false h1]
    by_cases k1 : a < 0
    · rw [if_pos k1]; rfl
    rw [if_neg k1]
    by_cases k2 : a > 4096
    · rw [if_pos k2]; rfl
    rw [if_neg k2]
    by_cases k3 : b < 0
    · rw [if_pos k3]; rfl
    rw [if_neg k3, if_pos (by omega)]; rfl
abbrev wf (f a : Int) : Prop := 0 ≤ a ∧ a < 2 * TT f
theorem wf_w {f a : Int} (h : wf f a) : w32 a := ⟨h.1, by have := TT_cs f; omega⟩
theorem sgn_wf (f : Int) (n : Bool) {x : Int} (h : 0 ≤ x ∧ x < TT f) : wf f (sgn f n + x) := by
  have := sgn_bd f n
  have := TT_cs f
  exact ⟨by omega, by omega⟩
theorem over_wf (f mode : Int) (n : Bool) : wf f (overS f mode n) := by
  have ib := IN_bd f
  have fb := fmt_bd f
  unfold overS
  split
  · exact sgn_wf f n (by omega)
  · exact sgn_wf f n (by omega)
theorem fin2_wf (f mode : Int) (n : Bool) (u q : Int) (h r s : Bool) (hq : 0 ≤ q) (hq2 : q ≤ 2 * BB f) (hu : le f - MM f ≤ u) : wf f (fin2 f mode n u q h r s).1 := by
  have fb := fmt_bd f
  have ib := IN_bd f
  unfold fin2
  have hq3 : 0 ≤ (if q / (2 * BB f) = 0 then q else q / 2) := by split <;> omega
  generalize (if q / (2 * BB f) = 0 then q else q / 2) = q2 at *
  have hu2 : le f - MM f ≤ (if q / (2 * BB f) = 0 then u else u + 1) := by split <;> omega
  generalize (if q / (2 * BB f) = 0 then u else u + 1) = u2 at *
  have ha : 0 ≤ (if q2 / BB f = 0 then 0 else u2 + MM f - le f + 1) := by split <;> omega
  generalize (if q2 / BB f = 0 then 0 else u2 + MM f - le f + 1) = a at *
  have hm : 0 ≤ q2 % BB f ∧ q2 % BB f < BB f := by rcases fb.2.1 with h | h | h <;> rw [h] <;> omega
  by_cases o : a ≥ RR f - 1
  · rw [if_pos o]; exact over_wf f mode n
  · rw [if_neg o]
    show wf f (sgn f n + a * BB f + q2 % BB f)
    rw [Int.add_assoc]
    apply sgn_wf
    have h1 : (a + 1) * BB f ≤ RR f * BB f := Int.mul_le_mul_of_nonneg_right (by omega) (by omega)
    rw [Int.add_mul, ← TT_RB] at h1
    have h2 : 0 ≤ a * BB f := Int.mul_nonneg ha (by omega)
    omega
theorem pk_wf (f mode : Int) (n : Bool) (e N : Int) (m : Bool) (hN : 0 ≤ N) : wf f (pk f mode n e N m).1 := by
  have fb := fmt_bd f
  have hq := q_bd f e N hN
  unfold pk
  split
  · have := sgn_wf f n (x := 0) (by omega); simpa using this
  · refine fin2_wf f mode n _ _ _ _ _ ?_ ?_ ?_
    · unfold fin1; split <;> omega
    · unfold fin1; split <;> omega
    · unfold unitS; split <;> omega
theorem tot_wf (f mode T : Int) : wf f (totS f mode T).1 := by
  have fb := fmt_bd f
  unfold totS
  split
  · have := sgn_wf f (decide (mode = 3)) (x := 0) (by omega); simpa using this
  · exact pk_wf _ _ _ _ _ _ (by split <;> omega)
theorem NN_wf (f : Int) : wf f (NN f) := by
  have ib := IN_bd f
  have fb := fmt_bd f
  unfold NN; exact ⟨by omega, by omega⟩
theorem infs_wf (f : Int) (n : Bool) : wf f (sgn f n + IN f) := by
  have ib := IN_bd f
  have fb := fmt_bd f
  exact sgn_wf f n (by omega)
theorem sum_wf (f mode : Int) (n : Bool) (e N : Int) (m : Bool) (d M : Int) : wf f (sumS f mode n e N m d M).1 := by
  have fb := fmt_bd f
  unfold sumS
  split
  · have := sgn_wf f n (x := 0) (by omega); simpa using this
  · exact tot_wf _ _ _
theorem fma_wf (f mode a b c : Int) : wf f (fmaS f mode a b c).1 := by
  unfold fmaS
  split
  · exact NN_wf f
  · split
    · split
      · exact NN_wf f
      · exact infs_wf f _
    · split
      · exact infs_wf f _
      · exact sum_wf _ _ _ _ _ _ _ _
theorem mul_wf (f mode a b : Int) : wf f (mulS f mode a b).1 := by
  unfold mulS
  split
  · exact NN_wf f
  · split
    · exact NN_wf f
    · split
      · exact infs_wf f _
      · exact pk_wf _ _ _ _ _ _ (sig_mul f a b).1.1
def fma (a b c : Int) : Int := (fmaS 2 0 a b c).1
theorem fma_w (a b c : Int) : w32 (fma a b c) := wf_w (fma_wf 2 0 a b c)
theorem ffma_eq {a b c : Int} (ha : w32 a) (hb : w32 b) (hc : w32 c) : F_92e a b c = some (fma a b c) := by
  unfold F_92e; rw [fma_eq 2 0 ha hb hc]; rfl
def toS (f g mode a : Int) : Int × ExcT × Unit :=
  if nan f a then (NN g, (loud f a, false, false, false, false, ()), ())
  else if inff f a then (sgn g (sg f a) + IN g, EXC0, ())
  else pk g mode (sg f a) (xp f a) (sig f a) false
theorem sig_w64 (f a : Int) : w64 (sig f a) := by
  have A := sig_bd f a
  have fb := fmt_bd f
  exact ⟨A.1, by omega⟩
theorem to_eq (f g mode : Int) {a : Int} (ha : w32 a) : F_94c f g mode a = some (toS f g mode a) := by
  have xa := xp_bd f a
  have k1 := kl_nan f a
  have k3 := kl_inf f a
  have kb := kl_le f a
  unfold F_94c F_96d toS
  rw [class_eq f ha.1 ha.2, nan_w, neg_eq f ha, of_eq f ha]
  simp only [Option.bind_some, bif_eq, inf_eq]
  rw [pack_eq g mode _ _ (sig_w64 f a), show min (max (xp f a) (-10000)) 10000 = xp f a by omega]
  simp only [Option.bind_some]
  by_cases h4 : kl f a = 4
  · have hn : nan f a = true := by unfold nan; simp; exact k1.1 (by omega)
    have hl : loud f a = false := by unfold loud; simp; omega
    rw [if_pos h4, hn, hl]; rfl
  rw [if_neg h4]
  by_cases h5 : kl f a = 5
  · have hn : nan f a = true := by unfold nan; simp; exact k1.1 (by omega)
    have hl : loud f a = true := by unfold loud; simp; omega
    rw [if_pos h5, hn, hl]; rfl
  rw [if_neg h5]
  have hn : nan f a = false := by
    unfold nan; apply decide_eq_false; intro k; have := k1.2 k; omega
  rw [hn]
  by_cases h3 : kl f a = 3
  · have hi : inff f a = true := by unfold inff; simp; exact k3.1 h3
    rw [if_pos h3, hi]; rfl
  · have hi : inff f a = false := by unfold inff; apply decide_eq_false; intro k; exact h3 (k3.2 k)
    rw [if_neg h3, hi]; rfl
def widen (f a : Int) : Int := (toS f 2 0 a).1
theorem to_wf (f g mode a : Int) : wf g (toS f g mode a).1 := by
  unfold toS
  split
  · exact NN_wf g
  · split
    · exact infs_wf g _
    · exact pk_wf _ _ _ _ _ _ (sig_bd f a).1
theorem widen_w (f a : Int) : w32 (widen f a) := wf_w (to_wf f 2 0 a)
theorem widen_eq (f : Int) {a : Int} (ha : w32 a) : F_94d f a = some (widen f a) := by
  unfold F_94d; rw [to_eq f 2 0 ha]; rfl
def addS (f mode a b : Int) : Int × ExcT × Unit :=
  if nan f a || nan f b then (NN f, (loud f a || loud f b, false, false, false, false, ()), ())
  else if inff f a && (inff f b && !(sg f a == sg f b)) then (NN f, (true, false, false, false, false, ()), ())
  else if inff f a then (sgn f (sg f a) + IN f, EXC0, ())
  else if inff f b then (sgn f (sg f b) + IN f, EXC0, ())
  else sumS f mode (sg f a) (xp f a) (sig f a) (sg f b) (xp f b) (sig f b)
theorem add_eq (f mode : Int) {a b : Int} (ha : w32 a) (hb : w32 b) : F_933 f mode a b = some (addS f mode a b) := by
  have xa := xp_bd f a
  have xb := xp_bd f b
  have hs := psum_eq f mode (sg f a) (sg f b) (N := sig f a) (M := sig f b) (sig_48 f a) (sig_48 f b) (show -298 ≤ xp f a ∧ xp f a ≤ 300 by omega) (show -298 ≤ xp f b ∧ xp f b ≤ 300 by omega)
  unfold F_933 F_95c F_96d addS
  rw [snans_eq f [a, b] (by simp) (by simpa using ⟨ha, hb⟩), neg_eq f ha, neg_eq f hb, isinf_eq f ha, isinf_eq f hb, of_eq f ha, of_eq f hb, nan_w]
  simp only [Option.bind_some, List.any_cons, List.any_nil, Bool.or_false, inf_eq]
  rw [hs]
  generalize sumS f mode (sg f a) (xp f a) (sig f a) (sg f b) (xp f b) (sig f b) = W
  rcases cls f a with ⟨a1, a3, a4⟩ | ⟨a1, a2, a3, a4⟩ | ⟨a1, a2, a3, a4⟩ | ⟨a1, a2, a3, a4⟩ <;> rcases cls f b with ⟨b1, b3, b4⟩ | ⟨b1, b2, b3, b4⟩ | ⟨b1, b2, b3, b4⟩ | ⟨b1, b2, b3, b4⟩ <;> simp only [a1, a3, a4, b1, b3, b4] <;> first | rfl | (cases sg f a <;> cases sg f b <;> rfl)
theorem add_wf (f mode a b : Int) : wf f (addS f mode a b).1 := by
  unfold addS
  split
  · exact NN_wf f
  · split
    · exact NN_wf f
    · split
      · exact infs_wf f _
      · split
        · exact infs_wf f _
        · exact sum_wf _ _ _ _ _ _ _ _
def addf (a b : Int) : Int := (addS 2 0 a b).1
theorem addf_w (a b : Int) : w32 (addf a b) := wf_w (add_wf 2 0 a b)
theorem fadd_eq {a b : Int} (ha : w32 a) (hb : w32 b) : F_915 a b = some (addf a b) := by
  unfold F_915; rw [add_eq 2 0 ha hb]; rfl
def lay1 (h : Nat → Int) (n i : Nat) : List Int := (List.range i).map h ++ List.replicate (n - i) 0
theorem lay1_len (h : Nat → Int) {n i : Nat} (hi : i ≤ n) : (lay1 h n i).length = n := by unfold lay1; simp; omega
theorem lay1_set (h : Nat → Int) {n i : Nat} (hi : i < n) : (lay1 h n i).set i (h i) = lay1 h n (i + 1) := by
  unfold lay1
  rw [List.set_append, if_neg (by simp), List.range_succ, List.map_append, List.append_assoc]
  congr 1
  rw [List.length_map, List.length_range, Nat.sub_self, show n - i = (n - (i + 1)) + 1 by omega, List.replicate_succ]
  rfl
theorem lay1_zero (h : Nat → Int) (n : Nat) : lay1 h n 0 = List.replicate n 0 := by unfold lay1; simp
theorem lay1_all (h : Nat → Int) (n : Nat) : lay1 h n n = (List.range n).map h := by unfold lay1; simp
theorem range_wl {h : Nat → Int} {n : Nat} (w : ∀ i, w32 (h i)) : wl ((List.range n).map h) := by
  intro a ha; obtain ⟨i, _, rfl⟩ := List.mem_map.1 ha; exact w i
theorem eachW_eq (t b : TsT) (g : Int) (hl : wl t.2.2.2.1) (hn : t.2.2.2.1.length ≤ 1073741824) :
    F_98e t g b = some ((t.1, t.2.1, g, (List.range t.2.2.2.1.length).map (fun i => widen b.2.2.1 (t.2.2.2.1.getD i 0)), ()), (b, ())) := by
  obtain ⟨r, c, f, l, ⟨⟩⟩ := t
  obtain ⟨b1, b2, b3, b4, ⟨⟩⟩ := b
  simp only at hl hn ⊢
  have := lim_seq (st := st_98e_0) (fun i => ((l, ((l.length : Int), ((i : Int), ()))), ((b1, (b2, (b3, (b4, ())))), (((0:Int), ((0:Int), ((0:Int), ()))), ((r, (c, (g, (l.length, ())))), (lay1 (fun i => widen b3 (l.getD i 0)) l.length i, ()))))))
    (b := ((), ((b1, (b2, (b3, (b4, ())))), (((0:Int), ((0:Int), ((0:Int), ()))), ((r, (c, (g, (l.length, ())))), (lay1 (fun i => widen b3 (l.getD i 0)) l.length l.length, ())))))) l.length
    (fun i hi R kn ko => by
      have hll := lay1_len (fun i => widen b3 (l.getD i 0)) (Nat.le_of_lt hi)
      have hls := lay1_set (fun i => widen b3 (l.getD i 0)) hi
      unfold st_98e_0 F_953
      dsimp only at hls ⊢
      simp only [List.take_length, bif_dec, hll, Int.toNat_natCast]
      rw [if_pos (by omega), if_pos (by omega), widen_eq b3 (wl_get hl i)]
      simp only [Option.bind_some]
      rw [if_pos (by omega), if_pos (by omega), show 0 + i * 1 = i by omega, hls, wi64 (by omega), show ((i + 1 : Nat) : Int) = (i : Int) + 1 by omega])
    (fun R kn ko => by
      unfold st_98e_0
      dsimp only
      simp only [List.take_length, bif_dec]
      rw [if_neg (by omega)])
  rw [lay1_zero] at this
  unfold F_98e
  dsimp only
  simp only [List.take_length, bif_dec, Int.toNat_natCast]
  rw [if_pos (by omega)]
  have e : lim st_98e_0 ((l, ((l.length : Int), ((0 : Int), ()))), ((b1, (b2, (b3, (b4, ())))), (((0:Int), ((0:Int), ((0:Int), ()))), ((r, (c, (g, (l.length, ())))), (List.replicate l.length 0, ()))))) = _ := this
  rw [e]
  simp only [Option.bind_some, List.take_length, List.drop_zero, lay1_all]
  have hlen : ((List.range l.length).map (fun i => widen b3 (l.getD i 0))).length = l.length := by simp
  rw [List.take_of_length_le (by omega)]
def wideL (t : TsT) : List Int := (List.range t.2.2.2.1.length).map (fun i => widen t.2.2.1 (t.2.2.2.1.getD i 0))
abbrev noT : TsT := (0, 0, 0, [], ())
theorem wide_eq (t : TsT) (hl : wl t.2.2.2.1) (hn : t.2.2.2.1.length ≤ 1073741824) :
    F_92d t = some (if rightS t then ((t.1, t.2.1, 2, wideL t, ()), 0, ()) else (noT, 21, ())) := by
  obtain ⟨r, c, f, l, ⟨⟩⟩ := t
  simp only at hl hn
  unfold F_92d
  dsimp only
  simp only [List.take_length]
  rw [right_eq (r, c, f, l, ()) hl (by simp only; omega), eachW_eq (r, c, f, l, ()) (r, c, f, l, ()) 2 hl hn]
  simp only [Option.bind_some, List.take_length]
  cases rightS (r, c, f, l, ()) <;> rfl
theorem parts_val (f : Int) {s : Int} (h : wf f s) : s = sgn f (sg f s) + ex f s * BB f + ff f s := by
  have e := ex_fr f s
  have hs := sg_iff f s h.1
  have hm := mod_bd f s
  have e2 : s % (2 * TT f) = s := Int.emod_eq_of_lt h.1 h.2
  rw [e2] at hs hm
  unfold sgn
  cases hq : sg f s
  · rw [hq] at hs; simp at hs ⊢; omega
  · have := hs.1 hq; simp; omega
theorem fin_ex (f : Int) {s : Int} (hn : nan f s = false) (hi : inff f s = false) : ex f s < RR f - 1 := by
  rw [ex_fin]
  unfold nan at hn; unfold inff at hi
  simp only [decide_eq_false_iff_not] at hn hi
  omega
theorem up_no (mode : Int) (n o : Bool) : upS mode n o false false = false := by
  unfold upS
  (repeat' split) <;> cases n <;> rfl
theorem pk_round (f mode : Int) {s : Int} (h : wf f s) (hn : nan f s = false) (hi : inff f s = false) : pk f mode (sg f s) (xp f s) (sig f s) false = (s, EXC0, ()) := by
  have hv := parts_val f h
  have hx := fin_ex f hn hi
  have b1 := ex_bd f s
  have b2 := ff_bd f s
  have fb := fmt_bd f
  have lb := le_bd f
  obtain ⟨k, hk, hb, hk3⟩ := MM_pow f
  have pkk := p2_pos k
  have hm : ∀ x, 0 ≤ x → x < BB f → x % BB f = x ∧ x / BB f = 0 := fun x h0 h1 => ⟨Int.emod_eq_of_lt h0 h1, Int.ediv_eq_zero_of_lt h0 h1⟩
  unfold pk
  by_cases h0 : sig f s = 0 ∧ false = false
  · rw [if_pos h0]
    have : ex f s = 0 ∧ ff f s = 0 := by
      have := h0.1
      unfold sig at this
      split at this
      · exact ⟨by assumption, this⟩
      · split at this <;> omega
    rw [this.1, this.2] at hv
    simp only [Int.zero_mul, Int.add_zero] at hv
    rw [← hv]
  · rw [if_neg h0]
    have hs0 : sig f s ≠ 0 := fun q => h0 ⟨q, rfl⟩
    have hu : unitS f (xp f s) (sig f s) = xp f s := by
      unfold unitS
      rw [if_neg hs0]
      by_cases he : ex f s = 0
      · have hsf : sig f s = ff f s := by unfold sig; rw [if_pos he]
        have hxf : xp f s = le f - MM f := by unfold xp; rw [if_pos he]
        have hp : 0 < ff f s := by omega
        have := lg_bd (k := k) hp (by omega)
        rw [hsf, hxf, ln_pos hp]; omega
      · have hsf : sig f s = ff f s + BB f := by unfold sig; rw [if_neg he, if_neg (by omega)]
        have hxf : xp f s = le f - MM f + ex f s - 1 := by unfold xp; rw [if_neg he, if_neg (by omega)]
        have : lg (sig f s) = k := lg_uniq (by omega) (by rw [p2_succ]; omega)
        rw [hxf, ln_pos (by omega), this]; omega
    have hq : qS (sig f s) (unitS f (xp f s) (sig f s) - xp f s) = sig f s := by
      rw [hu]; unfold qS; rw [if_pos (by omega)]; simp
    have hh : halfS (sig f s) (unitS f (xp f s) (sig f s) - xp f s) = false := by
      rw [hu]; unfold halfS; rw [if_pos (by omega)]
    have hr : restS (sig f s) (unitS f (xp f s) (sig f s) - xp f s) false = false := by
      rw [hu]; unfold restS; rw [if_pos (by omega)]; rfl
    rw [hq, hh, hr, hu]
    unfold fin1
    rw [up_no]
    simp only [Bool.false_eq_true, if_false]
    unfold fin2
    have sb := sig_bd f s
    have q0 : sig f s / (2 * BB f) = 0 := Int.ediv_eq_zero_of_lt sb.1 sb.2
    simp only [q0, if_true]
    by_cases he : ex f s = 0
    · have hsf : sig f s = ff f s := by unfold sig; rw [if_pos he]
      have := hm (ff f s) b2.1 b2.2
      rw [hsf, this.2, this.1, if_pos rfl, if_neg (by omega)]
      rw [he] at hv
      simp only [Int.zero_mul, Int.add_zero] at hv ⊢
      rw [← hv]; rfl
    · have hsf : sig f s = ff f s + BB f := by unfold sig; rw [if_neg he, if_neg (by omega)]
      have hxf : xp f s = le f - MM f + ex f s - 1 := by unfold xp; rw [if_neg he, if_neg (by omega)]
      have := hm (ff f s) b2.1 b2.2
      have d1 : sig f s / BB f = 1 := by rw [hsf, Int.add_ediv_of_dvd_right (Int.dvd_refl _), this.2, Int.ediv_self (by omega)]; rfl
      have d2 : sig f s % BB f = ff f s := by rw [hsf, Int.add_emod_right, this.1]
      rw [d1, d2, if_neg (by omega), hxf, show le f - MM f + ex f s - 1 + MM f - le f + 1 = ex f s by omega, if_neg (by omega), ← hv]; rfl
theorem widen_fin {s : Int} (h : w32 s) (hn : nan 2 s = false) (hi : inff 2 s = false) : widen 2 s = s := by
  have hw : wf 2 s := ⟨h.1, by have := h.2; simp [TT]; omega⟩
  unfold widen toS
  rw [hn, hi]
  simp only [Bool.false_eq_true, if_false]
  rw [pk_round 2 0 hw hn hi]
noncomputable def O_940 : Orc := c_92e
theorem okO_940 : OrcOk PR O_940 := ok_92e
abbrev fa_940 : Fm := (.pair (.i .u32) (.pair (.i .u32) (.pair (.si .u32) .unit)))
abbrev fr_940 : Fm := (.i .u32)
abbrev ff_940_0 : Fm := (.pair (.i .u32) (.pair (.i .u32) (.us 7 (.pair (.si .u32) (.pair (.i .i64) (.pair (.i .i64) (.us 9 .unit)))))))
abbrev hf_940_0 : List BF := []
abbrev X_940_0 : Xs := (.one (.exit 0) [1] (.us 1 (.pair (.i .u32) (.us 19 .unit))) [])
abbrev S_940_0 : Type := T ff_940_0 × TH hf_940_0
abbrev E_940_0 : Type := TX X_940_0
noncomputable def LB_940_0 : Lps := L0
noncomputable def st_940_0 : StepT S_940_0 E_940_0 := fun R v kn ko =>
 let x0 : Int := v.1.2.1
 let x1 : Int := v.1.1
 let x2 : List Int := v.1.2.2.1
 let x3 : Int := v.1.2.2.2.2.1
 bif (decide (x3 < v.1.2.2.2.1)) then
 bif (decide (((0:Int) ≤ x3) ∧ (x3 < (((List.length x2) : Nat) : Int)))) then
 ((F_92e x0 x1 (List.getD x2 (Int.toNat x3) (0:Int)))).bind fun r4 =>
 (kn ((x1, (r4, ((List.take (List.length x2) x2), (v.1.2.2.2.1, ((IntKind.wrap .i64 (x3 + (1:Int))), ()))))), ()))
 else
 none
 else
 (ko ((x0, ()), ()))
noncomputable def ls_940_0 : St → LTr := (lsum ff_940_0 hf_940_0 X_940_0 Prod.mk id st_940_0 (hd [] [] [0, 1, 9, 10, 11] 0))
theorem lp_940_0 : LoopOk PR 0 (lpN f_940 0) ls_940_0 := loopT okO_940 mixed (L := LB_940_0) (d := 1) (bs := []) (ks := [0, 1, 9, 10, 11]) (loopsL (l := []) (by kernel_rfl) trivial) (by kernel_rfl) (inS := Prod.mk) (outS := id) (fun _ _ => rfl) (inX := id) (outX := id) (fun _ => rfl) (fun v R kn ko => by kernel_rfl) (hd_wk [] [] [0, 1, 9, 10, 11] 0)
noncomputable def L_940 : Lps := (lpB 3 (.by_ ls_940_0) L0)
noncomputable def F_940 (a0 : Int) (a1 : Int) (a2 : List Int) : Option (Int) :=
 ((lim st_940_0 ((a0, (a1, ((List.take (List.length a2) a2), ((((List.length a2) : Nat) : Int), ((0:Int), ()))))), ()))).bind fun r0 =>
 (some r0.1.1)
noncomputable def G_940 : T fa_940 → TH hN0 → Option (Int) := fun x y => F_940 x.1 x.2.1 x.2.2.1
noncomputable def c_940 : Orc := ent i_940 [] 0 (sp fa_940 hN0 fr_940 hN0 G_940 (outN fr_940))
theorem ok_940 : OrcOk PR c_940 := fnT okO_940 mixed p_940 (by kernel_rfl) (by kernel_rfl) (L := L_940) (kp := false) (by kernel_rfl) (inn := (innN fr_940)) (out := (outN fr_940)) (fun _ _ => rfl) (loopsL (l := [((lpN f_940 0), ls_940_0)]) (by kernel_rfl) ⟨lp_940_0, trivial⟩) (fun x y => by kernel_rfl)
noncomputable def O_932 : Orc := (orm c_935 (orm c_936 (orm c_93e (orm c_938 (orm c_93f (orm c_959 (orm c_912 (orm c_95a (orm c_92e (orm c_940 c_93d))))))))))
theorem okO_932 : OrcOk PR O_932 := (orm_ok ok_935 (orm_ok ok_936 (orm_ok ok_93e (orm_ok ok_938 (orm_ok ok_93f (orm_ok ok_959 (orm_ok ok_912 (orm_ok ok_95a (orm_ok ok_92e (orm_ok ok_940 ok_93d))))))))))
abbrev fa_932 : Fm := (.pair (.i .u32) .unit)
abbrev fr_932 : Fm := (.i .u32)
noncomputable def F_932 (a0 : Int) : Option (Int) :=
 ((F_935 a0)).bind fun r0 =>
 bif r0 then
 (some (2143289344:Int))
 else
 ((F_93e a0 (1118925336:Int))).bind fun r1 =>
 bif r1 then
 (some (2139095040:Int))
 else
 ((F_93e (3268407733:Int) a0)).bind fun r2 =>
 bif r2 then
 (some (0:Int))
 else
 ((F_93f a0 (1069066811:Int))).bind fun r3 =>
 ((F_959 (2:Int) (0:Int) r3)).bind fun r4 =>
 let x5 : Int := (IntKind.wrap .i64 r4.1)
 ((F_912 x5)).bind fun r6 =>
 let x7 : Int := (bits .xor .u32 (bits .and .u32 r6 (4294967295:Int)) (2147483648:Int))
 ((F_92e x7 (1060205056:Int) a0)).bind fun r8 =>
 ((F_92e x7 (901758606:Int) r8)).bind fun r9 =>
 ((F_940 r9 (985008993:Int) [(1007192201:Int), (1026206379:Int), (1042983595:Int), (1056964608:Int), (1065353216:Int), (1065353216:Int)])).bind fun r10 =>
 ((F_93d r10 x5)).bind fun r11 =>
 (some r11)
noncomputable def G_932 : T fa_932 → TH hN0 → Option (Int) := fun x y => F_932 x.1
noncomputable def c_932 : Orc := ent i_932 [] 0 (sp fa_932 hN0 fr_932 hN0 G_932 (outN fr_932))
theorem ok_932 : OrcOk PR c_932 := fnT okO_932 mixed p_932 (by kernel_rfl) (by kernel_rfl) (L := L0) (kp := false) (by kernel_rfl) (inn := (innN fr_932)) (out := (outN fr_932)) (fun _ _ => rfl) (loopsL (l := []) (by kernel_rfl) trivial) (fun x y => by kernel_rfl)
noncomputable def O_917 : Orc := (orm c_935 (orm c_936 (orm c_937 (orm c_938 (orm c_939 (orm c_93a (orm c_93b (orm c_93c (orm c_93d (orm c_93e (orm c_916 (orm c_915 (orm c_918 (orm c_93f (orm c_940 (orm c_92e c_912))))))))))))))))
theorem okO_917 : OrcOk PR O_917 := (orm_ok ok_935 (orm_ok ok_936 (orm_ok ok_937 (orm_ok ok_938 (orm_ok ok_939 (orm_ok ok_93a (orm_ok ok_93b (orm_ok ok_93c (orm_ok ok_93d (orm_ok ok_93e (orm_ok ok_916 (orm_ok ok_915 (orm_ok ok_918 (orm_ok ok_93f (orm_ok ok_940 (orm_ok ok_92e ok_912))))))))))))))))
abbrev fa_917 : Fm := (.pair (.i .u32) .unit)
abbrev fr_917 : Fm := (.i .u32)
noncomputable def F_917 (a0 : Int) : Option (Int) :=
 let x0 : List Int := [(1049774373:Int), (1053609165:Int), (1059760811:Int)]
 ((F_935 a0)).bind fun r1 =>
 bif r1 then
 (some (2143289344:Int))
 else
 ((F_937 (2:Int) a0)).bind fun r2 =>
 bif r2 then
 (some (4286578688:Int))
 else
 bif ((bits .and .u32 (a0 / (2147483648:Int)) (1:Int)) == (1:Int)) then
 (some (2143289344:Int))
 else
 ((F_93a (2:Int) a0)).bind fun r3 =>
 bif r3 then
 (some a0)
 else
 ((F_93b (2:Int) a0)).bind fun r4 =>
 let x5 : Int := r4.2.2.1
 ((F_93c x5)).bind fun r6 =>
 let x7 : Int := (IntKind.wrap .i64 ((IntKind.wrap .i64 (r4.2.1 + r6)) - (1:Int)))
 ((F_93d a0 (IntKind.wrap .i64 ((0:Int) - x7)))).bind fun r8 =>
 ((F_93e r8 (1068827891:Int))).bind fun r9 =>
 bif r9 then
 ((F_93d r8 (-(1:Int)))).bind fun r10 =>
 ((F_916 r10 (1065353216:Int))).bind fun r11 =>
 ((F_915 (1073741824:Int) r11)).bind fun r12 =>
 ((F_918 r11 r12)).bind fun r13 =>
 ((F_93f r13 r13)).bind fun r14 =>
 ((F_940 r14 (1046711865:Int) x0)).bind fun r15 =>
 ((F_93f r15 r14)).bind fun r16 =>
 ((F_915 r13 r13)).bind fun r17 =>
 ((F_92e r13 r16 r17)).bind fun r18 =>
 ((F_912 (IntKind.wrap .i64 (x7 + (1:Int))))).bind fun r19 =>
 ((F_92e r19 (901758606:Int) r18)).bind fun r20 =>
 ((F_92e r19 (1060205056:Int) r20)).bind fun r21 =>
 (some r21)
 else
 ((F_916 r8 (1065353216:Int))).bind fun r22 =>
 ((F_915 (1073741824:Int) r22)).bind fun r23 =>
 ((F_918 r22 r23)).bind fun r24 =>
 ((F_93f r24 r24)).bind fun r25 =>
 ((F_940 r25 (1046711865:Int) x0)).bind fun r26 =>
 ((F_93f r26 r25)).bind fun r27 =>
 ((F_915 r24 r24)).bind fun r28 =>
 ((F_92e r24 r27 r28)).bind fun r29 =>
 ((F_912 x7)).bind fun r30 =>
 ((F_92e r30 (901758606:Int) r29)).bind fun r31 =>
 ((F_92e r30 (1060205056:Int) r31)).bind fun r32 =>
 (some r32)
noncomputable def G_917 : T fa_917 → TH hN0 → Option (Int) := fun x y => F_917 x.1
noncomputable def c_917 : Orc := ent i_917 [] 0 (sp fa_917 hN0 fr_917 hN0 G_917 (outN fr_917))
theorem ok_917 : OrcOk PR c_917 := fnT okO_917 mixed p_917 (by kernel_rfl) (by kernel_rfl) (L := L0) (kp := false) (by kernel_rfl) (inn := (innN fr_917)) (out := (outN fr_917)) (fun _ _ => rfl) (loopsL (l := []) (by kernel_rfl) trivial) (fun x y => by kernel_rfl)
end Go.Proofs.YtkmkhcmfpbffjaaGreat.VI
