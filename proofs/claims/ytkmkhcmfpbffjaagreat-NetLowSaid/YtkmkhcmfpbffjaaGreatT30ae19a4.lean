import Derived.Test.YtkmkhcmfpbffjaaGreatTe36aee7c
namespace Go.Proofs.YtkmkhcmfpbffjaaGreat.VI
set_option linter.unusedVariables false
set_option linter.unusedSimpArgs false
set_option maxRecDepth 100000
noncomputable def O_978 : Orc := orn
theorem okO_978 : OrcOk PR O_978 := (orn_ok _)
abbrev fa_978 : Fm := (.pair (.i .i64) .unit)
abbrev fr_978 : Fm := .b
noncomputable def F_978 (a0 : Int) : Option (Bool) :=
 bif (a0 == (0:Int)) then
 (some true)
 else
 bif (a0 == (1:Int)) then
 (some true)
 else
 (some (a0 == (2:Int)))
noncomputable def G_978 : T fa_978 → TH hN0 → Option (Bool) := fun x y => F_978 x.1
noncomputable def c_978 : Orc := ent i_978 [] 0 (sp fa_978 hN0 fr_978 hN0 G_978 (outN fr_978))
theorem ok_978 : OrcOk PR c_978 := fnT okO_978 mixed p_978 (by kernel_rfl) (by kernel_rfl) (L := L0) (kp := false) (by kernel_rfl) (inn := (innN fr_978)) (out := (outN fr_978)) (fun _ _ => rfl) (loopsL (l := []) (by kernel_rfl) trivial) (fun x y => by kernel_rfl)
noncomputable def O_97a : Orc := c_97b
theorem okO_97a : OrcOk PR O_97a := ok_97b
abbrev fa_97a : Fm := (.pair (.i .u32) (.cst (.ref 0 1 0) .unit))
abbrev ha_97a : List BF := [(.list 1 y_92 true (.pair (.i .i64) (.pair (.i .i64) (.pair (.i .i64) (.pair (.si .u32) .unit)))))]
abbrev fr_97a : Fm := .b
abbrev hr_97a : List BF := [(.list 1 y_92 true (.pair (.i .i64) (.pair (.i .i64) (.pair (.i .i64) (.pair (.si .u32) .unit)))))]
def inn_97a : T fr_97a → TH hr_97a → (Bool) × ((Int × Int × Int × List Int × Unit) × Unit) := Prod.mk
def out_97a : (Bool) × ((Int × Int × Int × List Int × Unit) × Unit) → T fr_97a × TH hr_97a := id
noncomputable def F_97a (a0 : Int) (a1 : Int × Int × Int × List Int × Unit) : Option ((Bool) × ((Int × Int × Int × List Int × Unit) × Unit)) :=
 let x0 : Int := a1.2.2.1
 let x1 : List Int := a1.2.2.2.1
 ((F_97b x0)).bind fun r2 =>
 (some (((bits .andNot .u32 a0 r2) != (0:Int)), ((a1.1, (a1.2.1, (x0, ((List.take (List.length x1) x1), ())))), ())))
noncomputable def G_97a : T fa_97a → TH ha_97a → Option ((Bool) × ((Int × Int × Int × List Int × Unit) × Unit)) := fun x y => F_97a x.1 y.1
noncomputable def c_97a : Orc := ent i_97a [false, true] 0 (sp fa_97a ha_97a fr_97a hr_97a G_97a out_97a)
theorem ok_97a : OrcOk PR c_97a := fnT okO_97a mixed p_97a (by kernel_rfl) (by kernel_rfl) (L := L0) (kp := false) (by kernel_rfl) (inn := inn_97a) (out := out_97a) (fun _ _ => rfl) (loopsL (l := []) (by kernel_rfl) trivial) (fun x y => by kernel_rfl)
noncomputable def O_9a0 : Orc := c_97a
theorem okO_9a0 : OrcOk PR O_9a0 := ok_97a
abbrev fa_9a0 : Fm := (.pair (.si .u32) (.pair (.fn i_97a (.pair (.ref 0 1 0) .unit)) .unit))
abbrev ha_9a0 : List BF := [(.list 1 y_92 true (.pair (.i .i64) (.pair (.i .i64) (.pair (.i .i64) (.pair (.si .u32) .unit)))))]
abbrev fr_9a0 : Fm := (.i .i64)
abbrev hr_9a0 : List BF := [(.list 1 y_92 true (.pair (.i .i64) (.pair (.i .i64) (.pair (.i .i64) (.pair (.si .u32) .unit)))))]
abbrev ff_9a0_0 : Fm := (.pair (.si .u32) (.cst (.fn i_97a (.cst (.ref 0 1 0) .unit)) (.us 5 (.pair (.i .i64) (.pair (.i .i64) (.us 10 .unit))))))
abbrev hf_9a0_0 : List BF := [(.list 1 y_92 true (.pair (.i .i64) (.pair (.i .i64) (.pair (.i .i64) (.pair (.si .u32) .unit)))))]
abbrev X_9a0_0 : Xs := (.alt (.exit 0) [] (.us 19 .unit) [(.list 1 y_92 true (.pair (.i .i64) (.pair (.i .i64) (.pair (.i .i64) (.pair (.si .u32) .unit)))))] (.one .ret [4] (.us 4 (.pair (.i .i64) (.us 14 .unit))) [(.list 1 y_92 true (.pair (.i .i64) (.pair (.i .i64) (.pair (.i .i64) (.pair (.si .u32) .unit)))))]))
abbrev S_9a0_0 : Type := T ff_9a0_0 × TH hf_9a0_0
abbrev E_9a0_0 : Type := TX X_9a0_0
noncomputable def LB_9a0_0 : Lps := L0
noncomputable def st_9a0_0 : StepT S_9a0_0 E_9a0_0 := fun R v kn ko =>
 let x0 : List Int := v.1.1
 let x1 : Int := v.1.2.2.1
 let x2 : List Int := v.2.1.2.2.2.1
 bif (decide (x1 < v.1.2.1)) then
 bif (decide (((0:Int) ≤ x1) ∧ (x1 < (((List.length x0) : Nat) : Int)))) then
 ((F_97a (List.getD x0 (Int.toNat x1) (0:Int)) (v.2.1.1, (v.2.1.2.1, (v.2.1.2.2.1, ((List.take (List.length x2) x2), ())))))).bind fun r3 =>
 let x4 : List Int := r3.2.1.2.2.2.1
 bif r3.1 then
 (ko (Sum.inr (v.1.2.2, ((r3.2.1.1, (r3.2.1.2.1, (r3.2.1.2.2.1, ((List.take (List.length x4) x4), ())))), ()))))
 else
 (kn (((List.take (List.length x0) x0), (v.1.2.1, ((IntKind.wrap .i64 (x1 + (1:Int))), ()))), ((r3.2.1.1, (r3.2.1.2.1, (r3.2.1.2.2.1, ((List.take (List.length x4) x4), ())))), ())))
 else
 none
 else
 (ko (Sum.inl ((), ((v.2.1.1, (v.2.1.2.1, (v.2.1.2.2.1, ((List.take (List.length x2) x2), ())))), ()))))
noncomputable def ls_9a0_0 : St → LTr := (lsum ff_9a0_0 hf_9a0_0 X_9a0_0 Prod.mk id st_9a0_0 (hd [] [] [0, 1, 7, 8] 1))
theorem lp_9a0_0 : LoopOk PR 1 (lpN f_995 0) ls_9a0_0 := loopT okO_9a0 mixed (L := LB_9a0_0) (d := 1) (bs := []) (ks := [0, 1, 7, 8]) (loopsL (l := []) (by kernel_rfl) trivial) (by kernel_rfl) (inS := Prod.mk) (outS := id) (fun _ _ => rfl) (inX := id) (outX := id) (fun _ => rfl) (fun v R kn ko => by kernel_rfl) (hd_wk [] [] [0, 1, 7, 8] 1)
noncomputable def L_9a0 : Lps := (lpB 3 (.by_ ls_9a0_0) L0)
def inn_9a0 : T fr_9a0 → TH hr_9a0 → (Int) × ((Int × Int × Int × List Int × Unit) × Unit) := Prod.mk
def out_9a0 : (Int) × ((Int × Int × Int × List Int × Unit) × Unit) → T fr_9a0 × TH hr_9a0 := id
noncomputable def F_9a0 (a0 : List Int) (a1 : Int × Int × Int × List Int × Unit) : Option ((Int) × ((Int × Int × Int × List Int × Unit) × Unit)) :=
 let x0 : Int := a1.2.2.1
 let x1 : List Int := a1.2.2.2.1
 ((lim st_9a0_0 (((List.take (List.length a0) a0), ((((List.length a0) : Nat) : Int), ((0:Int), ()))), ((a1.1, (a1.2.1, (x0, ((List.take (List.length x1) x1), ())))), ())))).bind fun r2 =>
 els (fun l3 =>
 let x5 : Int := l3.2.1.1
 let x6 : Int := l3.2.1.2.1
 let x7 : Int := l3.2.1.2.2.1
 let x8 : List Int := l3.2.1.2.2.2.1
 (some ((-(1:Int)), ((x5, (x6, (x7, ((List.take (List.length x8) x8), ())))), ())))) (fun r4 =>
 let x9 : Int := r4.2.1.1
 let x10 : Int := r4.2.1.2.1
 let x11 : Int := r4.2.1.2.2.1
 let x12 : List Int := r4.2.1.2.2.2.1
 (some (r4.1.1, ((x9, (x10, (x11, ((List.take (List.length x12) x12), ())))), ())))) r2
noncomputable def G_9a0 : T fa_9a0 → TH ha_9a0 → Option ((Int) × ((Int × Int × Int × List Int × Unit) × Unit)) := fun x y => F_9a0 x.1 y.1
noncomputable def c_9a0 : Orc := ent i_995 [false, true] 0 (sp fa_9a0 ha_9a0 fr_9a0 hr_9a0 G_9a0 out_9a0)
theorem ok_9a0 : OrcOk PR c_9a0 := fnT okO_9a0 mixed p_995 (by kernel_rfl) (by kernel_rfl) (L := L_9a0) (kp := false) (by kernel_rfl) (inn := inn_9a0) (out := out_9a0) (fun _ _ => rfl) (loopsL (l := [((lpN f_995 0), ls_9a0_0)]) (by kernel_rfl) ⟨lp_9a0_0, trivial⟩) (fun x y => by kernel_rfl)
noncomputable def O_9a1 : Orc := c_9a0
theorem okO_9a1 : OrcOk PR O_9a1 := ok_9a0
abbrev fa_9a1 : Fm := (.pair (.si .u32) (.pair (.fn i_97a (.pair (.ref 0 1 0) .unit)) .unit))
abbrev ha_9a1 : List BF := [(.list 1 y_92 true (.pair (.i .i64) (.pair (.i .i64) (.pair (.i .i64) (.pair (.si .u32) .unit)))))]
abbrev fr_9a1 : Fm := .b
abbrev hr_9a1 : List BF := [(.list 1 y_92 true (.pair (.i .i64) (.pair (.i .i64) (.pair (.i .i64) (.pair (.si .u32) .unit)))))]
def inn_9a1 : T fr_9a1 → TH hr_9a1 → (Bool) × ((Int × Int × Int × List Int × Unit) × Unit) := Prod.mk
def out_9a1 : (Bool) × ((Int × Int × Int × List Int × Unit) × Unit) → T fr_9a1 × TH hr_9a1 := id
noncomputable def F_9a1 (a0 : List Int) (a1 : Int × Int × Int × List Int × Unit) : Option ((Bool) × ((Int × Int × Int × List Int × Unit) × Unit)) :=
 let x0 : Int := a1.2.2.1
 let x1 : List Int := a1.2.2.2.1
 ((F_9a0 (List.take (List.length a0) a0) (a1.1, (a1.2.1, (x0, ((List.take (List.length x1) x1), ())))))).bind fun r2 =>
 let x3 : List Int := r2.2.1.2.2.2.1
 (some ((decide (r2.1 ≥ (0:Int))), ((r2.2.1.1, (r2.2.1.2.1, (r2.2.1.2.2.1, ((List.take (List.length x3) x3), ())))), ())))
noncomputable def G_9a1 : T fa_9a1 → TH ha_9a1 → Option ((Bool) × ((Int × Int × Int × List Int × Unit) × Unit)) := fun x y => F_9a1 x.1 y.1
noncomputable def c_9a1 : Orc := ent i_979 [false, true] 0 (sp fa_9a1 ha_9a1 fr_9a1 hr_9a1 G_9a1 out_9a1)
theorem ok_9a1 : OrcOk PR c_9a1 := fnT okO_9a1 mixed p_979 (by kernel_rfl) (by kernel_rfl) (L := L0) (kp := false) (by kernel_rfl) (inn := inn_9a1) (out := out_9a1) (fun _ _ => rfl) (loopsL (l := []) (by kernel_rfl) trivial) (fun x y => by kernel_rfl)
noncomputable def O_947 : Orc := (orm c_978 (orm c_9a1 c_97a))
theorem okO_947 : OrcOk PR O_947 := (orm_ok ok_978 (orm_ok ok_9a1 ok_97a))
abbrev fa_947 : Fm := (.pair (.agg (.pair (.i .i64) (.pair (.i .i64) (.pair (.i .i64) (.pair (.si .u32) .unit))))) .unit)
abbrev fr_947 : Fm := .b
noncomputable def F_947 (a0 : Int × Int × Int × List Int × Unit) : Option (Bool) :=
 let x0 : Int := a0.2.2.1
 let x1 : List Int := a0.2.2.2.1
 let x2 : Nat := (List.length x1)
 let x3 : List Int := (List.take x2 x1)
 bif (decide (a0.1 < (0:Int))) then
 (some false)
 else
 bif (decide (a0.1 > (4096:Int))) then
 (some false)
 else
 bif (decide (a0.2.1 < (0:Int))) then
 (some false)
 else
 bif (decide (a0.2.1 > (4096:Int))) then
 (some false)
 else
 ((F_978 x0)).bind fun r4 =>
 bif (!r4) then
 (some false)
 else
 bif (((x2 : Nat) : Int) != (IntKind.wrap .i64 (a0.1 * a0.2.1))) then
 (some false)
 else
 ((F_9a1 x3 (a0.1, (a0.2.1, (x0, (x3, ())))))).bind fun r5 =>
 (some (!r5.1))
noncomputable def G_947 : T fa_947 → TH hN0 → Option (Bool) := fun x y => F_947 x.1
noncomputable def c_947 : Orc := ent i_947 [] 0 (sp fa_947 hN0 fr_947 hN0 G_947 (outN fr_947))
theorem ok_947 : OrcOk PR c_947 := fnT okO_947 mixed p_947 (by kernel_rfl) (by kernel_rfl) (L := L0) (kp := false) (by kernel_rfl) (inn := (innN fr_947)) (out := (outN fr_947)) (fun _ _ => rfl) (loopsL (l := []) (by kernel_rfl) trivial) (fun x y => by kernel_rfl)
noncomputable def O_95b : Orc := c_953
theorem okO_95b : OrcOk PR O_95b := ok_953
abbrev fa_95b : Fm := (.pair (.i .i64) (.pair (.i .u32) (.cst (.ref 0 1 0) .unit)))
abbrev ha_95b : List BF := [(.list 1 y_92 true (.pair (.i .i64) (.pair (.i .i64) (.pair (.i .i64) (.pair (.si .u32) .unit)))))]
abbrev fr_95b : Fm := (.i .u32)
abbrev hr_95b : List BF := [(.list 1 y_92 true (.pair (.i .i64) (.pair (.i .i64) (.pair (.i .i64) (.pair (.si .u32) .unit)))))]
def inn_95b : T fr_95b → TH hr_95b → (Int) × ((Int × Int × Int × List Int × Unit) × Unit) := Prod.mk
def out_95b : (Int) × ((Int × Int × Int × List Int × Unit) × Unit) → T fr_95b × TH hr_95b := id
noncomputable def F_95b (a0 : Int) (a1 : Int) (a2 : Int × Int × Int × List Int × Unit) : Option ((Int) × ((Int × Int × Int × List Int × Unit) × Unit)) :=
 let x0 : Int := a2.2.2.1
 let x1 : List Int := a2.2.2.2.1
 ((F_953 x0 a1)).bind fun r2 =>
 (some (r2, ((a2.1, (a2.2.1, (x0, ((List.take (List.length x1) x1), ())))), ())))
noncomputable def G_95b : T fa_95b → TH ha_95b → Option ((Int) × ((Int × Int × Int × List Int × Unit) × Unit)) := fun x y => F_95b x.1 x.2.1 y.1
noncomputable def c_95b : Orc := ent i_95b [false, false, true] 0 (sp fa_95b ha_95b fr_95b hr_95b G_95b out_95b)
theorem ok_95b : OrcOk PR c_95b := fnT okO_95b mixed p_95b (by kernel_rfl) (by kernel_rfl) (L := L0) (kp := false) (by kernel_rfl) (inn := inn_95b) (out := out_95b) (fun _ _ => rfl) (loopsL (l := []) (by kernel_rfl) trivial) (fun x y => by kernel_rfl)
noncomputable def O_9a2 : Orc := c_95b
theorem okO_9a2 : OrcOk PR O_9a2 := ok_95b
abbrev fa_9a2 : Fm := (.pair (.agg (.pair (.i .i64) (.pair (.i .i64) (.pair (.i .i64) (.pair (.si .u32) .unit))))) (.pair (.i .i64) (.pair (.fn i_95b (.pair (.ref 0 1 0) .unit)) .unit)))
abbrev ha_9a2 : List BF := [(.list 1 y_92 true (.pair (.i .i64) (.pair (.i .i64) (.pair (.i .i64) (.pair (.si .u32) .unit)))))]
abbrev fr_9a2 : Fm := (.agg (.pair (.i .i64) (.pair (.i .i64) (.pair (.i .i64) (.pair (.si .u32) .unit)))))
abbrev hr_9a2 : List BF := [(.list 1 y_92 true (.pair (.i .i64) (.pair (.i .i64) (.pair (.i .i64) (.pair (.si .u32) .unit)))))]
abbrev ff_9a2_0 : Fm := (.us 2 (.cst (.fn i_95b (.cst (.ref 0 1 0) .unit)) (.us 3 (.cst (.ref 1 1 0) (.cst (.ref 2 1 0) (.us 13 (.pair (.si .u32) (.pair (.i .i64) (.pair (.i .i64) (.us 14 .unit))))))))))
abbrev hf_9a2_0 : List BF := [(.list 1 y_92 true (.pair (.i .i64) (.pair (.i .i64) (.pair (.i .i64) (.pair (.si .u32) .unit))))), (.list 1 y_92 true (.pair (.i .i64) (.pair (.i .i64) (.pair (.i .i64) (.cst .nils .unit))))), (.list 1 y_92 true (.pair (.i .i64) (.pair (.i .i64) (.pair (.i .i64) (.pair (.own 3 1 0 1) .unit))))), (.ints 1 y_91 true .u32)]
abbrev X_9a2_0 : Xs := (.one (.exit 0) [6, 7] (.us 6 (.cst (.ref 1 1 0) (.cst (.ref 2 1 0) (.us 30 .unit)))) [(.list 1 y_92 true (.pair (.i .i64) (.pair (.i .i64) (.pair (.i .i64) (.pair (.si .u32) .unit))))), (.list 1 y_92 true (.pair (.i .i64) (.pair (.i .i64) (.pair (.i .i64) (.cst .nils .unit))))), (.list 1 y_92 true (.pair (.i .i64) (.pair (.i .i64) (.pair (.i .i64) (.pair (.own 3 1 0 1) .unit))))), (.ints 1 y_91 true .u32)])
abbrev S_9a2_0 : Type := T ff_9a2_0 × TH hf_9a2_0
abbrev E_9a2_0 : Type := TX X_9a2_0
noncomputable def LB_9a2_0 : Lps := L0
noncomputable def st_9a2_0 : StepT S_9a2_0 E_9a2_0 := fun R v kn ko =>
 let x0 : Int := v.1.2.2.1
 let x1 : List Int := v.1.1
 let x2 : Nat := (Int.toNat x0)
 let x3 : List Int := v.2.1.2.2.2.1
 bif (decide (x0 < v.1.2.1)) then
 bif (decide (((0:Int) ≤ x0) ∧ (x0 < (((List.length x1) : Nat) : Int)))) then
 ((F_95b x0 (List.getD x1 x2 (0:Int)) (v.2.1.1, (v.2.1.2.1, (v.2.1.2.2.1, ((List.take (List.length x3) x3), ())))))).bind fun r4 =>
 let x5 : List Int := r4.2.1.2.2.2.1
 bif (decide (((0:Int) ≤ x0) ∧ (x0 < ((v.2.2.2.1.2.2.2.1 : Nat) : Int)))) then
 bif (decide (((0:Nat) + (x2 * (1:Nat))) < (List.length v.2.2.2.2.1))) then
 (kn (((List.take (List.length x1) x1), (v.1.2.1, ((IntKind.wrap .i64 (x0 + (1:Int))), ()))), ((r4.2.1.1, (r4.2.1.2.1, (r4.2.1.2.2.1, ((List.take (List.length x5) x5), ())))), (v.2.2.1, (v.2.2.2.1, ((List.set v.2.2.2.2.1 ((0:Nat) + (x2 * (1:Nat))) r4.1), ()))))))
 else
 none
 else
 none
 else
 none
 else
 (ko ((), ((v.2.1.1, (v.2.1.2.1, (v.2.1.2.2.1, ((List.take (List.length x3) x3), ())))), v.2.2)))
noncomputable def ls_9a2_0 : St → LTr := (lsum ff_9a2_0 hf_9a2_0 X_9a2_0 Prod.mk id st_9a2_0 (hd [] [] [2, 6, 7, 21, 22, 23] 1))
theorem lp_9a2_0 : LoopOk PR 1 (lpN f_95a 0) ls_9a2_0 := loopT okO_9a2 mixed (L := LB_9a2_0) (d := 1) (bs := []) (ks := [2, 6, 7, 21, 22, 23]) (loopsL (l := []) (by kernel_rfl) trivial) (by kernel_rfl) (inS := Prod.mk) (outS := id) (fun _ _ => rfl) (inX := id) (outX := id) (fun _ => rfl) (fun v R kn ko => by kernel_rfl) (hd_wk [] [] [2, 6, 7, 21, 22, 23] 1)
noncomputable def L_9a2 : Lps := (lpB 4 (.by_ ls_9a2_0) L0)
def inn_9a2 : T fr_9a2 → TH hr_9a2 → (Int × Int × Int × List Int × Unit) × ((Int × Int × Int × List Int × Unit) × Unit) := Prod.mk
def out_9a2 : (Int × Int × Int × List Int × Unit) × ((Int × Int × Int × List Int × Unit) × Unit) → T fr_9a2 × TH hr_9a2 := id
noncomputable def F_9a2 (a0 : Int × Int × Int × List Int × Unit) (a1 : Int) (a2 : Int × Int × Int × List Int × Unit) : Option ((Int × Int × Int × List Int × Unit) × ((Int × Int × Int × List Int × Unit) × Unit)) :=
 let x0 : List Int := a0.2.2.2.1
 let x1 : Nat := (List.length x0)
 let x2 : Int := ((x1 : Nat) : Int)
 let x3 : Int := a2.2.2.1
 let x4 : List Int := a2.2.2.2.1
 let x5 : Nat := (Int.toNat x2)
 bif (decide (((0:Int) ≤ x2) ∧ (x2 ≤ (1073741824:Int)))) then
 ((lim st_9a2_0 (((List.take x1 x0), (x2, ((0:Int), ()))), ((a2.1, (a2.2.1, (x3, ((List.take (List.length x4) x4), ())))), (((0:Int), ((0:Int), ((0:Int), ()))), ((a0.1, (a0.2.1, (a1, (x5, ())))), ((List.replicate x5 (0:Int)), ()))))))).bind fun r6 =>
 let x7 : List Int := r6.2.1.2.2.2.1
 (some ((r6.2.2.2.1.1, (r6.2.2.2.1.2.1, (r6.2.2.2.1.2.2.1, ((List.take r6.2.2.2.1.2.2.2.1 (List.drop (0:Nat) r6.2.2.2.2.1)), ())))), ((r6.2.1.1, (r6.2.1.2.1, (r6.2.1.2.2.1, ((List.take (List.length x7) x7), ())))), ())))
 else
 none
noncomputable def G_9a2 : T fa_9a2 → TH ha_9a2 → Option ((Int × Int × Int × List Int × Unit) × ((Int × Int × Int × List Int × Unit) × Unit)) := fun x y => F_9a2 x.1 x.2.1 y.1
noncomputable def c_9a2 : Orc := ent i_95a [false, false, true] 0 (sp fa_9a2 ha_9a2 fr_9a2 hr_9a2 G_9a2 out_9a2)
theorem ok_9a2 : OrcOk PR c_9a2 := fnT okO_9a2 mixed p_95a (by kernel_rfl) (by kernel_rfl) (L := L_9a2) (kp := false) (by kernel_rfl) (inn := inn_9a2) (out := out_9a2) (fun _ _ => rfl) (loopsL (l := [((lpN f_95a 0), ls_9a2_0)]) (by kernel_rfl) ⟨lp_9a2_0, trivial⟩) (fun x y => by kernel_rfl)
noncomputable def O_930 : Orc := (orm c_947 (orm c_9a2 c_95b))
theorem okO_930 : OrcOk PR O_930 := (orm_ok ok_947 (orm_ok ok_9a2 ok_95b))
abbrev fa_930 : Fm := (.pair (.agg (.pair (.i .i64) (.pair (.i .i64) (.pair (.i .i64) (.pair (.si .u32) .unit))))) .unit)
abbrev fr_930 : Fm := (.tup (.pair (.agg (.pair (.i .i64) (.pair (.i .i64) (.pair (.i .i64) (.pair (.si .u32) .unit))))) (.pair (.i .i64) .unit)))
noncomputable def F_930 (a0 : Int × Int × Int × List Int × Unit) : Option ((Int × Int × Int × List Int × Unit) × Int × Unit) :=
 let x0 : Int := a0.2.2.1
 let x1 : List Int := a0.2.2.2.1
 ((F_947 (a0.1, (a0.2.1, (x0, ((List.take (List.length x1) x1), ())))))).bind fun r2 =>
 bif (!r2) then
 (some (((0:Int), ((0:Int), ((0:Int), ([], ())))), ((21:Int), ())))
 else
 ((F_9a2 (a0.1, (a0.2.1, (x0, ((List.take (List.length x1) x1), ())))) (2:Int) (a0.1, (a0.2.1, (x0, ((List.take (List.length x1) x1), ())))))).bind fun r3 =>
 let x4 : List Int := r3.1.2.2.2.1
 (some ((r3.1.1, (r3.1.2.1, (r3.1.2.2.1, ((List.take (List.length x4) x4), ())))), ((0:Int), ())))
noncomputable def G_930 : T fa_930 → TH hN0 → Option ((Int × Int × Int × List Int × Unit) × Int × Unit) := fun x y => F_930 x.1
noncomputable def c_930 : Orc := ent i_930 [] 0 (sp fa_930 hN0 fr_930 hN0 G_930 (outN fr_930))
theorem ok_930 : OrcOk PR c_930 := fnT okO_930 mixed p_930 (by kernel_rfl) (by kernel_rfl) (L := L0) (kp := false) (by kernel_rfl) (inn := (innN fr_930)) (out := (outN fr_930)) (fun _ _ => rfl) (loopsL (l := []) (by kernel_rfl) trivial) (fun x y => by kernel_rfl)
noncomputable def O_97c : Orc := c_930
theorem okO_97c : OrcOk PR O_97c := ok_930
abbrev fa_97c : Fm := (.pair (.agg (.pair (.i .i64) (.pair (.i .i64) (.pair (.i .i64) (.pair (.si .u32) .unit))))) (.pair (.agg (.pair (.i .i64) (.pair (.i .i64) (.pair (.i .i64) (.pair (.si .u32) .unit))))) .unit))
abbrev fr_97c : Fm := (.tup (.pair (.agg (.pair (.i .i64) (.pair (.i .i64) (.pair (.i .i64) (.pair (.si .u32) .unit))))) (.pair (.agg (.pair (.i .i64) (.pair (.i .i64) (.pair (.i .i64) (.pair (.si .u32) .unit))))) (.pair .b .unit))))
noncomputable def F_97c (a0 : Int × Int × Int × List Int × Unit) (a1 : Int × Int × Int × List Int × Unit) : Option ((Int × Int × Int × List Int × Unit) × (Int × Int × Int × List Int × Unit) × Bool × Unit) :=
 let x0 : Int := a0.2.2.1
 let x1 : List Int := a0.2.2.2.1
 let x2 : Int := a1.2.2.1
 let x3 : List Int := a1.2.2.2.1
 ((F_930 (a0.1, (a0.2.1, (x0, ((List.take (List.length x1) x1), ())))))).bind fun r4 =>
 let x5 : Int := r4.1.2.1
 let x6 : Int := r4.1.2.2.1
 let x7 : List Int := r4.1.2.2.2.1
 ((F_930 (a1.1, (a1.2.1, (x2, ((List.take (List.length x3) x3), ())))))).bind fun r8 =>
 let x9 : Int := r8.1.2.1
 let x10 : Int := r8.1.2.2.1
 let x11 : List Int := r8.1.2.2.2.1
 bif (r4.2.1 == (0:Int)) then
 (some ((r4.1.1, (x5, (x6, ((List.take (List.length x7) x7), ())))), ((r8.1.1, (x9, (x10, ((List.take (List.length x11) x11), ())))), ((r8.2.1 == (0:Int)), ()))))
 else
 (some ((r4.1.1, (x5, (x6, ((List.take (List.length x7) x7), ())))), ((r8.1.1, (x9, (x10, ((List.take (List.length x11) x11), ())))), (false, ()))))
noncomputable def G_97c : T fa_97c → TH hN0 → Option ((Int × Int × Int × List Int × Unit) × (Int × Int × Int × List Int × Unit) × Bool × Unit) := fun x y => F_97c x.1 x.2.1
noncomputable def c_97c : Orc := ent i_97c [] 0 (sp fa_97c hN0 fr_97c hN0 G_97c (outN fr_97c))
theorem ok_97c : OrcOk PR c_97c := fnT okO_97c mixed p_97c (by kernel_rfl) (by kernel_rfl) (L := L0) (kp := false) (by kernel_rfl) (inn := (innN fr_97c)) (out := (outN fr_97c)) (fun _ _ => rfl) (loopsL (l := []) (by kernel_rfl) trivial) (fun x y => by kernel_rfl)
noncomputable def O_99c : Orc := orn
theorem okO_99c : OrcOk PR O_99c := (orn_ok _)
abbrev fa_99c : Fm := (.pair (.agg (.pair (.i .i64) (.pair (.i .i64) (.pair (.i .i64) (.pair (.si .u32) .unit))))) (.pair (.i .i64) .unit))
abbrev fr_99c : Fm := (.si .u32)
noncomputable def F_99c (a0 : Int × Int × Int × List Int × Unit) (a1 : Int) : Option (List Int) :=
 let x0 : Nat := (Int.toNat (IntKind.wrap .i64 (a1 * a0.2.1)))
 let x1 : Nat := ((Int.toNat (IntKind.wrap .i64 ((IntKind.wrap .i64 (a1 + (1:Int))) * a0.2.1))) - x0)
 let x2 : List Int := a0.2.2.2.1
 bif (decide (((0:Int) ≤ (IntKind.wrap .i64 (a1 * a0.2.1))) ∧ (((IntKind.wrap .i64 (a1 * a0.2.1)) ≤ (IntKind.wrap .i64 ((IntKind.wrap .i64 (a1 + (1:Int))) * a0.2.1))) ∧ ((IntKind.wrap .i64 ((IntKind.wrap .i64 (a1 + (1:Int))) * a0.2.1)) ≤ (((List.length x2) : Nat) : Int))))) then
 (some (List.take x1 (List.take x1 (List.drop x0 x2))))
 else
 none
noncomputable def G_99c : T fa_99c → TH hN0 → Option (List Int) := fun x y => F_99c x.1 x.2.1
noncomputable def c_99c : Orc := ent i_99c [] 0 (sp fa_99c hN0 fr_99c hN0 G_99c (outN fr_99c))
theorem ok_99c : OrcOk PR c_99c := fnT okO_99c mixed p_99c (by kernel_rfl) (by kernel_rfl) (L := L0) (kp := false) (by kernel_rfl) (inn := (innN fr_99c)) (out := (outN fr_99c)) (fun _ _ => rfl) (loopsL (l := []) (by kernel_rfl) trivial) (fun x y => by kernel_rfl)
noncomputable def O_99b : Orc := c_931
theorem okO_99b : OrcOk PR O_99b := ok_931
abbrev fa_99b : Fm := (.pair (.si .u32) (.pair (.si .u32) .unit))
abbrev fr_99b : Fm := (.tup (.pair (.i .u32) (.pair (.i .i64) .unit)))
abbrev ff_99b_0 : Fm := (.us 1 (.pair (.si .u32) (.us 4 (.pair (.i .u32) (.us 7 (.pair (.si .u32) (.pair (.i .i64) (.pair (.i .i64) (.us 13 .unit)))))))))
abbrev hf_99b_0 : List BF := []
abbrev X_99b_0 : Xs := (.one (.exit 0) [6] (.us 6 (.pair (.i .u32) (.us 23 .unit))) [])
abbrev S_99b_0 : Type := T ff_99b_0 × TH hf_99b_0
abbrev E_99b_0 : Type := TX X_99b_0
noncomputable def LB_99b_0 : Lps := L0
noncomputable def st_99b_0 : StepT S_99b_0 E_99b_0 := fun R v kn ko =>
 let x0 : List Int := v.1.2.2.1
 let x1 : Int := v.1.2.2.2.2.1
 let x2 : Nat := (Int.toNat x1)
 let x3 : List Int := v.1.1
 let x4 : Int := v.1.2.1
 bif (decide (x1 < v.1.2.2.2.1)) then
 bif (decide (((0:Int) ≤ x1) ∧ (x1 < (((List.length x0) : Nat) : Int)))) then
 bif (decide (((0:Int) ≤ x1) ∧ (x1 < (((List.length x3) : Nat) : Int)))) then
 ((F_931 (List.getD x0 x2 (0:Int)) (List.getD x3 x2 (0:Int)) x4)).bind fun r5 =>
 (kn (((List.take (List.length x3) x3), (r5, ((List.take (List.length x0) x0), (v.1.2.2.2.1, ((IntKind.wrap .i64 (x1 + (1:Int))), ()))))), ()))
 else
 none
 else
 none
 else
 (ko ((x4, ()), ()))
noncomputable def ls_99b_0 : St → LTr := (lsum ff_99b_0 hf_99b_0 X_99b_0 Prod.mk id st_99b_0 (hd [] [] [1, 6, 14, 15, 16] 0))
theorem lp_99b_0 : LoopOk PR 0 (lpN f_99b 0) ls_99b_0 := loopT okO_99b mixed (L := LB_99b_0) (d := 1) (bs := []) (ks := [1, 6, 14, 15, 16]) (loopsL (l := []) (by kernel_rfl) trivial) (by kernel_rfl) (inS := Prod.mk) (outS := id) (fun _ _ => rfl) (inX := id) (outX := id) (fun _ => rfl) (fun v R kn ko => by kernel_rfl) (hd_wk [] [] [1, 6, 14, 15, 16] 0)
noncomputable def L_99b : Lps := (lpB 6 (.by_ ls_99b_0) L0)
noncomputable def F_99b (a0 : List Int) (a1 : List Int) : Option (Int × Int × Unit) :=
 bif ((((List.length a0) : Nat) : Int) != (((List.length a1) : Nat) : Int)) then
 (some ((0:Int), ((21:Int), ())))
 else
 ((lim st_99b_0 (((List.take (List.length a1) a1), ((0:Int), ((List.take (List.length a0) a0), ((((List.length a0) : Nat) : Int), ((0:Int), ()))))), ()))).bind fun r0 =>
 (some (r0.1.1, ((0:Int), ())))
noncomputable def G_99b : T fa_99b → TH hN0 → Option (Int × Int × Unit) := fun x y => F_99b x.1 x.2.1
noncomputable def c_99b : Orc := ent i_99b [] 0 (sp fa_99b hN0 fr_99b hN0 G_99b (outN fr_99b))
theorem ok_99b : OrcOk PR c_99b := fnT okO_99b mixed p_99b (by kernel_rfl) (by kernel_rfl) (L := L_99b) (kp := false) (by kernel_rfl) (inn := (innN fr_99b)) (out := (outN fr_99b)) (fun _ _ => rfl) (loopsL (l := [((lpN f_99b 0), ls_99b_0)]) (by kernel_rfl) ⟨lp_99b_0, trivial⟩) (fun x y => by kernel_rfl)
noncomputable def O_942 : Orc := c_931
theorem okO_942 : OrcOk PR O_942 := ok_931
abbrev fa_942 : Fm := (.pair (.i .u32) (.pair (.i .u32) (.pair (.si .u32) .unit)))
abbrev fr_942 : Fm := (.i .u32)
abbrev ff_942_0 : Fm := (.pair (.i .u32) (.pair (.i .u32) (.us 7 (.pair (.si .u32) (.pair (.i .i64) (.pair (.i .i64) (.us 9 .unit)))))))
abbrev hf_942_0 : List BF := []
abbrev X_942_0 : Xs := (.one (.exit 0) [1] (.us 1 (.pair (.i .u32) (.us 19 .unit))) [])
abbrev S_942_0 : Type := T ff_942_0 × TH hf_942_0
abbrev E_942_0 : Type := TX X_942_0
noncomputable def LB_942_0 : Lps := L0
noncomputable def st_942_0 : StepT S_942_0 E_942_0 := fun R v kn ko =>
 let x0 : Int := v.1.2.1
 let x1 : Int := v.1.1
 let x2 : List Int := v.1.2.2.1
 let x3 : Int := v.1.2.2.2.2.1
 bif (decide (x3 < v.1.2.2.2.1)) then
 bif (decide (((0:Int) ≤ x3) ∧ (x3 < (((List.length x2) : Nat) : Int)))) then
 ((F_931 x0 x1 (List.getD x2 (Int.toNat x3) (0:Int)))).bind fun r4 =>
 (kn ((x1, (r4, ((List.take (List.length x2) x2), (v.1.2.2.2.1, ((IntKind.wrap .i64 (x3 + (1:Int))), ()))))), ()))
 else
 none
 else
 (ko ((x0, ()), ()))
noncomputable def ls_942_0 : St → LTr := (lsum ff_942_0 hf_942_0 X_942_0 Prod.mk id st_942_0 (hd [] [] [0, 1, 9, 10, 11] 0))
theorem lp_942_0 : LoopOk PR 0 (lpN f_942 0) ls_942_0 := loopT okO_942 mixed (L := LB_942_0) (d := 1) (bs := []) (ks := [0, 1, 9, 10, 11]) (loopsL (l := []) (by kernel_rfl) trivial) (by kernel_rfl) (inS := Prod.mk) (outS := id) (fun _ _ => rfl) (inX := id) (outX := id) (fun _ => rfl) (fun v R kn ko => by kernel_rfl) (hd_wk [] [] [0, 1, 9, 10, 11] 0)
noncomputable def L_942 : Lps := (lpB 3 (.by_ ls_942_0) L0)
noncomputable def F_942 (a0 : Int) (a1 : Int) (a2 : List Int) : Option (Int) :=
 ((lim st_942_0 ((a0, (a1, ((List.take (List.length a2) a2), ((((List.length a2) : Nat) : Int), ((0:Int), ()))))), ()))).bind fun r0 =>
 (some r0.1.1)
noncomputable def G_942 : T fa_942 → TH hN0 → Option (Int) := fun x y => F_942 x.1 x.2.1 x.2.2.1
noncomputable def c_942 : Orc := ent i_942 [] 0 (sp fa_942 hN0 fr_942 hN0 G_942 (outN fr_942))
theorem ok_942 : OrcOk PR c_942 := fnT okO_942 mixed p_942 (by kernel_rfl) (by kernel_rfl) (L := L_942) (kp := false) (by kernel_rfl) (inn := (innN fr_942)) (out := (outN fr_942)) (fun _ _ => rfl) (loopsL (l := [((lpN f_942 0), ls_942_0)]) (by kernel_rfl) ⟨lp_942_0, trivial⟩) (fun x y => by kernel_rfl)
noncomputable def O_934 : Orc := (orm c_937 (orm c_938 (orm c_940 (orm c_93a (orm c_941 (orm c_960 (orm c_918 (orm c_961 (orm c_931 (orm c_942 c_93f))))))))))
theorem okO_934 : OrcOk PR O_934 := (orm_ok ok_937 (orm_ok ok_938 (orm_ok ok_940 (orm_ok ok_93a (orm_ok ok_941 (orm_ok ok_960 (orm_ok ok_918 (orm_ok ok_961 (orm_ok ok_931 (orm_ok ok_942 ok_93f))))))))))
abbrev fa_934 : Fm := (.pair (.i .u32) .unit)
abbrev fr_934 : Fm := (.i .u32)
noncomputable def F_934 (a0 : Int) : Option (Int) :=
 ((F_937 a0)).bind fun r0 =>
 bif r0 then
 (some (2143289344:Int))
 else
 ((F_940 a0 (1118925336:Int))).bind fun r1 =>
 bif r1 then
 (some (2139095040:Int))
 else
 ((F_940 (3268407733:Int) a0)).bind fun r2 =>
 bif r2 then
 (some (0:Int))
 else
 ((F_941 a0 (1069066811:Int))).bind fun r3 =>
 ((F_960 (2:Int) (0:Int) r3)).bind fun r4 =>
 let x5 : Int := (IntKind.wrap .i64 r4.1)
 ((F_918 x5)).bind fun r6 =>
 let x7 : Int := (bits .xor .u32 (bits .and .u32 r6 (4294967295:Int)) (2147483648:Int))
 ((F_931 x7 (1060205056:Int) a0)).bind fun r8 =>
 ((F_931 x7 (901758606:Int) r8)).bind fun r9 =>
 ((F_942 r9 (985008993:Int) [(1007192201:Int), (1026206379:Int), (1042983595:Int), (1056964608:Int), (1065353216:Int), (1065353216:Int)])).bind fun r10 =>
 ((F_93f r10 x5)).bind fun r11 =>
 (some r11)
noncomputable def G_934 : T fa_934 → TH hN0 → Option (Int) := fun x y => F_934 x.1
noncomputable def c_934 : Orc := ent i_934 [] 0 (sp fa_934 hN0 fr_934 hN0 G_934 (outN fr_934))
theorem ok_934 : OrcOk PR c_934 := fnT okO_934 mixed p_934 (by kernel_rfl) (by kernel_rfl) (L := L0) (kp := false) (by kernel_rfl) (inn := (innN fr_934)) (out := (outN fr_934)) (fun _ _ => rfl) (loopsL (l := []) (by kernel_rfl) trivial) (fun x y => by kernel_rfl)
noncomputable def O_997 : Orc := (orm c_937 (orm c_938 (orm c_939 (orm c_93b (orm c_961 (orm c_940 (orm c_919 (orm c_934 (orm c_91b c_91a)))))))))
theorem okO_997 : OrcOk PR O_997 := (orm_ok ok_937 (orm_ok ok_938 (orm_ok ok_939 (orm_ok ok_93b (orm_ok ok_961 (orm_ok ok_940 (orm_ok ok_919 (orm_ok ok_934 (orm_ok ok_91b ok_91a)))))))))
abbrev fa_997 : Fm := (.pair (.i .u32) .unit)
abbrev fr_997 : Fm := (.i .u32)
noncomputable def F_997 (a0 : Int) : Option (Int) :=
 let x0 : Bool := ((bits .and .u32 (a0 / (2147483648:Int)) (1:Int)) == (1:Int))
 let x1 : Int := (bits .xor .u32 (bits .and .u32 a0 (4294967295:Int)) (2147483648:Int))
 ((F_937 a0)).bind fun r2 =>
 bif r2 then
 (some (2143289344:Int))
 else
 ((F_939 (2:Int) a0)).bind fun r3 =>
 bif r3 then
 (some a0)
 else
 bif x0 then
 ((F_940 x1 (1091579060:Int))).bind fun r4 =>
 bif (!r4) then
 ((F_919 x1 x1)).bind fun r5 =>
 ((F_934 r5)).bind fun r6 =>
 ((F_919 r6 (1065353216:Int))).bind fun r7 =>
 ((F_91b (1073741824:Int) r7)).bind fun r8 =>
 ((F_91a (1065353216:Int) r8)).bind fun r9 =>
 bif x0 then
 (some (bits .xor .u32 (bits .and .u32 r9 (4294967295:Int)) (2147483648:Int)))
 else
 (some r9)
 else
 bif x0 then
 (some (3212836864:Int))
 else
 (some (1065353216:Int))
 else
 ((F_940 a0 (1091579060:Int))).bind fun r10 =>
 bif (!r10) then
 ((F_919 a0 a0)).bind fun r11 =>
 ((F_934 r11)).bind fun r12 =>
 ((F_919 r12 (1065353216:Int))).bind fun r13 =>
 ((F_91b (1073741824:Int) r13)).bind fun r14 =>
 ((F_91a (1065353216:Int) r14)).bind fun r15 =>
 bif x0 then
 (some (bits .xor .u32 (bits .and .u32 r15 (4294967295:Int)) (2147483648:Int)))
 else
 (some r15)
 else
 bif x0 then
 (some (3212836864:Int))
 else
 (some (1065353216:Int))
noncomputable def G_997 : T fa_997 → TH hN0 → Option (Int) := fun x y => F_997 x.1
noncomputable def c_997 : Orc := ent i_997 [] 0 (sp fa_997 hN0 fr_997 hN0 G_997 (outN fr_997))
theorem ok_997 : OrcOk PR c_997 := fnT okO_997 mixed p_997 (by kernel_rfl) (by kernel_rfl) (L := L0) (kp := false) (by kernel_rfl) (inn := (innN fr_997)) (out := (outN fr_997)) (fun _ _ => rfl) (loopsL (l := []) (by kernel_rfl) trivial) (fun x y => by kernel_rfl)
noncomputable def O_99f : Orc := (orm c_941 c_931)
theorem okO_99f : OrcOk PR O_99f := (orm_ok ok_941 ok_931)
abbrev fa_99f : Fm := (.pair (.i .u32) .unit)
abbrev fr_99f : Fm := (.i .u32)
noncomputable def F_99f (a0 : Int) : Option (Int) :=
 ((F_941 a0 a0)).bind fun r0 =>
 ((F_941 r0 a0)).bind fun r1 =>
 ((F_931 (1027024659:Int) r1 a0)).bind fun r2 =>
 ((F_941 (1061962282:Int) r2)).bind fun r3 =>
 (some r3)
noncomputable def G_99f : T fa_99f → TH hN0 → Option (Int) := fun x y => F_99f x.1
noncomputable def c_99f : Orc := ent i_99f [] 0 (sp fa_99f hN0 fr_99f hN0 G_99f (outN fr_99f))
theorem ok_99f : OrcOk PR c_99f := fnT okO_99f mixed p_99f (by kernel_rfl) (by kernel_rfl) (L := L0) (kp := false) (by kernel_rfl) (inn := (innN fr_99f)) (out := (outN fr_99f)) (fun _ _ => rfl) (loopsL (l := []) (by kernel_rfl) trivial) (fun x y => by kernel_rfl)
noncomputable def O_998 : Orc := (orm c_941 (orm c_99f (orm c_997 c_919)))
theorem okO_998 : OrcOk PR O_998 := (orm_ok ok_941 (orm_ok ok_99f (orm_ok ok_997 ok_919)))
abbrev fa_998 : Fm := (.pair (.i .u32) .unit)
abbrev fr_998 : Fm := (.i .u32)
noncomputable def F_998 (a0 : Int) : Option (Int) :=
 ((F_941 (1056964608:Int) a0)).bind fun r0 =>
 ((F_99f a0)).bind fun r1 =>
 ((F_997 r1)).bind fun r2 =>
 ((F_919 (1065353216:Int) r2)).bind fun r3 =>
 ((F_941 r0 r3)).bind fun r4 =>
 (some r4)
noncomputable def G_998 : T fa_998 → TH hN0 → Option (Int) := fun x y => F_998 x.1
noncomputable def c_998 : Orc := ent i_998 [] 0 (sp fa_998 hN0 fr_998 hN0 G_998 (outN fr_998))
theorem ok_998 : OrcOk PR c_998 := fnT okO_998 mixed p_998 (by kernel_rfl) (by kernel_rfl) (L := L0) (kp := false) (by kernel_rfl) (inn := (innN fr_998)) (out := (outN fr_998)) (fun _ _ => rfl) (loopsL (l := []) (by kernel_rfl) trivial) (fun x y => by kernel_rfl)
noncomputable def O_996 : Orc := c_969
theorem okO_996 : OrcOk PR O_996 := ok_969
abbrev fa_996 : Fm := .unit
abbrev fr_996 : Fm := (.i .u32)
noncomputable def F_996  : Option (Int) :=
 (some (2143289344:Int))
noncomputable def G_996 : T fa_996 → TH hN0 → Option (Int) := fun x y => F_996
noncomputable def c_996 : Orc := ent i_996 [] 0 (sp fa_996 hN0 fr_996 hN0 G_996 (outN fr_996))
theorem ok_996 : OrcOk PR c_996 := fnT okO_996 mixed p_996 (by kernel_rfl) (by kernel_rfl) (L := L0) (kp := false) (by kernel_rfl) (inn := (innN fr_996)) (out := (outN fr_996)) (fun _ _ => rfl) (loopsL (l := []) (by kernel_rfl) trivial) (fun x y => by kernel_rfl)
noncomputable def O_97e : Orc := orn
theorem okO_97e : OrcOk PR O_97e := (orn_ok _)
abbrev fa_97e : Fm := (.pair (.i .i64) .unit)
abbrev fr_97e : Fm := .b
noncomputable def F_97e (a0 : Int) : Option (Bool) :=
 bif (decide (a0 ≥ (0:Int))) then
 (some (decide (a0 ≤ (3:Int))))
 else
 (some false)
noncomputable def G_97e : T fa_97e → TH hN0 → Option (Bool) := fun x y => F_97e x.1
noncomputable def c_97e : Orc := ent i_97e [] 0 (sp fa_97e hN0 fr_97e hN0 G_97e (outN fr_97e))
theorem ok_97e : OrcOk PR c_97e := fnT okO_97e mixed p_97e (by kernel_rfl) (by kernel_rfl) (L := L0) (kp := false) (by kernel_rfl) (inn := (innN fr_97e)) (out := (outN fr_97e)) (fun _ _ => rfl) (loopsL (l := []) (by kernel_rfl) trivial) (fun x y => by kernel_rfl)
noncomputable def O_981 : Orc := (orm c_937 (orm c_996 (orm c_940 (orm c_997 c_998))))
theorem okO_981 : OrcOk PR O_981 := (orm_ok ok_937 (orm_ok ok_996 (orm_ok ok_940 (orm_ok ok_997 ok_998))))
abbrev fa_981 : Fm := (.pair (.i .i64) (.pair (.i .u32) .unit))
abbrev fr_981 : Fm := (.i .u32)
noncomputable def F_981 (a0 : Int) (a1 : Int) : Option (Int) :=
 bif (a0 == (0:Int)) then
 (some a1)
 else
 bif (a0 == (1:Int)) then
 ((F_937 a1)).bind fun r0 =>
 bif r0 then
 (some (2143289344:Int))
 else
 ((F_940 a1 (0:Int))).bind fun r1 =>
 bif r1 then
 (some a1)
 else
 (some (0:Int))
 else
 bif (a0 == (2:Int)) then
 ((F_997 a1)).bind fun r2 =>
 (some r2)
 else
 bif (a0 == (3:Int)) then
 ((F_998 a1)).bind fun r3 =>
 (some r3)
 else
 (some (2143289344:Int))
noncomputable def G_981 : T fa_981 → TH hN0 → Option (Int) := fun x y => F_981 x.1 x.2.1
noncomputable def c_981 : Orc := ent i_981 [] 0 (sp fa_981 hN0 fr_981 hN0 G_981 (outN fr_981))
theorem ok_981 : OrcOk PR c_981 := fnT okO_981 mixed p_981 (by kernel_rfl) (by kernel_rfl) (L := L0) (kp := false) (by kernel_rfl) (inn := (innN fr_981)) (out := (outN fr_981)) (fun _ _ => rfl) (loopsL (l := []) (by kernel_rfl) trivial) (fun x y => by kernel_rfl)
end Go.Proofs.YtkmkhcmfpbffjaaGreat.VI
