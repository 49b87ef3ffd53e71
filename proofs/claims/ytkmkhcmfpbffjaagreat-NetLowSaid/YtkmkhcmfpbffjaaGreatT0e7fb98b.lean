import Derived.Test.YtkmkhcmfpbffjaaGreatT30ae19a4
namespace Go.Proofs.YtkmkhcmfpbffjaaGreat.VI
set_option linter.unusedVariables false
set_option linter.unusedSimpArgs false
set_option maxRecDepth 100000
noncomputable def O_97f : Orc := (orm c_953 (orm c_981 c_980))
theorem okO_97f : OrcOk PR O_97f := (orm_ok ok_953 (orm_ok ok_981 ok_980))
abbrev fa_97f : Fm := (.pair (.i .i64) (.pair (.i .u32) (.cst (.ref 0 1 0) (.cst (.ref 1 1 0) .unit))))
abbrev ha_97f : List BF := [(.list 1 y_92 true (.pair (.i .i64) (.pair (.i .i64) (.pair (.i .i64) (.pair (.si .u32) .unit))))), (.ints 1 y_90 true .i64)]
abbrev fr_97f : Fm := (.i .u32)
abbrev hr_97f : List BF := [(.list 1 y_92 true (.pair (.i .i64) (.pair (.i .i64) (.pair (.i .i64) (.pair (.si .u32) .unit))))), (.ints 1 y_90 true .i64)]
def inn_97f : T fr_97f → TH hr_97f → (Int) × ((Int × Int × Int × List Int × Unit) × List Int × Unit) := Prod.mk
def out_97f : (Int) × ((Int × Int × Int × List Int × Unit) × List Int × Unit) → T fr_97f × TH hr_97f := id
noncomputable def F_97f (a0 : Int) (a1 : Int) (a2 : Int × Int × Int × List Int × Unit) (a3 : List Int) : Option ((Int) × ((Int × Int × Int × List Int × Unit) × List Int × Unit)) :=
 let x0 : Int := a2.2.2.1
 let x1 : List Int := a2.2.2.2.1
 bif (decide ((0:Nat) < (List.length a3))) then
 ((F_953 x0 a1)).bind fun r2 =>
 ((F_981 (List.getD a3 (0:Nat) (0:Int)) r2)).bind fun r3 =>
 ((F_980 x0 r3)).bind fun r4 =>
 (some (r4, ((a2.1, (a2.2.1, (x0, ((List.take (List.length x1) x1), ())))), (a3, ()))))
 else
 none
noncomputable def G_97f : T fa_97f → TH ha_97f → Option ((Int) × ((Int × Int × Int × List Int × Unit) × List Int × Unit)) := fun x y => F_97f x.1 x.2.1 y.1 y.2.1
noncomputable def c_97f : Orc := ent i_97f [false, false, true, true] 0 (sp fa_97f ha_97f fr_97f hr_97f G_97f out_97f)
theorem ok_97f : OrcOk PR c_97f := fnT okO_97f mixed p_97f (by kernel_rfl) (by kernel_rfl) (L := L0) (kp := false) (by kernel_rfl) (inn := inn_97f) (out := out_97f) (fun _ _ => rfl) (loopsL (l := []) (by kernel_rfl) trivial) (fun x y => by kernel_rfl)
noncomputable def O_9a3 : Orc := c_97f
theorem okO_9a3 : OrcOk PR O_9a3 := ok_97f
abbrev fa_9a3 : Fm := (.pair (.agg (.pair (.i .i64) (.pair (.i .i64) (.pair (.i .i64) (.pair (.si .u32) .unit))))) (.pair (.i .i64) (.pair (.fn i_97f (.pair (.ref 0 1 0) (.pair (.ref 1 1 0) .unit))) .unit)))
abbrev ha_9a3 : List BF := [(.list 1 y_92 true (.pair (.i .i64) (.pair (.i .i64) (.pair (.i .i64) (.pair (.si .u32) .unit))))), (.ints 1 y_90 true .i64)]
abbrev fr_9a3 : Fm := (.agg (.pair (.i .i64) (.pair (.i .i64) (.pair (.i .i64) (.pair (.si .u32) .unit)))))
abbrev hr_9a3 : List BF := [(.list 1 y_92 true (.pair (.i .i64) (.pair (.i .i64) (.pair (.i .i64) (.pair (.si .u32) .unit))))), (.ints 1 y_90 true .i64)]
abbrev ff_9a3_0 : Fm := (.us 2 (.cst (.fn i_97f (.cst (.ref 0 1 0) (.cst (.ref 1 1 0) .unit))) (.us 3 (.cst (.ref 2 1 0) (.cst (.ref 3 1 0) (.us 13 (.pair (.si .u32) (.pair (.i .i64) (.pair (.i .i64) (.us 14 .unit))))))))))
abbrev hf_9a3_0 : List BF := [(.list 1 y_92 true (.pair (.i .i64) (.pair (.i .i64) (.pair (.i .i64) (.pair (.si .u32) .unit))))), (.ints 1 y_90 true .i64), (.list 1 y_92 true (.pair (.i .i64) (.pair (.i .i64) (.pair (.i .i64) (.cst .nils .unit))))), (.list 1 y_92 true (.pair (.i .i64) (.pair (.i .i64) (.pair (.i .i64) (.pair (.own 4 1 0 1) .unit))))), (.ints 1 y_91 true .u32)]
abbrev X_9a3_0 : Xs := (.one (.exit 0) [6, 7] (.us 6 (.cst (.ref 2 1 0) (.cst (.ref 3 1 0) (.us 30 .unit)))) [(.list 1 y_92 true (.pair (.i .i64) (.pair (.i .i64) (.pair (.i .i64) (.pair (.si .u32) .unit))))), (.ints 1 y_90 true .i64), (.list 1 y_92 true (.pair (.i .i64) (.pair (.i .i64) (.pair (.i .i64) (.cst .nils .unit))))), (.list 1 y_92 true (.pair (.i .i64) (.pair (.i .i64) (.pair (.i .i64) (.pair (.own 4 1 0 1) .unit))))), (.ints 1 y_91 true .u32)])
abbrev S_9a3_0 : Type := T ff_9a3_0 × TH hf_9a3_0
abbrev E_9a3_0 : Type := TX X_9a3_0
noncomputable def LB_9a3_0 : Lps := L0
noncomputable def st_9a3_0 : StepT S_9a3_0 E_9a3_0 := fun R v kn ko =>
 let x0 : Int := v.1.2.2.1
 let x1 : List Int := v.1.1
 let x2 : Nat := (Int.toNat x0)
 let x3 : List Int := v.2.1.2.2.2.1
 bif (decide (x0 < v.1.2.1)) then
 bif (decide (((0:Int) ≤ x0) ∧ (x0 < (((List.length x1) : Nat) : Int)))) then
 ((F_97f x0 (List.getD x1 x2 (0:Int)) (v.2.1.1, (v.2.1.2.1, (v.2.1.2.2.1, ((List.take (List.length x3) x3), ())))) v.2.2.1)).bind fun r4 =>
 let x5 : List Int := r4.2.1.2.2.2.1
 bif (decide (((0:Int) ≤ x0) ∧ (x0 < ((v.2.2.2.2.1.2.2.2.1 : Nat) : Int)))) then
 bif (decide (((0:Nat) + (x2 * (1:Nat))) < (List.length v.2.2.2.2.2.1))) then
 (kn (((List.take (List.length x1) x1), (v.1.2.1, ((IntKind.wrap .i64 (x0 + (1:Int))), ()))), ((r4.2.1.1, (r4.2.1.2.1, (r4.2.1.2.2.1, ((List.take (List.length x5) x5), ())))), (r4.2.2.1, (v.2.2.2.1, (v.2.2.2.2.1, ((List.set v.2.2.2.2.2.1 ((0:Nat) + (x2 * (1:Nat))) r4.1), ())))))))
 else
 none
 else
 none
 else
 none
 else
 (ko ((), ((v.2.1.1, (v.2.1.2.1, (v.2.1.2.2.1, ((List.take (List.length x3) x3), ())))), v.2.2)))
noncomputable def ls_9a3_0 : St → LTr := (lsum ff_9a3_0 hf_9a3_0 X_9a3_0 Prod.mk id st_9a3_0 (hd [] [] [2, 6, 7, 21, 22, 23] 2))
theorem lp_9a3_0 : LoopOk PR 2 (lpN f_95a 0) ls_9a3_0 := loopT okO_9a3 mixed (L := LB_9a3_0) (d := 1) (bs := []) (ks := [2, 6, 7, 21, 22, 23]) (loopsL (l := []) (by kernel_rfl) trivial) (by kernel_rfl) (inS := Prod.mk) (outS := id) (fun _ _ => rfl) (inX := id) (outX := id) (fun _ => rfl) (fun v R kn ko => by kernel_rfl) (hd_wk [] [] [2, 6, 7, 21, 22, 23] 2)
noncomputable def L_9a3 : Lps := (lpB 4 (.by_ ls_9a3_0) L0)
def inn_9a3 : T fr_9a3 → TH hr_9a3 → (Int × Int × Int × List Int × Unit) × ((Int × Int × Int × List Int × Unit) × List Int × Unit) := Prod.mk
def out_9a3 : (Int × Int × Int × List Int × Unit) × ((Int × Int × Int × List Int × Unit) × List Int × Unit) → T fr_9a3 × TH hr_9a3 := id
noncomputable def F_9a3 (a0 : Int × Int × Int × List Int × Unit) (a1 : Int) (a2 : Int × Int × Int × List Int × Unit) (a3 : List Int) : Option ((Int × Int × Int × List Int × Unit) × ((Int × Int × Int × List Int × Unit) × List Int × Unit)) :=
 let x0 : List Int := a0.2.2.2.1
 let x1 : Nat := (List.length x0)
 let x2 : Int := ((x1 : Nat) : Int)
 let x3 : Int := a2.2.2.1
 let x4 : List Int := a2.2.2.2.1
 let x5 : Nat := (Int.toNat x2)
 bif (decide (((0:Int) ≤ x2) ∧ (x2 ≤ (1073741824:Int)))) then
 ((lim st_9a3_0 (((List.take x1 x0), (x2, ((0:Int), ()))), ((a2.1, (a2.2.1, (x3, ((List.take (List.length x4) x4), ())))), (a3, (((0:Int), ((0:Int), ((0:Int), ()))), ((a0.1, (a0.2.1, (a1, (x5, ())))), ((List.replicate x5 (0:Int)), ())))))))).bind fun r6 =>
 let x7 : List Int := r6.2.1.2.2.2.1
 (some ((r6.2.2.2.2.1.1, (r6.2.2.2.2.1.2.1, (r6.2.2.2.2.1.2.2.1, ((List.take r6.2.2.2.2.1.2.2.2.1 (List.drop (0:Nat) r6.2.2.2.2.2.1)), ())))), ((r6.2.1.1, (r6.2.1.2.1, (r6.2.1.2.2.1, ((List.take (List.length x7) x7), ())))), (r6.2.2.1, ()))))
 else
 none
noncomputable def G_9a3 : T fa_9a3 → TH ha_9a3 → Option ((Int × Int × Int × List Int × Unit) × ((Int × Int × Int × List Int × Unit) × List Int × Unit)) := fun x y => F_9a3 x.1 x.2.1 y.1 y.2.1
noncomputable def c_9a3 : Orc := ent i_95a [false, false, true] 0 (sp fa_9a3 ha_9a3 fr_9a3 hr_9a3 G_9a3 out_9a3)
theorem ok_9a3 : OrcOk PR c_9a3 := fnT okO_9a3 mixed p_95a (by kernel_rfl) (by kernel_rfl) (L := L_9a3) (kp := false) (by kernel_rfl) (inn := inn_9a3) (out := out_9a3) (fun _ _ => rfl) (loopsL (l := [((lpN f_95a 0), ls_9a3_0)]) (by kernel_rfl) ⟨lp_9a3_0, trivial⟩) (fun x y => by kernel_rfl)
noncomputable def O_94b : Orc := (orm c_947 (orm c_97e (orm c_9a3 c_97f)))
theorem okO_94b : OrcOk PR O_94b := (orm_ok ok_947 (orm_ok ok_97e (orm_ok ok_9a3 ok_97f)))
abbrev fa_94b : Fm := (.pair (.i .i64) (.pair (.agg (.pair (.i .i64) (.pair (.i .i64) (.pair (.i .i64) (.pair (.si .u32) .unit))))) .unit))
abbrev fr_94b : Fm := (.tup (.pair (.agg (.pair (.i .i64) (.pair (.i .i64) (.pair (.i .i64) (.pair (.si .u32) .unit))))) (.pair (.i .i64) .unit)))
noncomputable def F_94b (a0 : Int) (a1 : Int × Int × Int × List Int × Unit) : Option ((Int × Int × Int × List Int × Unit) × Int × Unit) :=
 let x0 : Int := a1.2.2.1
 let x1 : List Int := a1.2.2.2.1
 ((F_947 (a1.1, (a1.2.1, (x0, ((List.take (List.length x1) x1), ())))))).bind fun r2 =>
 bif (!r2) then
 (some (((0:Int), ((0:Int), ((0:Int), ([], ())))), ((21:Int), ())))
 else
 ((F_97e (List.getD [a0] (0:Nat) (0:Int)))).bind fun r3 =>
 bif (!r3) then
 (some (((0:Int), ((0:Int), ((0:Int), ([], ())))), ((22:Int), ())))
 else
 ((F_9a3 (a1.1, (a1.2.1, (x0, ((List.take (List.length x1) x1), ())))) x0 (a1.1, (a1.2.1, (x0, ((List.take (List.length x1) x1), ())))) [a0])).bind fun r4 =>
 let x5 : List Int := r4.1.2.2.2.1
 (some ((r4.1.1, (r4.1.2.1, (r4.1.2.2.1, ((List.take (List.length x5) x5), ())))), ((0:Int), ())))
noncomputable def G_94b : T fa_94b → TH hN0 → Option ((Int × Int × Int × List Int × Unit) × Int × Unit) := fun x y => F_94b x.1 x.2.1
noncomputable def c_94b : Orc := ent i_94b [] 0 (sp fa_94b hN0 fr_94b hN0 G_94b (outN fr_94b))
theorem ok_94b : OrcOk PR c_94b := fnT okO_94b mixed p_94b (by kernel_rfl) (by kernel_rfl) (L := L0) (kp := false) (by kernel_rfl) (inn := (innN fr_94b)) (out := (outN fr_94b)) (fun _ _ => rfl) (loopsL (l := []) (by kernel_rfl) trivial) (fun x y => by kernel_rfl)
noncomputable def O_99d : Orc := c_947
theorem okO_99d : OrcOk PR O_99d := ok_947
abbrev fa_99d : Fm := (.pair (.agg (.pair (.i .i64) (.pair (.i .i64) (.pair (.i .i64) (.pair (.si .u32) .unit))))) .unit)
abbrev fr_99d : Fm := (.tup (.pair (.agg (.pair (.i .i64) (.pair (.i .i64) (.pair (.i .i64) (.pair (.si .u32) .unit))))) (.pair (.i .i64) .unit)))
abbrev ff_99d_0 : Fm := (.us 1 (.cst (.ref 0 1 0) (.cst (.ref 1 1 0) (.us 1 (.cst (.ref 2 1 0) (.us 18 (.pair (.si .u32) (.pair (.i .i64) (.pair (.i .i64) (.us 22 .unit))))))))))
abbrev hf_99d_0 : List BF := [(.list 1 y_92 true (.pair (.i .i64) (.pair (.i .i64) (.pair (.i .i64) (.pair (.si .u32) .unit))))), (.list 1 y_92 true (.pair (.i .i64) (.pair (.i .i64) (.pair (.i .i64) (.cst .nils .unit))))), (.list 1 y_92 true (.pair (.i .i64) (.pair (.i .i64) (.pair (.i .i64) (.pair (.own 3 1 0 1) .unit))))), (.ints 1 y_91 true .u32)]
abbrev X_99d_0 : Xs := (.one (.exit 0) [2, 4] (.us 2 (.cst (.ref 0 1 0) (.us 1 (.cst (.ref 1 1 0) (.us 43 .unit))))) [(.list 1 y_92 true (.pair (.i .i64) (.pair (.i .i64) (.pair (.i .i64) (.cst .nils .unit))))), (.list 1 y_92 true (.pair (.i .i64) (.pair (.i .i64) (.pair (.i .i64) (.pair (.own 2 1 0 1) .unit))))), (.ints 1 y_91 true .u32)])
abbrev S_99d_0 : Type := T ff_99d_0 × TH hf_99d_0
abbrev E_99d_0 : Type := TX X_99d_0
noncomputable def LB_99d_0 : Lps := L0
noncomputable def st_99d_0 : StepT S_99d_0 E_99d_0 := fun R v kn ko =>
 let x0 : Int := v.2.1.2.1
 let x1 : Bool := (x0 == (0:Int))
 let x2 : List Int := v.1.1
 let x3 : Int := v.1.2.2.1
 let x4 : Int := v.2.1.1
 let x5 : List Int := v.2.1.2.2.2.1
 bif (decide (x3 < v.1.2.1)) then
 bif (decide (((0:Int) ≤ x3) ∧ (x3 < (((List.length x2) : Nat) : Int)))) then
 bif x1 then
 none
 else
 bif x1 then
 none
 else
 bif (decide (((0:Int) ≤ (IntKind.wrap .i64 ((IntKind.wrap .i64 ((Int.tmod x3 x0) * x4)) + (IntKind.wrap .i64 (Int.tdiv x3 x0))))) ∧ ((IntKind.wrap .i64 ((IntKind.wrap .i64 ((Int.tmod x3 x0) * x4)) + (IntKind.wrap .i64 (Int.tdiv x3 x0)))) < ((v.2.2.2.1.2.2.2.1 : Nat) : Int)))) then
 bif (decide (((0:Nat) + ((Int.toNat (IntKind.wrap .i64 ((IntKind.wrap .i64 ((Int.tmod x3 x0) * x4)) + (IntKind.wrap .i64 (Int.tdiv x3 x0))))) * (1:Nat))) < (List.length v.2.2.2.2.1))) then
 (kn (((List.take (List.length x2) x2), (v.1.2.1, ((IntKind.wrap .i64 (x3 + (1:Int))), ()))), ((x4, (x0, (v.2.1.2.2.1, ((List.take (List.length x5) x5), ())))), (v.2.2.1, (v.2.2.2.1, ((List.set v.2.2.2.2.1 ((0:Nat) + ((Int.toNat (IntKind.wrap .i64 ((IntKind.wrap .i64 ((Int.tmod x3 x0) * x4)) + (IntKind.wrap .i64 (Int.tdiv x3 x0))))) * (1:Nat))) (List.getD x2 (Int.toNat x3) (0:Int))), ()))))))
 else
 none
 else
 none
 else
 none
 else
 (ko ((), v.2.2))
noncomputable def ls_99d_0 : St → LTr := (lsum ff_99d_0 hf_99d_0 X_99d_0 Prod.mk id st_99d_0 (hd [] [] [1, 2, 4, 23, 24, 25] 0))
theorem lp_99d_0 : LoopOk PR 0 (lpN f_99d 0) ls_99d_0 := loopT okO_99d mixed (L := LB_99d_0) (d := 1) (bs := []) (ks := [1, 2, 4, 23, 24, 25]) (loopsL (l := []) (by kernel_rfl) trivial) (by kernel_rfl) (inS := Prod.mk) (outS := id) (fun _ _ => rfl) (inX := id) (outX := id) (fun _ => rfl) (fun v R kn ko => by kernel_rfl) (hd_wk [] [] [1, 2, 4, 23, 24, 25] 0)
noncomputable def L_99d : Lps := (lpB 6 (.by_ ls_99d_0) L0)
noncomputable def F_99d (a0 : Int × Int × Int × List Int × Unit) : Option ((Int × Int × Int × List Int × Unit) × Int × Unit) :=
 let x0 : Int := a0.2.2.1
 let x1 : List Int := a0.2.2.2.1
 let x2 : Nat := (List.length x1)
 let x3 : List Int := (List.take x2 x1)
 let x4 : Int := ((x2 : Nat) : Int)
 let x5 : Nat := (Int.toNat x4)
 ((F_947 (a0.1, (a0.2.1, (x0, (x3, ())))))).bind fun r6 =>
 bif (!r6) then
 (some (((0:Int), ((0:Int), ((0:Int), ([], ())))), ((21:Int), ())))
 else
 bif (decide (((0:Int) ≤ x4) ∧ (x4 ≤ (1073741824:Int)))) then
 ((lim st_99d_0 ((x3, (x4, ((0:Int), ()))), ((a0.1, (a0.2.1, (x0, (x3, ())))), (((0:Int), ((0:Int), ((0:Int), ()))), ((a0.2.1, (a0.1, (x0, (x5, ())))), ((List.replicate x5 (0:Int)), ()))))))).bind fun r7 =>
 (some ((r7.2.2.1.1, (r7.2.2.1.2.1, (r7.2.2.1.2.2.1, ((List.take r7.2.2.1.2.2.2.1 (List.drop (0:Nat) r7.2.2.2.1)), ())))), ((0:Int), ())))
 else
 none
noncomputable def G_99d : T fa_99d → TH hN0 → Option ((Int × Int × Int × List Int × Unit) × Int × Unit) := fun x y => F_99d x.1
noncomputable def c_99d : Orc := ent i_99d [] 0 (sp fa_99d hN0 fr_99d hN0 G_99d (outN fr_99d))
theorem ok_99d : OrcOk PR c_99d := fnT okO_99d mixed p_99d (by kernel_rfl) (by kernel_rfl) (L := L_99d) (kp := false) (by kernel_rfl) (inn := (innN fr_99d)) (out := (outN fr_99d)) (fun _ _ => rfl) (loopsL (l := [((lpN f_99d 0), ls_99d_0)]) (by kernel_rfl) ⟨lp_99d_0, trivial⟩) (fun x y => by kernel_rfl)
noncomputable def O_98c : Orc := c_99d
theorem okO_98c : OrcOk PR O_98c := ok_99d
abbrev fa_98c : Fm := (.pair (.agg (.pair (.i .i64) (.pair (.i .i64) (.pair (.i .i64) (.pair (.si .u32) .unit))))) (.pair .b .unit))
abbrev fr_98c : Fm := (.agg (.pair (.i .i64) (.pair (.i .i64) (.pair (.i .i64) (.pair (.si .u32) .unit)))))
noncomputable def F_98c (a0 : Int × Int × Int × List Int × Unit) (a1 : Bool) : Option (Int × Int × Int × List Int × Unit) :=
 let x0 : Int := a0.2.2.1
 let x1 : List Int := a0.2.2.2.1
 bif a1 then
 ((F_99d (a0.1, (a0.2.1, (x0, ((List.take (List.length x1) x1), ())))))).bind fun r2 =>
 let x3 : Int := r2.1.2.1
 let x4 : Int := r2.1.2.2.1
 let x5 : List Int := r2.1.2.2.2.1
 (some (r2.1.1, (x3, (x4, ((List.take (List.length x5) x5), ())))))
 else
 (some (a0.1, (a0.2.1, (x0, ((List.take (List.length x1) x1), ())))))
noncomputable def G_98c : T fa_98c → TH hN0 → Option (Int × Int × Int × List Int × Unit) := fun x y => F_98c x.1 x.2.1
noncomputable def c_98c : Orc := ent i_98c [] 0 (sp fa_98c hN0 fr_98c hN0 G_98c (outN fr_98c))
theorem ok_98c : OrcOk PR c_98c := fnT okO_98c mixed p_98c (by kernel_rfl) (by kernel_rfl) (L := L0) (kp := false) (by kernel_rfl) (inn := (innN fr_98c)) (out := (outN fr_98c)) (fun _ _ => rfl) (loopsL (l := []) (by kernel_rfl) trivial) (fun x y => by kernel_rfl)
noncomputable def O_98b : Orc := (orm c_99c c_99b)
theorem okO_98b : OrcOk PR O_98b := (orm_ok ok_99c ok_99b)
abbrev fa_98b : Fm := (.pair (.agg (.pair (.i .i64) (.pair (.i .i64) (.pair (.i .i64) (.pair (.si .u32) .unit))))) (.pair (.agg (.pair (.i .i64) (.pair (.i .i64) (.pair (.i .i64) (.pair (.si .u32) .unit))))) .unit))
abbrev fr_98b : Fm := (.tup (.pair (.agg (.pair (.i .i64) (.pair (.i .i64) (.pair (.i .i64) (.pair (.si .u32) .unit))))) (.pair (.i .i64) .unit)))
abbrev ff_98b_1 : Fm := (.us 2 (.cst (.ref 0 1 0) (.cst (.ref 1 1 0) (.cst (.ref 2 1 0) (.us 1 (.cst (.ref 3 1 0) (.pair (.i .i64) (.us 15 (.pair (.i .i64) (.pair (.i .i64) (.us 3 (.pair (.i .i64) (.pair (.i .i64) (.us 21 .unit))))))))))))))
abbrev hf_98b_1 : List BF := [(.list 1 y_92 true (.pair (.i .i64) (.pair (.i .i64) (.pair (.i .i64) (.pair (.si .u32) .unit))))), (.list 1 y_92 true (.pair (.i .i64) (.pair (.i .i64) (.pair (.i .i64) (.pair (.si .u32) .unit))))), (.list 1 y_92 true (.pair (.i .i64) (.pair (.i .i64) (.pair (.i .i64) (.cst .nils .unit))))), (.list 1 y_92 true (.pair (.i .i64) (.pair (.i .i64) (.pair (.i .i64) (.pair (.own 4 1 0 1) .unit))))), (.ints 1 y_91 true .u32)]
abbrev X_98b_1 : Xs := (.one (.exit 2) [2, 3, 4, 6, 23, 24] (.us 2 (.cst (.ref 0 1 0) (.cst (.ref 1 1 0) (.cst (.ref 2 1 0) (.us 1 (.cst (.ref 3 1 0) (.us 16 (.pair (.i .i64) (.pair (.i .i64) (.us 26 .unit)))))))))) [(.list 1 y_92 true (.pair (.i .i64) (.pair (.i .i64) (.pair (.i .i64) (.pair (.si .u32) .unit))))), (.list 1 y_92 true (.pair (.i .i64) (.pair (.i .i64) (.pair (.i .i64) (.pair (.si .u32) .unit))))), (.list 1 y_92 true (.pair (.i .i64) (.pair (.i .i64) (.pair (.i .i64) (.cst .nils .unit))))), (.list 1 y_92 true (.pair (.i .i64) (.pair (.i .i64) (.pair (.i .i64) (.pair (.own 4 1 0 1) .unit))))), (.ints 1 y_91 true .u32)])
abbrev S_98b_1 : Type := T ff_98b_1 × TH hf_98b_1
abbrev E_98b_1 : Type := TX X_98b_1
noncomputable def LB_98b_1 : Lps := L0
noncomputable def st_98b_1 : StepT S_98b_1 E_98b_1 := fun R v kn ko =>
 let x0 : List Int := v.2.1.2.2.2.1
 let x1 : Int := v.1.1
 let x2 : List Int := v.2.2.1.2.2.2.1
 let x3 : Int := v.1.2.2.2.2.1
 let x4 : Int := v.1.2.1
 let x5 : Int := v.1.2.2.1
 let x6 : Nat := v.2.2.2.2.1.2.2.2.1
 bif (decide (x3 < v.1.2.2.2.1)) then
 ((F_99c (v.2.1.1, (v.2.1.2.1, (v.2.1.2.2.1, ((List.take (List.length x0) x0), ())))) x1)).bind fun r7 =>
 ((F_99c (v.2.2.1.1, (v.2.2.1.2.1, (v.2.2.1.2.2.1, ((List.take (List.length x2) x2), ())))) x3)).bind fun r8 =>
 ((F_99b (List.take (List.length r7) r7) (List.take (List.length r8) r8))).bind fun r9 =>
 bif (decide ((x6 + (1:Nat)) ≤ (1073741824:Nat))) then
 (kn ((x1, (x4, (x5, (v.1.2.2.2.1, ((IntKind.wrap .i64 (x3 + (1:Int))), ()))))), ((v.2.1.1, (v.2.1.2.1, (v.2.1.2.2.1, ((List.take (List.length x0) x0), ())))), ((v.2.2.1.1, (v.2.2.1.2.1, (v.2.2.1.2.2.1, ((List.take (List.length x2) x2), ())))), (v.2.2.2.1, ((v.2.2.2.2.1.1, (v.2.2.2.2.1.2.1, (v.2.2.2.2.1.2.2.1, ((x6 + (1:Nat)), ())))), (((List.take x6 v.2.2.2.2.2.1) ++ [r9.1]), ())))))))
 else
 none
 else
 (ko ((x4, (x5, ())), ((v.2.1.1, (v.2.1.2.1, (v.2.1.2.2.1, ((List.take (List.length x0) x0), ())))), ((v.2.2.1.1, (v.2.2.1.2.1, (v.2.2.1.2.2.1, ((List.take (List.length x2) x2), ())))), v.2.2.2))))
noncomputable def ls_98b_1 : St → LTr := (lsum ff_98b_1 hf_98b_1 X_98b_1 Prod.mk id st_98b_1 (hd [] [] [2, 3, 4, 6, 7, 23, 24, 28, 29] 0))
theorem lp_98b_1 : LoopOk PR 0 (lpN f_98b 1) ls_98b_1 := loopT okO_98b mixed (L := LB_98b_1) (d := 2) (bs := []) (ks := [2, 3, 4, 6, 7, 23, 24, 28, 29]) (loopsL (l := []) (by kernel_rfl) trivial) (by kernel_rfl) (inS := Prod.mk) (outS := id) (fun _ _ => rfl) (inX := id) (outX := id) (fun _ => rfl) (fun v R kn ko => by kernel_rfl) (hd_wk [] [] [2, 3, 4, 6, 7, 23, 24, 28, 29] 0)
abbrev ff_98b_0 : Fm := (.us 2 (.cst (.ref 0 1 0) (.cst (.ref 1 1 0) (.cst (.ref 2 1 0) (.us 1 (.cst (.ref 3 1 0) (.us 16 (.pair (.i .i64) (.pair (.i .i64) (.us 26 .unit))))))))))
abbrev hf_98b_0 : List BF := [(.list 1 y_92 true (.pair (.i .i64) (.pair (.i .i64) (.pair (.i .i64) (.pair (.si .u32) .unit))))), (.list 1 y_92 true (.pair (.i .i64) (.pair (.i .i64) (.pair (.i .i64) (.pair (.si .u32) .unit))))), (.list 1 y_92 true (.pair (.i .i64) (.pair (.i .i64) (.pair (.i .i64) (.cst .nils .unit))))), (.list 1 y_92 true (.pair (.i .i64) (.pair (.i .i64) (.pair (.i .i64) (.pair (.own 4 1 0 1) .unit))))), (.ints 1 y_91 true .u32)]
abbrev X_98b_0 : Xs := (.one (.exit 0) [4, 6] (.us 4 (.cst (.ref 0 1 0) (.us 1 (.cst (.ref 1 1 0) (.us 44 .unit))))) [(.list 1 y_92 true (.pair (.i .i64) (.pair (.i .i64) (.pair (.i .i64) (.cst .nils .unit))))), (.list 1 y_92 true (.pair (.i .i64) (.pair (.i .i64) (.pair (.i .i64) (.pair (.own 2 1 0 1) .unit))))), (.ints 1 y_91 true .u32)])
abbrev S_98b_0 : Type := T ff_98b_0 × TH hf_98b_0
abbrev E_98b_0 : Type := TX X_98b_0
noncomputable def LB_98b_0 : Lps := (lpB 9 (.by_ ls_98b_1) L0)
noncomputable def st_98b_0 : StepT S_98b_0 E_98b_0 := fun R v kn ko =>
 let x0 : Int := v.1.2.1
 let x1 : Int := v.2.2.1.1
 let x2 : List Int := v.2.1.2.2.2.1
 let x3 : List Int := v.2.2.1.2.2.2.1
 bif (decide (x0 < v.1.1)) then
 ((lim st_98b_1 ((x0, (v.1.1, (x0, (x1, ((0:Int), ()))))), ((v.2.1.1, (v.2.1.2.1, (v.2.1.2.2.1, ((List.take (List.length x2) x2), ())))), ((x1, (v.2.2.1.2.1, (v.2.2.1.2.2.1, ((List.take (List.length x3) x3), ())))), v.2.2.2))))).bind fun r4 =>
 let x5 : List Int := r4.2.1.2.2.2.1
 let x6 : List Int := r4.2.2.1.2.2.2.1
 (kn ((r4.1.1, ((IntKind.wrap .i64 (r4.1.2.1 + (1:Int))), ())), ((r4.2.1.1, (r4.2.1.2.1, (r4.2.1.2.2.1, ((List.take (List.length x5) x5), ())))), ((r4.2.2.1.1, (r4.2.2.1.2.1, (r4.2.2.1.2.2.1, ((List.take (List.length x6) x6), ())))), r4.2.2.2))))
 else
 (ko ((), v.2.2.2))
noncomputable def ls_98b_0 : St → LTr := (lsum ff_98b_0 hf_98b_0 X_98b_0 Prod.mk id st_98b_0 (hd [(.via 6 3, y_91, 0, .ints .u32)] [] [2, 3, 4, 6, 23, 24] 0))
theorem lp_98b_0 : LoopOk PR 0 (lpN f_98b 0) ls_98b_0 := loopT okO_98b mixed (L := LB_98b_0) (d := 1) (bs := []) (ks := [2, 3, 4, 6, 23, 24]) (loopsL (l := [((lpN f_98b 1), ls_98b_1)]) (by kernel_rfl) ⟨lp_98b_1, trivial⟩) (by kernel_rfl) (inS := Prod.mk) (outS := id) (fun _ _ => rfl) (inX := id) (outX := id) (fun _ => rfl) (fun v R kn ko => by kernel_rfl) (hd_wk [(.via 6 3, y_91, 0, .ints .u32)] [] [2, 3, 4, 6, 23, 24] 0)
noncomputable def L_98b : Lps := (lpB 6 (.by_ ls_98b_0) (lpB 9 (.by_ ls_98b_1) L0))
noncomputable def F_98b (a0 : Int × Int × Int × List Int × Unit) (a1 : Int × Int × Int × List Int × Unit) : Option ((Int × Int × Int × List Int × Unit) × Int × Unit) :=
 let x0 : Int := a0.2.2.1
 let x1 : List Int := a0.2.2.2.1
 let x2 : Int := a1.2.2.1
 let x3 : List Int := a1.2.2.2.1
 bif (a0.2.1 != a1.2.1) then
 (some (((0:Int), ((0:Int), ((0:Int), ([], ())))), ((21:Int), ())))
 else
 ((lim st_98b_0 ((a0.1, ((0:Int), ())), ((a0.1, (a0.2.1, (x0, ((List.take (List.length x1) x1), ())))), ((a1.1, (a1.2.1, (x2, ((List.take (List.length x3) x3), ())))), (((0:Int), ((0:Int), ((0:Int), ()))), ((a0.1, (a1.1, ((2:Int), ((0:Nat), ())))), ([], ())))))))).bind fun r4 =>
 (some ((r4.2.2.1.1, (r4.2.2.1.2.1, (r4.2.2.1.2.2.1, ((List.take r4.2.2.1.2.2.2.1 (List.drop (0:Nat) r4.2.2.2.1)), ())))), ((0:Int), ())))
noncomputable def G_98b : T fa_98b → TH hN0 → Option ((Int × Int × Int × List Int × Unit) × Int × Unit) := fun x y => F_98b x.1 x.2.1
noncomputable def c_98b : Orc := ent i_98b [] 0 (sp fa_98b hN0 fr_98b hN0 G_98b (outN fr_98b))
theorem ok_98b : OrcOk PR c_98b := fnT okO_98b mixed p_98b (by kernel_rfl) (by kernel_rfl) (L := L_98b) (kp := false) (by kernel_rfl) (inn := (innN fr_98b)) (out := (outN fr_98b)) (fun _ _ => rfl) (loopsL (l := [((lpN f_98b 0), ls_98b_0)]) (by kernel_rfl) ⟨lp_98b_0, trivial⟩) (fun x y => by kernel_rfl)
noncomputable def O_959 : Orc := (orm c_97c (orm c_98c c_98b))
theorem okO_959 : OrcOk PR O_959 := (orm_ok ok_97c (orm_ok ok_98c ok_98b))
abbrev fa_959 : Fm := (.pair (.agg (.pair (.i .i64) (.pair (.i .i64) (.pair (.i .i64) (.pair (.si .u32) .unit))))) (.pair (.agg (.pair (.i .i64) (.pair (.i .i64) (.pair (.i .i64) (.pair (.si .u32) .unit))))) (.pair .b (.pair .b .unit))))
abbrev fr_959 : Fm := (.tup (.pair (.agg (.pair (.i .i64) (.pair (.i .i64) (.pair (.i .i64) (.pair (.si .u32) .unit))))) (.pair (.i .i64) .unit)))
noncomputable def F_959 (a0 : Int × Int × Int × List Int × Unit) (a1 : Int × Int × Int × List Int × Unit) (a2 : Bool) (a3 : Bool) : Option ((Int × Int × Int × List Int × Unit) × Int × Unit) :=
 let x0 : Int := a0.2.2.1
 let x1 : List Int := a0.2.2.2.1
 let x2 : Int := a1.2.2.1
 let x3 : List Int := a1.2.2.2.1
 ((F_97c (a0.1, (a0.2.1, (x0, ((List.take (List.length x1) x1), ())))) (a1.1, (a1.2.1, (x2, ((List.take (List.length x3) x3), ())))))).bind fun r4 =>
 let x5 : Bool := r4.2.2.1
 let x6 : Int := r4.1.2.1
 let x7 : Int := r4.1.2.2.1
 let x8 : List Int := r4.1.2.2.2.1
 let x9 : Int := r4.2.1.1
 let x10 : Int := r4.2.1.2.1
 let x11 : Int := r4.2.1.2.2.1
 let x12 : List Int := r4.2.1.2.2.2.1
 bif (!x5) then
 (some (((0:Int), ((0:Int), ((0:Int), ([], ())))), ((21:Int), ())))
 else
 ((F_98c (r4.1.1, (x6, (x7, ((List.take (List.length x8) x8), ())))) a2)).bind fun r13 =>
 let x14 : Int := r13.2.2.1
 let x15 : List Int := r13.2.2.2.1
 ((F_98c (x9, (x10, (x11, ((List.take (List.length x12) x12), ())))) a3)).bind fun r16 =>
 let x17 : Int := r16.2.2.1
 let x18 : List Int := r16.2.2.2.1
 ((F_98b (r13.1, (r13.2.1, (x14, ((List.take (List.length x15) x15), ())))) (r16.1, (r16.2.1, (x17, ((List.take (List.length x18) x18), ())))))).bind fun r19 =>
 let x20 : Int := r19.1.2.1
 let x21 : Int := r19.1.2.2.1
 let x22 : List Int := r19.1.2.2.2.1
 (some ((r19.1.1, (x20, (x21, ((List.take (List.length x22) x22), ())))), r19.2))
noncomputable def G_959 : T fa_959 → TH hN0 → Option ((Int × Int × Int × List Int × Unit) × Int × Unit) := fun x y => F_959 x.1 x.2.1 x.2.2.1 x.2.2.2.1
noncomputable def c_959 : Orc := ent i_959 [] 0 (sp fa_959 hN0 fr_959 hN0 G_959 (outN fr_959))
theorem ok_959 : OrcOk PR c_959 := fnT okO_959 mixed p_959 (by kernel_rfl) (by kernel_rfl) (L := L0) (kp := false) (by kernel_rfl) (inn := (innN fr_959)) (out := (outN fr_959)) (fun _ _ => rfl) (loopsL (l := []) (by kernel_rfl) trivial) (fun x y => by kernel_rfl)
noncomputable def O_948 : Orc := c_959
theorem okO_948 : OrcOk PR O_948 := ok_959
abbrev fa_948 : Fm := (.pair (.agg (.pair (.i .i64) (.pair (.i .i64) (.pair (.i .i64) (.pair (.si .u32) .unit))))) (.pair (.agg (.pair (.i .i64) (.pair (.i .i64) (.pair (.i .i64) (.pair (.si .u32) .unit))))) .unit))
abbrev fr_948 : Fm := (.tup (.pair (.agg (.pair (.i .i64) (.pair (.i .i64) (.pair (.i .i64) (.pair (.si .u32) .unit))))) (.pair (.i .i64) .unit)))
noncomputable def F_948 (a0 : Int × Int × Int × List Int × Unit) (a1 : Int × Int × Int × List Int × Unit) : Option ((Int × Int × Int × List Int × Unit) × Int × Unit) :=
 let x0 : Int := a0.2.2.1
 let x1 : List Int := a0.2.2.2.1
 let x2 : Int := a1.2.2.1
 let x3 : List Int := a1.2.2.2.1
 ((F_959 (a0.1, (a0.2.1, (x0, ((List.take (List.length x1) x1), ())))) (a1.1, (a1.2.1, (x2, ((List.take (List.length x3) x3), ())))) false false)).bind fun r4 =>
 let x5 : Int := r4.1.2.1
 let x6 : Int := r4.1.2.2.1
 let x7 : List Int := r4.1.2.2.2.1
 (some ((r4.1.1, (x5, (x6, ((List.take (List.length x7) x7), ())))), r4.2))
noncomputable def G_948 : T fa_948 → TH hN0 → Option ((Int × Int × Int × List Int × Unit) × Int × Unit) := fun x y => F_948 x.1 x.2.1
noncomputable def c_948 : Orc := ent i_948 [] 0 (sp fa_948 hN0 fr_948 hN0 G_948 (outN fr_948))
theorem ok_948 : OrcOk PR c_948 := fnT okO_948 mixed p_948 (by kernel_rfl) (by kernel_rfl) (L := L0) (kp := false) (by kernel_rfl) (inn := (innN fr_948)) (out := (outN fr_948)) (fun _ _ => rfl) (loopsL (l := []) (by kernel_rfl) trivial) (fun x y => by kernel_rfl)
noncomputable def O_97d : Orc := c_919
theorem okO_97d : OrcOk PR O_97d := ok_919
abbrev fa_97d : Fm := (.pair (.i .i64) (.pair (.i .u32) (.cst (.ref 0 1 0) (.cst (.ref 1 1 0) .unit))))
abbrev ha_97d : List BF := [(.list 1 y_92 true (.pair (.i .i64) (.pair (.i .i64) (.pair (.i .i64) (.pair (.si .u32) .unit))))), (.list 1 y_92 true (.pair (.i .i64) (.pair (.i .i64) (.pair (.i .i64) (.pair (.si .u32) .unit)))))]
abbrev fr_97d : Fm := (.i .u32)
abbrev hr_97d : List BF := [(.list 1 y_92 true (.pair (.i .i64) (.pair (.i .i64) (.pair (.i .i64) (.pair (.si .u32) .unit))))), (.list 1 y_92 true (.pair (.i .i64) (.pair (.i .i64) (.pair (.i .i64) (.pair (.si .u32) .unit)))))]
def inn_97d : T fr_97d → TH hr_97d → (Int) × ((Int × Int × Int × List Int × Unit) × (Int × Int × Int × List Int × Unit) × Unit) := Prod.mk
def out_97d : (Int) × ((Int × Int × Int × List Int × Unit) × (Int × Int × Int × List Int × Unit) × Unit) → T fr_97d × TH hr_97d := id
noncomputable def F_97d (a0 : Int) (a1 : Int) (a2 : Int × Int × Int × List Int × Unit) (a3 : Int × Int × Int × List Int × Unit) : Option ((Int) × ((Int × Int × Int × List Int × Unit) × (Int × Int × Int × List Int × Unit) × Unit)) :=
 let x0 : List Int := a2.2.2.2.1
 let x1 : Int := a2.2.2.1
 let x2 : Int := a3.2.2.1
 let x3 : List Int := a3.2.2.2.1
 bif (a3.2.1 == (0:Int)) then
 none
 else
 bif (decide (((0:Int) ≤ (Int.tmod a0 a3.2.1)) ∧ ((Int.tmod a0 a3.2.1) < (((List.length x0) : Nat) : Int)))) then
 ((F_919 a1 (List.getD x0 (Int.toNat (Int.tmod a0 a3.2.1)) (0:Int)))).bind fun r4 =>
 (some (r4, ((a2.1, (a2.2.1, (x1, ((List.take (List.length x0) x0), ())))), ((a3.1, (a3.2.1, (x2, ((List.take (List.length x3) x3), ())))), ()))))
 else
 none
noncomputable def G_97d : T fa_97d → TH ha_97d → Option ((Int) × ((Int × Int × Int × List Int × Unit) × (Int × Int × Int × List Int × Unit) × Unit)) := fun x y => F_97d x.1 x.2.1 y.1 y.2.1
noncomputable def c_97d : Orc := ent i_97d [false, false, true, true] 0 (sp fa_97d ha_97d fr_97d hr_97d G_97d out_97d)
theorem ok_97d : OrcOk PR c_97d := fnT okO_97d mixed p_97d (by kernel_rfl) (by kernel_rfl) (L := L0) (kp := false) (by kernel_rfl) (inn := inn_97d) (out := out_97d) (fun _ _ => rfl) (loopsL (l := []) (by kernel_rfl) trivial) (fun x y => by kernel_rfl)
noncomputable def O_9a4 : Orc := c_97d
theorem okO_9a4 : OrcOk PR O_9a4 := ok_97d
abbrev fa_9a4 : Fm := (.pair (.agg (.pair (.i .i64) (.pair (.i .i64) (.pair (.i .i64) (.pair (.si .u32) .unit))))) (.pair (.i .i64) (.pair (.fn i_97d (.pair (.ref 0 1 0) (.pair (.ref 1 1 0) .unit))) .unit)))
abbrev ha_9a4 : List BF := [(.list 1 y_92 true (.pair (.i .i64) (.pair (.i .i64) (.pair (.i .i64) (.pair (.si .u32) .unit))))), (.list 1 y_92 true (.pair (.i .i64) (.pair (.i .i64) (.pair (.i .i64) (.pair (.si .u32) .unit)))))]
abbrev fr_9a4 : Fm := (.agg (.pair (.i .i64) (.pair (.i .i64) (.pair (.i .i64) (.pair (.si .u32) .unit)))))
abbrev hr_9a4 : List BF := [(.list 1 y_92 true (.pair (.i .i64) (.pair (.i .i64) (.pair (.i .i64) (.pair (.si .u32) .unit))))), (.list 1 y_92 true (.pair (.i .i64) (.pair (.i .i64) (.pair (.i .i64) (.pair (.si .u32) .unit)))))]
abbrev ff_9a4_0 : Fm := (.us 2 (.cst (.fn i_97d (.cst (.ref 0 1 0) (.cst (.ref 1 1 0) .unit))) (.us 3 (.cst (.ref 2 1 0) (.cst (.ref 3 1 0) (.us 13 (.pair (.si .u32) (.pair (.i .i64) (.pair (.i .i64) (.us 14 .unit))))))))))
abbrev hf_9a4_0 : List BF := [(.list 1 y_92 true (.pair (.i .i64) (.pair (.i .i64) (.pair (.i .i64) (.pair (.si .u32) .unit))))), (.list 1 y_92 true (.pair (.i .i64) (.pair (.i .i64) (.pair (.i .i64) (.pair (.si .u32) .unit))))), (.list 1 y_92 true (.pair (.i .i64) (.pair (.i .i64) (.pair (.i .i64) (.cst .nils .unit))))), (.list 1 y_92 true (.pair (.i .i64) (.pair (.i .i64) (.pair (.i .i64) (.pair (.own 4 1 0 1) .unit))))), (.ints 1 y_91 true .u32)]
abbrev X_9a4_0 : Xs := (.one (.exit 0) [6, 7] (.us 6 (.cst (.ref 2 1 0) (.cst (.ref 3 1 0) (.us 30 .unit)))) [(.list 1 y_92 true (.pair (.i .i64) (.pair (.i .i64) (.pair (.i .i64) (.pair (.si .u32) .unit))))), (.list 1 y_92 true (.pair (.i .i64) (.pair (.i .i64) (.pair (.i .i64) (.pair (.si .u32) .unit))))), (.list 1 y_92 true (.pair (.i .i64) (.pair (.i .i64) (.pair (.i .i64) (.cst .nils .unit))))), (.list 1 y_92 true (.pair (.i .i64) (.pair (.i .i64) (.pair (.i .i64) (.pair (.own 4 1 0 1) .unit))))), (.ints 1 y_91 true .u32)])
abbrev S_9a4_0 : Type := T ff_9a4_0 × TH hf_9a4_0
abbrev E_9a4_0 : Type := TX X_9a4_0
noncomputable def LB_9a4_0 : Lps := L0
noncomputable def st_9a4_0 : StepT S_9a4_0 E_9a4_0 := fun R v kn ko =>
 let x0 : Int := v.1.2.2.1
 let x1 : List Int := v.1.1
 let x2 : Nat := (Int.toNat x0)
 let x3 : List Int := v.2.1.2.2.2.1
 let x4 : List Int := v.2.2.1.2.2.2.1
 bif (decide (x0 < v.1.2.1)) then
 bif (decide (((0:Int) ≤ x0) ∧ (x0 < (((List.length x1) : Nat) : Int)))) then
 ((F_97d x0 (List.getD x1 x2 (0:Int)) (v.2.1.1, (v.2.1.2.1, (v.2.1.2.2.1, ((List.take (List.length x3) x3), ())))) (v.2.2.1.1, (v.2.2.1.2.1, (v.2.2.1.2.2.1, ((List.take (List.length x4) x4), ())))))).bind fun r5 =>
 let x6 : List Int := r5.2.1.2.2.2.1
 let x7 : List Int := r5.2.2.1.2.2.2.1
 bif (decide (((0:Int) ≤ x0) ∧ (x0 < ((v.2.2.2.2.1.2.2.2.1 : Nat) : Int)))) then
 bif (decide (((0:Nat) + (x2 * (1:Nat))) < (List.length v.2.2.2.2.2.1))) then
 (kn (((List.take (List.length x1) x1), (v.1.2.1, ((IntKind.wrap .i64 (x0 + (1:Int))), ()))), ((r5.2.1.1, (r5.2.1.2.1, (r5.2.1.2.2.1, ((List.take (List.length x6) x6), ())))), ((r5.2.2.1.1, (r5.2.2.1.2.1, (r5.2.2.1.2.2.1, ((List.take (List.length x7) x7), ())))), (v.2.2.2.1, (v.2.2.2.2.1, ((List.set v.2.2.2.2.2.1 ((0:Nat) + (x2 * (1:Nat))) r5.1), ())))))))
 else
 none
 else
 none
 else
 none
 else
 (ko ((), ((v.2.1.1, (v.2.1.2.1, (v.2.1.2.2.1, ((List.take (List.length x3) x3), ())))), ((v.2.2.1.1, (v.2.2.1.2.1, (v.2.2.1.2.2.1, ((List.take (List.length x4) x4), ())))), v.2.2.2))))
noncomputable def ls_9a4_0 : St → LTr := (lsum ff_9a4_0 hf_9a4_0 X_9a4_0 Prod.mk id st_9a4_0 (hd [] [] [2, 6, 7, 21, 22, 23] 2))
theorem lp_9a4_0 : LoopOk PR 2 (lpN f_95a 0) ls_9a4_0 := loopT okO_9a4 mixed (L := LB_9a4_0) (d := 1) (bs := []) (ks := [2, 6, 7, 21, 22, 23]) (loopsL (l := []) (by kernel_rfl) trivial) (by kernel_rfl) (inS := Prod.mk) (outS := id) (fun _ _ => rfl) (inX := id) (outX := id) (fun _ => rfl) (fun v R kn ko => by kernel_rfl) (hd_wk [] [] [2, 6, 7, 21, 22, 23] 2)
noncomputable def L_9a4 : Lps := (lpB 4 (.by_ ls_9a4_0) L0)
def inn_9a4 : T fr_9a4 → TH hr_9a4 → (Int × Int × Int × List Int × Unit) × ((Int × Int × Int × List Int × Unit) × (Int × Int × Int × List Int × Unit) × Unit) := Prod.mk
def out_9a4 : (Int × Int × Int × List Int × Unit) × ((Int × Int × Int × List Int × Unit) × (Int × Int × Int × List Int × Unit) × Unit) → T fr_9a4 × TH hr_9a4 := id
noncomputable def F_9a4 (a0 : Int × Int × Int × List Int × Unit) (a1 : Int) (a2 : Int × Int × Int × List Int × Unit) (a3 : Int × Int × Int × List Int × Unit) : Option ((Int × Int × Int × List Int × Unit) × ((Int × Int × Int × List Int × Unit) × (Int × Int × Int × List Int × Unit) × Unit)) :=
 let x0 : List Int := a0.2.2.2.1
 let x1 : Nat := (List.length x0)
 let x2 : Int := ((x1 : Nat) : Int)
 let x3 : Int := a2.2.2.1
 let x4 : List Int := a2.2.2.2.1
 let x5 : Int := a3.2.2.1
 let x6 : List Int := a3.2.2.2.1
 let x7 : Nat := (Int.toNat x2)
 bif (decide (((0:Int) ≤ x2) ∧ (x2 ≤ (1073741824:Int)))) then
 ((lim st_9a4_0 (((List.take x1 x0), (x2, ((0:Int), ()))), ((a2.1, (a2.2.1, (x3, ((List.take (List.length x4) x4), ())))), ((a3.1, (a3.2.1, (x5, ((List.take (List.length x6) x6), ())))), (((0:Int), ((0:Int), ((0:Int), ()))), ((a0.1, (a0.2.1, (a1, (x7, ())))), ((List.replicate x7 (0:Int)), ())))))))).bind fun r8 =>
 let x9 : List Int := r8.2.1.2.2.2.1
 let x10 : List Int := r8.2.2.1.2.2.2.1
 (some ((r8.2.2.2.2.1.1, (r8.2.2.2.2.1.2.1, (r8.2.2.2.2.1.2.2.1, ((List.take r8.2.2.2.2.1.2.2.2.1 (List.drop (0:Nat) r8.2.2.2.2.2.1)), ())))), ((r8.2.1.1, (r8.2.1.2.1, (r8.2.1.2.2.1, ((List.take (List.length x9) x9), ())))), ((r8.2.2.1.1, (r8.2.2.1.2.1, (r8.2.2.1.2.2.1, ((List.take (List.length x10) x10), ())))), ()))))
 else
 none
noncomputable def G_9a4 : T fa_9a4 → TH ha_9a4 → Option ((Int × Int × Int × List Int × Unit) × ((Int × Int × Int × List Int × Unit) × (Int × Int × Int × List Int × Unit) × Unit)) := fun x y => F_9a4 x.1 x.2.1 y.1 y.2.1
noncomputable def c_9a4 : Orc := ent i_95a [false, false, true] 0 (sp fa_9a4 ha_9a4 fr_9a4 hr_9a4 G_9a4 out_9a4)
theorem ok_9a4 : OrcOk PR c_9a4 := fnT okO_9a4 mixed p_95a (by kernel_rfl) (by kernel_rfl) (L := L_9a4) (kp := false) (by kernel_rfl) (inn := inn_9a4) (out := out_9a4) (fun _ _ => rfl) (loopsL (l := [((lpN f_95a 0), ls_9a4_0)]) (by kernel_rfl) ⟨lp_9a4_0, trivial⟩) (fun x y => by kernel_rfl)
noncomputable def O_949 : Orc := (orm c_97c (orm c_9a4 c_97d))
theorem okO_949 : OrcOk PR O_949 := (orm_ok ok_97c (orm_ok ok_9a4 ok_97d))
abbrev fa_949 : Fm := (.pair (.agg (.pair (.i .i64) (.pair (.i .i64) (.pair (.i .i64) (.pair (.si .u32) .unit))))) (.pair (.agg (.pair (.i .i64) (.pair (.i .i64) (.pair (.i .i64) (.pair (.si .u32) .unit))))) .unit))
abbrev fr_949 : Fm := (.tup (.pair (.agg (.pair (.i .i64) (.pair (.i .i64) (.pair (.i .i64) (.pair (.si .u32) .unit))))) (.pair (.i .i64) .unit)))
noncomputable def F_949 (a0 : Int × Int × Int × List Int × Unit) (a1 : Int × Int × Int × List Int × Unit) : Option ((Int × Int × Int × List Int × Unit) × Int × Unit) :=
 let x0 : Int := a0.2.2.1
 let x1 : List Int := a0.2.2.2.1
 let x2 : Int := a1.2.2.1
 let x3 : List Int := a1.2.2.2.1
 ((F_97c (a0.1, (a0.2.1, (x0, ((List.take (List.length x1) x1), ())))) (a1.1, (a1.2.1, (x2, ((List.take (List.length x3) x3), ())))))).bind fun r4 =>
 let x5 : Bool := r4.2.2.1
 let x6 : Int := r4.2.1.1
 let x7 : Int := r4.1.2.1
 let x8 : Int := r4.2.1.2.1
 let x9 : Int := r4.1.2.2.1
 let x10 : List Int := r4.1.2.2.2.1
 let x11 : Int := r4.2.1.2.2.1
 let x12 : List Int := r4.2.1.2.2.2.1
 bif (!x5) then
 (some (((0:Int), ((0:Int), ((0:Int), ([], ())))), ((21:Int), ())))
 else
 bif (x6 != (1:Int)) then
 (some (((0:Int), ((0:Int), ((0:Int), ([], ())))), ((21:Int), ())))
 else
 bif (x7 != x8) then
 (some (((0:Int), ((0:Int), ((0:Int), ([], ())))), ((21:Int), ())))
 else
 ((F_9a4 (r4.1.1, (x7, (x9, ((List.take (List.length x10) x10), ())))) (2:Int) (x6, (x8, (x11, ((List.take (List.length x12) x12), ())))) (r4.1.1, (x7, (x9, ((List.take (List.length x10) x10), ())))))).bind fun r13 =>
 let x14 : List Int := r13.1.2.2.2.1
 (some ((r13.1.1, (r13.1.2.1, (r13.1.2.2.1, ((List.take (List.length x14) x14), ())))), ((0:Int), ())))
noncomputable def G_949 : T fa_949 → TH hN0 → Option ((Int × Int × Int × List Int × Unit) × Int × Unit) := fun x y => F_949 x.1 x.2.1
noncomputable def c_949 : Orc := ent i_949 [] 0 (sp fa_949 hN0 fr_949 hN0 G_949 (outN fr_949))
theorem ok_949 : OrcOk PR c_949 := fnT okO_949 mixed p_949 (by kernel_rfl) (by kernel_rfl) (L := L0) (kp := false) (by kernel_rfl) (inn := (innN fr_949)) (out := (outN fr_949)) (fun _ _ => rfl) (loopsL (l := []) (by kernel_rfl) trivial) (fun x y => by kernel_rfl)
noncomputable def O_910 : Orc := (orm c_9c c_91e)
theorem okO_910 : OrcOk PR O_910 := (orm_ok ok_9c ok_91e)
abbrev fa_910 : Fm := (.pair (.i .i64) (.pair (.i .i64) (.pair (.i .i64) (.pair (.si .u32) (.pair .b .unit)))))
abbrev fr_910 : Fm := (.agg (.pair (.i .i64) (.pair (.i .i64) (.pair (.i .i64) (.pair (.si .u32) .unit)))))
abbrev ff_910_0 : Fm := (.pair (.i .i64) (.pair (.i .i64) (.pair (.i .i64) (.pair (.si .u32) (.pair .b (.us 5 (.cst (.ref 0 1 0) (.cst (.ref 1 1 0) (.pair (.i .i64) (.us 50 .unit))))))))))
abbrev hf_910_0 : List BF := [(.list 1 y_92 true (.pair (.i .i64) (.pair (.i .i64) (.pair (.i .i64) (.cst .nils .unit))))), (.list 1 y_92 true (.pair (.i .i64) (.pair (.i .i64) (.pair (.i .i64) (.pair (.own 2 1 0 1) .unit))))), (.ints 1 y_91 true .u32)]
abbrev X_910_0 : Xs := (.one (.exit 0) [10, 11] (.us 10 (.cst (.ref 0 1 0) (.cst (.ref 1 1 0) (.us 51 .unit)))) [(.list 1 y_92 true (.pair (.i .i64) (.pair (.i .i64) (.pair (.i .i64) (.cst .nils .unit))))), (.list 1 y_92 true (.pair (.i .i64) (.pair (.i .i64) (.pair (.i .i64) (.pair (.own 2 1 0 1) .unit))))), (.ints 1 y_91 true .u32)])
abbrev S_910_0 : Type := T ff_910_0 × TH hf_910_0
abbrev E_910_0 : Type := TX X_910_0
noncomputable def LB_910_0 : Lps := L0
noncomputable def st_910_0 : StepT S_910_0 E_910_0 := fun R v kn ko =>
 let x0 : List Int := v.1.2.2.2.1
 let x1 : Nat := (List.length x0)
 let x2 : Int := ((x1 : Nat) : Int)
 let x3 : Bool := (x2 == (0:Int))
 let x4 : Bool := v.1.2.2.2.2.1
 let x5 : Int := v.1.2.2.1
 let x6 : Int := v.1.2.2.2.2.2.1
 let x7 : Int := (IntKind.wrap .u32 ((List.getD x0 (Int.toNat (Int.tmod x6 x2)) (0:Int)) + (IntKind.wrap .u32 ((IntKind.wrap .u32 (IntKind.wrap .i64 (Int.tdiv x6 x2))) * (40503:Int)))))
 let x8 : Nat := v.2.2.1.2.2.2.1
 let x9 : List Int := (List.take x8 v.2.2.2.1)
 let x10 : Int := (IntKind.wrap .u32 ((IntKind.wrap .u32 x6) * (2654435761:Int)))
 bif (decide (x6 < (IntKind.wrap .i64 (v.1.1 * v.1.2.1)))) then
 bif (decide (x2 > (0:Int))) then
 bif x3 then
 none
 else
 bif (decide (((0:Int) ≤ (Int.tmod x6 x2)) ∧ ((Int.tmod x6 x2) < x2))) then
 bif x3 then
 none
 else
 bif x4 then
 ((F_9c x5 x7)).bind fun r11 =>
 bif (decide ((x8 + (1:Nat)) ≤ (1073741824:Nat))) then
 (kn ((v.1.1, (v.1.2.1, (x5, ((List.take x1 x0), (x4, ((IntKind.wrap .i64 (x6 + (1:Int))), ())))))), (v.2.1, ((v.2.2.1.1, (v.2.2.1.2.1, (v.2.2.1.2.2.1, ((x8 + (1:Nat)), ())))), ((x9 ++ [r11]), ())))))
 else
 none
 else
 ((F_91e x5 x7)).bind fun r12 =>
 bif (decide ((x8 + (1:Nat)) ≤ (1073741824:Nat))) then
 (kn ((v.1.1, (v.1.2.1, (x5, ((List.take x1 x0), (x4, ((IntKind.wrap .i64 (x6 + (1:Int))), ())))))), (v.2.1, ((v.2.2.1.1, (v.2.2.1.2.1, (v.2.2.1.2.2.1, ((x8 + (1:Nat)), ())))), ((x9 ++ [r12]), ())))))
 else
 none
 else
 none
 else
 bif x4 then
 ((F_9c x5 x10)).bind fun r13 =>
 bif (decide ((x8 + (1:Nat)) ≤ (1073741824:Nat))) then
 (kn ((v.1.1, (v.1.2.1, (x5, ((List.take x1 x0), (x4, ((IntKind.wrap .i64 (x6 + (1:Int))), ())))))), (v.2.1, ((v.2.2.1.1, (v.2.2.1.2.1, (v.2.2.1.2.2.1, ((x8 + (1:Nat)), ())))), ((x9 ++ [r13]), ())))))
 else
 none
 else
 ((F_91e x5 x10)).bind fun r14 =>
 bif (decide ((x8 + (1:Nat)) ≤ (1073741824:Nat))) then
 (kn ((v.1.1, (v.1.2.1, (x5, ((List.take x1 x0), (x4, ((IntKind.wrap .i64 (x6 + (1:Int))), ())))))), (v.2.1, ((v.2.2.1.1, (v.2.2.1.2.1, (v.2.2.1.2.2.1, ((x8 + (1:Nat)), ())))), ((x9 ++ [r14]), ())))))
 else
 none
 else
 (ko ((), v.2))
noncomputable def ls_910_0 : St → LTr := (lsum ff_910_0 hf_910_0 X_910_0 Prod.mk id st_910_0 (hd [(.via 11 3, y_91, 0, .ints .u32)] [] [0, 1, 2, 3, 4, 10, 11, 12] 0))
theorem lp_910_0 : LoopOk PR 0 (lpN f_910 0) ls_910_0 := loopT okO_910 mixed (L := LB_910_0) (d := 1) (bs := []) (ks := [0, 1, 2, 3, 4, 10, 11, 12]) (loopsL (l := []) (by kernel_rfl) trivial) (by kernel_rfl) (inS := Prod.mk) (outS := id) (fun _ _ => rfl) (inX := id) (outX := id) (fun _ => rfl) (fun v R kn ko => by kernel_rfl) (hd_wk [(.via 11 3, y_91, 0, .ints .u32)] [] [0, 1, 2, 3, 4, 10, 11, 12] 0)
noncomputable def L_910 : Lps := (lpB 4 (.by_ ls_910_0) L0)
noncomputable def F_910 (a0 : Int) (a1 : Int) (a2 : Int) (a3 : List Int) (a4 : Bool) : Option (Int × Int × Int × List Int × Unit) :=
 ((lim st_910_0 ((a0, (a1, (a2, ((List.take (List.length a3) a3), (a4, ((0:Int), ())))))), (((0:Int), ((0:Int), ((0:Int), ()))), ((a0, (a1, (a2, ((0:Nat), ())))), ([], ())))))).bind fun r0 =>
 (some (r0.2.2.1.1, (r0.2.2.1.2.1, (r0.2.2.1.2.2.1, ((List.take r0.2.2.1.2.2.2.1 (List.drop (0:Nat) r0.2.2.2.1)), ())))))
noncomputable def G_910 : T fa_910 → TH hN0 → Option (Int × Int × Int × List Int × Unit) := fun x y => F_910 x.1 x.2.1 x.2.2.1 x.2.2.2.1 x.2.2.2.2.1
noncomputable def c_910 : Orc := ent i_910 [] 0 (sp fa_910 hN0 fr_910 hN0 G_910 (outN fr_910))
theorem ok_910 : OrcOk PR c_910 := fnT okO_910 mixed p_910 (by kernel_rfl) (by kernel_rfl) (L := L_910) (kp := false) (by kernel_rfl) (inn := (innN fr_910)) (out := (outN fr_910)) (fun _ _ => rfl) (loopsL (l := [((lpN f_910 0), ls_910_0)]) (by kernel_rfl) ⟨lp_910_0, trivial⟩) (fun x y => by kernel_rfl)
end Go.Proofs.YtkmkhcmfpbffjaaGreat.VI
