import Derived.Test.YtkmkhcmfpbffjaaGreatT68b3476d
namespace Go.Proofs.YtkmkhcmfpbffjaaGreat.VI
set_option linter.unusedVariables false
set_option linter.unusedSimpArgs false
set_option maxRecDepth 100000
noncomputable def O_983 : Orc := (orm c_957 (orm c_985 c_984))
theorem okO_983 : OrcOk PR O_983 := (orm_ok ok_957 (orm_ok ok_985 ok_984))
abbrev fa_983 : Fm := (.pair (.i .i64) (.pair (.i .u32) (.cst (.ref 0 1 0) (.cst (.ref 1 1 0) .unit))))
abbrev ha_983 : List BF := [(.list 1 y_92 true (.pair (.i .i64) (.pair (.i .i64) (.pair (.i .i64) (.pair (.si .u32) .unit))))), (.ints 1 y_90 true .i64)]
abbrev fr_983 : Fm := (.i .u32)
abbrev hr_983 : List BF := [(.list 1 y_92 true (.pair (.i .i64) (.pair (.i .i64) (.pair (.i .i64) (.pair (.si .u32) .unit))))), (.ints 1 y_90 true .i64)]
def inn_983 : T fr_983 → TH hr_983 → (Int) × ((Int × Int × Int × List Int × Unit) × List Int × Unit) := Prod.mk
def out_983 : (Int) × ((Int × Int × Int × List Int × Unit) × List Int × Unit) → T fr_983 × TH hr_983 := id
noncomputable def F_983 (a0 : Int) (a1 : Int) (a2 : Int × Int × Int × List Int × Unit) (a3 : List Int) : Option ((Int) × ((Int × Int × Int × List Int × Unit) × List Int × Unit)) :=
 let x0 : Int := a2.2.2.1
 let x1 : List Int := a2.2.2.2.1
 bif (decide ((0:Nat) < (List.length a3))) then
 ((F_957 x0 a1)).bind fun r2 =>
 ((F_985 (List.getD a3 (0:Nat) (0:Int)) r2)).bind fun r3 =>
 ((F_984 x0 r3)).bind fun r4 =>
 (some (r4, ((a2.1, (a2.2.1, (x0, ((List.take (List.length x1) x1), ())))), (a3, ()))))
 else
 none
noncomputable def G_983 : T fa_983 → TH ha_983 → Option ((Int) × ((Int × Int × Int × List Int × Unit) × List Int × Unit)) := fun x y => F_983 x.1 x.2.1 y.1 y.2.1
noncomputable def c_983 : Orc := ent i_983 [false, false, true, true] 0 (sp fa_983 ha_983 fr_983 hr_983 G_983 out_983)
theorem ok_983 : OrcOk PR c_983 := fnT okO_983 mixed p_983 (by kernel_rfl) (by kernel_rfl) (L := L0) (kp := false) (by kernel_rfl) (inn := inn_983) (out := out_983) (fun _ _ => rfl) (loopsL (l := []) (by kernel_rfl) trivial) (fun x y => by kernel_rfl)
noncomputable def O_9a6 : Orc := c_983
theorem okO_9a6 : OrcOk PR O_9a6 := ok_983
abbrev fa_9a6 : Fm := (.pair (.agg (.pair (.i .i64) (.pair (.i .i64) (.pair (.i .i64) (.pair (.si .u32) .unit))))) (.pair (.i .i64) (.pair (.fn i_983 (.pair (.ref 0 1 0) (.pair (.ref 1 1 0) .unit))) .unit)))
abbrev ha_9a6 : List BF := [(.list 1 y_92 true (.pair (.i .i64) (.pair (.i .i64) (.pair (.i .i64) (.pair (.si .u32) .unit))))), (.ints 1 y_90 true .i64)]
abbrev fr_9a6 : Fm := (.agg (.pair (.i .i64) (.pair (.i .i64) (.pair (.i .i64) (.pair (.si .u32) .unit)))))
abbrev hr_9a6 : List BF := [(.list 1 y_92 true (.pair (.i .i64) (.pair (.i .i64) (.pair (.i .i64) (.pair (.si .u32) .unit))))), (.ints 1 y_90 true .i64)]
abbrev ff_9a6_0 : Fm := (.us 2 (.cst (.fn i_983 (.cst (.ref 0 1 0) (.cst (.ref 1 1 0) .unit))) (.us 3 (.cst (.ref 2 1 0) (.cst (.ref 3 1 0) (.us 13 (.pair (.si .u32) (.pair (.i .i64) (.pair (.i .i64) (.us 14 .unit))))))))))
abbrev hf_9a6_0 : List BF := [(.list 1 y_92 true (.pair (.i .i64) (.pair (.i .i64) (.pair (.i .i64) (.pair (.si .u32) .unit))))), (.ints 1 y_90 true .i64), (.list 1 y_92 true (.pair (.i .i64) (.pair (.i .i64) (.pair (.i .i64) (.cst .nils .unit))))), (.list 1 y_92 true (.pair (.i .i64) (.pair (.i .i64) (.pair (.i .i64) (.pair (.own 4 1 0 1) .unit))))), (.ints 1 y_91 true .u32)]
abbrev X_9a6_0 : Xs := (.one (.exit 0) [6, 7] (.us 6 (.cst (.ref 2 1 0) (.cst (.ref 3 1 0) (.us 30 .unit)))) [(.list 1 y_92 true (.pair (.i .i64) (.pair (.i .i64) (.pair (.i .i64) (.pair (.si .u32) .unit))))), (.ints 1 y_90 true .i64), (.list 1 y_92 true (.pair (.i .i64) (.pair (.i .i64) (.pair (.i .i64) (.cst .nils .unit))))), (.list 1 y_92 true (.pair (.i .i64) (.pair (.i .i64) (.pair (.i .i64) (.pair (.own 4 1 0 1) .unit))))), (.ints 1 y_91 true .u32)])
abbrev S_9a6_0 : Type := T ff_9a6_0 × TH hf_9a6_0
abbrev E_9a6_0 : Type := TX X_9a6_0
noncomputable def LB_9a6_0 : Lps := L0
noncomputable def st_9a6_0 : StepT S_9a6_0 E_9a6_0 := fun R v kn ko =>
 let x0 : Int := v.1.2.2.1
 let x1 : List Int := v.1.1
 let x2 : Nat := (Int.toNat x0)
 let x3 : List Int := v.2.1.2.2.2.1
 bif (decide (x0 < v.1.2.1)) then
 bif (decide (((0:Int) ≤ x0) ∧ (x0 < (((List.length x1) : Nat) : Int)))) then
 ((F_983 x0 (List.getD x1 x2 (0:Int)) (v.2.1.1, (v.2.1.2.1, (v.2.1.2.2.1, ((List.take (List.length x3) x3), ())))) v.2.2.1)).bind fun r4 =>
 let x5 : List Int := r4.2.1.2.2.2.1
 bif (decide (((0:Int) ≤ x0) ∧ (x0 < ((v.2.2.2.2.1.2.2.2.1 : Nat) : Int)))) then
 bif (decide (((0:Nat) + (x2 * (1:Nat))) < (List.length v.2.2.2.2.2.1))) then
 (kn (((List.take (List.length x1) x1), (v.1.2.1, ((IntKind.wrap .i64 (x0 + (1:Int))), ()))), ((r4.2.1.1, (r4.2.1.2.1, (r4.2.1.2.2.1, ((List.take (List.length x5) x5), ())))), (r4.2.2.1, (v.2.2.2.1, (v.2.2.2.2.1, ((List.set v.2.2.2.2.2.1 ((0:Nat) + (x2 * (1:Nat))) r4.1), ())))))))
 else
 none
 else
 none
 else
 none
 else
 (ko ((), ((v.2.1.1, (v.2.1.2.1, (v.2.1.2.2.1, ((List.take (List.length x3) x3), ())))), v.2.2)))
noncomputable def ls_9a6_0 : St → LTr := (lsum ff_9a6_0 hf_9a6_0 X_9a6_0 Prod.mk id st_9a6_0 (hd [] [] [2, 6, 7, 21, 22, 23] 2))
theorem lp_9a6_0 : LoopOk PR 2 (lpN f_95e 0) ls_9a6_0 := loopT okO_9a6 mixed (L := LB_9a6_0) (d := 1) (bs := []) (ks := [2, 6, 7, 21, 22, 23]) (loopsL (l := []) (by kernel_rfl) trivial) (by kernel_rfl) (inS := Prod.mk) (outS := id) (fun _ _ => rfl) (inX := id) (outX := id) (fun _ => rfl) (fun v R kn ko => by kernel_rfl) (hd_wk [] [] [2, 6, 7, 21, 22, 23] 2)
noncomputable def L_9a6 : Lps := (lpB 4 (.by_ ls_9a6_0) L0)
def inn_9a6 : T fr_9a6 → TH hr_9a6 → (Int × Int × Int × List Int × Unit) × ((Int × Int × Int × List Int × Unit) × List Int × Unit) := Prod.mk
def out_9a6 : (Int × Int × Int × List Int × Unit) × ((Int × Int × Int × List Int × Unit) × List Int × Unit) → T fr_9a6 × TH hr_9a6 := id
noncomputable def F_9a6 (a0 : Int × Int × Int × List Int × Unit) (a1 : Int) (a2 : Int × Int × Int × List Int × Unit) (a3 : List Int) : Option ((Int × Int × Int × List Int × Unit) × ((Int × Int × Int × List Int × Unit) × List Int × Unit)) :=
 let x0 : List Int := a0.2.2.2.1
 let x1 : Nat := (List.length x0)
 let x2 : Int := ((x1 : Nat) : Int)
 let x3 : Int := a2.2.2.1
 let x4 : List Int := a2.2.2.2.1
 let x5 : Nat := (Int.toNat x2)
 bif (decide (((0:Int) ≤ x2) ∧ (x2 ≤ (1073741824:Int)))) then
 ((lim st_9a6_0 (((List.take x1 x0), (x2, ((0:Int), ()))), ((a2.1, (a2.2.1, (x3, ((List.take (List.length x4) x4), ())))), (a3, (((0:Int), ((0:Int), ((0:Int), ()))), ((a0.1, (a0.2.1, (a1, (x5, ())))), ((List.replicate x5 (0:Int)), ())))))))).bind fun r6 =>
 let x7 : List Int := r6.2.1.2.2.2.1
 (some ((r6.2.2.2.2.1.1, (r6.2.2.2.2.1.2.1, (r6.2.2.2.2.1.2.2.1, ((List.take r6.2.2.2.2.1.2.2.2.1 (List.drop (0:Nat) r6.2.2.2.2.2.1)), ())))), ((r6.2.1.1, (r6.2.1.2.1, (r6.2.1.2.2.1, ((List.take (List.length x7) x7), ())))), (r6.2.2.1, ()))))
 else
 none
noncomputable def G_9a6 : T fa_9a6 → TH ha_9a6 → Option ((Int × Int × Int × List Int × Unit) × ((Int × Int × Int × List Int × Unit) × List Int × Unit)) := fun x y => F_9a6 x.1 x.2.1 y.1 y.2.1
noncomputable def c_9a6 : Orc := ent i_95e [false, false, true] 0 (sp fa_9a6 ha_9a6 fr_9a6 hr_9a6 G_9a6 out_9a6)
theorem ok_9a6 : OrcOk PR c_9a6 := fnT okO_9a6 mixed p_95e (by kernel_rfl) (by kernel_rfl) (L := L_9a6) (kp := false) (by kernel_rfl) (inn := inn_9a6) (out := out_9a6) (fun _ _ => rfl) (loopsL (l := [((lpN f_95e 0), ls_9a6_0)]) (by kernel_rfl) ⟨lp_9a6_0, trivial⟩) (fun x y => by kernel_rfl)
noncomputable def O_951 : Orc := (orm c_94d (orm c_982 (orm c_9a6 c_983)))
theorem okO_951 : OrcOk PR O_951 := (orm_ok ok_94d (orm_ok ok_982 (orm_ok ok_9a6 ok_983)))
abbrev fa_951 : Fm := (.pair (.i .i64) (.pair (.agg (.pair (.i .i64) (.pair (.i .i64) (.pair (.i .i64) (.pair (.si .u32) .unit))))) .unit))
abbrev fr_951 : Fm := (.tup (.pair (.agg (.pair (.i .i64) (.pair (.i .i64) (.pair (.i .i64) (.pair (.si .u32) .unit))))) (.pair (.i .i64) .unit)))
noncomputable def F_951 (a0 : Int) (a1 : Int × Int × Int × List Int × Unit) : Option ((Int × Int × Int × List Int × Unit) × Int × Unit) :=
 let x0 : Int := a1.2.2.1
 let x1 : List Int := a1.2.2.2.1
 ((F_94d (a1.1, (a1.2.1, (x0, ((List.take (List.length x1) x1), ())))))).bind fun r2 =>
 bif (!r2) then
 (some (((0:Int), ((0:Int), ((0:Int), ([], ())))), ((21:Int), ())))
 else
 ((F_982 (List.getD [a0] (0:Nat) (0:Int)))).bind fun r3 =>
 bif (!r3) then
 (some (((0:Int), ((0:Int), ((0:Int), ([], ())))), ((22:Int), ())))
 else
 ((F_9a6 (a1.1, (a1.2.1, (x0, ((List.take (List.length x1) x1), ())))) x0 (a1.1, (a1.2.1, (x0, ((List.take (List.length x1) x1), ())))) [a0])).bind fun r4 =>
 let x5 : List Int := r4.1.2.2.2.1
 (some ((r4.1.1, (r4.1.2.1, (r4.1.2.2.1, ((List.take (List.length x5) x5), ())))), ((0:Int), ())))
noncomputable def G_951 : T fa_951 → TH hN0 → Option ((Int × Int × Int × List Int × Unit) × Int × Unit) := fun x y => F_951 x.1 x.2.1
noncomputable def c_951 : Orc := ent i_951 [] 0 (sp fa_951 hN0 fr_951 hN0 G_951 (outN fr_951))
theorem ok_951 : OrcOk PR c_951 := fnT okO_951 mixed p_951 (by kernel_rfl) (by kernel_rfl) (L := L0) (kp := false) (by kernel_rfl) (inn := (innN fr_951)) (out := (outN fr_951)) (fun _ _ => rfl) (loopsL (l := []) (by kernel_rfl) trivial) (fun x y => by kernel_rfl)
noncomputable def O_9a0 : Orc := c_94d
theorem okO_9a0 : OrcOk PR O_9a0 := ok_94d
abbrev fa_9a0 : Fm := (.pair (.agg (.pair (.i .i64) (.pair (.i .i64) (.pair (.i .i64) (.pair (.si .u32) .unit))))) .unit)
abbrev fr_9a0 : Fm := (.tup (.pair (.agg (.pair (.i .i64) (.pair (.i .i64) (.pair (.i .i64) (.pair (.si .u32) .unit))))) (.pair (.i .i64) .unit)))
abbrev ff_9a0_0 : Fm := (.us 1 (.cst (.ref 0 1 0) (.cst (.ref 1 1 0) (.us 1 (.cst (.ref 2 1 0) (.us 18 (.pair (.si .u32) (.pair (.i .i64) (.pair (.i .i64) (.us 22 .unit))))))))))
abbrev hf_9a0_0 : List BF := [(.list 1 y_92 true (.pair (.i .i64) (.pair (.i .i64) (.pair (.i .i64) (.pair (.si .u32) .unit))))), (.list 1 y_92 true (.pair (.i .i64) (.pair (.i .i64) (.pair (.i .i64) (.cst .nils .unit))))), (.list 1 y_92 true (.pair (.i .i64) (.pair (.i .i64) (.pair (.i .i64) (.pair (.own 3 1 0 1) .unit))))), (.ints 1 y_91 true .u32)]
abbrev X_9a0_0 : Xs := (.one (.exit 0) [2, 4] (.us 2 (.cst (.ref 0 1 0) (.us 1 (.cst (.ref 1 1 0) (.us 43 .unit))))) [(.list 1 y_92 true (.pair (.i .i64) (.pair (.i .i64) (.pair (.i .i64) (.cst .nils .unit))))), (.list 1 y_92 true (.pair (.i .i64) (.pair (.i .i64) (.pair (.i .i64) (.pair (.own 2 1 0 1) .unit))))), (.ints 1 y_91 true .u32)])
abbrev S_9a0_0 : Type := T ff_9a0_0 × TH hf_9a0_0
abbrev E_9a0_0 : Type := TX X_9a0_0
noncomputable def LB_9a0_0 : Lps := L0
noncomputable def st_9a0_0 : StepT S_9a0_0 E_9a0_0 := fun R v kn ko =>
 let x0 : Int := v.2.1.2.1
 let x1 : Bool := (x0 == (0:Int))
 let x2 : List Int := v.1.1
 let x3 : Int := v.1.2.2.1
 let x4 : Int := v.2.1.1
 let x5 : List Int := v.2.1.2.2.2.1
 bif (decide (x3 < v.1.2.1)) then
 bif (decide (((0:Int) ≤ x3) ∧ (x3 < (((List.length x2) : Nat) : Int)))) then
 bif x1 then
 none
 else
 bif x1 then
 none
 else
 bif (decide (((0:Int) ≤ (IntKind.wrap .i64 ((IntKind.wrap .i64 ((Int.tmod x3 x0) * x4)) + (IntKind.wrap .i64 (Int.tdiv x3 x0))))) ∧ ((IntKind.wrap .i64 ((IntKind.wrap .i64 ((Int.tmod x3 x0) * x4)) + (IntKind.wrap .i64 (Int.tdiv x3 x0)))) < ((v.2.2.2.1.2.2.2.1 : Nat) : Int)))) then
 bif (decide (((0:Nat) + ((Int.toNat (IntKind.wrap .i64 ((IntKind.wrap .i64 ((Int.tmod x3 x0) * x4)) + (IntKind.wrap .i64 (Int.tdiv x3 x0))))) * (1:Nat))) < (List.length v.2.2.2.2.1))) then
 (kn (((List.take (List.length x2) x2), (v.1.2.1, ((IntKind.wrap .i64 (x3 + (1:Int))), ()))), ((x4, (x0, (v.2.1.2.2.1, ((List.take (List.length x5) x5), ())))), (v.2.2.1, (v.2.2.2.1, ((List.set v.2.2.2.2.1 ((0:Nat) + ((Int.toNat (IntKind.wrap .i64 ((IntKind.wrap .i64 ((Int.tmod x3 x0) * x4)) + (IntKind.wrap .i64 (Int.tdiv x3 x0))))) * (1:Nat))) (List.getD x2 (Int.toNat x3) (0:Int))), ()))))))
 else
 none
 else
 none
 else
 none
 else
 (ko ((), v.2.2))
noncomputable def ls_9a0_0 : St → LTr := (lsum ff_9a0_0 hf_9a0_0 X_9a0_0 Prod.mk id st_9a0_0 (hd [] [] [1, 2, 4, 23, 24, 25] 0))
theorem lp_9a0_0 : LoopOk PR 0 (lpN f_9a0 0) ls_9a0_0 := loopT okO_9a0 mixed (L := LB_9a0_0) (d := 1) (bs := []) (ks := [1, 2, 4, 23, 24, 25]) (loopsL (l := []) (by kernel_rfl) trivial) (by kernel_rfl) (inS := Prod.mk) (outS := id) (fun _ _ => rfl) (inX := id) (outX := id) (fun _ => rfl) (fun v R kn ko => by kernel_rfl) (hd_wk [] [] [1, 2, 4, 23, 24, 25] 0)
noncomputable def L_9a0 : Lps := (lpB 6 (.by_ ls_9a0_0) L0)
noncomputable def F_9a0 (a0 : Int × Int × Int × List Int × Unit) : Option ((Int × Int × Int × List Int × Unit) × Int × Unit) :=
 let x0 : Int := a0.2.2.1
 let x1 : List Int := a0.2.2.2.1
 let x2 : Nat := (List.length x1)
 let x3 : List Int := (List.take x2 x1)
 let x4 : Int := ((x2 : Nat) : Int)
 let x5 : Nat := (Int.toNat x4)
 ((F_94d (a0.1, (a0.2.1, (x0, (x3, ())))))).bind fun r6 =>
 bif (!r6) then
 (some (((0:Int), ((0:Int), ((0:Int), ([], ())))), ((21:Int), ())))
 else
 bif (decide (((0:Int) ≤ x4) ∧ (x4 ≤ (1073741824:Int)))) then
 ((lim st_9a0_0 ((x3, (x4, ((0:Int), ()))), ((a0.1, (a0.2.1, (x0, (x3, ())))), (((0:Int), ((0:Int), ((0:Int), ()))), ((a0.2.1, (a0.1, (x0, (x5, ())))), ((List.replicate x5 (0:Int)), ()))))))).bind fun r7 =>
 (some ((r7.2.2.1.1, (r7.2.2.1.2.1, (r7.2.2.1.2.2.1, ((List.take r7.2.2.1.2.2.2.1 (List.drop (0:Nat) r7.2.2.2.1)), ())))), ((0:Int), ())))
 else
 none
noncomputable def G_9a0 : T fa_9a0 → TH hN0 → Option ((Int × Int × Int × List Int × Unit) × Int × Unit) := fun x y => F_9a0 x.1
noncomputable def c_9a0 : Orc := ent i_9a0 [] 0 (sp fa_9a0 hN0 fr_9a0 hN0 G_9a0 (outN fr_9a0))
theorem ok_9a0 : OrcOk PR c_9a0 := fnT okO_9a0 mixed p_9a0 (by kernel_rfl) (by kernel_rfl) (L := L_9a0) (kp := false) (by kernel_rfl) (inn := (innN fr_9a0)) (out := (outN fr_9a0)) (fun _ _ => rfl) (loopsL (l := [((lpN f_9a0 0), ls_9a0_0)]) (by kernel_rfl) ⟨lp_9a0_0, trivial⟩) (fun x y => by kernel_rfl)
noncomputable def O_98f : Orc := c_9a0
theorem okO_98f : OrcOk PR O_98f := ok_9a0
abbrev fa_98f : Fm := (.pair (.agg (.pair (.i .i64) (.pair (.i .i64) (.pair (.i .i64) (.pair (.si .u32) .unit))))) (.pair .b .unit))
abbrev fr_98f : Fm := (.agg (.pair (.i .i64) (.pair (.i .i64) (.pair (.i .i64) (.pair (.si .u32) .unit)))))
noncomputable def F_98f (a0 : Int × Int × Int × List Int × Unit) (a1 : Bool) : Option (Int × Int × Int × List Int × Unit) :=
 let x0 : Int := a0.2.2.1
 let x1 : List Int := a0.2.2.2.1
 bif a1 then
 ((F_9a0 (a0.1, (a0.2.1, (x0, ((List.take (List.length x1) x1), ())))))).bind fun r2 =>
 let x3 : Int := r2.1.2.1
 let x4 : Int := r2.1.2.2.1
 let x5 : List Int := r2.1.2.2.2.1
 (some (r2.1.1, (x3, (x4, ((List.take (List.length x5) x5), ())))))
 else
 (some (a0.1, (a0.2.1, (x0, ((List.take (List.length x1) x1), ())))))
noncomputable def G_98f : T fa_98f → TH hN0 → Option (Int × Int × Int × List Int × Unit) := fun x y => F_98f x.1 x.2.1
noncomputable def c_98f : Orc := ent i_98f [] 0 (sp fa_98f hN0 fr_98f hN0 G_98f (outN fr_98f))
theorem ok_98f : OrcOk PR c_98f := fnT okO_98f mixed p_98f (by kernel_rfl) (by kernel_rfl) (L := L0) (kp := false) (by kernel_rfl) (inn := (innN fr_98f)) (out := (outN fr_98f)) (fun _ _ => rfl) (loopsL (l := []) (by kernel_rfl) trivial) (fun x y => by kernel_rfl)
noncomputable def O_98e : Orc := (orm c_99f c_99e)
theorem okO_98e : OrcOk PR O_98e := (orm_ok ok_99f ok_99e)
abbrev fa_98e : Fm := (.pair (.agg (.pair (.i .i64) (.pair (.i .i64) (.pair (.i .i64) (.pair (.si .u32) .unit))))) (.pair (.agg (.pair (.i .i64) (.pair (.i .i64) (.pair (.i .i64) (.pair (.si .u32) .unit))))) .unit))
abbrev fr_98e : Fm := (.tup (.pair (.agg (.pair (.i .i64) (.pair (.i .i64) (.pair (.i .i64) (.pair (.si .u32) .unit))))) (.pair (.i .i64) .unit)))
abbrev ff_98e_1 : Fm := (.us 2 (.cst (.ref 0 1 0) (.cst (.ref 1 1 0) (.cst (.ref 2 1 0) (.us 1 (.cst (.ref 3 1 0) (.pair (.i .i64) (.us 15 (.pair (.i .i64) (.pair (.i .i64) (.us 3 (.pair (.i .i64) (.pair (.i .i64) (.us 21 .unit))))))))))))))
abbrev hf_98e_1 : List BF := [(.list 1 y_92 true (.pair (.i .i64) (.pair (.i .i64) (.pair (.i .i64) (.pair (.si .u32) .unit))))), (.list 1 y_92 true (.pair (.i .i64) (.pair (.i .i64) (.pair (.i .i64) (.pair (.si .u32) .unit))))), (.list 1 y_92 true (.pair (.i .i64) (.pair (.i .i64) (.pair (.i .i64) (.cst .nils .unit))))), (.list 1 y_92 true (.pair (.i .i64) (.pair (.i .i64) (.pair (.i .i64) (.pair (.own 4 1 0 1) .unit))))), (.ints 1 y_91 true .u32)]
abbrev X_98e_1 : Xs := (.one (.exit 2) [2, 3, 4, 6, 23, 24] (.us 2 (.cst (.ref 0 1 0) (.cst (.ref 1 1 0) (.cst (.ref 2 1 0) (.us 1 (.cst (.ref 3 1 0) (.us 16 (.pair (.i .i64) (.pair (.i .i64) (.us 26 .unit)))))))))) [(.list 1 y_92 true (.pair (.i .i64) (.pair (.i .i64) (.pair (.i .i64) (.pair (.si .u32) .unit))))), (.list 1 y_92 true (.pair (.i .i64) (.pair (.i .i64) (.pair (.i .i64) (.pair (.si .u32) .unit))))), (.list 1 y_92 true (.pair (.i .i64) (.pair (.i .i64) (.pair (.i .i64) (.cst .nils .unit))))), (.list 1 y_92 true (.pair (.i .i64) (.pair (.i .i64) (.pair (.i .i64) (.pair (.own 4 1 0 1) .unit))))), (.ints 1 y_91 true .u32)])
abbrev S_98e_1 : Type := T ff_98e_1 × TH hf_98e_1
abbrev E_98e_1 : Type := TX X_98e_1
noncomputable def LB_98e_1 : Lps := L0
noncomputable def st_98e_1 : StepT S_98e_1 E_98e_1 := fun R v kn ko =>
 let x0 : List Int := v.2.1.2.2.2.1
 let x1 : Int := v.1.1
 let x2 : List Int := v.2.2.1.2.2.2.1
 let x3 : Int := v.1.2.2.2.2.1
 let x4 : Int := v.1.2.1
 let x5 : Int := v.1.2.2.1
 let x6 : Nat := v.2.2.2.2.1.2.2.2.1
 bif (decide (x3 < v.1.2.2.2.1)) then
 ((F_99f (v.2.1.1, (v.2.1.2.1, (v.2.1.2.2.1, ((List.take (List.length x0) x0), ())))) x1)).bind fun r7 =>
 ((F_99f (v.2.2.1.1, (v.2.2.1.2.1, (v.2.2.1.2.2.1, ((List.take (List.length x2) x2), ())))) x3)).bind fun r8 =>
 ((F_99e (List.take (List.length r7) r7) (List.take (List.length r8) r8))).bind fun r9 =>
 bif (decide ((x6 + (1:Nat)) ≤ (1073741824:Nat))) then
 (kn ((x1, (x4, (x5, (v.1.2.2.2.1, ((IntKind.wrap .i64 (x3 + (1:Int))), ()))))), ((v.2.1.1, (v.2.1.2.1, (v.2.1.2.2.1, ((List.take (List.length x0) x0), ())))), ((v.2.2.1.1, (v.2.2.1.2.1, (v.2.2.1.2.2.1, ((List.take (List.length x2) x2), ())))), (v.2.2.2.1, ((v.2.2.2.2.1.1, (v.2.2.2.2.1.2.1, (v.2.2.2.2.1.2.2.1, ((x6 + (1:Nat)), ())))), (((List.take x6 v.2.2.2.2.2.1) ++ [r9.1]), ())))))))
 else
 none
 else
 (ko ((x4, (x5, ())), ((v.2.1.1, (v.2.1.2.1, (v.2.1.2.2.1, ((List.take (List.length x0) x0), ())))), ((v.2.2.1.1, (v.2.2.1.2.1, (v.2.2.1.2.2.1, ((List.take (List.length x2) x2), ())))), v.2.2.2))))
noncomputable def ls_98e_1 : St → LTr := (lsum ff_98e_1 hf_98e_1 X_98e_1 Prod.mk id st_98e_1 (hd [] [] [2, 3, 4, 6, 7, 23, 24, 28, 29] 0))
theorem lp_98e_1 : LoopOk PR 0 (lpN f_98e 1) ls_98e_1 := loopT okO_98e mixed (L := LB_98e_1) (d := 2) (bs := []) (ks := [2, 3, 4, 6, 7, 23, 24, 28, 29]) (loopsL (l := []) (by kernel_rfl) trivial) (by kernel_rfl) (inS := Prod.mk) (outS := id) (fun _ _ => rfl) (inX := id) (outX := id) (fun _ => rfl) (fun v R kn ko => by kernel_rfl) (hd_wk [] [] [2, 3, 4, 6, 7, 23, 24, 28, 29] 0)
abbrev ff_98e_0 : Fm := (.us 2 (.cst (.ref 0 1 0) (.cst (.ref 1 1 0) (.cst (.ref 2 1 0) (.us 1 (.cst (.ref 3 1 0) (.us 16 (.pair (.i .i64) (.pair (.i .i64) (.us 26 .unit))))))))))
abbrev hf_98e_0 : List BF := [(.list 1 y_92 true (.pair (.i .i64) (.pair (.i .i64) (.pair (.i .i64) (.pair (.si .u32) .unit))))), (.list 1 y_92 true (.pair (.i .i64) (.pair (.i .i64) (.pair (.i .i64) (.pair (.si .u32) .unit))))), (.list 1 y_92 true (.pair (.i .i64) (.pair (.i .i64) (.pair (.i .i64) (.cst .nils .unit))))), (.list 1 y_92 true (.pair (.i .i64) (.pair (.i .i64) (.pair (.i .i64) (.pair (.own 4 1 0 1) .unit))))), (.ints 1 y_91 true .u32)]
abbrev X_98e_0 : Xs := (.one (.exit 0) [4, 6] (.us 4 (.cst (.ref 0 1 0) (.us 1 (.cst (.ref 1 1 0) (.us 44 .unit))))) [(.list 1 y_92 true (.pair (.i .i64) (.pair (.i .i64) (.pair (.i .i64) (.cst .nils .unit))))), (.list 1 y_92 true (.pair (.i .i64) (.pair (.i .i64) (.pair (.i .i64) (.pair (.own 2 1 0 1) .unit))))), (.ints 1 y_91 true .u32)])
abbrev S_98e_0 : Type := T ff_98e_0 × TH hf_98e_0
abbrev E_98e_0 : Type := TX X_98e_0
noncomputable def LB_98e_0 : Lps := (lpB 9 (.by_ ls_98e_1) L0)
noncomputable def st_98e_0 : StepT S_98e_0 E_98e_0 := fun R v kn ko =>
 let x0 : Int := v.1.2.1
 let x1 : Int := v.2.2.1.1
 let x2 : List Int := v.2.1.2.2.2.1
 let x3 : List Int := v.2.2.1.2.2.2.1
 bif (decide (x0 < v.1.1)) then
 ((lim st_98e_1 ((x0, (v.1.1, (x0, (x1, ((0:Int), ()))))), ((v.2.1.1, (v.2.1.2.1, (v.2.1.2.2.1, ((List.take (List.length x2) x2), ())))), ((x1, (v.2.2.1.2.1, (v.2.2.1.2.2.1, ((List.take (List.length x3) x3), ())))), v.2.2.2))))).bind fun r4 =>
 let x5 : List Int := r4.2.1.2.2.2.1
 let x6 : List Int := r4.2.2.1.2.2.2.1
 (kn ((r4.1.1, ((IntKind.wrap .i64 (r4.1.2.1 + (1:Int))), ())), ((r4.2.1.1, (r4.2.1.2.1, (r4.2.1.2.2.1, ((List.take (List.length x5) x5), ())))), ((r4.2.2.1.1, (r4.2.2.1.2.1, (r4.2.2.1.2.2.1, ((List.take (List.length x6) x6), ())))), r4.2.2.2))))
 else
 (ko ((), v.2.2.2))
noncomputable def ls_98e_0 : St → LTr := (lsum ff_98e_0 hf_98e_0 X_98e_0 Prod.mk id st_98e_0 (hd [(.via 6 3, y_91, 0, .ints .u32)] [] [2, 3, 4, 6, 23, 24] 0))
theorem lp_98e_0 : LoopOk PR 0 (lpN f_98e 0) ls_98e_0 := loopT okO_98e mixed (L := LB_98e_0) (d := 1) (bs := []) (ks := [2, 3, 4, 6, 23, 24]) (loopsL (l := [((lpN f_98e 1), ls_98e_1)]) (by kernel_rfl) ⟨lp_98e_1, trivial⟩) (by kernel_rfl) (inS := Prod.mk) (outS := id) (fun _ _ => rfl) (inX := id) (outX := id) (fun _ => rfl) (fun v R kn ko => by kernel_rfl) (hd_wk [(.via 6 3, y_91, 0, .ints .u32)] [] [2, 3, 4, 6, 23, 24] 0)
noncomputable def L_98e : Lps := (lpB 6 (.by_ ls_98e_0) (lpB 9 (.by_ ls_98e_1) L0))
noncomputable def F_98e (a0 : Int × Int × Int × List Int × Unit) (a1 : Int × Int × Int × List Int × Unit) : Option ((Int × Int × Int × List Int × Unit) × Int × Unit) :=
 let x0 : Int := a0.2.2.1
 let x1 : List Int := a0.2.2.2.1
 let x2 : Int := a1.2.2.1
 let x3 : List Int := a1.2.2.2.1
 bif (a0.2.1 != a1.2.1) then
 (some (((0:Int), ((0:Int), ((0:Int), ([], ())))), ((21:Int), ())))
 else
 ((lim st_98e_0 ((a0.1, ((0:Int), ())), ((a0.1, (a0.2.1, (x0, ((List.take (List.length x1) x1), ())))), ((a1.1, (a1.2.1, (x2, ((List.take (List.length x3) x3), ())))), (((0:Int), ((0:Int), ((0:Int), ()))), ((a0.1, (a1.1, ((2:Int), ((0:Nat), ())))), ([], ())))))))).bind fun r4 =>
 (some ((r4.2.2.1.1, (r4.2.2.1.2.1, (r4.2.2.1.2.2.1, ((List.take r4.2.2.1.2.2.2.1 (List.drop (0:Nat) r4.2.2.2.1)), ())))), ((0:Int), ())))
noncomputable def G_98e : T fa_98e → TH hN0 → Option ((Int × Int × Int × List Int × Unit) × Int × Unit) := fun x y => F_98e x.1 x.2.1
noncomputable def c_98e : Orc := ent i_98e [] 0 (sp fa_98e hN0 fr_98e hN0 G_98e (outN fr_98e))
theorem ok_98e : OrcOk PR c_98e := fnT okO_98e mixed p_98e (by kernel_rfl) (by kernel_rfl) (L := L_98e) (kp := false) (by kernel_rfl) (inn := (innN fr_98e)) (out := (outN fr_98e)) (fun _ _ => rfl) (loopsL (l := [((lpN f_98e 0), ls_98e_0)]) (by kernel_rfl) ⟨lp_98e_0, trivial⟩) (fun x y => by kernel_rfl)
noncomputable def O_95d : Orc := (orm c_980 (orm c_98f c_98e))
theorem okO_95d : OrcOk PR O_95d := (orm_ok ok_980 (orm_ok ok_98f ok_98e))
abbrev fa_95d : Fm := (.pair (.agg (.pair (.i .i64) (.pair (.i .i64) (.pair (.i .i64) (.pair (.si .u32) .unit))))) (.pair (.agg (.pair (.i .i64) (.pair (.i .i64) (.pair (.i .i64) (.pair (.si .u32) .unit))))) (.pair .b (.pair .b .unit))))
abbrev fr_95d : Fm := (.tup (.pair (.agg (.pair (.i .i64) (.pair (.i .i64) (.pair (.i .i64) (.pair (.si .u32) .unit))))) (.pair (.i .i64) .unit)))
noncomputable def F_95d (a0 : Int × Int × Int × List Int × Unit) (a1 : Int × Int × Int × List Int × Unit) (a2 : Bool) (a3 : Bool) : Option ((Int × Int × Int × List Int × Unit) × Int × Unit) :=
 let x0 : Int := a0.2.2.1
 let x1 : List Int := a0.2.2.2.1
 let x2 : Int := a1.2.2.1
 let x3 : List Int := a1.2.2.2.1
 ((F_980 (a0.1, (a0.2.1, (x0, ((List.take (List.length x1) x1), ())))) (a1.1, (a1.2.1, (x2, ((List.take (List.length x3) x3), ())))))).bind fun r4 =>
 let x5 : Bool := r4.2.2.1
 let x6 : Int := r4.1.2.1
 let x7 : Int := r4.1.2.2.1
 let x8 : List Int := r4.1.2.2.2.1
 let x9 : Int := r4.2.1.1
 let x10 : Int := r4.2.1.2.1
 let x11 : Int := r4.2.1.2.2.1
 let x12 : List Int := r4.2.1.2.2.2.1
 bif (!x5) then
 (some (((0:Int), ((0:Int), ((0:Int), ([], ())))), ((21:Int), ())))
 else
 ((F_98f (r4.1.1, (x6, (x7, ((List.take (List.length x8) x8), ())))) a2)).bind fun r13 =>
 let x14 : Int := r13.2.2.1
 let x15 : List Int := r13.2.2.2.1
 ((F_98f (x9, (x10, (x11, ((List.take (List.length x12) x12), ())))) a3)).bind fun r16 =>
 let x17 : Int := r16.2.2.1
 let x18 : List Int := r16.2.2.2.1
 ((F_98e (r13.1, (r13.2.1, (x14, ((List.take (List.length x15) x15), ())))) (r16.1, (r16.2.1, (x17, ((List.take (List.length x18) x18), ())))))).bind fun r19 =>
 let x20 : Int := r19.1.2.1
 let x21 : Int := r19.1.2.2.1
 let x22 : List Int := r19.1.2.2.2.1
 (some ((r19.1.1, (x20, (x21, ((List.take (List.length x22) x22), ())))), r19.2))
noncomputable def G_95d : T fa_95d → TH hN0 → Option ((Int × Int × Int × List Int × Unit) × Int × Unit) := fun x y => F_95d x.1 x.2.1 x.2.2.1 x.2.2.2.1
noncomputable def c_95d : Orc := ent i_95d [] 0 (sp fa_95d hN0 fr_95d hN0 G_95d (outN fr_95d))
theorem ok_95d : OrcOk PR c_95d := fnT okO_95d mixed p_95d (by kernel_rfl) (by kernel_rfl) (L := L0) (kp := false) (by kernel_rfl) (inn := (innN fr_95d)) (out := (outN fr_95d)) (fun _ _ => rfl) (loopsL (l := []) (by kernel_rfl) trivial) (fun x y => by kernel_rfl)
noncomputable def O_94e : Orc := c_95d
theorem okO_94e : OrcOk PR O_94e := ok_95d
abbrev fa_94e : Fm := (.pair (.agg (.pair (.i .i64) (.pair (.i .i64) (.pair (.i .i64) (.pair (.si .u32) .unit))))) (.pair (.agg (.pair (.i .i64) (.pair (.i .i64) (.pair (.i .i64) (.pair (.si .u32) .unit))))) .unit))
abbrev fr_94e : Fm := (.tup (.pair (.agg (.pair (.i .i64) (.pair (.i .i64) (.pair (.i .i64) (.pair (.si .u32) .unit))))) (.pair (.i .i64) .unit)))
noncomputable def F_94e (a0 : Int × Int × Int × List Int × Unit) (a1 : Int × Int × Int × List Int × Unit) : Option ((Int × Int × Int × List Int × Unit) × Int × Unit) :=
 let x0 : Int := a0.2.2.1
 let x1 : List Int := a0.2.2.2.1
 let x2 : Int := a1.2.2.1
 let x3 : List Int := a1.2.2.2.1
 ((F_95d (a0.1, (a0.2.1, (x0, ((List.take (List.length x1) x1), ())))) (a1.1, (a1.2.1, (x2, ((List.take (List.length x3) x3), ())))) false false)).bind fun r4 =>
 let x5 : Int := r4.1.2.1
 let x6 : Int := r4.1.2.2.1
 let x7 : List Int := r4.1.2.2.2.1
 (some ((r4.1.1, (x5, (x6, ((List.take (List.length x7) x7), ())))), r4.2))
noncomputable def G_94e : T fa_94e → TH hN0 → Option ((Int × Int × Int × List Int × Unit) × Int × Unit) := fun x y => F_94e x.1 x.2.1
noncomputable def c_94e : Orc := ent i_94e [] 0 (sp fa_94e hN0 fr_94e hN0 G_94e (outN fr_94e))
theorem ok_94e : OrcOk PR c_94e := fnT okO_94e mixed p_94e (by kernel_rfl) (by kernel_rfl) (L := L0) (kp := false) (by kernel_rfl) (inn := (innN fr_94e)) (out := (outN fr_94e)) (fun _ _ => rfl) (loopsL (l := []) (by kernel_rfl) trivial) (fun x y => by kernel_rfl)
noncomputable def O_981 : Orc := c_91c
theorem okO_981 : OrcOk PR O_981 := ok_91c
abbrev fa_981 : Fm := (.pair (.i .i64) (.pair (.i .u32) (.cst (.ref 0 1 0) (.cst (.ref 1 1 0) .unit))))
abbrev ha_981 : List BF := [(.list 1 y_92 true (.pair (.i .i64) (.pair (.i .i64) (.pair (.i .i64) (.pair (.si .u32) .unit))))), (.list 1 y_92 true (.pair (.i .i64) (.pair (.i .i64) (.pair (.i .i64) (.pair (.si .u32) .unit)))))]
abbrev fr_981 : Fm := (.i .u32)
abbrev hr_981 : List BF := [(.list 1 y_92 true (.pair (.i .i64) (.pair (.i .i64) (.pair (.i .i64) (.pair (.si .u32) .unit))))), (.list 1 y_92 true (.pair (.i .i64) (.pair (.i .i64) (.pair (.i .i64) (.pair (.si .u32) .unit)))))]
def inn_981 : T fr_981 → TH hr_981 → (Int) × ((Int × Int × Int × List Int × Unit) × (Int × Int × Int × List Int × Unit) × Unit) := Prod.mk
def out_981 : (Int) × ((Int × Int × Int × List Int × Unit) × (Int × Int × Int × List Int × Unit) × Unit) → T fr_981 × TH hr_981 := id
noncomputable def F_981 (a0 : Int) (a1 : Int) (a2 : Int × Int × Int × List Int × Unit) (a3 : Int × Int × Int × List Int × Unit) : Option ((Int) × ((Int × Int × Int × List Int × Unit) × (Int × Int × Int × List Int × Unit) × Unit)) :=
 let x0 : List Int := a2.2.2.2.1
 let x1 : Int := a2.2.2.1
 let x2 : Int := a3.2.2.1
 let x3 : List Int := a3.2.2.2.1
 bif (a3.2.1 == (0:Int)) then
 none
 else
 bif (decide (((0:Int) ≤ (Int.tmod a0 a3.2.1)) ∧ ((Int.tmod a0 a3.2.1) < (((List.length x0) : Nat) : Int)))) then
 ((F_91c a1 (List.getD x0 (Int.toNat (Int.tmod a0 a3.2.1)) (0:Int)))).bind fun r4 =>
 (some (r4, ((a2.1, (a2.2.1, (x1, ((List.take (List.length x0) x0), ())))), ((a3.1, (a3.2.1, (x2, ((List.take (List.length x3) x3), ())))), ()))))
 else
 none
noncomputable def G_981 : T fa_981 → TH ha_981 → Option ((Int) × ((Int × Int × Int × List Int × Unit) × (Int × Int × Int × List Int × Unit) × Unit)) := fun x y => F_981 x.1 x.2.1 y.1 y.2.1
noncomputable def c_981 : Orc := ent i_981 [false, false, true, true] 0 (sp fa_981 ha_981 fr_981 hr_981 G_981 out_981)
theorem ok_981 : OrcOk PR c_981 := fnT okO_981 mixed p_981 (by kernel_rfl) (by kernel_rfl) (L := L0) (kp := false) (by kernel_rfl) (inn := inn_981) (out := out_981) (fun _ _ => rfl) (loopsL (l := []) (by kernel_rfl) trivial) (fun x y => by kernel_rfl)
noncomputable def O_9a7 : Orc := c_981
theorem okO_9a7 : OrcOk PR O_9a7 := ok_981
abbrev fa_9a7 : Fm := (.pair (.agg (.pair (.i .i64) (.pair (.i .i64) (.pair (.i .i64) (.pair (.si .u32) .unit))))) (.pair (.i .i64) (.pair (.fn i_981 (.pair (.ref 0 1 0) (.pair (.ref 1 1 0) .unit))) .unit)))
abbrev ha_9a7 : List BF := [(.list 1 y_92 true (.pair (.i .i64) (.pair (.i .i64) (.pair (.i .i64) (.pair (.si .u32) .unit))))), (.list 1 y_92 true (.pair (.i .i64) (.pair (.i .i64) (.pair (.i .i64) (.pair (.si .u32) .unit)))))]
abbrev fr_9a7 : Fm := (.agg (.pair (.i .i64) (.pair (.i .i64) (.pair (.i .i64) (.pair (.si .u32) .unit)))))
abbrev hr_9a7 : List BF := [(.list 1 y_92 true (.pair (.i .i64) (.pair (.i .i64) (.pair (.i .i64) (.pair (.si .u32) .unit))))), (.list 1 y_92 true (.pair (.i .i64) (.pair (.i .i64) (.pair (.i .i64) (.pair (.si .u32) .unit)))))]
abbrev ff_9a7_0 : Fm := (.us 2 (.cst (.fn i_981 (.cst (.ref 0 1 0) (.cst (.ref 1 1 0) .unit))) (.us 3 (.cst (.ref 2 1 0) (.cst (.ref 3 1 0) (.us 13 (.pair (.si .u32) (.pair (.i .i64) (.pair (.i .i64) (.us 14 .unit))))))))))
abbrev hf_9a7_0 : List BF := [(.list 1 y_92 true (.pair (.i .i64) (.pair (.i .i64) (.pair (.i .i64) (.pair (.si .u32) .unit))))), (.list 1 y_92 true (.pair (.i .i64) (.pair (.i .i64) (.pair (.i .i64) (.pair (.si .u32) .unit))))), (.list 1 y_92 true (.pair (.i .i64) (.pair (.i .i64) (.pair (.i .i64) (.cst .nils .unit))))), (.list 1 y_92 true (.pair (.i .i64) (.pair (.i .i64) (.pair (.i .i64) (.pair (.own 4 1 0 1) .unit))))), (.ints 1 y_91 true .u32)]
abbrev X_9a7_0 : Xs := (.one (.exit 0) [6, 7] (.us 6 (.cst (.ref 2 1 0) (.cst (.ref 3 1 0) (.us 30 .unit)))) [(.list 1 y_92 true (.pair (.i .i64) (.pair (.i .i64) (.pair (.i .i64) (.pair (.si .u32) .unit))))), (.list 1 y_92 true (.pair (.i .i64) (.pair (.i .i64) (.pair (.i .i64) (.pair (.si .u32) .unit))))), (.list 1 y_92 true (.pair (.i .i64) (.pair (.i .i64) (.pair (.i .i64) (.cst .nils .unit))))), (.list 1 y_92 true (.pair (.i .i64) (.pair (.i .i64) (.pair (.i .i64) (.pair (.own 4 1 0 1) .unit))))), (.ints 1 y_91 true .u32)])
abbrev S_9a7_0 : Type := T ff_9a7_0 × TH hf_9a7_0
abbrev E_9a7_0 : Type := TX X_9a7_0
noncomputable def LB_9a7_0 : Lps := L0
noncomputable def st_9a7_0 : StepT S_9a7_0 E_9a7_0 := fun R v kn ko =>
 let x0 : Int := v.1.2.2.1
 let x1 : List Int := v.1.1
 let x2 : Nat := (Int.toNat x0)
 let x3 : List Int := v.2.1.2.2.2.1
 let x4 : List Int := v.2.2.1.2.2.2.1
 bif (decide (x0 < v.1.2.1)) then
 bif (decide (((0:Int) ≤ x0) ∧ (x0 < (((List.length x1) : Nat) : Int)))) then
 ((F_981 x0 (List.getD x1 x2 (0:Int)) (v.2.1.1, (v.2.1.2.1, (v.2.1.2.2.1, ((List.take (List.length x3) x3), ())))) (v.2.2.1.1, (v.2.2.1.2.1, (v.2.2.1.2.2.1, ((List.take (List.length x4) x4), ())))))).bind fun r5 =>
 let x6 : List Int := r5.2.1.2.2.2.1
 let x7 : List Int := r5.2.2.1.2.2.2.1
 bif (decide (((0:Int) ≤ x0) ∧ (x0 < ((v.2.2.2.2.1.2.2.2.1 : Nat) : Int)))) then
 bif (decide (((0:Nat) + (x2 * (1:Nat))) < (List.length v.2.2.2.2.2.1))) then
 (kn (((List.take (List.length x1) x1), (v.1.2.1, ((IntKind.wrap .i64 (x0 + (1:Int))), ()))), ((r5.2.1.1, (r5.2.1.2.1, (r5.2.1.2.2.1, ((List.take (List.length x6) x6), ())))), ((r5.2.2.1.1, (r5.2.2.1.2.1, (r5.2.2.1.2.2.1, ((List.take (List.length x7) x7), ())))), (v.2.2.2.1, (v.2.2.2.2.1, ((List.set v.2.2.2.2.2.1 ((0:Nat) + (x2 * (1:Nat))) r5.1), ())))))))
 else
 none
 else
 none
 else
 none
 else
 (ko ((), ((v.2.1.1, (v.2.1.2.1, (v.2.1.2.2.1, ((List.take (List.length x3) x3), ())))), ((v.2.2.1.1, (v.2.2.1.2.1, (v.2.2.1.2.2.1, ((List.take (List.length x4) x4), ())))), v.2.2.2))))
noncomputable def ls_9a7_0 : St → LTr := (lsum ff_9a7_0 hf_9a7_0 X_9a7_0 Prod.mk id st_9a7_0 (hd [] [] [2, 6, 7, 21, 22, 23] 2))
theorem lp_9a7_0 : LoopOk PR 2 (lpN f_95e 0) ls_9a7_0 := loopT okO_9a7 mixed (L := LB_9a7_0) (d := 1) (bs := []) (ks := [2, 6, 7, 21, 22, 23]) (loopsL (l := []) (by kernel_rfl) trivial) (by kernel_rfl) (inS := Prod.mk) (outS := id) (fun _ _ => rfl) (inX := id) (outX := id) (fun _ => rfl) (fun v R kn ko => by kernel_rfl) (hd_wk [] [] [2, 6, 7, 21, 22, 23] 2)
noncomputable def L_9a7 : Lps := (lpB 4 (.by_ ls_9a7_0) L0)
def inn_9a7 : T fr_9a7 → TH hr_9a7 → (Int × Int × Int × List Int × Unit) × ((Int × Int × Int × List Int × Unit) × (Int × Int × Int × List Int × Unit) × Unit) := Prod.mk
def out_9a7 : (Int × Int × Int × List Int × Unit) × ((Int × Int × Int × List Int × Unit) × (Int × Int × Int × List Int × Unit) × Unit) → T fr_9a7 × TH hr_9a7 := id
noncomputable def F_9a7 (a0 : Int × Int × Int × List Int × Unit) (a1 : Int) (a2 : Int × Int × Int × List Int × Unit) (a3 : Int × Int × Int × List Int × Unit) : Option ((Int × Int × Int × List Int × Unit) × ((Int × Int × Int × List Int × Unit) × (Int × Int × Int × List Int × Unit) × Unit)) :=
 let x0 : List Int := a0.2.2.2.1
 let x1 : Nat := (List.length x0)
 let x2 : Int := ((x1 : Nat) : Int)
 let x3 : Int := a2.2.2.1
 let x4 : List Int := a2.2.2.2.1
 let x5 : Int := a3.2.2.1
 let x6 : List Int := a3.2.2.2.1
 let x7 : Nat := (Int.toNat x2)
 bif (decide (((0:Int) ≤ x2) ∧ (x2 ≤ (1073741824:Int)))) then
 ((lim st_9a7_0 (((List.take x1 x0), (x2, ((0:Int), ()))), ((a2.1, (a2.2.1, (x3, ((List.take (List.length x4) x4), ())))), ((a3.1, (a3.2.1, (x5, ((List.take (List.length x6) x6), ())))), (((0:Int), ((0:Int), ((0:Int), ()))), ((a0.1, (a0.2.1, (a1, (x7, ())))), ((List.replicate x7 (0:Int)), ())))))))).bind fun r8 =>
 let x9 : List Int := r8.2.1.2.2.2.1
 let x10 : List Int := r8.2.2.1.2.2.2.1
 (some ((r8.2.2.2.2.1.1, (r8.2.2.2.2.1.2.1, (r8.2.2.2.2.1.2.2.1, ((List.take r8.2.2.2.2.1.2.2.2.1 (List.drop (0:Nat) r8.2.2.2.2.2.1)), ())))), ((r8.2.1.1, (r8.2.1.2.1, (r8.2.1.2.2.1, ((List.take (List.length x9) x9), ())))), ((r8.2.2.1.1, (r8.2.2.1.2.1, (r8.2.2.1.2.2.1, ((List.take (List.length x10) x10), ())))), ()))))
 else
 none
noncomputable def G_9a7 : T fa_9a7 → TH ha_9a7 → Option ((Int × Int × Int × List Int × Unit) × ((Int × Int × Int × List Int × Unit) × (Int × Int × Int × List Int × Unit) × Unit)) := fun x y => F_9a7 x.1 x.2.1 y.1 y.2.1
noncomputable def c_9a7 : Orc := ent i_95e [false, false, true] 0 (sp fa_9a7 ha_9a7 fr_9a7 hr_9a7 G_9a7 out_9a7)
theorem ok_9a7 : OrcOk PR c_9a7 := fnT okO_9a7 mixed p_95e (by kernel_rfl) (by kernel_rfl) (L := L_9a7) (kp := false) (by kernel_rfl) (inn := inn_9a7) (out := out_9a7) (fun _ _ => rfl) (loopsL (l := [((lpN f_95e 0), ls_9a7_0)]) (by kernel_rfl) ⟨lp_9a7_0, trivial⟩) (fun x y => by kernel_rfl)
noncomputable def O_94f : Orc := (orm c_980 (orm c_9a7 c_981))
theorem okO_94f : OrcOk PR O_94f := (orm_ok ok_980 (orm_ok ok_9a7 ok_981))
abbrev fa_94f : Fm := (.pair (.agg (.pair (.i .i64) (.pair (.i .i64) (.pair (.i .i64) (.pair (.si .u32) .unit))))) (.pair (.agg (.pair (.i .i64) (.pair (.i .i64) (.pair (.i .i64) (.pair (.si .u32) .unit))))) .unit))
abbrev fr_94f : Fm := (.tup (.pair (.agg (.pair (.i .i64) (.pair (.i .i64) (.pair (.i .i64) (.pair (.si .u32) .unit))))) (.pair (.i .i64) .unit)))
noncomputable def F_94f (a0 : Int × Int × Int × List Int × Unit) (a1 : Int × Int × Int × List Int × Unit) : Option ((Int × Int × Int × List Int × Unit) × Int × Unit) :=
 let x0 : Int := a0.2.2.1
 let x1 : List Int := a0.2.2.2.1
 let x2 : Int := a1.2.2.1
 let x3 : List Int := a1.2.2.2.1
 ((F_980 (a0.1, (a0.2.1, (x0, ((List.take (List.length x1) x1), ())))) (a1.1, (a1.2.1, (x2, ((List.take (List.length x3) x3), ())))))).bind fun r4 =>
 let x5 : Bool := r4.2.2.1
 let x6 : Int := r4.2.1.1
 let x7 : Int := r4.1.2.1
 let x8 : Int := r4.2.1.2.1
 let x9 : Int := r4.1.2.2.1
 let x10 : List Int := r4.1.2.2.2.1
 let x11 : Int := r4.2.1.2.2.1
 let x12 : List Int := r4.2.1.2.2.2.1
 bif (!x5) then
 (some (((0:Int), ((0:Int), ((0:Int), ([], ())))), ((21:Int), ())))
 else
 bif (x6 != (1:Int)) then
 (some (((0:Int), ((0:Int), ((0:Int), ([], ())))), ((21:Int), ())))
 else
 bif (x7 != x8) then
 (some (((0:Int), ((0:Int), ((0:Int), ([], ())))), ((21:Int), ())))
 else
 ((F_9a7 (r4.1.1, (x7, (x9, ((List.take (List.length x10) x10), ())))) (2:Int) (x6, (x8, (x11, ((List.take (List.length x12) x12), ())))) (r4.1.1, (x7, (x9, ((List.take (List.length x10) x10), ())))))).bind fun r13 =>
 let x14 : List Int := r13.1.2.2.2.1
 (some ((r13.1.1, (r13.1.2.1, (r13.1.2.2.1, ((List.take (List.length x14) x14), ())))), ((0:Int), ())))
noncomputable def G_94f : T fa_94f → TH hN0 → Option ((Int × Int × Int × List Int × Unit) × Int × Unit) := fun x y => F_94f x.1 x.2.1
noncomputable def c_94f : Orc := ent i_94f [] 0 (sp fa_94f hN0 fr_94f hN0 G_94f (outN fr_94f))
theorem ok_94f : OrcOk PR c_94f := fnT okO_94f mixed p_94f (by kernel_rfl) (by kernel_rfl) (L := L0) (kp := false) (by kernel_rfl) (inn := (innN fr_94f)) (out := (outN fr_94f)) (fun _ _ => rfl) (loopsL (l := []) (by kernel_rfl) trivial) (fun x y => by kernel_rfl)
noncomputable def O_913 : Orc := orn
theorem okO_913 : OrcOk PR O_913 := (orn_ok _)
abbrev fa_913 : Fm := (.pair (.si .u32) (.pair (.si .u32) .unit))
abbrev fr_913 : Fm := .b
abbrev ff_913_0 : Fm := (.pair (.si .u32) (.pair (.si .u32) (.us 3 (.pair (.i .i64) (.us 20 .unit)))))
abbrev hf_913_0 : List BF := []
abbrev X_913_0 : Xs := (.alt (.exit 0) [] (.us 26 .unit) [] (.one .ret [4] (.us 4 (.pair .b (.us 21 .unit))) []))
abbrev S_913_0 : Type := T ff_913_0 × TH hf_913_0
abbrev E_913_0 : Type := TX X_913_0
noncomputable def LB_913_0 : Lps := L0
noncomputable def st_913_0 : StepT S_913_0 E_913_0 := fun R v kn ko =>
 let x0 : List Int := v.1.1
 let x1 : Int := v.1.2.2.1
 let x2 : Nat := (Int.toNat x1)
 let x3 : List Int := v.1.2.1
 bif (decide (x1 < (((List.length x0) : Nat) : Int))) then
 bif (decide (((0:Int) ≤ x1) ∧ (x1 < (((List.length x0) : Nat) : Int)))) then
 bif (decide (((0:Int) ≤ x1) ∧ (x1 < (((List.length x3) : Nat) : Int)))) then
 bif ((List.getD x0 x2 (0:Int)) != (List.getD x3 x2 (0:Int))) then
 (ko (Sum.inr ((false, ()), ())))
 else
 (kn (((List.take (List.length x0) x0), ((List.take (List.length x3) x3), ((IntKind.wrap .i64 (x1 + (1:Int))), ()))), ()))
 else
 none
 else
 none
 else
 (ko (Sum.inl ((), ())))
noncomputable def ls_913_0 : St → LTr := (lsum ff_913_0 hf_913_0 X_913_0 Prod.mk id st_913_0 (hd [] [] [0, 1, 5] 0))
theorem lp_913_0 : LoopOk PR 0 (lpN f_913 0) ls_913_0 := loopT okO_913 mixed (L := LB_913_0) (d := 1) (bs := []) (ks := [0, 1, 5]) (loopsL (l := []) (by kernel_rfl) trivial) (by kernel_rfl) (inS := Prod.mk) (outS := id) (fun _ _ => rfl) (inX := id) (outX := id) (fun _ => rfl) (fun v R kn ko => by kernel_rfl) (hd_wk [] [] [0, 1, 5] 0)
noncomputable def L_913 : Lps := (lpB 5 (.by_ ls_913_0) L0)
noncomputable def F_913 (a0 : List Int) (a1 : List Int) : Option (Bool) :=
 bif ((((List.length a0) : Nat) : Int) != (((List.length a1) : Nat) : Int)) then
 (some false)
 else
 ((lim st_913_0 (((List.take (List.length a0) a0), ((List.take (List.length a1) a1), ((0:Int), ()))), ()))).bind fun r0 =>
 els (fun l1 =>
 (some true)) (fun r2 =>
 (some r2.1.1)) r0
noncomputable def G_913 : T fa_913 → TH hN0 → Option (Bool) := fun x y => F_913 x.1 x.2.1
noncomputable def c_913 : Orc := ent i_913 [] 0 (sp fa_913 hN0 fr_913 hN0 G_913 (outN fr_913))
theorem ok_913 : OrcOk PR c_913 := fnT okO_913 mixed p_913 (by kernel_rfl) (by kernel_rfl) (L := L_913) (kp := false) (by kernel_rfl) (inn := (innN fr_913)) (out := (outN fr_913)) (fun _ _ => rfl) (loopsL (l := [((lpN f_913 0), ls_913_0)]) (by kernel_rfl) ⟨lp_913_0, trivial⟩) (fun x y => by kernel_rfl)
noncomputable def O_911 : Orc := (orm c_9c c_922)
theorem okO_911 : OrcOk PR O_911 := (orm_ok ok_9c ok_922)
abbrev fa_911 : Fm := (.pair (.i .i64) (.pair (.i .i64) (.pair (.i .i64) (.pair (.si .u32) (.pair .b .unit)))))
abbrev fr_911 : Fm := (.agg (.pair (.i .i64) (.pair (.i .i64) (.pair (.i .i64) (.pair (.si .u32) .unit)))))
abbrev ff_911_0 : Fm := (.pair (.i .i64) (.pair (.i .i64) (.pair (.i .i64) (.pair (.si .u32) (.pair .b (.us 5 (.cst (.ref 0 1 0) (.cst (.ref 1 1 0) (.pair (.i .i64) (.us 50 .unit))))))))))
abbrev hf_911_0 : List BF := [(.list 1 y_92 true (.pair (.i .i64) (.pair (.i .i64) (.pair (.i .i64) (.cst .nils .unit))))), (.list 1 y_92 true (.pair (.i .i64) (.pair (.i .i64) (.pair (.i .i64) (.pair (.own 2 1 0 1) .unit))))), (.ints 1 y_91 true .u32)]
abbrev X_911_0 : Xs := (.one (.exit 0) [10, 11] (.us 10 (.cst (.ref 0 1 0) (.cst (.ref 1 1 0) (.us 51 .unit)))) [(.list 1 y_92 true (.pair (.i .i64) (.pair (.i .i64) (.pair (.i .i64) (.cst .nils .unit))))), (.list 1 y_92 true (.pair (.i .i64) (.pair (.i .i64) (.pair (.i .i64) (.pair (.own 2 1 0 1) .unit))))), (.ints 1 y_91 true .u32)])
abbrev S_911_0 : Type := T ff_911_0 × TH hf_911_0
abbrev E_911_0 : Type := TX X_911_0
noncomputable def LB_911_0 : Lps := L0
noncomputable def st_911_0 : StepT S_911_0 E_911_0 := fun R v kn ko =>
 let x0 : List Int := v.1.2.2.2.1
 let x1 : Nat := (List.length x0)
 let x2 : Int := ((x1 : Nat) : Int)
 let x3 : Bool := (x2 == (0:Int))
 let x4 : Bool := v.1.2.2.2.2.1
 let x5 : Int := v.1.2.2.1
 let x6 : Int := v.1.2.2.2.2.2.1
 let x7 : Int := (IntKind.wrap .u32 ((List.getD x0 (Int.toNat (Int.tmod x6 x2)) (0:Int)) + (IntKind.wrap .u32 ((IntKind.wrap .u32 (IntKind.wrap .i64 (Int.tdiv x6 x2))) * (40503:Int)))))
 let x8 : Nat := v.2.2.1.2.2.2.1
 let x9 : List Int := (List.take x8 v.2.2.2.1)
 let x10 : Int := (IntKind.wrap .u32 ((IntKind.wrap .u32 x6) * (2654435761:Int)))
 bif (decide (x6 < (IntKind.wrap .i64 (v.1.1 * v.1.2.1)))) then
 bif (decide (x2 > (0:Int))) then
 bif x3 then
 none
 else
 bif (decide (((0:Int) ≤ (Int.tmod x6 x2)) ∧ ((Int.tmod x6 x2) < x2))) then
 bif x3 then
 none
 else
 bif x4 then
 ((F_9c x5 x7)).bind fun r11 =>
 bif (decide ((x8 + (1:Nat)) ≤ (1073741824:Nat))) then
 (kn ((v.1.1, (v.1.2.1, (x5, ((List.take x1 x0), (x4, ((IntKind.wrap .i64 (x6 + (1:Int))), ())))))), (v.2.1, ((v.2.2.1.1, (v.2.2.1.2.1, (v.2.2.1.2.2.1, ((x8 + (1:Nat)), ())))), ((x9 ++ [r11]), ())))))
 else
 none
 else
 ((F_922 x5 x7)).bind fun r12 =>
 bif (decide ((x8 + (1:Nat)) ≤ (1073741824:Nat))) then
 (kn ((v.1.1, (v.1.2.1, (x5, ((List.take x1 x0), (x4, ((IntKind.wrap .i64 (x6 + (1:Int))), ())))))), (v.2.1, ((v.2.2.1.1, (v.2.2.1.2.1, (v.2.2.1.2.2.1, ((x8 + (1:Nat)), ())))), ((x9 ++ [r12]), ())))))
 else
 none
 else
 none
 else
 bif x4 then
 ((F_9c x5 x10)).bind fun r13 =>
 bif (decide ((x8 + (1:Nat)) ≤ (1073741824:Nat))) then
 (kn ((v.1.1, (v.1.2.1, (x5, ((List.take x1 x0), (x4, ((IntKind.wrap .i64 (x6 + (1:Int))), ())))))), (v.2.1, ((v.2.2.1.1, (v.2.2.1.2.1, (v.2.2.1.2.2.1, ((x8 + (1:Nat)), ())))), ((x9 ++ [r13]), ())))))
 else
 none
 else
 ((F_922 x5 x10)).bind fun r14 =>
 bif (decide ((x8 + (1:Nat)) ≤ (1073741824:Nat))) then
 (kn ((v.1.1, (v.1.2.1, (x5, ((List.take x1 x0), (x4, ((IntKind.wrap .i64 (x6 + (1:Int))), ())))))), (v.2.1, ((v.2.2.1.1, (v.2.2.1.2.1, (v.2.2.1.2.2.1, ((x8 + (1:Nat)), ())))), ((x9 ++ [r14]), ())))))
 else
 none
 else
 (ko ((), v.2))
noncomputable def ls_911_0 : St → LTr := (lsum ff_911_0 hf_911_0 X_911_0 Prod.mk id st_911_0 (hd [(.via 11 3, y_91, 0, .ints .u32)] [] [0, 1, 2, 3, 4, 10, 11, 12] 0))
theorem lp_911_0 : LoopOk PR 0 (lpN f_911 0) ls_911_0 := loopT okO_911 mixed (L := LB_911_0) (d := 1) (bs := []) (ks := [0, 1, 2, 3, 4, 10, 11, 12]) (loopsL (l := []) (by kernel_rfl) trivial) (by kernel_rfl) (inS := Prod.mk) (outS := id) (fun _ _ => rfl) (inX := id) (outX := id) (fun _ => rfl) (fun v R kn ko => by kernel_rfl) (hd_wk [(.via 11 3, y_91, 0, .ints .u32)] [] [0, 1, 2, 3, 4, 10, 11, 12] 0)
noncomputable def L_911 : Lps := (lpB 4 (.by_ ls_911_0) L0)
noncomputable def F_911 (a0 : Int) (a1 : Int) (a2 : Int) (a3 : List Int) (a4 : Bool) : Option (Int × Int × Int × List Int × Unit) :=
 ((lim st_911_0 ((a0, (a1, (a2, ((List.take (List.length a3) a3), (a4, ((0:Int), ())))))), (((0:Int), ((0:Int), ((0:Int), ()))), ((a0, (a1, (a2, ((0:Nat), ())))), ([], ())))))).bind fun r0 =>
 (some (r0.2.2.1.1, (r0.2.2.1.2.1, (r0.2.2.1.2.2.1, ((List.take r0.2.2.1.2.2.2.1 (List.drop (0:Nat) r0.2.2.2.1)), ())))))
noncomputable def G_911 : T fa_911 → TH hN0 → Option (Int × Int × Int × List Int × Unit) := fun x y => F_911 x.1 x.2.1 x.2.2.1 x.2.2.2.1 x.2.2.2.2.1
noncomputable def c_911 : Orc := ent i_911 [] 0 (sp fa_911 hN0 fr_911 hN0 G_911 (outN fr_911))
theorem ok_911 : OrcOk PR c_911 := fnT okO_911 mixed p_911 (by kernel_rfl) (by kernel_rfl) (L := L_911) (kp := false) (by kernel_rfl) (inn := (innN fr_911)) (out := (outN fr_911)) (fun _ _ => rfl) (loopsL (l := [((lpN f_911 0), ls_911_0)]) (by kernel_rfl) ⟨lp_911_0, trivial⟩) (fun x y => by kernel_rfl)
end Go.Proofs.YtkmkhcmfpbffjaaGreat.VI
