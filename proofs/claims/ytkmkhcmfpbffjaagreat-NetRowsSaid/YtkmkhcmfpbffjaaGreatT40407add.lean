import Derived.Test.YtkmkhcmfpbffjaaGreatT58faefd2
namespace Go.Proofs.YtkmkhcmfpbffjaaGreat.VI
set_option linter.unusedVariables false
set_option linter.unusedSimpArgs false
set_option maxRecDepth 100000
noncomputable def O_9a8 : Orc := c_947
theorem okO_9a8 : OrcOk PR O_9a8 := ok_947
abbrev fa_9a8 : Fm := (.pair (.i .i64) (.pair (.i .u32) (.cst (.ref 0 1 0) (.cst (.ref 1 1 0) .unit))))
abbrev ha_9a8 : List BF := [(.list 1 y_93 true (.pair (.fn i_947 .unit) .unit)), (.list 1 y_92 true (.pair (.i .i64) (.pair (.i .i64) (.pair (.i .i64) (.pair (.si .u32) .unit)))))]
abbrev fr_9a8 : Fm := (.i .u32)
abbrev hr_9a8 : List BF := [(.list 1 y_93 true (.pair (.fn i_947 .unit) .unit)), (.list 1 y_92 true (.pair (.i .i64) (.pair (.i .i64) (.pair (.i .i64) (.pair (.si .u32) .unit)))))]
def inn_9a8 : T fr_9a8 → TH hr_9a8 → (Int) × ((Unit × Unit) × (Int × Int × Int × List Int × Unit) × Unit) := Prod.mk
def out_9a8 : (Int) × ((Unit × Unit) × (Int × Int × Int × List Int × Unit) × Unit) → T fr_9a8 × TH hr_9a8 := id
noncomputable def F_9a8 (a0 : Int) (a1 : Int) (a2 : Int × Int × Int × List Int × Unit) : Option ((Int) × ((Unit × Unit) × (Int × Int × Int × List Int × Unit) × Unit)) :=
 let x0 : List Int := a2.2.2.2.1
 let x1 : Int := a2.2.2.1
 bif (decide (((0:Int) ≤ a0) ∧ (a0 < (((List.length x0) : Nat) : Int)))) then
 ((F_947 a1 (List.getD x0 (Int.toNat a0) (0:Int)))).bind fun r2 =>
 (some (r2, (((), ()), ((a2.1, (a2.2.1, (x1, ((List.take (List.length x0) x0), ())))), ()))))
 else
 none
noncomputable def G_9a8 : T fa_9a8 → TH ha_9a8 → Option ((Int) × ((Unit × Unit) × (Int × Int × Int × List Int × Unit) × Unit)) := fun x y => F_9a8 x.1 x.2.1 y.2.1
noncomputable def c_9a8 : Orc := ent i_99c [false, false, true, true] 0 (sp fa_9a8 ha_9a8 fr_9a8 hr_9a8 G_9a8 out_9a8)
theorem ok_9a8 : OrcOk PR c_9a8 := fnT okO_9a8 mixed p_99c (by kernel_rfl) (by kernel_rfl) (L := L0) (kp := false) (by kernel_rfl) (inn := inn_9a8) (out := out_9a8) (fun _ _ => rfl) (loopsL (l := []) (by kernel_rfl) trivial) (fun x y => by kernel_rfl)
noncomputable def O_9a9 : Orc := c_9a8
theorem okO_9a9 : OrcOk PR O_9a9 := ok_9a8
abbrev fa_9a9 : Fm := (.pair (.agg (.pair (.i .i64) (.pair (.i .i64) (.pair (.i .i64) (.pair (.si .u32) .unit))))) (.pair (.i .i64) (.pair (.fn i_99c (.pair (.ref 0 1 0) (.pair (.ref 1 1 0) .unit))) .unit)))
abbrev ha_9a9 : List BF := [(.list 1 y_93 true (.pair (.fn i_947 .unit) .unit)), (.list 1 y_92 true (.pair (.i .i64) (.pair (.i .i64) (.pair (.i .i64) (.pair (.si .u32) .unit)))))]
abbrev fr_9a9 : Fm := (.agg (.pair (.i .i64) (.pair (.i .i64) (.pair (.i .i64) (.pair (.si .u32) .unit)))))
abbrev hr_9a9 : List BF := [(.list 1 y_93 true (.pair (.fn i_947 .unit) .unit)), (.list 1 y_92 true (.pair (.i .i64) (.pair (.i .i64) (.pair (.i .i64) (.pair (.si .u32) .unit)))))]
abbrev ff_9a9_0 : Fm := (.us 2 (.cst (.fn i_99c (.cst (.ref 0 1 0) (.cst (.ref 1 1 0) .unit))) (.us 3 (.cst (.ref 2 1 0) (.cst (.ref 3 1 0) (.us 13 (.pair (.si .u32) (.pair (.i .i64) (.pair (.i .i64) (.us 14 .unit))))))))))
abbrev hf_9a9_0 : List BF := [(.list 1 y_93 true (.cst (.fn i_947 .unit) .unit)), (.list 1 y_92 true (.pair (.i .i64) (.pair (.i .i64) (.pair (.i .i64) (.pair (.si .u32) .unit))))), (.list 1 y_92 true (.pair (.i .i64) (.pair (.i .i64) (.pair (.i .i64) (.cst .nils .unit))))), (.list 1 y_92 true (.pair (.i .i64) (.pair (.i .i64) (.pair (.i .i64) (.pair (.own 4 1 0 1) .unit))))), (.ints 1 y_91 true .u32)]
abbrev X_9a9_0 : Xs := (.one (.exit 0) [6, 7] (.us 6 (.cst (.ref 2 1 0) (.cst (.ref 3 1 0) (.us 30 .unit)))) [(.list 1 y_93 true (.cst (.fn i_947 .unit) .unit)), (.list 1 y_92 true (.pair (.i .i64) (.pair (.i .i64) (.pair (.i .i64) (.pair (.si .u32) .unit))))), (.list 1 y_92 true (.pair (.i .i64) (.pair (.i .i64) (.pair (.i .i64) (.cst .nils .unit))))), (.list 1 y_92 true (.pair (.i .i64) (.pair (.i .i64) (.pair (.i .i64) (.pair (.own 4 1 0 1) .unit))))), (.ints 1 y_91 true .u32)])
abbrev S_9a9_0 : Type := T ff_9a9_0 × TH hf_9a9_0
abbrev E_9a9_0 : Type := TX X_9a9_0
noncomputable def LB_9a9_0 : Lps := L0
noncomputable def st_9a9_0 : StepT S_9a9_0 E_9a9_0 := fun R v kn ko =>
 let x0 : Int := v.1.2.2.1
 let x1 : List Int := v.1.1
 let x2 : Nat := (Int.toNat x0)
 let x3 : List Int := v.2.2.1.2.2.2.1
 bif (decide (x0 < v.1.2.1)) then
 bif (decide (((0:Int) ≤ x0) ∧ (x0 < (((List.length x1) : Nat) : Int)))) then
 ((F_9a8 x0 (List.getD x1 x2 (0:Int)) (v.2.2.1.1, (v.2.2.1.2.1, (v.2.2.1.2.2.1, ((List.take (List.length x3) x3), ())))))).bind fun r4 =>
 let x5 : List Int := r4.2.2.1.2.2.2.1
 bif (decide (((0:Int) ≤ x0) ∧ (x0 < ((v.2.2.2.2.1.2.2.2.1 : Nat) : Int)))) then
 bif (decide (((0:Nat) + (x2 * (1:Nat))) < (List.length v.2.2.2.2.2.1))) then
 (kn (((List.take (List.length x1) x1), (v.1.2.1, ((IntKind.wrap .i64 (x0 + (1:Int))), ()))), ((), ((r4.2.2.1.1, (r4.2.2.1.2.1, (r4.2.2.1.2.2.1, ((List.take (List.length x5) x5), ())))), (v.2.2.2.1, (v.2.2.2.2.1, ((List.set v.2.2.2.2.2.1 ((0:Nat) + (x2 * (1:Nat))) r4.1), ())))))))
 else
 none
 else
 none
 else
 none
 else
 (ko ((), ((), ((v.2.2.1.1, (v.2.2.1.2.1, (v.2.2.1.2.2.1, ((List.take (List.length x3) x3), ())))), v.2.2.2))))
noncomputable def ls_9a9_0 : St → LTr := (lsum ff_9a9_0 hf_9a9_0 X_9a9_0 Prod.mk id st_9a9_0 (hd [] [] [2, 6, 7, 21, 22, 23] 2))
theorem lp_9a9_0 : LoopOk PR 2 (lpN f_95e 0) ls_9a9_0 := loopT okO_9a9 mixed (L := LB_9a9_0) (d := 1) (bs := []) (ks := [2, 6, 7, 21, 22, 23]) (loopsL (l := []) (by kernel_rfl) trivial) (by kernel_rfl) (inS := Prod.mk) (outS := id) (fun _ _ => rfl) (inX := id) (outX := id) (fun _ => rfl) (fun v R kn ko => by kernel_rfl) (hd_wk [] [] [2, 6, 7, 21, 22, 23] 2)
noncomputable def L_9a9 : Lps := (lpB 4 (.by_ ls_9a9_0) L0)
def inn_9a9 : T fr_9a9 → TH hr_9a9 → (Int × Int × Int × List Int × Unit) × ((Unit × Unit) × (Int × Int × Int × List Int × Unit) × Unit) := Prod.mk
def out_9a9 : (Int × Int × Int × List Int × Unit) × ((Unit × Unit) × (Int × Int × Int × List Int × Unit) × Unit) → T fr_9a9 × TH hr_9a9 := id
noncomputable def F_9a9 (a0 : Int × Int × Int × List Int × Unit) (a1 : Int) (a2 : Int × Int × Int × List Int × Unit) : Option ((Int × Int × Int × List Int × Unit) × ((Unit × Unit) × (Int × Int × Int × List Int × Unit) × Unit)) :=
 let x0 : List Int := a0.2.2.2.1
 let x1 : Nat := (List.length x0)
 let x2 : Int := ((x1 : Nat) : Int)
 let x3 : Int := a2.2.2.1
 let x4 : List Int := a2.2.2.2.1
 let x5 : Nat := (Int.toNat x2)
 bif (decide (((0:Int) ≤ x2) ∧ (x2 ≤ (1073741824:Int)))) then
 ((lim st_9a9_0 (((List.take x1 x0), (x2, ((0:Int), ()))), ((), ((a2.1, (a2.2.1, (x3, ((List.take (List.length x4) x4), ())))), (((0:Int), ((0:Int), ((0:Int), ()))), ((a0.1, (a0.2.1, (a1, (x5, ())))), ((List.replicate x5 (0:Int)), ())))))))).bind fun r6 =>
 let x7 : List Int := r6.2.2.1.2.2.2.1
 (some ((r6.2.2.2.2.1.1, (r6.2.2.2.2.1.2.1, (r6.2.2.2.2.1.2.2.1, ((List.take r6.2.2.2.2.1.2.2.2.1 (List.drop (0:Nat) r6.2.2.2.2.2.1)), ())))), (((), ()), ((r6.2.2.1.1, (r6.2.2.1.2.1, (r6.2.2.1.2.2.1, ((List.take (List.length x7) x7), ())))), ()))))
 else
 none
noncomputable def G_9a9 : T fa_9a9 → TH ha_9a9 → Option ((Int × Int × Int × List Int × Unit) × ((Unit × Unit) × (Int × Int × Int × List Int × Unit) × Unit)) := fun x y => F_9a9 x.1 x.2.1 y.2.1
noncomputable def c_9a9 : Orc := ent i_95e [false, false, true] 0 (sp fa_9a9 ha_9a9 fr_9a9 hr_9a9 G_9a9 out_9a9)
theorem ok_9a9 : OrcOk PR c_9a9 := fnT okO_9a9 mixed p_95e (by kernel_rfl) (by kernel_rfl) (L := L_9a9) (kp := false) (by kernel_rfl) (inn := inn_9a9) (out := out_9a9) (fun _ _ => rfl) (loopsL (l := [((lpN f_95e 0), ls_9a9_0)]) (by kernel_rfl) ⟨lp_9a9_0, trivial⟩) (fun x y => by kernel_rfl)
noncomputable def O_9aa : Orc := (orm c_980 c_9a9)
theorem okO_9aa : OrcOk PR O_9aa := (orm_ok ok_980 ok_9a9)
abbrev fa_9aa : Fm := (.pair (.agg (.pair (.i .i64) (.pair (.i .i64) (.pair (.i .i64) (.pair (.si .u32) .unit))))) (.pair (.agg (.pair (.i .i64) (.pair (.i .i64) (.pair (.i .i64) (.pair (.si .u32) .unit))))) (.cst (.fn i_947 .unit) .unit)))
abbrev fr_9aa : Fm := (.tup (.pair (.agg (.pair (.i .i64) (.pair (.i .i64) (.pair (.i .i64) (.pair (.si .u32) .unit))))) (.pair (.i .i64) .unit)))
noncomputable def F_9aa (a0 : Int × Int × Int × List Int × Unit) (a1 : Int × Int × Int × List Int × Unit) : Option ((Int × Int × Int × List Int × Unit) × Int × Unit) :=
 let x0 : Int := a0.2.2.1
 let x1 : List Int := a0.2.2.2.1
 let x2 : Int := a1.2.2.1
 let x3 : List Int := a1.2.2.2.1
 ((F_980 (a0.1, (a0.2.1, (x0, ((List.take (List.length x1) x1), ())))) (a1.1, (a1.2.1, (x2, ((List.take (List.length x3) x3), ())))))).bind fun r4 =>
 let x5 : Bool := r4.2.2.1
 let x6 : Int := r4.2.1.1
 let x7 : Int := r4.1.2.1
 let x8 : Int := r4.2.1.2.1
 let x9 : Int := r4.1.2.2.1
 let x10 : List Int := r4.1.2.2.2.1
 let x11 : Int := r4.2.1.2.2.1
 let x12 : List Int := r4.2.1.2.2.2.1
 bif (!x5) then
 (some (((0:Int), ((0:Int), ((0:Int), ([], ())))), ((21:Int), ())))
 else
 bif (r4.1.1 != x6) then
 (some (((0:Int), ((0:Int), ((0:Int), ([], ())))), ((21:Int), ())))
 else
 bif (x7 != x8) then
 (some (((0:Int), ((0:Int), ((0:Int), ([], ())))), ((21:Int), ())))
 else
 ((F_9a9 (r4.1.1, (x7, (x9, ((List.take (List.length x10) x10), ())))) (2:Int) (x6, (x8, (x11, ((List.take (List.length x12) x12), ())))))).bind fun r13 =>
 let x14 : List Int := r13.1.2.2.2.1
 (some ((r13.1.1, (r13.1.2.1, (r13.1.2.2.1, ((List.take (List.length x14) x14), ())))), ((0:Int), ())))
noncomputable def G_9aa : T fa_9aa → TH hN0 → Option ((Int × Int × Int × List Int × Unit) × Int × Unit) := fun x y => F_9aa x.1 x.2.1
noncomputable def c_9aa : Orc := ent i_988 [false, false, true] 0 (sp fa_9aa hN0 fr_9aa hN0 G_9aa (outN fr_9aa))
theorem ok_9aa : OrcOk PR c_9aa := fnT okO_9aa mixed p_988 (by kernel_rfl) (by kernel_rfl) (L := L0) (kp := false) (by kernel_rfl) (inn := (innN fr_9aa)) (out := (outN fr_9aa)) (fun _ _ => rfl) (loopsL (l := []) (by kernel_rfl) trivial) (fun x y => by kernel_rfl)
noncomputable def O_953 : Orc := (orm c_9aa c_947)
theorem okO_953 : OrcOk PR O_953 := (orm_ok ok_9aa ok_947)
abbrev fa_953 : Fm := (.pair (.agg (.pair (.i .i64) (.pair (.i .i64) (.pair (.i .i64) (.pair (.si .u32) .unit))))) (.pair (.agg (.pair (.i .i64) (.pair (.i .i64) (.pair (.i .i64) (.pair (.si .u32) .unit))))) .unit))
abbrev fr_953 : Fm := (.tup (.pair (.agg (.pair (.i .i64) (.pair (.i .i64) (.pair (.i .i64) (.pair (.si .u32) .unit))))) (.pair (.i .i64) .unit)))
noncomputable def F_953 (a0 : Int × Int × Int × List Int × Unit) (a1 : Int × Int × Int × List Int × Unit) : Option ((Int × Int × Int × List Int × Unit) × Int × Unit) :=
 let x0 : Int := a0.2.2.1
 let x1 : List Int := a0.2.2.2.1
 let x2 : Int := a1.2.2.1
 let x3 : List Int := a1.2.2.2.1
 ((F_9aa (a0.1, (a0.2.1, (x0, ((List.take (List.length x1) x1), ())))) (a1.1, (a1.2.1, (x2, ((List.take (List.length x3) x3), ())))))).bind fun r4 =>
 let x5 : Int := r4.1.2.1
 let x6 : Int := r4.1.2.2.1
 let x7 : List Int := r4.1.2.2.2.1
 (some ((r4.1.1, (x5, (x6, ((List.take (List.length x7) x7), ())))), r4.2))
noncomputable def G_953 : T fa_953 → TH hN0 → Option ((Int × Int × Int × List Int × Unit) × Int × Unit) := fun x y => F_953 x.1 x.2.1
noncomputable def c_953 : Orc := ent i_953 [] 0 (sp fa_953 hN0 fr_953 hN0 G_953 (outN fr_953))
theorem ok_953 : OrcOk PR c_953 := fnT okO_953 mixed p_953 (by kernel_rfl) (by kernel_rfl) (L := L0) (kp := false) (by kernel_rfl) (inn := (innN fr_953)) (out := (outN fr_953)) (fun _ _ => rfl) (loopsL (l := []) (by kernel_rfl) trivial) (fun x y => by kernel_rfl)
end Go.Proofs.YtkmkhcmfpbffjaaGreat.VI
