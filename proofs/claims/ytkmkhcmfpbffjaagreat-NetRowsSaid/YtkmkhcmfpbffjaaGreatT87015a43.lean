import Derived.Test.YtkmkhcmfpbffjaaGreatT870e0e05
namespace Go.Proofs.YtkmkhcmfpbffjaaGreat.VI
set_option linter.unusedVariables false
set_option linter.unusedSimpArgs false
set_option maxRecDepth 100000
noncomputable def O_934 : Orc := orn
theorem okO_934 : OrcOk PR O_934 := (orn_ok _)
abbrev fa_934 : Fm := (.pair (.i .i64) .unit)
abbrev fr_934 : Fm := .b
noncomputable def F_934 (a0 : Int) : Option (Bool) :=
 bif (a0 == (0:Int)) then
 (some true)
 else
 bif (a0 == (1:Int)) then
 (some true)
 else
 (some (a0 == (2:Int)))
noncomputable def G_934 : T fa_934 → TH hN0 → Option (Bool) := fun x y => F_934 x.1
noncomputable def c_934 : Orc := ent i_934 [] 0 (sp fa_934 hN0 fr_934 hN0 G_934 (outN fr_934))
theorem ok_934 : OrcOk PR c_934 := fnT okO_934 mixed p_934 (by kernel_rfl) (by kernel_rfl) (L := L0) (kp := false) (by kernel_rfl) (inn := (innN fr_934)) (out := (outN fr_934)) (fun _ _ => rfl) (loopsL (l := []) (by kernel_rfl) trivial) (fun x y => by kernel_rfl)
noncomputable def O_918 : Orc := (orm c_934 c_935)
theorem okO_918 : OrcOk PR O_918 := (orm_ok ok_934 ok_935)
abbrev fa_918 : Fm := (.pair (.agg (.pair (.i .i64) (.pair (.i .i64) (.pair (.i .i64) (.pair (.si .u32) .unit))))) .unit)
abbrev fr_918 : Fm := .b
abbrev ff_918_0 : Fm := (.us 1 (.cst (.ref 0 1 0) (.us 1 (.pair (.i .i64) (.us 52 .unit)))))
abbrev hf_918_0 : List BF := [(.list 1 y_92 true (.pair (.i .i64) (.pair (.i .i64) (.pair (.i .i64) (.pair (.si .u32) .unit)))))]
abbrev X_918_0 : Xs := (.alt (.exit 0) [] (.us 56 .unit) [] (.one .ret [2] (.us 2 (.pair .b (.us 53 .unit))) []))
abbrev S_918_0 : Type := T ff_918_0 × TH hf_918_0
abbrev E_918_0 : Type := TX X_918_0
noncomputable def LB_918_0 : Lps := L0
noncomputable def st_918_0 : StepT S_918_0 E_918_0 := fun R v kn ko =>
 let x0 : Int := v.2.1.2.2.1
 let x1 : List Int := v.2.1.2.2.2.1
 let x2 : Int := v.1.1
 bif (decide (x2 < (((List.length x1) : Nat) : Int))) then
 bif (decide (((0:Int) ≤ x2) ∧ (x2 < (((List.length x1) : Nat) : Int)))) then
 ((F_935 x0)).bind fun r3 =>
 bif ((bits .andNot .u32 (List.getD x1 (Int.toNat x2) (0:Int)) r3) != (0:Int)) then
 (ko (Sum.inr ((false, ()), ())))
 else
 (kn (((IntKind.wrap .i64 (x2 + (1:Int))), ()), ((v.2.1.1, (v.2.1.2.1, (x0, ((List.take (List.length x1) x1), ())))), ())))
 else
 none
 else
 (ko (Sum.inl ((), ())))
noncomputable def ls_918_0 : St → LTr := (lsum ff_918_0 hf_918_0 X_918_0 Prod.mk id st_918_0 (hd [] [] [1, 3] 0))
theorem lp_918_0 : LoopOk PR 0 (lpN f_918 0) ls_918_0 := loopT okO_918 mixed (L := LB_918_0) (d := 1) (bs := []) (ks := [1, 3]) (loopsL (l := []) (by kernel_rfl) trivial) (by kernel_rfl) (inS := Prod.mk) (outS := id) (fun _ _ => rfl) (inX := id) (outX := id) (fun _ => rfl) (fun v R kn ko => by kernel_rfl) (hd_wk [] [] [1, 3] 0)
noncomputable def L_918 : Lps := (lpB 5 (.by_ ls_918_0) L0)
noncomputable def F_918 (a0 : Int × Int × Int × List Int × Unit) : Option (Bool) :=
 let x0 : Int := a0.2.2.1
 let x1 : List Int := a0.2.2.2.1
 let x2 : Nat := (List.length x1)
 bif (decide (a0.1 < (0:Int))) then
 (some false)
 else
 bif (decide (a0.1 > (4096:Int))) then
 (some false)
 else
 bif (decide (a0.2.1 < (0:Int))) then
 (some false)
 else
 bif (decide (a0.2.1 > (4096:Int))) then
 (some false)
 else
 ((F_934 x0)).bind fun r3 =>
 bif (!r3) then
 (some false)
 else
 bif (((x2 : Nat) : Int) != (IntKind.wrap .i64 (a0.1 * a0.2.1))) then
 (some false)
 else
 ((lim st_918_0 (((0:Int), ()), ((a0.1, (a0.2.1, (x0, ((List.take x2 x1), ())))), ())))).bind fun r4 =>
 els (fun l5 =>
 (some true)) (fun r6 =>
 (some r6.1.1)) r4
noncomputable def G_918 : T fa_918 → TH hN0 → Option (Bool) := fun x y => F_918 x.1
noncomputable def c_918 : Orc := ent i_918 [] 0 (sp fa_918 hN0 fr_918 hN0 G_918 (outN fr_918))
theorem ok_918 : OrcOk PR c_918 := fnT okO_918 mixed p_918 (by kernel_rfl) (by kernel_rfl) (L := L_918) (kp := false) (by kernel_rfl) (inn := (innN fr_918)) (out := (outN fr_918)) (fun _ _ => rfl) (loopsL (l := [((lpN f_918 0), ls_918_0)]) (by kernel_rfl) ⟨lp_918_0, trivial⟩) (fun x y => by kernel_rfl)
end Go.Proofs.YtkmkhcmfpbffjaaGreat.VI
