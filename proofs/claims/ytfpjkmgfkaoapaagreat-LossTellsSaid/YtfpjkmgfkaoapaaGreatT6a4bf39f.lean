import Derived.Test.YtfpjkmgfkaoapaaGreatT809f1523
namespace Go.Proofs.YtfpjkmgfkaoapaaGreat.VI
set_option linter.unusedVariables false
set_option linter.unusedSimpArgs false
set_option maxRecDepth 100000
noncomputable def O_947 : Orc := orn
theorem okO_947 : OrcOk PR O_947 := (orn_ok _)
abbrev fa_947 : Fm := (.pair (.i .i64) .unit)
abbrev fr_947 : Fm := .b
noncomputable def F_947 (a0 : Int) : Option (Bool) :=
 bif (a0 == (0:Int)) then
 (some true)
 else
 bif (a0 == (1:Int)) then
 (some true)
 else
 (some (a0 == (2:Int)))
noncomputable def G_947 : T fa_947 → TH hN0 → Option (Bool) := fun x y => F_947 x.1
noncomputable def c_947 : Orc := ent i_947 [] 0 (sp fa_947 hN0 fr_947 hN0 G_947 (outN fr_947))
theorem ok_947 : OrcOk PR c_947 := fnT okO_947 mixed p_947 (by kernel_rfl) (by kernel_rfl) (L := L0) (kp := false) (by kernel_rfl) (inn := (innN fr_947)) (out := (outN fr_947)) (fun _ _ => rfl) (loopsL (l := []) (by kernel_rfl) trivial) (fun x y => by kernel_rfl)
noncomputable def O_91c : Orc := (orm c_947 c_923)
theorem okO_91c : OrcOk PR O_91c := (orm_ok ok_947 ok_923)
abbrev fa_91c : Fm := (.pair (.agg (.pair (.i .i64) (.pair (.i .i64) (.pair (.i .i64) (.pair (.si .u32) .unit))))) .unit)
abbrev fr_91c : Fm := .b
abbrev ff_91c_0 : Fm := (.us 1 (.cst (.ref 0 1 0) (.us 1 (.pair (.i .i64) (.us 52 .unit)))))
abbrev hf_91c_0 : List BF := [(.list 1 y_91 true (.pair (.i .i64) (.pair (.i .i64) (.pair (.i .i64) (.pair (.si .u32) .unit)))))]
abbrev X_91c_0 : Xs := (.alt (.exit 0) [] (.us 56 .unit) [] (.one .ret [2] (.us 2 (.pair .b (.us 53 .unit))) []))
abbrev S_91c_0 : Type := T ff_91c_0 × TH hf_91c_0
abbrev E_91c_0 : Type := TX X_91c_0
noncomputable def LB_91c_0 : Lps := L0
noncomputable def st_91c_0 : StepT S_91c_0 E_91c_0 := fun R v kn ko =>
 let x0 : Int := v.2.1.2.2.1
 let x1 : List Int := v.2.1.2.2.2.1
 let x2 : Int := v.1.1
 bif (decide (x2 < (((List.length x1) : Nat) : Int))) then
 bif (decide (((0:Int) ≤ x2) ∧ (x2 < (((List.length x1) : Nat) : Int)))) then
 ((F_923 x0)).bind fun r3 =>
 bif ((bits .andNot .u32 (List.getD x1 (Int.toNat x2) (0:Int)) r3) != (0:Int)) then
 (ko (Sum.inr ((false, ()), ())))
 else
 (kn (((IntKind.wrap .i64 (x2 + (1:Int))), ()), ((v.2.1.1, (v.2.1.2.1, (x0, ((List.take (List.length x1) x1), ())))), ())))
 else
 none
 else
 (ko (Sum.inl ((), ())))
noncomputable def ls_91c_0 : St → LTr := (lsum ff_91c_0 hf_91c_0 X_91c_0 Prod.mk id st_91c_0 (hd [] [] [1, 3] 0))
theorem lp_91c_0 : LoopOk PR 0 (lpN f_91c 0) ls_91c_0 := loopT okO_91c mixed (L := LB_91c_0) (d := 1) (bs := []) (ks := [1, 3]) (loopsL (l := []) (by kernel_rfl) trivial) (by kernel_rfl) (inS := Prod.mk) (outS := id) (fun _ _ => rfl) (inX := id) (outX := id) (fun _ => rfl) (fun v R kn ko => by kernel_rfl) (hd_wk [] [] [1, 3] 0)
noncomputable def L_91c : Lps := (lpB 5 (.by_ ls_91c_0) L0)
noncomputable def F_91c (a0 : Int × Int × Int × List Int × Unit) : Option (Bool) :=
 let x0 : Int := a0.2.2.1
 let x1 : List Int := a0.2.2.2.1
 let x2 : Nat := (List.length x1)
 bif (decide (a0.1 < (0:Int))) then
 (some false)
 else
 bif (decide (a0.1 > (4096:Int))) then
 (some false)
 else
 bif (decide (a0.2.1 < (0:Int))) then
 (some false)
 else
 bif (decide (a0.2.1 > (4096:Int))) then
 (some false)
 else
 ((F_947 x0)).bind fun r3 =>
 bif (!r3) then
 (some false)
 else
 bif (((x2 : Nat) : Int) != (IntKind.wrap .i64 (a0.1 * a0.2.1))) then
 (some false)
 else
 ((lim st_91c_0 (((0:Int), ()), ((a0.1, (a0.2.1, (x0, ((List.take x2 x1), ())))), ())))).bind fun r4 =>
 els (fun l5 =>
 (some true)) (fun r6 =>
 (some r6.1.1)) r4
noncomputable def G_91c : T fa_91c → TH hN0 → Option (Bool) := fun x y => F_91c x.1
noncomputable def c_91c : Orc := ent i_91c [] 0 (sp fa_91c hN0 fr_91c hN0 G_91c (outN fr_91c))
theorem ok_91c : OrcOk PR c_91c := fnT okO_91c mixed p_91c (by kernel_rfl) (by kernel_rfl) (L := L_91c) (kp := false) (by kernel_rfl) (inn := (innN fr_91c)) (out := (outN fr_91c)) (fun _ _ => rfl) (loopsL (l := [((lpN f_91c 0), ls_91c_0)]) (by kernel_rfl) ⟨lp_91c_0, trivial⟩) (fun x y => by kernel_rfl)
end Go.Proofs.YtfpjkmgfkaoapaaGreat.VI
