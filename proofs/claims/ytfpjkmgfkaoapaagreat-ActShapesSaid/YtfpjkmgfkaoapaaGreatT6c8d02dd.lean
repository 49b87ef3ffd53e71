import Derived.Test.YtfpjkmgfkaoapaaGreatT71779b1a
namespace Go.Proofs.YtfpjkmgfkaoapaaGreat.VI
set_option linter.unusedVariables false
set_option linter.unusedSimpArgs false
set_option maxRecDepth 100000
noncomputable def O_959 : Orc := orn
theorem okO_959 : OrcOk PR O_959 := (orn_ok _)
abbrev fa_959 : Fm := (.pair (.i .i64) .unit)
abbrev ha_959 : List BF := []
abbrev fr_959 : Fm := .b
abbrev hr_959 : List BF := []
noncomputable def L_959 : Lps := L0
def inn_959 : T fr_959 → TH hr_959 → Bool := (fun z w => z)
def out_959 : Bool → T fr_959 × TH hr_959 := fun r => (r, ())
noncomputable def F_959 (a0 : Int) : Option (Bool) :=
 bif (a0 == (0:Int)) then
 (some true)
 else
 bif (a0 == (1:Int)) then
 (some true)
 else
 (some (a0 == (2:Int)))
noncomputable def G_959 : T fa_959 → TH ha_959 → Option (Bool) := fun x y => F_959 x.1
noncomputable def c_959 : Orc := ent i_959 [] 0 (sp fa_959 ha_959 fr_959 hr_959 G_959 out_959)
theorem ok_959 : OrcOk PR c_959 := fnT okO_959 mixed p_959 (by kernel_rfl) (by kernel_rfl) (L := L_959) (kp := false) (by kernel_rfl) (inn := inn_959) (out := out_959) (fun _ _ => rfl) (loopsL (l := []) (by kernel_rfl) trivial) (fun x y => by kernel_rfl)
noncomputable def O_926 : Orc := (orm c_959 c_933)
theorem okO_926 : OrcOk PR O_926 := (orm_ok ok_959 ok_933)
abbrev fa_926 : Fm := (.pair (.agg (.pair (.i .i64) (.pair (.i .i64) (.pair (.i .i64) (.pair (.si .u32) .unit))))) .unit)
abbrev ha_926 : List BF := []
abbrev fr_926 : Fm := .b
abbrev hr_926 : List BF := []
abbrev ff_926_0 : Fm := (.us 1 (.cst (.ref 0 1 0) (.us 1 (.pair (.i .i64) (.us 52 .unit)))))
abbrev hf_926_0 : List BF := [(.list 1 y_91 true (.pair (.i .i64) (.pair (.i .i64) (.pair (.i .i64) (.pair (.si .u32) .unit)))))]
abbrev X_926_0 : Xs := (.alt (.exit 0) [] (.us 56 .unit) [] (.one .ret [2] (.us 2 (.pair .b (.us 53 .unit))) []))
abbrev S_926_0 : Type := T ff_926_0 × TH hf_926_0
abbrev E_926_0 : Type := TX X_926_0
noncomputable def LB_926_0 : Lps := L0
noncomputable def st_926_0 : StepT S_926_0 E_926_0 := fun R v kn ko =>
 let x0 : Int := v.2.1.2.2.1
 let x1 : List Int := v.2.1.2.2.2.1
 let x2 : Int := v.1.1
 bif (decide (x2 < (((List.length x1) : Nat) : Int))) then
 bif (decide (((0:Int) ≤ x2) ∧ (x2 < (((List.length x1) : Nat) : Int)))) then
 ((F_933 x0)).bind fun r3 =>
 bif ((bits .andNot .u32 (List.getD x1 (Int.toNat x2) (0:Int)) r3) != (0:Int)) then
 (ko (Sum.inr ((false, ()), ())))
 else
 (kn (((IntKind.wrap .i64 (x2 + (1:Int))), ()), ((v.2.1.1, (v.2.1.2.1, (x0, ((List.take (List.length x1) x1), ())))), ())))
 else
 none
 else
 (ko (Sum.inl ((), ())))
noncomputable def ls_926_0 : St → LTr := (lsum ff_926_0 hf_926_0 X_926_0 Prod.mk id st_926_0 (hd [] [] [1, 3] 0))
theorem lp_926_0 : LoopOk PR 0 (lpN f_926 0) ls_926_0 := loopT okO_926 mixed (L := LB_926_0) (d := 1) (bs := []) (ks := [1, 3]) (loopsL (l := []) (by kernel_rfl) trivial) (by kernel_rfl) (inS := Prod.mk) (outS := id) (fun _ _ => rfl) (inX := id) (outX := id) (fun _ => rfl) (fun v R kn ko => by kernel_rfl) (hd_wk [] [] [1, 3] 0)
noncomputable def L_926 : Lps := (lpB 5 (.by_ ls_926_0) L0)
def inn_926 : T fr_926 → TH hr_926 → Bool := (fun z w => z)
def out_926 : Bool → T fr_926 × TH hr_926 := fun r => (r, ())
noncomputable def F_926 (a0 : Int × Int × Int × List Int × Unit) : Option (Bool) :=
 let x0 : Int := a0.2.2.1
 let x1 : List Int := a0.2.2.2.1
 let x2 : Nat := (List.length x1)
 bif (decide (a0.1 < (0:Int))) then
 (some false)
 else
 bif (decide (a0.1 > (4096:Int))) then
 (some false)
 else
 bif (decide (a0.2.1 < (0:Int))) then
 (some false)
 else
 bif (decide (a0.2.1 > (4096:Int))) then
 (some false)
 else
 ((F_959 x0)).bind fun r3 =>
 bif (!r3) then
 (some false)
 else
 bif (((x2 : Nat) : Int) != (IntKind.wrap .i64 (a0.1 * a0.2.1))) then
 (some false)
 else
 ((lim st_926_0 (((0:Int), ()), ((a0.1, (a0.2.1, (x0, ((List.take x2 x1), ())))), ())))).bind fun r4 =>
 els (fun l5 =>
 (some true)) (fun r6 =>
 (some r6.1.1)) r4
noncomputable def G_926 : T fa_926 → TH ha_926 → Option (Bool) := fun x y => F_926 x.1
noncomputable def c_926 : Orc := ent i_926 [] 0 (sp fa_926 ha_926 fr_926 hr_926 G_926 out_926)
theorem ok_926 : OrcOk PR c_926 := fnT okO_926 mixed p_926 (by kernel_rfl) (by kernel_rfl) (L := L_926) (kp := false) (by kernel_rfl) (inn := inn_926) (out := out_926) (fun _ _ => rfl) (loopsL (l := [((lpN f_926 0), ls_926_0)]) (by kernel_rfl) ⟨lp_926_0, trivial⟩) (fun x y => by kernel_rfl)
end Go.Proofs.YtfpjkmgfkaoapaaGreat.VI
