import Derived.Test.YtfpjkmgfkaoapaaGreatT7463aed6
namespace Go.Proofs.YtfpjkmgfkaoapaaGreat.VI
set_option linter.unusedVariables false
set_option linter.unusedSimpArgs false
set_option maxRecDepth 100000
noncomputable def O_9a4 : Orc := orn
theorem okO_9a4 : OrcOk PR O_9a4 := (orn_ok _)
abbrev fa_9a4 : Fm := (.pair .b (.pair (.i .i64) (.pair (.i .u64) .unit)))
abbrev ha_9a4 : List BF := []
abbrev fr_9a4 : Fm := (.agg (.pair .b (.pair (.rep 10 (.i .u64)) .unit)))
abbrev hr_9a4 : List BF := []
noncomputable def L_9a4 : Lps := L0
def inn_9a4 : T fr_9a4 → TH hr_9a4 → Bool × List (Int) × Unit := (fun z w => z)
def out_9a4 : Bool × List (Int) × Unit → T fr_9a4 × TH hr_9a4 := fun r => (r, ())
noncomputable def F_9a4 (a0 : Bool) (a1 : Int) (a2 : Int) : Option (Bool × List (Int) × Unit) :=
 let x0 : Int := (IntKind.wrap .i64 (a1 + (298:Int)))
 let x1 : Int := (IntKind.wrap .i64 (Int.tdiv x0 (64:Int)))
 let x2 : Int := (Int.tmod x0 (64:Int))
 let x3 : List Int := (List.set [(0:Int), (0:Int), (0:Int), (0:Int), (0:Int), (0:Int), (0:Int), (0:Int), (0:Int), (0:Int)] (((1:Nat) + ((Int.toNat x1) * (1:Nat))) - (1:Nat)) (IntKind.wrap .u64 (a2 * ((2:Int) ^ (Min.min (Int.toNat x2) (64:Nat))))))
 let x4 : List Int := (List.set x3 (((1:Nat) + ((Int.toNat (IntKind.wrap .i64 (x1 + (1:Int)))) * (1:Nat))) - (1:Nat)) (a2 / ((2:Int) ^ (Min.min (Int.toNat (IntKind.wrap .i64 ((64:Int) - x2))) (64:Nat)))))
 let x5 : List Int := [(List.getD x4 (0:Nat) (0:Int)), (List.getD x4 (1:Nat) (0:Int)), (List.getD x4 (2:Nat) (0:Int)), (List.getD x4 (3:Nat) (0:Int)), (List.getD x4 (4:Nat) (0:Int)), (List.getD x4 (5:Nat) (0:Int)), (List.getD x4 (6:Nat) (0:Int)), (List.getD x4 (7:Nat) (0:Int)), (List.getD x4 (8:Nat) (0:Int)), (List.getD x4 (9:Nat) (0:Int))]
 let x6 : List Int := [(List.getD x3 (0:Nat) (0:Int)), (List.getD x3 (1:Nat) (0:Int)), (List.getD x3 (2:Nat) (0:Int)), (List.getD x3 (3:Nat) (0:Int)), (List.getD x3 (4:Nat) (0:Int)), (List.getD x3 (5:Nat) (0:Int)), (List.getD x3 (6:Nat) (0:Int)), (List.getD x3 (7:Nat) (0:Int)), (List.getD x3 (8:Nat) (0:Int)), (List.getD x3 (9:Nat) (0:Int))]
 bif (decide ((0:Int) ≤ x2)) then
 bif (decide (((0:Int) ≤ x1) ∧ (x1 < (10:Int)))) then
 bif (decide (((1:Nat) ≤ ((1:Nat) + ((Int.toNat x1) * (1:Nat)))) ∧ (((1:Nat) + ((Int.toNat x1) * (1:Nat))) < (11:Nat)))) then
 bif (decide (x2 > (0:Int))) then
 bif (decide (x1 < (9:Int))) then
 bif (decide ((0:Int) ≤ (IntKind.wrap .i64 ((64:Int) - x2)))) then
 bif (decide (((0:Int) ≤ (IntKind.wrap .i64 (x1 + (1:Int)))) ∧ ((IntKind.wrap .i64 (x1 + (1:Int))) < (10:Int)))) then
 bif (decide (((1:Nat) ≤ ((1:Nat) + ((Int.toNat (IntKind.wrap .i64 (x1 + (1:Int)))) * (1:Nat)))) ∧ (((1:Nat) + ((Int.toNat (IntKind.wrap .i64 (x1 + (1:Int)))) * (1:Nat))) < ((1:Nat) + (List.length x3))))) then
 bif (decide ((11:Nat) = ((1:Nat) + (List.length x4)))) then
 (some (a0, ([(List.getD x5 (0:Nat) (0:Int)), (List.getD x5 (1:Nat) (0:Int)), (List.getD x5 (2:Nat) (0:Int)), (List.getD x5 (3:Nat) (0:Int)), (List.getD x5 (4:Nat) (0:Int)), (List.getD x5 (5:Nat) (0:Int)), (List.getD x5 (6:Nat) (0:Int)), (List.getD x5 (7:Nat) (0:Int)), (List.getD x5 (8:Nat) (0:Int)), (List.getD x5 (9:Nat) (0:Int))], ())))
 else
 none
 else
 none
 else
 none
 else
 none
 else
 bif (decide ((11:Nat) = ((1:Nat) + (List.length x3)))) then
 (some (a0, ([(List.getD x6 (0:Nat) (0:Int)), (List.getD x6 (1:Nat) (0:Int)), (List.getD x6 (2:Nat) (0:Int)), (List.getD x6 (3:Nat) (0:Int)), (List.getD x6 (4:Nat) (0:Int)), (List.getD x6 (5:Nat) (0:Int)), (List.getD x6 (6:Nat) (0:Int)), (List.getD x6 (7:Nat) (0:Int)), (List.getD x6 (8:Nat) (0:Int)), (List.getD x6 (9:Nat) (0:Int))], ())))
 else
 none
 else
 bif (decide ((11:Nat) = ((1:Nat) + (List.length x3)))) then
 (some (a0, ([(List.getD x6 (0:Nat) (0:Int)), (List.getD x6 (1:Nat) (0:Int)), (List.getD x6 (2:Nat) (0:Int)), (List.getD x6 (3:Nat) (0:Int)), (List.getD x6 (4:Nat) (0:Int)), (List.getD x6 (5:Nat) (0:Int)), (List.getD x6 (6:Nat) (0:Int)), (List.getD x6 (7:Nat) (0:Int)), (List.getD x6 (8:Nat) (0:Int)), (List.getD x6 (9:Nat) (0:Int))], ())))
 else
 none
 else
 none
 else
 none
 else
 none
noncomputable def G_9a4 : T fa_9a4 → TH ha_9a4 → Option (Bool × List (Int) × Unit) := fun x y => F_9a4 x.1 x.2.1 x.2.2.1
noncomputable def c_9a4 : Orc := ent i_9a4 [] 0 (sp fa_9a4 ha_9a4 fr_9a4 hr_9a4 G_9a4 out_9a4)
theorem ok_9a4 : OrcOk PR c_9a4 := fnT okO_9a4 mixed p_9a4 (by kernel_rfl) (by kernel_rfl) (L := L_9a4) (kp := false) (by kernel_rfl) (inn := inn_9a4) (out := out_9a4) (fun _ _ => rfl) (loopsL (l := []) (by kernel_rfl) trivial) (fun x y => by kernel_rfl)
noncomputable def O_9b5 : Orc := orn
theorem okO_9b5 : OrcOk PR O_9b5 := (orn_ok _)
abbrev fa_9b5 : Fm := (.pair (.agg (.pair .b (.pair (.rep 10 (.i .u64)) .unit))) (.pair (.agg (.pair .b (.pair (.rep 10 (.i .u64)) .unit))) .unit))
abbrev ha_9b5 : List BF := []
abbrev fr_9b5 : Fm := .b
abbrev hr_9b5 : List BF := []
abbrev ff_9b5_0 : Fm := (.us 2 (.cst (.ref 0 1 0) (.cst (.ref 1 1 0) (.us 1 (.pair (.i .i64) (.us 22 .unit))))))
abbrev hf_9b5_0 : List BF := [(.mix 1 y_97 true (.pair .b .unit) .u64), (.mix 1 y_97 true (.pair .b .unit) .u64)]
abbrev X_9b5_0 : Xs := (.alt (.exit 0) [] (.us 28 .unit) [] (.one .ret [4] (.us 4 (.pair .b (.us 23 .unit))) []))
abbrev S_9b5_0 : Type := T ff_9b5_0 × TH hf_9b5_0
abbrev E_9b5_0 : Type := TX X_9b5_0
noncomputable def LB_9b5_0 : Lps := L0
noncomputable def st_9b5_0 : StepT S_9b5_0 E_9b5_0 := fun R v kn ko =>
 let x0 : Int := v.1.1
 let x1 : Nat := (((1:Nat) + ((Int.toNat x0) * (1:Nat))) - (1:Nat))
 bif (decide (x0 ≥ (0:Int))) then
 bif (decide (((0:Int) ≤ x0) ∧ (x0 < (10:Int)))) then
 bif (decide (((1:Nat) ≤ ((1:Nat) + ((Int.toNat x0) * (1:Nat)))) ∧ (((1:Nat) + ((Int.toNat x0) * (1:Nat))) < ((1:Nat) + (List.length v.2.1.2))))) then
 bif (decide (((0:Int) ≤ x0) ∧ (x0 < (10:Int)))) then
 bif (decide (((1:Nat) ≤ ((1:Nat) + ((Int.toNat x0) * (1:Nat)))) ∧ (((1:Nat) + ((Int.toNat x0) * (1:Nat))) < ((1:Nat) + (List.length v.2.2.1.2))))) then
 bif ((List.getD v.2.1.2 x1 (0:Int)) != (List.getD v.2.2.1.2 x1 (0:Int))) then
 bif (decide (((0:Int) ≤ x0) ∧ (x0 < (10:Int)))) then
 bif (decide (((1:Nat) ≤ ((1:Nat) + ((Int.toNat x0) * (1:Nat)))) ∧ (((1:Nat) + ((Int.toNat x0) * (1:Nat))) < ((1:Nat) + (List.length v.2.1.2))))) then
 bif (decide (((0:Int) ≤ x0) ∧ (x0 < (10:Int)))) then
 bif (decide (((1:Nat) ≤ ((1:Nat) + ((Int.toNat x0) * (1:Nat)))) ∧ (((1:Nat) + ((Int.toNat x0) * (1:Nat))) < ((1:Nat) + (List.length v.2.2.1.2))))) then
 (ko (Sum.inr (((decide ((List.getD v.2.1.2 x1 (0:Int)) < (List.getD v.2.2.1.2 x1 (0:Int)))), ()), ())))
 else
 none
 else
 none
 else
 none
 else
 none
 else
 (kn (((IntKind.wrap .i64 (x0 - (1:Int))), ()), v.2))
 else
 none
 else
 none
 else
 none
 else
 none
 else
 (ko (Sum.inl ((), ())))
noncomputable def ls_9b5_0 : St → LTr := (lsum ff_9b5_0 hf_9b5_0 X_9b5_0 Prod.mk id st_9b5_0 (hd [] [] [2, 3, 5] 0))
theorem lp_9b5_0 : LoopOk PR 0 (lpN f_9b5 0) ls_9b5_0 := loopT okO_9b5 mixed (L := LB_9b5_0) (d := 1) (bs := []) (ks := [2, 3, 5]) (loopsL (l := []) (by kernel_rfl) trivial) (by kernel_rfl) (inS := Prod.mk) (outS := id) (fun _ _ => rfl) (inX := id) (outX := id) (fun _ => rfl) (fun v R kn ko => by kernel_rfl) (hd_wk [] [] [2, 3, 5] 0)
noncomputable def L_9b5 : Lps := (lpB 3 (.by_ ls_9b5_0) L0)
def inn_9b5 : T fr_9b5 → TH hr_9b5 → Bool := (fun z w => z)
def out_9b5 : Bool → T fr_9b5 × TH hr_9b5 := fun r => (r, ())
noncomputable def F_9b5 (a0 : Bool × List (Int) × Unit) (a1 : Bool × List (Int) × Unit) : Option (Bool) :=
 ((lim st_9b5_0 (((9:Int), ()), (((a0.1, ()), [(List.getD a0.2.1 (0:Nat) (0:Int)), (List.getD a0.2.1 (1:Nat) (0:Int)), (List.getD a0.2.1 (2:Nat) (0:Int)), (List.getD a0.2.1 (3:Nat) (0:Int)), (List.getD a0.2.1 (4:Nat) (0:Int)), (List.getD a0.2.1 (5:Nat) (0:Int)), (List.getD a0.2.1 (6:Nat) (0:Int)), (List.getD a0.2.1 (7:Nat) (0:Int)), (List.getD a0.2.1 (8:Nat) (0:Int)), (List.getD a0.2.1 (9:Nat) (0:Int))]), (((a1.1, ()), [(List.getD a1.2.1 (0:Nat) (0:Int)), (List.getD a1.2.1 (1:Nat) (0:Int)), (List.getD a1.2.1 (2:Nat) (0:Int)), (List.getD a1.2.1 (3:Nat) (0:Int)), (List.getD a1.2.1 (4:Nat) (0:Int)), (List.getD a1.2.1 (5:Nat) (0:Int)), (List.getD a1.2.1 (6:Nat) (0:Int)), (List.getD a1.2.1 (7:Nat) (0:Int)), (List.getD a1.2.1 (8:Nat) (0:Int)), (List.getD a1.2.1 (9:Nat) (0:Int))]), ()))))).bind fun r0 =>
 els (fun l1 =>
 (some false)) (fun r2 =>
 (some r2.1.1)) r0
noncomputable def G_9b5 : T fa_9b5 → TH ha_9b5 → Option (Bool) := fun x y => F_9b5 x.1 x.2.1
noncomputable def c_9b5 : Orc := ent i_9b5 [] 0 (sp fa_9b5 ha_9b5 fr_9b5 hr_9b5 G_9b5 out_9b5)
theorem ok_9b5 : OrcOk PR c_9b5 := fnT okO_9b5 mixed p_9b5 (by kernel_rfl) (by kernel_rfl) (L := L_9b5) (kp := false) (by kernel_rfl) (inn := inn_9b5) (out := out_9b5) (fun _ _ => rfl) (loopsL (l := [((lpN f_9b5 0), ls_9b5_0)]) (by kernel_rfl) ⟨lp_9b5_0, trivial⟩) (fun x y => by kernel_rfl)
noncomputable def O_9b4 : Orc := c_9b5
theorem okO_9b4 : OrcOk PR O_9b4 := ok_9b5
abbrev fa_9b4 : Fm := (.pair (.agg (.pair .b (.pair (.rep 10 (.i .u64)) .unit))) (.pair (.agg (.pair .b (.pair (.rep 10 (.i .u64)) .unit))) .unit))
abbrev ha_9b4 : List BF := []
abbrev fr_9b4 : Fm := (.agg (.pair .b (.pair (.rep 10 (.i .u64)) .unit)))
abbrev hr_9b4 : List BF := []
abbrev ff_9b4_0 : Fm := (.us 2 (.cst (.ref 0 1 0) (.cst (.ref 1 1 0) (.cst (.ref 2 1 0) (.pair (.i .u64) (.pair (.i .i64) (.us 44 .unit)))))))
abbrev hf_9b4_0 : List BF := [(.mix 1 y_97 true (.pair .b .unit) .u64), (.mix 1 y_97 true (.pair .b .unit) .u64), (.mix 1 y_97 true (.pair .b .unit) .u64)]
abbrev X_9b4_0 : Xs := (.one (.exit 0) [2, 4] (.us 2 (.cst (.ref 0 1 0) (.us 1 (.cst (.ref 1 1 0) (.us 46 .unit))))) [(.mix 1 y_97 true (.pair .b .unit) .u64), (.mix 1 y_97 true (.pair .b .unit) .u64)])
abbrev S_9b4_0 : Type := T ff_9b4_0 × TH hf_9b4_0
abbrev E_9b4_0 : Type := TX X_9b4_0
noncomputable def LB_9b4_0 : Lps := L0
noncomputable def st_9b4_0 : StepT S_9b4_0 E_9b4_0 := fun R v kn ko =>
 let x0 : Int := v.1.2.1
 let x1 : List Int := v.2.1.2
 let x2 : Nat := (((1:Nat) + ((Int.toNat x0) * (1:Nat))) - (1:Nat))
 bif (decide (x0 < (10:Int))) then
 bif (decide (((0:Int) ≤ x0) ∧ (x0 < (10:Int)))) then
 bif (decide (((1:Nat) ≤ ((1:Nat) + ((Int.toNat x0) * (1:Nat)))) ∧ (((1:Nat) + ((Int.toNat x0) * (1:Nat))) < ((1:Nat) + (List.length x1))))) then
 bif (decide (((0:Int) ≤ x0) ∧ (x0 < (10:Int)))) then
 bif (decide (((1:Nat) ≤ ((1:Nat) + ((Int.toNat x0) * (1:Nat)))) ∧ (((1:Nat) + ((Int.toNat x0) * (1:Nat))) < ((1:Nat) + (List.length v.2.2.1.2))))) then
 bif (decide (((0:Int) ≤ x0) ∧ (x0 < (10:Int)))) then
 bif (decide (((1:Nat) ≤ ((1:Nat) + ((Int.toNat x0) * (1:Nat)))) ∧ (((1:Nat) + ((Int.toNat x0) * (1:Nat))) < ((1:Nat) + (List.length x1))))) then
 bif (decide (((0:Int) ≤ x0) ∧ (x0 < (10:Int)))) then
 bif (decide (((1:Nat) ≤ ((1:Nat) + ((Int.toNat x0) * (1:Nat)))) ∧ (((1:Nat) + ((Int.toNat x0) * (1:Nat))) < ((1:Nat) + (List.length v.2.2.1.2))))) then
 bif (decide ((List.getD x1 x2 (0:Int)) < (List.getD v.2.2.1.2 x2 (0:Int)))) then
 bif (decide (((0:Int) ≤ x0) ∧ (x0 < (10:Int)))) then
 bif (decide (((1:Nat) ≤ ((1:Nat) + ((Int.toNat x0) * (1:Nat)))) ∧ (((1:Nat) + ((Int.toNat x0) * (1:Nat))) < ((1:Nat) + (List.length x1))))) then
 (kn (((1:Int), ((IntKind.wrap .i64 (x0 + (1:Int))), ())), ((v.2.1.1, (List.set x1 x2 (IntKind.wrap .u64 ((IntKind.wrap .u64 ((List.getD x1 x2 (0:Int)) - (List.getD v.2.2.1.2 x2 (0:Int)))) - v.1.1)))), v.2.2)))
 else
 none
 else
 none
 else
 bif (decide (((0:Int) ≤ x0) ∧ (x0 < (10:Int)))) then
 bif (decide (((1:Nat) ≤ ((1:Nat) + ((Int.toNat x0) * (1:Nat)))) ∧ (((1:Nat) + ((Int.toNat x0) * (1:Nat))) < ((1:Nat) + (List.length x1))))) then
 (kn (((bif (decide ((IntKind.wrap .u64 ((List.getD x1 x2 (0:Int)) - (List.getD v.2.2.1.2 x2 (0:Int)))) < v.1.1)) then (1:Int) else (0:Int)), ((IntKind.wrap .i64 (x0 + (1:Int))), ())), ((v.2.1.1, (List.set x1 x2 (IntKind.wrap .u64 ((IntKind.wrap .u64 ((List.getD x1 x2 (0:Int)) - (List.getD v.2.2.1.2 x2 (0:Int)))) - v.1.1)))), v.2.2)))
 else
 none
 else
 none
 else
 none
 else
 none
 else
 none
 else
 none
 else
 none
 else
 none
 else
 none
 else
 none
 else
 (ko ((), (v.2.1, v.2.2.2)))
noncomputable def ls_9b4_0 : St → LTr := (lsum ff_9b4_0 hf_9b4_0 X_9b4_0 Prod.mk id st_9b4_0 (hd [] [] [2, 3, 4, 5, 6] 0))
theorem lp_9b4_0 : LoopOk PR 0 (lpN f_9b4 0) ls_9b4_0 := loopT okO_9b4 mixed (L := LB_9b4_0) (d := 1) (bs := []) (ks := [2, 3, 4, 5, 6]) (loopsL (l := []) (by kernel_rfl) trivial) (by kernel_rfl) (inS := Prod.mk) (outS := id) (fun _ _ => rfl) (inX := id) (outX := id) (fun _ => rfl) (fun v R kn ko => by kernel_rfl) (hd_wk [] [] [2, 3, 4, 5, 6] 0)
noncomputable def L_9b4 : Lps := (lpB 6 (.by_ ls_9b4_0) L0)
def inn_9b4 : T fr_9b4 → TH hr_9b4 → Bool × List (Int) × Unit := (fun z w => z)
def out_9b4 : Bool × List (Int) × Unit → T fr_9b4 × TH hr_9b4 := fun r => (r, ())
noncomputable def F_9b4 (a0 : Bool × List (Int) × Unit) (a1 : Bool × List (Int) × Unit) : Option (Bool × List (Int) × Unit) :=
 let x0 : List Int := [(List.getD a0.2.1 (0:Nat) (0:Int)), (List.getD a0.2.1 (1:Nat) (0:Int)), (List.getD a0.2.1 (2:Nat) (0:Int)), (List.getD a0.2.1 (3:Nat) (0:Int)), (List.getD a0.2.1 (4:Nat) (0:Int)), (List.getD a0.2.1 (5:Nat) (0:Int)), (List.getD a0.2.1 (6:Nat) (0:Int)), (List.getD a0.2.1 (7:Nat) (0:Int)), (List.getD a0.2.1 (8:Nat) (0:Int)), (List.getD a0.2.1 (9:Nat) (0:Int))]
 let x1 : Int := (List.getD x0 (0:Nat) (0:Int))
 let x2 : Int := (List.getD x0 (1:Nat) (0:Int))
 let x3 : Int := (List.getD x0 (2:Nat) (0:Int))
 let x4 : Int := (List.getD x0 (3:Nat) (0:Int))
 let x5 : Int := (List.getD x0 (4:Nat) (0:Int))
 let x6 : Int := (List.getD x0 (5:Nat) (0:Int))
 let x7 : Int := (List.getD x0 (6:Nat) (0:Int))
 let x8 : Int := (List.getD x0 (7:Nat) (0:Int))
 let x9 : Int := (List.getD x0 (8:Nat) (0:Int))
 let x10 : Int := (List.getD x0 (9:Nat) (0:Int))
 let x11 : List Int := [(List.getD a1.2.1 (0:Nat) (0:Int)), (List.getD a1.2.1 (1:Nat) (0:Int)), (List.getD a1.2.1 (2:Nat) (0:Int)), (List.getD a1.2.1 (3:Nat) (0:Int)), (List.getD a1.2.1 (4:Nat) (0:Int)), (List.getD a1.2.1 (5:Nat) (0:Int)), (List.getD a1.2.1 (6:Nat) (0:Int)), (List.getD a1.2.1 (7:Nat) (0:Int)), (List.getD a1.2.1 (8:Nat) (0:Int)), (List.getD a1.2.1 (9:Nat) (0:Int))]
 let x12 : Int := (List.getD x11 (0:Nat) (0:Int))
 let x13 : Int := (List.getD x11 (1:Nat) (0:Int))
 let x14 : Int := (List.getD x11 (2:Nat) (0:Int))
 let x15 : Int := (List.getD x11 (3:Nat) (0:Int))
 let x16 : Int := (List.getD x11 (4:Nat) (0:Int))
 let x17 : Int := (List.getD x11 (5:Nat) (0:Int))
 let x18 : Int := (List.getD x11 (6:Nat) (0:Int))
 let x19 : Int := (List.getD x11 (7:Nat) (0:Int))
 let x20 : Int := (List.getD x11 (8:Nat) (0:Int))
 let x21 : Int := (List.getD x11 (9:Nat) (0:Int))
 ((F_9b5 (a0.1, ([x1, x2, x3, x4, x5, x6, x7, x8, x9, x10], ())) (a1.1, ([x12, x13, x14, x15, x16, x17, x18, x19, x20, x21], ())))).bind fun r22 =>
 bif r22 then
 ((lim st_9b4_0 (((0:Int), ((0:Int), ())), (((a1.1, ()), [x12, x13, x14, x15, x16, x17, x18, x19, x20, x21]), (((a0.1, ()), [x1, x2, x3, x4, x5, x6, x7, x8, x9, x10]), (((false, ()), [(0:Int), (0:Int), (0:Int), (0:Int), (0:Int), (0:Int), (0:Int), (0:Int), (0:Int), (0:Int)]), ())))))).bind fun r23 =>
 let x24 : List Int := r23.2.1.2
 let x25 : List Int := [(List.getD x24 (0:Nat) (0:Int)), (List.getD x24 (1:Nat) (0:Int)), (List.getD x24 (2:Nat) (0:Int)), (List.getD x24 (3:Nat) (0:Int)), (List.getD x24 (4:Nat) (0:Int)), (List.getD x24 (5:Nat) (0:Int)), (List.getD x24 (6:Nat) (0:Int)), (List.getD x24 (7:Nat) (0:Int)), (List.getD x24 (8:Nat) (0:Int)), (List.getD x24 (9:Nat) (0:Int))]
 bif (decide ((11:Nat) = ((1:Nat) + (List.length x24)))) then
 bif (decide (((0:Nat) = (0:Nat)) ∧ (((10:Nat) = (List.length r23.2.2.1.2)) ∧ ((1:Nat) ≤ (11:Nat))))) then
 (some (r23.2.1.1.1, ([(List.getD x25 (0:Nat) (0:Int)), (List.getD x25 (1:Nat) (0:Int)), (List.getD x25 (2:Nat) (0:Int)), (List.getD x25 (3:Nat) (0:Int)), (List.getD x25 (4:Nat) (0:Int)), (List.getD x25 (5:Nat) (0:Int)), (List.getD x25 (6:Nat) (0:Int)), (List.getD x25 (7:Nat) (0:Int)), (List.getD x25 (8:Nat) (0:Int)), (List.getD x25 (9:Nat) (0:Int))], ())))
 else
 none
 else
 none
 else
 ((lim st_9b4_0 (((0:Int), ((0:Int), ())), (((a0.1, ()), x0), (((a1.1, ()), x11), (((false, ()), [(0:Int), (0:Int), (0:Int), (0:Int), (0:Int), (0:Int), (0:Int), (0:Int), (0:Int), (0:Int)]), ())))))).bind fun r26 =>
 let x27 : List Int := r26.2.1.2
 let x28 : List Int := [(List.getD x27 (0:Nat) (0:Int)), (List.getD x27 (1:Nat) (0:Int)), (List.getD x27 (2:Nat) (0:Int)), (List.getD x27 (3:Nat) (0:Int)), (List.getD x27 (4:Nat) (0:Int)), (List.getD x27 (5:Nat) (0:Int)), (List.getD x27 (6:Nat) (0:Int)), (List.getD x27 (7:Nat) (0:Int)), (List.getD x27 (8:Nat) (0:Int)), (List.getD x27 (9:Nat) (0:Int))]
 bif (decide ((11:Nat) = ((1:Nat) + (List.length x27)))) then
 bif (decide (((0:Nat) = (0:Nat)) ∧ (((10:Nat) = (List.length r26.2.2.1.2)) ∧ ((1:Nat) ≤ (11:Nat))))) then
 (some (r26.2.1.1.1, ([(List.getD x28 (0:Nat) (0:Int)), (List.getD x28 (1:Nat) (0:Int)), (List.getD x28 (2:Nat) (0:Int)), (List.getD x28 (3:Nat) (0:Int)), (List.getD x28 (4:Nat) (0:Int)), (List.getD x28 (5:Nat) (0:Int)), (List.getD x28 (6:Nat) (0:Int)), (List.getD x28 (7:Nat) (0:Int)), (List.getD x28 (8:Nat) (0:Int)), (List.getD x28 (9:Nat) (0:Int))], ())))
 else
 none
 else
 none
noncomputable def G_9b4 : T fa_9b4 → TH ha_9b4 → Option (Bool × List (Int) × Unit) := fun x y => F_9b4 x.1 x.2.1
noncomputable def c_9b4 : Orc := ent i_9b4 [] 0 (sp fa_9b4 ha_9b4 fr_9b4 hr_9b4 G_9b4 out_9b4)
theorem ok_9b4 : OrcOk PR c_9b4 := fnT okO_9b4 mixed p_9b4 (by kernel_rfl) (by kernel_rfl) (L := L_9b4) (kp := false) (by kernel_rfl) (inn := inn_9b4) (out := out_9b4) (fun _ _ => rfl) (loopsL (l := [((lpN f_9b4 0), ls_9b4_0)]) (by kernel_rfl) ⟨lp_9b4_0, trivial⟩) (fun x y => by kernel_rfl)
noncomputable def O_9b0 : Orc := c_9b4
theorem okO_9b0 : OrcOk PR O_9b0 := ok_9b4
abbrev fa_9b0 : Fm := (.pair (.agg (.pair .b (.pair (.rep 10 (.i .u64)) .unit))) (.pair (.agg (.pair .b (.pair (.rep 10 (.i .u64)) .unit))) .unit))
abbrev ha_9b0 : List BF := []
abbrev fr_9b0 : Fm := (.agg (.pair .b (.pair (.rep 10 (.i .u64)) .unit)))
abbrev hr_9b0 : List BF := []
abbrev ff_9b0_0 : Fm := (.us 2 (.cst (.ref 0 1 0) (.cst (.ref 1 1 0) (.cst (.ref 2 1 0) (.pair (.i .u64) (.pair (.i .i64) (.us 42 .unit)))))))
abbrev hf_9b0_0 : List BF := [(.mix 1 y_97 true (.pair .b .unit) .u64), (.mix 1 y_97 true (.pair .b .unit) .u64), (.mix 1 y_97 true (.pair .b .unit) .u64)]
abbrev X_9b0_0 : Xs := (.one (.exit 0) [2, 4] (.us 2 (.cst (.ref 0 1 0) (.us 1 (.cst (.ref 1 1 0) (.us 44 .unit))))) [(.mix 1 y_97 true (.pair .b .unit) .u64), (.mix 1 y_97 true (.pair .b .unit) .u64)])
abbrev S_9b0_0 : Type := T ff_9b0_0 × TH hf_9b0_0
abbrev E_9b0_0 : Type := TX X_9b0_0
noncomputable def LB_9b0_0 : Lps := L0
noncomputable def st_9b0_0 : StepT S_9b0_0 E_9b0_0 := fun R v kn ko =>
 let x0 : Int := v.1.2.1
 let x1 : List Int := v.2.1.2
 let x2 : Nat := (((1:Nat) + ((Int.toNat x0) * (1:Nat))) - (1:Nat))
 bif (decide (x0 < (10:Int))) then
 bif (decide (((0:Int) ≤ x0) ∧ (x0 < (10:Int)))) then
 bif (decide (((1:Nat) ≤ ((1:Nat) + ((Int.toNat x0) * (1:Nat)))) ∧ (((1:Nat) + ((Int.toNat x0) * (1:Nat))) < ((1:Nat) + (List.length x1))))) then
 bif (decide (((0:Int) ≤ x0) ∧ (x0 < (10:Int)))) then
 bif (decide (((1:Nat) ≤ ((1:Nat) + ((Int.toNat x0) * (1:Nat)))) ∧ (((1:Nat) + ((Int.toNat x0) * (1:Nat))) < ((1:Nat) + (List.length v.2.2.1.2))))) then
 bif (decide (((0:Int) ≤ x0) ∧ (x0 < (10:Int)))) then
 bif (decide (((1:Nat) ≤ ((1:Nat) + ((Int.toNat x0) * (1:Nat)))) ∧ (((1:Nat) + ((Int.toNat x0) * (1:Nat))) < ((1:Nat) + (List.length x1))))) then
 bif (decide ((IntKind.wrap .u64 ((List.getD x1 x2 (0:Int)) + (List.getD v.2.2.1.2 x2 (0:Int)))) < (List.getD x1 x2 (0:Int)))) then
 bif (decide (((0:Int) ≤ x0) ∧ (x0 < (10:Int)))) then
 bif (decide (((1:Nat) ≤ ((1:Nat) + ((Int.toNat x0) * (1:Nat)))) ∧ (((1:Nat) + ((Int.toNat x0) * (1:Nat))) < ((1:Nat) + (List.length x1))))) then
 (kn (((1:Int), ((IntKind.wrap .i64 (x0 + (1:Int))), ())), ((v.2.1.1, (List.set x1 x2 (IntKind.wrap .u64 ((IntKind.wrap .u64 ((List.getD x1 x2 (0:Int)) + (List.getD v.2.2.1.2 x2 (0:Int)))) + v.1.1)))), v.2.2)))
 else
 none
 else
 none
 else
 bif (decide (((0:Int) ≤ x0) ∧ (x0 < (10:Int)))) then
 bif (decide (((1:Nat) ≤ ((1:Nat) + ((Int.toNat x0) * (1:Nat)))) ∧ (((1:Nat) + ((Int.toNat x0) * (1:Nat))) < ((1:Nat) + (List.length x1))))) then
 (kn (((bif (decide ((IntKind.wrap .u64 ((IntKind.wrap .u64 ((List.getD x1 x2 (0:Int)) + (List.getD v.2.2.1.2 x2 (0:Int)))) + v.1.1)) < (IntKind.wrap .u64 ((List.getD x1 x2 (0:Int)) + (List.getD v.2.2.1.2 x2 (0:Int)))))) then (1:Int) else (0:Int)), ((IntKind.wrap .i64 (x0 + (1:Int))), ())), ((v.2.1.1, (List.set x1 x2 (IntKind.wrap .u64 ((IntKind.wrap .u64 ((List.getD x1 x2 (0:Int)) + (List.getD v.2.2.1.2 x2 (0:Int)))) + v.1.1)))), v.2.2)))
 else
 none
 else
 none
 else
 none
 else
 none
 else
 none
 else
 none
 else
 none
 else
 none
 else
 (ko ((), (v.2.1, v.2.2.2)))
noncomputable def ls_9b0_0 : St → LTr := (lsum ff_9b0_0 hf_9b0_0 X_9b0_0 Prod.mk id st_9b0_0 (hd [] [] [2, 3, 4, 5, 6] 0))
theorem lp_9b0_0 : LoopOk PR 0 (lpN f_9b0 0) ls_9b0_0 := loopT okO_9b0 mixed (L := LB_9b0_0) (d := 1) (bs := []) (ks := [2, 3, 4, 5, 6]) (loopsL (l := []) (by kernel_rfl) trivial) (by kernel_rfl) (inS := Prod.mk) (outS := id) (fun _ _ => rfl) (inX := id) (outX := id) (fun _ => rfl) (fun v R kn ko => by kernel_rfl) (hd_wk [] [] [2, 3, 4, 5, 6] 0)
noncomputable def L_9b0 : Lps := (lpB 6 (.by_ ls_9b0_0) L0)
def inn_9b0 : T fr_9b0 → TH hr_9b0 → Bool × List (Int) × Unit := (fun z w => z)
def out_9b0 : Bool × List (Int) × Unit → T fr_9b0 × TH hr_9b0 := fun r => (r, ())
noncomputable def F_9b0 (a0 : Bool × List (Int) × Unit) (a1 : Bool × List (Int) × Unit) : Option (Bool × List (Int) × Unit) :=
 let x0 : List Int := [(List.getD a0.2.1 (0:Nat) (0:Int)), (List.getD a0.2.1 (1:Nat) (0:Int)), (List.getD a0.2.1 (2:Nat) (0:Int)), (List.getD a0.2.1 (3:Nat) (0:Int)), (List.getD a0.2.1 (4:Nat) (0:Int)), (List.getD a0.2.1 (5:Nat) (0:Int)), (List.getD a0.2.1 (6:Nat) (0:Int)), (List.getD a0.2.1 (7:Nat) (0:Int)), (List.getD a0.2.1 (8:Nat) (0:Int)), (List.getD a0.2.1 (9:Nat) (0:Int))]
 let x1 : List Int := [(List.getD a1.2.1 (0:Nat) (0:Int)), (List.getD a1.2.1 (1:Nat) (0:Int)), (List.getD a1.2.1 (2:Nat) (0:Int)), (List.getD a1.2.1 (3:Nat) (0:Int)), (List.getD a1.2.1 (4:Nat) (0:Int)), (List.getD a1.2.1 (5:Nat) (0:Int)), (List.getD a1.2.1 (6:Nat) (0:Int)), (List.getD a1.2.1 (7:Nat) (0:Int)), (List.getD a1.2.1 (8:Nat) (0:Int)), (List.getD a1.2.1 (9:Nat) (0:Int))]
 bif (!(a0.1 == a1.1)) then
 ((F_9b4 (a0.1, ([(List.getD x0 (0:Nat) (0:Int)), (List.getD x0 (1:Nat) (0:Int)), (List.getD x0 (2:Nat) (0:Int)), (List.getD x0 (3:Nat) (0:Int)), (List.getD x0 (4:Nat) (0:Int)), (List.getD x0 (5:Nat) (0:Int)), (List.getD x0 (6:Nat) (0:Int)), (List.getD x0 (7:Nat) (0:Int)), (List.getD x0 (8:Nat) (0:Int)), (List.getD x0 (9:Nat) (0:Int))], ())) (a1.1, ([(List.getD x1 (0:Nat) (0:Int)), (List.getD x1 (1:Nat) (0:Int)), (List.getD x1 (2:Nat) (0:Int)), (List.getD x1 (3:Nat) (0:Int)), (List.getD x1 (4:Nat) (0:Int)), (List.getD x1 (5:Nat) (0:Int)), (List.getD x1 (6:Nat) (0:Int)), (List.getD x1 (7:Nat) (0:Int)), (List.getD x1 (8:Nat) (0:Int)), (List.getD x1 (9:Nat) (0:Int))], ())))).bind fun r2 =>
 let x3 : List Int := [(List.getD r2.2.1 (0:Nat) (0:Int)), (List.getD r2.2.1 (1:Nat) (0:Int)), (List.getD r2.2.1 (2:Nat) (0:Int)), (List.getD r2.2.1 (3:Nat) (0:Int)), (List.getD r2.2.1 (4:Nat) (0:Int)), (List.getD r2.2.1 (5:Nat) (0:Int)), (List.getD r2.2.1 (6:Nat) (0:Int)), (List.getD r2.2.1 (7:Nat) (0:Int)), (List.getD r2.2.1 (8:Nat) (0:Int)), (List.getD r2.2.1 (9:Nat) (0:Int))]
 (some (r2.1, ([(List.getD x3 (0:Nat) (0:Int)), (List.getD x3 (1:Nat) (0:Int)), (List.getD x3 (2:Nat) (0:Int)), (List.getD x3 (3:Nat) (0:Int)), (List.getD x3 (4:Nat) (0:Int)), (List.getD x3 (5:Nat) (0:Int)), (List.getD x3 (6:Nat) (0:Int)), (List.getD x3 (7:Nat) (0:Int)), (List.getD x3 (8:Nat) (0:Int)), (List.getD x3 (9:Nat) (0:Int))], ())))
 else
 ((lim st_9b0_0 (((0:Int), ((0:Int), ())), (((a0.1, ()), x0), (((a1.1, ()), x1), (((false, ()), [(0:Int), (0:Int), (0:Int), (0:Int), (0:Int), (0:Int), (0:Int), (0:Int), (0:Int), (0:Int)]), ())))))).bind fun r4 =>
 let x5 : List Int := r4.2.1.2
 let x6 : List Int := [(List.getD x5 (0:Nat) (0:Int)), (List.getD x5 (1:Nat) (0:Int)), (List.getD x5 (2:Nat) (0:Int)), (List.getD x5 (3:Nat) (0:Int)), (List.getD x5 (4:Nat) (0:Int)), (List.getD x5 (5:Nat) (0:Int)), (List.getD x5 (6:Nat) (0:Int)), (List.getD x5 (7:Nat) (0:Int)), (List.getD x5 (8:Nat) (0:Int)), (List.getD x5 (9:Nat) (0:Int))]
 bif (decide ((11:Nat) = ((1:Nat) + (List.length x5)))) then
 bif (decide (((0:Nat) = (0:Nat)) ∧ (((10:Nat) = (List.length r4.2.2.1.2)) ∧ ((1:Nat) ≤ (11:Nat))))) then
 (some (r4.2.1.1.1, ([(List.getD x6 (0:Nat) (0:Int)), (List.getD x6 (1:Nat) (0:Int)), (List.getD x6 (2:Nat) (0:Int)), (List.getD x6 (3:Nat) (0:Int)), (List.getD x6 (4:Nat) (0:Int)), (List.getD x6 (5:Nat) (0:Int)), (List.getD x6 (6:Nat) (0:Int)), (List.getD x6 (7:Nat) (0:Int)), (List.getD x6 (8:Nat) (0:Int)), (List.getD x6 (9:Nat) (0:Int))], ())))
 else
 none
 else
 none
noncomputable def G_9b0 : T fa_9b0 → TH ha_9b0 → Option (Bool × List (Int) × Unit) := fun x y => F_9b0 x.1 x.2.1
noncomputable def c_9b0 : Orc := ent i_9b0 [] 0 (sp fa_9b0 ha_9b0 fr_9b0 hr_9b0 G_9b0 out_9b0)
theorem ok_9b0 : OrcOk PR c_9b0 := fnT okO_9b0 mixed p_9b0 (by kernel_rfl) (by kernel_rfl) (L := L_9b0) (kp := false) (by kernel_rfl) (inn := inn_9b0) (out := out_9b0) (fun _ _ => rfl) (loopsL (l := [((lpN f_9b0 0), ls_9b0_0)]) (by kernel_rfl) ⟨lp_9b0_0, trivial⟩) (fun x y => by kernel_rfl)
noncomputable def O_9b2 : Orc := (orm c_984 c_958)
theorem okO_9b2 : OrcOk PR O_9b2 := (orm_ok ok_984 ok_958)
abbrev fa_9b2 : Fm := (.pair (.i .i64) (.pair (.i .i64) (.pair (.agg (.pair .b (.pair (.rep 10 (.i .u64)) .unit))) .unit)))
abbrev ha_9b2 : List BF := []
abbrev fr_9b2 : Fm := (.tup (.pair (.i .u32) (.pair (.agg (.pair .b (.pair .b (.pair .b (.pair .b (.pair .b .unit)))))) .unit)))
abbrev hr_9b2 : List BF := []
abbrev ff_9b2_0 : Fm := (.pair (.i .i64) (.pair (.i .i64) (.us 3 (.cst (.ref 0 1 0) (.us 1 (.cst (.ref 1 1 0) (.pair (.i .i64) (.us 86 .unit))))))))
abbrev hf_9b2_0 : List BF := [(.mix 1 y_97 true (.pair .b .unit) .u64), (.list 1 y_94 true (.pair .b (.pair .b (.pair .b (.pair .b (.pair .b .unit))))))]
abbrev X_9b2_0 : Xs := (.one (.exit 0) [0, 1, 5, 7, 8] (.pair (.i .i64) (.pair (.i .i64) (.us 3 (.cst (.ref 0 1 0) (.us 1 (.cst (.ref 1 1 0) (.pair (.i .i64) (.us 86 .unit)))))))) [(.mix 1 y_97 true (.pair .b .unit) .u64), (.list 1 y_94 true (.pair .b (.pair .b (.pair .b (.pair .b (.pair .b .unit))))))])
abbrev S_9b2_0 : Type := T ff_9b2_0 × TH hf_9b2_0
abbrev E_9b2_0 : Type := TX X_9b2_0
noncomputable def LB_9b2_0 : Lps := L0
noncomputable def st_9b2_0 : StepT S_9b2_0 E_9b2_0 := fun R v kn ko =>
 let x0 : Int := v.1.2.2.1
 bif (decide (((0:Int) ≤ x0) ∧ (x0 < (10:Int)))) then
 bif (decide (((1:Nat) ≤ ((1:Nat) + ((Int.toNat x0) * (1:Nat)))) ∧ (((1:Nat) + ((Int.toNat x0) * (1:Nat))) < ((1:Nat) + (List.length v.2.1.2))))) then
 bif ((List.getD v.2.1.2 (((1:Nat) + ((Int.toNat x0) * (1:Nat))) - (1:Nat)) (0:Int)) == (0:Int)) then
 (kn ((v.1.1, (v.1.2.1, ((IntKind.wrap .i64 (x0 - (1:Int))), ()))), v.2))
 else
 (ko v)
 else
 none
 else
 none
noncomputable def ls_9b2_0 : St → LTr := (lsum ff_9b2_0 hf_9b2_0 X_9b2_0 Prod.mk id st_9b2_0 (hd [] [] [0, 1, 5, 7, 8] 0))
theorem lp_9b2_0 : LoopOk PR 0 (lpN f_9b2 0) ls_9b2_0 := loopT okO_9b2 mixed (L := LB_9b2_0) (d := 1) (bs := []) (ks := [0, 1, 5, 7, 8]) (loopsL (l := []) (by kernel_rfl) trivial) (by kernel_rfl) (inS := Prod.mk) (outS := id) (fun _ _ => rfl) (inX := id) (outX := id) (fun _ => rfl) (fun v R kn ko => by kernel_rfl) (hd_wk [] [] [0, 1, 5, 7, 8] 0)
abbrev ff_9b2_1 : Fm := (.pair (.i .i64) (.pair (.i .i64) (.us 3 (.cst (.ref 0 1 0) (.us 1 (.cst (.ref 1 1 0) (.pair (.i .i64) (.us 1 (.pair (.i .u64) (.pair (.i .i64) (.pair .b (.us 2 (.pair (.i .i64) (.us 79 .unit))))))))))))))
abbrev hf_9b2_1 : List BF := [(.mix 1 y_97 true (.pair .b .unit) .u64), (.list 1 y_94 true (.pair .b (.pair .b (.pair .b (.pair .b (.pair .b .unit))))))]
abbrev X_9b2_1 : Xs := (.one (.exit 2) [0, 1, 5, 7, 10, 11, 12] (.pair (.i .i64) (.pair (.i .i64) (.us 3 (.cst (.ref 0 1 0) (.us 1 (.cst (.ref 1 1 0) (.us 2 (.pair (.i .u64) (.pair (.i .i64) (.pair .b (.us 82 .unit))))))))))) [(.mix 1 y_97 true (.pair .b .unit) .u64), (.list 1 y_94 true (.pair .b (.pair .b (.pair .b (.pair .b (.pair .b .unit))))))])
abbrev S_9b2_1 : Type := T ff_9b2_1 × TH hf_9b2_1
abbrev E_9b2_1 : Type := TX X_9b2_1
noncomputable def LB_9b2_1 : Lps := (lpB 3 (.by_ ls_9b2_0) L0)
noncomputable def st_9b2_1 : StepT S_9b2_1 E_9b2_1 := fun R v kn ko =>
 let x0 : Bool := v.1.2.2.2.2.2.1
 let x1 : Int := v.1.1
 let x2 : Int := v.1.2.1
 let x3 : Int := v.1.2.2.1
 let x4 : Int := v.1.2.2.2.1
 let x5 : Int := v.1.2.2.2.2.1
 let x6 : Int := v.1.2.2.2.2.2.2.1
 bif (decide (x6 < (IntKind.wrap .i64 (x3 - (1:Int))))) then
 bif x0 then
 (kn ((x1, (x2, (x3, (x4, (x5, (true, ((IntKind.wrap .i64 (x6 + (1:Int))), ()))))))), v.2))
 else
 bif (decide (((0:Int) ≤ x6) ∧ (x6 < (10:Int)))) then
 bif (decide (((1:Nat) ≤ ((1:Nat) + ((Int.toNat x6) * (1:Nat)))) ∧ (((1:Nat) + ((Int.toNat x6) * (1:Nat))) < ((1:Nat) + (List.length v.2.1.2))))) then
 (kn ((x1, (x2, (x3, (x4, (x5, (((List.getD v.2.1.2 (((1:Nat) + ((Int.toNat x6) * (1:Nat))) - (1:Nat)) (0:Int)) != (0:Int)), ((IntKind.wrap .i64 (x6 + (1:Int))), ()))))))), v.2))
 else
 none
 else
 none
 else
 (ko ((x1, (x2, (x4, (x5, (x0, ()))))), v.2))
noncomputable def ls_9b2_1 : St → LTr := (lsum ff_9b2_1 hf_9b2_1 X_9b2_1 Prod.mk id st_9b2_1 (hd [] [] [0, 1, 5, 7, 8, 10, 11, 12, 15] 0))
theorem lp_9b2_1 : LoopOk PR 0 (lpN f_9b2 1) ls_9b2_1 := loopT okO_9b2 mixed (L := LB_9b2_1) (d := 1) (bs := []) (ks := [0, 1, 5, 7, 8, 10, 11, 12, 15]) (loopsL (l := []) (by kernel_rfl) trivial) (by kernel_rfl) (inS := Prod.mk) (outS := id) (fun _ _ => rfl) (inX := id) (outX := id) (fun _ => rfl) (fun v R kn ko => by kernel_rfl) (hd_wk [] [] [0, 1, 5, 7, 8, 10, 11, 12, 15] 0)
noncomputable def L_9b2 : Lps := (lpB 20 (.by_ ls_9b2_1) (lpB 3 (.by_ ls_9b2_0) L0))
def inn_9b2 : T fr_9b2 → TH hr_9b2 → Int × (Bool × Bool × Bool × Bool × Bool × Unit) × Unit := (fun z w => z)
def out_9b2 : Int × (Bool × Bool × Bool × Bool × Bool × Unit) × Unit → T fr_9b2 × TH hr_9b2 := fun r => (r, ())
noncomputable def F_9b2 (a0 : Int) (a1 : Int) (a2 : Bool × List (Int) × Unit) : Option (Int × (Bool × Bool × Bool × Bool × Bool × Unit) × Unit) :=
 ((lim st_9b2_0 ((a0, (a1, ((9:Int), ()))), (((a2.1, ()), [(List.getD a2.2.1 (0:Nat) (0:Int)), (List.getD a2.2.1 (1:Nat) (0:Int)), (List.getD a2.2.1 (2:Nat) (0:Int)), (List.getD a2.2.1 (3:Nat) (0:Int)), (List.getD a2.2.1 (4:Nat) (0:Int)), (List.getD a2.2.1 (5:Nat) (0:Int)), (List.getD a2.2.1 (6:Nat) (0:Int)), (List.getD a2.2.1 (7:Nat) (0:Int)), (List.getD a2.2.1 (8:Nat) (0:Int)), (List.getD a2.2.1 (9:Nat) (0:Int))]), ((false, (false, (false, (false, (false, ()))))), ()))))).bind fun r0 =>
 let x1 : List Int := r0.2.1.2
 let x2 : Int := r0.1.2.2.1
 let x3 : Int := (List.getD x1 (((1:Nat) + ((Int.toNat x2) * (1:Nat))) - (1:Nat)) (0:Int))
 let x4 : Int := r0.1.1
 let x5 : Int := r0.1.2.1
 let x6 : Int := (IntKind.wrap .i64 ((IntKind.wrap .i64 ((64:Int) * x2)) - (298:Int)))
 let x7 : Int := (List.getD x1 (((1:Nat) + ((Int.toNat (IntKind.wrap .i64 (x2 - (1:Int)))) * (1:Nat))) - (1:Nat)) (0:Int))
 bif (decide (((0:Int) ≤ x2) ∧ (x2 < (10:Int)))) then
 bif (decide (((1:Nat) ≤ ((1:Nat) + ((Int.toNat x2) * (1:Nat)))) ∧ (((1:Nat) + ((Int.toNat x2) * (1:Nat))) < ((1:Nat) + (List.length x1))))) then
 ((F_984 x3)).bind fun r8 =>
 let x9 : Int := (IntKind.wrap .i64 ((64:Int) - r8))
 let x10 : Int := (IntKind.wrap .i64 (x6 - x9))
 let x11 : Int := ((2:Int) ^ (Min.min (Int.toNat x9) (64:Nat)))
 let x12 : Int := (bits .or .u64 (IntKind.wrap .u64 (x3 * x11)) (x7 / ((2:Int) ^ (Min.min (Int.toNat r8) (64:Nat)))))
 bif (decide (((0:Int) ≤ x2) ∧ (x2 < (10:Int)))) then
 bif (decide (((1:Nat) ≤ ((1:Nat) + ((Int.toNat x2) * (1:Nat)))) ∧ (((1:Nat) + ((Int.toNat x2) * (1:Nat))) < ((1:Nat) + (List.length x1))))) then
 bif (decide (x2 > (0:Int))) then
 bif (decide ((0:Int) ≤ x9)) then
 bif (decide (((0:Int) ≤ (IntKind.wrap .i64 (x2 - (1:Int)))) ∧ ((IntKind.wrap .i64 (x2 - (1:Int))) < (10:Int)))) then
 bif (decide (((1:Nat) ≤ ((1:Nat) + ((Int.toNat (IntKind.wrap .i64 (x2 - (1:Int)))) * (1:Nat)))) ∧ (((1:Nat) + ((Int.toNat (IntKind.wrap .i64 (x2 - (1:Int)))) * (1:Nat))) < ((1:Nat) + (List.length x1))))) then
 bif (decide ((0:Int) ≤ r8)) then
 bif (r8 == (64:Int)) then
 bif (decide (((0:Int) ≤ x2) ∧ (x2 < (10:Int)))) then
 bif (decide (((1:Nat) ≤ ((1:Nat) + ((Int.toNat x2) * (1:Nat)))) ∧ (((1:Nat) + ((Int.toNat x2) * (1:Nat))) < ((1:Nat) + (List.length x1))))) then
 bif (decide (((0:Int) ≤ (IntKind.wrap .i64 (x2 - (1:Int)))) ∧ ((IntKind.wrap .i64 (x2 - (1:Int))) < (10:Int)))) then
 bif (decide (((1:Nat) ≤ ((1:Nat) + ((Int.toNat (IntKind.wrap .i64 (x2 - (1:Int)))) * (1:Nat)))) ∧ (((1:Nat) + ((Int.toNat (IntKind.wrap .i64 (x2 - (1:Int)))) * (1:Nat))) < ((1:Nat) + (List.length x1))))) then
 bif (decide (r8 < (64:Int))) then
 bif (decide ((0:Int) ≤ x9)) then
 ((lim st_9b2_1 ((x4, (x5, (x2, (x3, (x10, (((IntKind.wrap .u64 (x7 * x11)) != (0:Int)), ((0:Int), ()))))))), r0.2))).bind fun r13 =>
 ((F_958 r13.1.1 r13.1.2.1 r13.2.1.1.1 r13.1.2.2.2.1 r13.1.2.2.1 r13.1.2.2.2.2.1)).bind fun r14 =>
 (some r14)
 else
 none
 else
 ((lim st_9b2_1 ((x4, (x5, (x2, (x3, (x10, ((x7 != (0:Int)), ((0:Int), ()))))))), r0.2))).bind fun r15 =>
 ((F_958 r15.1.1 r15.1.2.1 r15.2.1.1.1 r15.1.2.2.2.1 r15.1.2.2.1 r15.1.2.2.2.2.1)).bind fun r16 =>
 (some r16)
 else
 none
 else
 none
 else
 none
 else
 none
 else
 bif (decide (((0:Int) ≤ (IntKind.wrap .i64 (x2 - (1:Int)))) ∧ ((IntKind.wrap .i64 (x2 - (1:Int))) < (10:Int)))) then
 bif (decide (((1:Nat) ≤ ((1:Nat) + ((Int.toNat (IntKind.wrap .i64 (x2 - (1:Int)))) * (1:Nat)))) ∧ (((1:Nat) + ((Int.toNat (IntKind.wrap .i64 (x2 - (1:Int)))) * (1:Nat))) < ((1:Nat) + (List.length x1))))) then
 bif (decide (r8 < (64:Int))) then
 bif (decide ((0:Int) ≤ x9)) then
 ((lim st_9b2_1 ((x4, (x5, (x2, (x12, (x10, (((IntKind.wrap .u64 (x7 * x11)) != (0:Int)), ((0:Int), ()))))))), r0.2))).bind fun r17 =>
 ((F_958 r17.1.1 r17.1.2.1 r17.2.1.1.1 r17.1.2.2.2.1 r17.1.2.2.1 r17.1.2.2.2.2.1)).bind fun r18 =>
 (some r18)
 else
 none
 else
 ((lim st_9b2_1 ((x4, (x5, (x2, (x12, (x10, ((x7 != (0:Int)), ((0:Int), ()))))))), r0.2))).bind fun r19 =>
 ((F_958 r19.1.1 r19.1.2.1 r19.2.1.1.1 r19.1.2.2.2.1 r19.1.2.2.1 r19.1.2.2.2.2.1)).bind fun r20 =>
 (some r20)
 else
 none
 else
 none
 else
 none
 else
 none
 else
 none
 else
 none
 else
 ((F_958 x4 x5 r0.2.1.1.1 x6 x3 false)).bind fun r21 =>
 (some r21)
 else
 none
 else
 none
 else
 none
 else
 none
noncomputable def G_9b2 : T fa_9b2 → TH ha_9b2 → Option (Int × (Bool × Bool × Bool × Bool × Bool × Unit) × Unit) := fun x y => F_9b2 x.1 x.2.1 x.2.2.1
noncomputable def c_9b2 : Orc := ent i_9b2 [] 0 (sp fa_9b2 ha_9b2 fr_9b2 hr_9b2 G_9b2 out_9b2)
theorem ok_9b2 : OrcOk PR c_9b2 := fnT okO_9b2 mixed p_9b2 (by kernel_rfl) (by kernel_rfl) (L := L_9b2) (kp := false) (by kernel_rfl) (inn := inn_9b2) (out := out_9b2) (fun _ _ => rfl) (loopsL (l := [((lpN f_9b2 0), ls_9b2_0), ((lpN f_9b2 1), ls_9b2_1)]) (by kernel_rfl) ⟨lp_9b2_0, ⟨lp_9b2_1, trivial⟩⟩) (fun x y => by kernel_rfl)
noncomputable def O_94e : Orc := (orm c_954 (orm c_936 (orm c_957 (orm c_980 (orm c_955 (orm c_956 (orm c_934 (orm c_951 c_958))))))))
theorem okO_94e : OrcOk PR O_94e := (orm_ok ok_954 (orm_ok ok_936 (orm_ok ok_957 (orm_ok ok_980 (orm_ok ok_955 (orm_ok ok_956 (orm_ok ok_934 (orm_ok ok_951 ok_958))))))))
abbrev fa_94e : Fm := (.pair (.i .i64) (.pair (.i .i64) (.pair (.i .u32) (.pair (.i .u32) .unit))))
abbrev ha_94e : List BF := []
abbrev fr_94e : Fm := (.tup (.pair (.i .u32) (.pair (.agg (.pair .b (.pair .b (.pair .b (.pair .b (.pair .b .unit)))))) .unit)))
abbrev hr_94e : List BF := []
abbrev ff_94e_0 : Fm := (.pair (.i .i64) (.pair (.i .i64) (.us 7 (.cst (.ref 0 1 0) (.us 2 (.pair .b (.us 1 (.pair (.i .i64) (.pair (.i .u64) (.us 1 (.pair (.i .i64) (.pair (.i .u64) (.us 116 .unit)))))))))))))
abbrev hf_94e_0 : List BF := [(.list 1 y_94 true (.pair .b (.pair .b (.pair .b (.pair .b (.pair .b .unit))))))]
abbrev X_94e_0 : Xs := (.one (.exit 1) [0, 1, 9, 12, 14, 15, 17, 18] (.pair (.i .i64) (.pair (.i .i64) (.us 7 (.cst (.ref 0 1 0) (.us 2 (.pair .b (.us 1 (.pair (.i .i64) (.pair (.i .u64) (.us 1 (.pair (.i .i64) (.pair (.i .u64) (.us 116 .unit))))))))))))) [(.list 1 y_94 true (.pair .b (.pair .b (.pair .b (.pair .b (.pair .b .unit))))))])
abbrev S_94e_0 : Type := T ff_94e_0 × TH hf_94e_0
abbrev E_94e_0 : Type := TX X_94e_0
noncomputable def LB_94e_0 : Lps := L0
noncomputable def st_94e_0 : StepT S_94e_0 E_94e_0 := fun R v kn ko =>
 bif (decide (v.1.2.2.2.2.1 < (8388608:Int))) then
 (kn ((v.1.1, (v.1.2.1, (v.1.2.2.1, ((IntKind.wrap .i64 (v.1.2.2.2.1 - (1:Int))), ((IntKind.wrap .u64 (v.1.2.2.2.2.1 * (2:Int))), v.1.2.2.2.2.2))))), v.2))
 else
 (ko v)
noncomputable def ls_94e_0 : St → LTr := (lsum ff_94e_0 hf_94e_0 X_94e_0 Prod.mk id st_94e_0 (hd [] [] [0, 1, 9, 12, 14, 15, 17, 18] 0))
theorem lp_94e_0 : LoopOk PR 0 (lpN f_94e 0) ls_94e_0 := loopT okO_94e mixed (L := LB_94e_0) (d := 1) (bs := []) (ks := [0, 1, 9, 12, 14, 15, 17, 18]) (loopsL (l := []) (by kernel_rfl) trivial) (by kernel_rfl) (inS := Prod.mk) (outS := id) (fun _ _ => rfl) (inX := id) (outX := id) (fun _ => rfl) (fun v R kn ko => by kernel_rfl) (hd_wk [] [] [0, 1, 9, 12, 14, 15, 17, 18] 0)
abbrev ff_94e_1 : Fm := (.pair (.i .i64) (.pair (.i .i64) (.us 7 (.cst (.ref 0 1 0) (.us 2 (.pair .b (.us 1 (.pair (.i .i64) (.pair (.i .u64) (.us 1 (.pair (.i .i64) (.pair (.i .u64) (.us 116 .unit)))))))))))))
abbrev hf_94e_1 : List BF := [(.list 1 y_94 true (.pair .b (.pair .b (.pair .b (.pair .b (.pair .b .unit))))))]
abbrev X_94e_1 : Xs := (.one (.exit 3) [0, 1, 9, 12, 14, 15, 17, 18] (.pair (.i .i64) (.pair (.i .i64) (.us 7 (.cst (.ref 0 1 0) (.us 2 (.pair .b (.us 1 (.pair (.i .i64) (.pair (.i .u64) (.us 1 (.pair (.i .i64) (.pair (.i .u64) (.us 116 .unit))))))))))))) [(.list 1 y_94 true (.pair .b (.pair .b (.pair .b (.pair .b (.pair .b .unit))))))])
abbrev S_94e_1 : Type := T ff_94e_1 × TH hf_94e_1
abbrev E_94e_1 : Type := TX X_94e_1
noncomputable def LB_94e_1 : Lps := (lpB 16 (.by_ ls_94e_0) L0)
noncomputable def st_94e_1 : StepT S_94e_1 E_94e_1 := fun R v kn ko =>
 bif (decide (v.1.2.2.2.2.2.2.1 < (8388608:Int))) then
 (kn ((v.1.1, (v.1.2.1, (v.1.2.2.1, (v.1.2.2.2.1, (v.1.2.2.2.2.1, ((IntKind.wrap .i64 (v.1.2.2.2.2.2.1 - (1:Int))), ((IntKind.wrap .u64 (v.1.2.2.2.2.2.2.1 * (2:Int))), ()))))))), v.2))
 else
 (ko v)
noncomputable def ls_94e_1 : St → LTr := (lsum ff_94e_1 hf_94e_1 X_94e_1 Prod.mk id st_94e_1 (hd [] [] [0, 1, 9, 12, 14, 15, 17, 18] 0))
theorem lp_94e_1 : LoopOk PR 0 (lpN f_94e 1) ls_94e_1 := loopT okO_94e mixed (L := LB_94e_1) (d := 1) (bs := []) (ks := [0, 1, 9, 12, 14, 15, 17, 18]) (loopsL (l := []) (by kernel_rfl) trivial) (by kernel_rfl) (inS := Prod.mk) (outS := id) (fun _ _ => rfl) (inX := id) (outX := id) (fun _ => rfl) (fun v R kn ko => by kernel_rfl) (hd_wk [] [] [0, 1, 9, 12, 14, 15, 17, 18] 0)
noncomputable def L_94e : Lps := (lpB 18 (.by_ ls_94e_1) (lpB 16 (.by_ ls_94e_0) L0))
def inn_94e : T fr_94e → TH hr_94e → Int × (Bool × Bool × Bool × Bool × Bool × Unit) × Unit := (fun z w => z)
def out_94e : Int × (Bool × Bool × Bool × Bool × Bool × Unit) × Unit → T fr_94e × TH hr_94e := fun r => (r, ())
noncomputable def F_94e (a0 : Int) (a1 : Int) (a2 : Int) (a3 : Int) : Option (Int × (Bool × Bool × Bool × Bool × Bool × Unit) × Unit) :=
 ((F_954 a0 [a2, a3])).bind fun r0 =>
 bif r0.1 then
 ((F_936 a0)).bind fun r1 =>
 (some (r1, ((r0.2.1, (false, (false, (false, (false, ()))))), ())))
 else
 ((F_957 a0 a2)).bind fun r2 =>
 ((F_957 a0 a3)).bind fun r3 =>
 let x4 : Bool := (!(r2 == r3))
 ((F_980 a0 a2)).bind fun r5 =>
 bif r5 then
 ((F_980 a0 a3)).bind fun r6 =>
 bif r6 then
 ((F_936 a0)).bind fun r7 =>
 (some (r7, ((true, (false, (false, (false, (false, ()))))), ())))
 else
 ((F_955 a0 a2)).bind fun r8 =>
 bif r8 then
 ((F_955 a0 a3)).bind fun r9 =>
 bif r9 then
 ((F_936 a0)).bind fun r10 =>
 (some (r10, ((true, (false, (false, (false, (false, ()))))), ())))
 else
 ((F_955 a0 a2)).bind fun r11 =>
 bif r11 then
 ((F_956 a0 x4)).bind fun r12 =>
 (some (r12, ((false, (false, (false, (false, (false, ()))))), ())))
 else
 ((F_955 a0 a3)).bind fun r13 =>
 bif r13 then
 ((F_934 a0 x4)).bind fun r14 =>
 (some (r14, ((false, (false, (false, (false, (false, ()))))), ())))
 else
 ((F_980 a0 a2)).bind fun r15 =>
 bif r15 then
 ((F_934 a0 x4)).bind fun r16 =>
 (some (r16, ((false, (false, (false, (false, (false, ()))))), ())))
 else
 ((F_980 a0 a3)).bind fun r17 =>
 bif r17 then
 ((F_956 a0 x4)).bind fun r18 =>
 (some (r18, ((false, (true, (false, (false, (false, ()))))), ())))
 else
 ((F_951 a0 a2)).bind fun r19 =>
 let x20 : Int := r19.2.2.1
 ((F_951 a0 a3)).bind fun r21 =>
 ((lim st_94e_0 ((a0, (a1, (x4, (r19.2.1, (x20, r21.2))))), ((false, (false, (false, (false, (false, ()))))), ())))).bind fun r22 =>
 ((lim st_94e_1 r22)).bind fun r23 =>
 let x24 : Int := r23.1.2.2.2.2.2.2.1
 let x25 : Bool := (x24 == (0:Int))
 let x26 : Int := (IntKind.wrap .u64 (r23.1.2.2.2.2.1 * (1099511627776:Int)))
 bif x25 then
 none
 else
 bif x25 then
 none
 else
 ((F_958 r23.1.1 r23.1.2.1 r23.1.2.2.1 (IntKind.wrap .i64 ((IntKind.wrap .i64 (r23.1.2.2.2.1 - r23.1.2.2.2.2.2.1)) - (40:Int))) (IntKind.wrap .u64 (Int.tdiv x26 x24)) ((Int.tmod x26 x24) != (0:Int)))).bind fun r27 =>
 (some r27)
 else
 ((F_955 a0 a2)).bind fun r28 =>
 bif r28 then
 ((F_956 a0 x4)).bind fun r29 =>
 (some (r29, ((false, (false, (false, (false, (false, ()))))), ())))
 else
 ((F_955 a0 a3)).bind fun r30 =>
 bif r30 then
 ((F_934 a0 x4)).bind fun r31 =>
 (some (r31, ((false, (false, (false, (false, (false, ()))))), ())))
 else
 ((F_980 a0 a2)).bind fun r32 =>
 bif r32 then
 ((F_934 a0 x4)).bind fun r33 =>
 (some (r33, ((false, (false, (false, (false, (false, ()))))), ())))
 else
 ((F_980 a0 a3)).bind fun r34 =>
 bif r34 then
 ((F_956 a0 x4)).bind fun r35 =>
 (some (r35, ((false, (true, (false, (false, (false, ()))))), ())))
 else
 ((F_951 a0 a2)).bind fun r36 =>
 let x37 : Int := r36.2.2.1
 ((F_951 a0 a3)).bind fun r38 =>
 ((lim st_94e_0 ((a0, (a1, (x4, (r36.2.1, (x37, r38.2))))), ((false, (false, (false, (false, (false, ()))))), ())))).bind fun r39 =>
 ((lim st_94e_1 r39)).bind fun r40 =>
 let x41 : Int := r40.1.2.2.2.2.2.2.1
 let x42 : Bool := (x41 == (0:Int))
 let x43 : Int := (IntKind.wrap .u64 (r40.1.2.2.2.2.1 * (1099511627776:Int)))
 bif x42 then
 none
 else
 bif x42 then
 none
 else
 ((F_958 r40.1.1 r40.1.2.1 r40.1.2.2.1 (IntKind.wrap .i64 ((IntKind.wrap .i64 (r40.1.2.2.2.1 - r40.1.2.2.2.2.2.1)) - (40:Int))) (IntKind.wrap .u64 (Int.tdiv x43 x41)) ((Int.tmod x43 x41) != (0:Int)))).bind fun r44 =>
 (some r44)
 else
 ((F_955 a0 a2)).bind fun r45 =>
 bif r45 then
 ((F_955 a0 a3)).bind fun r46 =>
 bif r46 then
 ((F_936 a0)).bind fun r47 =>
 (some (r47, ((true, (false, (false, (false, (false, ()))))), ())))
 else
 ((F_955 a0 a2)).bind fun r48 =>
 bif r48 then
 ((F_956 a0 x4)).bind fun r49 =>
 (some (r49, ((false, (false, (false, (false, (false, ()))))), ())))
 else
 ((F_955 a0 a3)).bind fun r50 =>
 bif r50 then
 ((F_934 a0 x4)).bind fun r51 =>
 (some (r51, ((false, (false, (false, (false, (false, ()))))), ())))
 else
 ((F_980 a0 a2)).bind fun r52 =>
 bif r52 then
 ((F_934 a0 x4)).bind fun r53 =>
 (some (r53, ((false, (false, (false, (false, (false, ()))))), ())))
 else
 ((F_980 a0 a3)).bind fun r54 =>
 bif r54 then
 ((F_956 a0 x4)).bind fun r55 =>
 (some (r55, ((false, (true, (false, (false, (false, ()))))), ())))
 else
 ((F_951 a0 a2)).bind fun r56 =>
 let x57 : Int := r56.2.2.1
 ((F_951 a0 a3)).bind fun r58 =>
 ((lim st_94e_0 ((a0, (a1, (x4, (r56.2.1, (x57, r58.2))))), ((false, (false, (false, (false, (false, ()))))), ())))).bind fun r59 =>
 ((lim st_94e_1 r59)).bind fun r60 =>
 let x61 : Int := r60.1.2.2.2.2.2.2.1
 let x62 : Bool := (x61 == (0:Int))
 let x63 : Int := (IntKind.wrap .u64 (r60.1.2.2.2.2.1 * (1099511627776:Int)))
 bif x62 then
 none
 else
 bif x62 then
 none
 else
 ((F_958 r60.1.1 r60.1.2.1 r60.1.2.2.1 (IntKind.wrap .i64 ((IntKind.wrap .i64 (r60.1.2.2.2.1 - r60.1.2.2.2.2.2.1)) - (40:Int))) (IntKind.wrap .u64 (Int.tdiv x63 x61)) ((Int.tmod x63 x61) != (0:Int)))).bind fun r64 =>
 (some r64)
 else
 ((F_955 a0 a2)).bind fun r65 =>
 bif r65 then
 ((F_956 a0 x4)).bind fun r66 =>
 (some (r66, ((false, (false, (false, (false, (false, ()))))), ())))
 else
 ((F_955 a0 a3)).bind fun r67 =>
 bif r67 then
 ((F_934 a0 x4)).bind fun r68 =>
 (some (r68, ((false, (false, (false, (false, (false, ()))))), ())))
 else
 ((F_980 a0 a2)).bind fun r69 =>
 bif r69 then
 ((F_934 a0 x4)).bind fun r70 =>
 (some (r70, ((false, (false, (false, (false, (false, ()))))), ())))
 else
 ((F_980 a0 a3)).bind fun r71 =>
 bif r71 then
 ((F_956 a0 x4)).bind fun r72 =>
 (some (r72, ((false, (true, (false, (false, (false, ()))))), ())))
 else
 ((F_951 a0 a2)).bind fun r73 =>
 let x74 : Int := r73.2.2.1
 ((F_951 a0 a3)).bind fun r75 =>
 ((lim st_94e_0 ((a0, (a1, (x4, (r73.2.1, (x74, r75.2))))), ((false, (false, (false, (false, (false, ()))))), ())))).bind fun r76 =>
 ((lim st_94e_1 r76)).bind fun r77 =>
 let x78 : Int := r77.1.2.2.2.2.2.2.1
 let x79 : Bool := (x78 == (0:Int))
 let x80 : Int := (IntKind.wrap .u64 (r77.1.2.2.2.2.1 * (1099511627776:Int)))
 bif x79 then
 none
 else
 bif x79 then
 none
 else
 ((F_958 r77.1.1 r77.1.2.1 r77.1.2.2.1 (IntKind.wrap .i64 ((IntKind.wrap .i64 (r77.1.2.2.2.1 - r77.1.2.2.2.2.2.1)) - (40:Int))) (IntKind.wrap .u64 (Int.tdiv x80 x78)) ((Int.tmod x80 x78) != (0:Int)))).bind fun r81 =>
 (some r81)
noncomputable def G_94e : T fa_94e → TH ha_94e → Option (Int × (Bool × Bool × Bool × Bool × Bool × Unit) × Unit) := fun x y => F_94e x.1 x.2.1 x.2.2.1 x.2.2.2.1
noncomputable def c_94e : Orc := ent i_94e [] 0 (sp fa_94e ha_94e fr_94e hr_94e G_94e out_94e)
theorem ok_94e : OrcOk PR c_94e := fnT okO_94e mixed p_94e (by kernel_rfl) (by kernel_rfl) (L := L_94e) (kp := false) (by kernel_rfl) (inn := inn_94e) (out := out_94e) (fun _ _ => rfl) (loopsL (l := [((lpN f_94e 0), ls_94e_0), ((lpN f_94e 1), ls_94e_1)]) (by kernel_rfl) ⟨lp_94e_0, ⟨lp_94e_1, trivial⟩⟩) (fun x y => by kernel_rfl)
noncomputable def O_94f : Orc := c_958
theorem okO_94f : OrcOk PR O_94f := ok_958
abbrev fa_94f : Fm := (.pair (.i .i64) (.pair (.i .i64) (.pair (.i .i64) .unit)))
abbrev ha_94f : List BF := []
abbrev fr_94f : Fm := (.tup (.pair (.i .u32) (.pair (.agg (.pair .b (.pair .b (.pair .b (.pair .b (.pair .b .unit)))))) .unit)))
abbrev hr_94f : List BF := []
noncomputable def L_94f : Lps := L0
def inn_94f : T fr_94f → TH hr_94f → Int × (Bool × Bool × Bool × Bool × Bool × Unit) × Unit := (fun z w => z)
def out_94f : Int × (Bool × Bool × Bool × Bool × Bool × Unit) × Unit → T fr_94f × TH hr_94f := fun r => (r, ())
noncomputable def F_94f (a0 : Int) (a1 : Int) (a2 : Int) : Option (Int × (Bool × Bool × Bool × Bool × Bool × Unit) × Unit) :=
 bif (decide (a2 < (0:Int))) then
 ((F_958 a0 a1 true (0:Int) (IntKind.wrap .u64 ((0:Int) - (IntKind.wrap .u64 a2))) false)).bind fun r0 =>
 (some r0)
 else
 ((F_958 a0 a1 false (0:Int) (IntKind.wrap .u64 a2) false)).bind fun r1 =>
 (some r1)
noncomputable def G_94f : T fa_94f → TH ha_94f → Option (Int × (Bool × Bool × Bool × Bool × Bool × Unit) × Unit) := fun x y => F_94f x.1 x.2.1 x.2.2.1
noncomputable def c_94f : Orc := ent i_94f [] 0 (sp fa_94f ha_94f fr_94f hr_94f G_94f out_94f)
theorem ok_94f : OrcOk PR c_94f := fnT okO_94f mixed p_94f (by kernel_rfl) (by kernel_rfl) (L := L_94f) (kp := false) (by kernel_rfl) (inn := inn_94f) (out := out_94f) (fun _ _ => rfl) (loopsL (l := []) (by kernel_rfl) trivial) (fun x y => by kernel_rfl)
noncomputable def O_91f : Orc := c_948
theorem okO_91f : OrcOk PR O_91f := ok_948
abbrev fa_91f : Fm := (.pair (.i .u32) (.pair (.i .u32) .unit))
abbrev ha_91f : List BF := []
abbrev fr_91f : Fm := .b
abbrev hr_91f : List BF := []
noncomputable def L_91f : Lps := L0
def inn_91f : T fr_91f → TH hr_91f → Bool := (fun z w => z)
def out_91f : Bool → T fr_91f × TH hr_91f := fun r => (r, ())
noncomputable def F_91f (a0 : Int) (a1 : Int) : Option (Bool) :=
 ((F_948 (2:Int) a1 a0)).bind fun r0 =>
 (some r0)
noncomputable def G_91f : T fa_91f → TH ha_91f → Option (Bool) := fun x y => F_91f x.1 x.2.1
noncomputable def c_91f : Orc := ent i_91f [] 0 (sp fa_91f ha_91f fr_91f hr_91f G_91f out_91f)
theorem ok_91f : OrcOk PR c_91f := fnT okO_91f mixed p_91f (by kernel_rfl) (by kernel_rfl) (L := L_91f) (kp := false) (by kernel_rfl) (inn := inn_91f) (out := out_91f) (fun _ _ => rfl) (loopsL (l := []) (by kernel_rfl) trivial) (fun x y => by kernel_rfl)
noncomputable def O_921 : Orc := c_94f
theorem okO_921 : OrcOk PR O_921 := ok_94f
abbrev fa_921 : Fm := (.pair (.i .i64) .unit)
abbrev ha_921 : List BF := []
abbrev fr_921 : Fm := (.i .u32)
abbrev hr_921 : List BF := []
noncomputable def L_921 : Lps := L0
def inn_921 : T fr_921 → TH hr_921 → Int := (fun z w => z)
def out_921 : Int → T fr_921 × TH hr_921 := fun r => (r, ())
noncomputable def F_921 (a0 : Int) : Option (Int) :=
 ((F_94f (2:Int) (0:Int) a0)).bind fun r0 =>
 (some r0.1)
noncomputable def G_921 : T fa_921 → TH ha_921 → Option (Int) := fun x y => F_921 x.1
noncomputable def c_921 : Orc := ent i_921 [] 0 (sp fa_921 ha_921 fr_921 hr_921 G_921 out_921)
theorem ok_921 : OrcOk PR c_921 := fnT okO_921 mixed p_921 (by kernel_rfl) (by kernel_rfl) (L := L_921) (kp := false) (by kernel_rfl) (inn := inn_921) (out := out_921) (fun _ _ => rfl) (loopsL (l := []) (by kernel_rfl) trivial) (fun x y => by kernel_rfl)
noncomputable def O_920 : Orc := c_94e
theorem okO_920 : OrcOk PR O_920 := ok_94e
abbrev fa_920 : Fm := (.pair (.i .u32) (.pair (.i .u32) .unit))
abbrev ha_920 : List BF := []
abbrev fr_920 : Fm := (.i .u32)
abbrev hr_920 : List BF := []
noncomputable def L_920 : Lps := L0
def inn_920 : T fr_920 → TH hr_920 → Int := (fun z w => z)
def out_920 : Int → T fr_920 × TH hr_920 := fun r => (r, ())
noncomputable def F_920 (a0 : Int) (a1 : Int) : Option (Int) :=
 ((F_94e (2:Int) (0:Int) a0 a1)).bind fun r0 =>
 (some r0.1)
noncomputable def G_920 : T fa_920 → TH ha_920 → Option (Int) := fun x y => F_920 x.1 x.2.1
noncomputable def c_920 : Orc := ent i_920 [] 0 (sp fa_920 ha_920 fr_920 hr_920 G_920 out_920)
theorem ok_920 : OrcOk PR c_920 := fnT okO_920 mixed p_920 (by kernel_rfl) (by kernel_rfl) (L := L_920) (kp := false) (by kernel_rfl) (inn := inn_920) (out := out_920) (fun _ _ => rfl) (loopsL (l := []) (by kernel_rfl) trivial) (fun x y => by kernel_rfl)
noncomputable def O_9b1 : Orc := orn
theorem okO_9b1 : OrcOk PR O_9b1 := (orn_ok _)
abbrev fa_9b1 : Fm := (.pair (.agg (.pair .b (.pair (.rep 10 (.i .u64)) .unit))) .unit)
abbrev ha_9b1 : List BF := []
abbrev fr_9b1 : Fm := .b
abbrev hr_9b1 : List BF := []
noncomputable def L_9b1 : Lps := L0
def inn_9b1 : T fr_9b1 → TH hr_9b1 → Bool := (fun z w => z)
def out_9b1 : Bool → T fr_9b1 × TH hr_9b1 := fun r => (r, ())
noncomputable def F_9b1 (a0 : Bool × List (Int) × Unit) : Option (Bool) :=
 let x0 : List Int := [(List.getD a0.2.1 (0:Nat) (0:Int)), (List.getD a0.2.1 (1:Nat) (0:Int)), (List.getD a0.2.1 (2:Nat) (0:Int)), (List.getD a0.2.1 (3:Nat) (0:Int)), (List.getD a0.2.1 (4:Nat) (0:Int)), (List.getD a0.2.1 (5:Nat) (0:Int)), (List.getD a0.2.1 (6:Nat) (0:Int)), (List.getD a0.2.1 (7:Nat) (0:Int)), (List.getD a0.2.1 (8:Nat) (0:Int)), (List.getD a0.2.1 (9:Nat) (0:Int))]
 (some (((List.getD x0 (0:Nat) (0:Int)) == (0:Int)) && (((List.getD x0 (1:Nat) (0:Int)) == (0:Int)) && (((List.getD x0 (2:Nat) (0:Int)) == (0:Int)) && (((List.getD x0 (3:Nat) (0:Int)) == (0:Int)) && (((List.getD x0 (4:Nat) (0:Int)) == (0:Int)) && (((List.getD x0 (5:Nat) (0:Int)) == (0:Int)) && (((List.getD x0 (6:Nat) (0:Int)) == (0:Int)) && (((List.getD x0 (7:Nat) (0:Int)) == (0:Int)) && (((List.getD x0 (8:Nat) (0:Int)) == (0:Int)) && (((List.getD x0 (9:Nat) (0:Int)) == (0:Int)) && true)))))))))))
noncomputable def G_9b1 : T fa_9b1 → TH ha_9b1 → Option (Bool) := fun x y => F_9b1 x.1
noncomputable def c_9b1 : Orc := ent i_9b1 [] 0 (sp fa_9b1 ha_9b1 fr_9b1 hr_9b1 G_9b1 out_9b1)
theorem ok_9b1 : OrcOk PR c_9b1 := fnT okO_9b1 mixed p_9b1 (by kernel_rfl) (by kernel_rfl) (L := L_9b1) (kp := false) (by kernel_rfl) (inn := inn_9b1) (out := out_9b1) (fun _ _ => rfl) (loopsL (l := []) (by kernel_rfl) trivial) (fun x y => by kernel_rfl)
noncomputable def O_9a3 : Orc := (orm c_9b0 (orm c_9b1 (orm c_934 c_9b2)))
theorem okO_9a3 : OrcOk PR O_9a3 := (orm_ok ok_9b0 (orm_ok ok_9b1 (orm_ok ok_934 ok_9b2)))
abbrev fa_9a3 : Fm := (.pair (.i .i64) (.pair (.i .i64) (.pair (.agg (.pair .b (.pair (.rep 10 (.i .u64)) .unit))) (.pair (.agg (.pair .b (.pair (.rep 10 (.i .u64)) .unit))) .unit))))
abbrev ha_9a3 : List BF := []
abbrev fr_9a3 : Fm := (.tup (.pair (.i .u32) (.pair (.agg (.pair .b (.pair .b (.pair .b (.pair .b (.pair .b .unit)))))) .unit)))
abbrev hr_9a3 : List BF := []
noncomputable def L_9a3 : Lps := L0
def inn_9a3 : T fr_9a3 → TH hr_9a3 → Int × (Bool × Bool × Bool × Bool × Bool × Unit) × Unit := (fun z w => z)
def out_9a3 : Int × (Bool × Bool × Bool × Bool × Bool × Unit) × Unit → T fr_9a3 × TH hr_9a3 := fun r => (r, ())
noncomputable def F_9a3 (a0 : Int) (a1 : Int) (a2 : Bool × List (Int) × Unit) (a3 : Bool × List (Int) × Unit) : Option (Int × (Bool × Bool × Bool × Bool × Bool × Unit) × Unit) :=
 let x0 : List Int := [(List.getD a2.2.1 (0:Nat) (0:Int)), (List.getD a2.2.1 (1:Nat) (0:Int)), (List.getD a2.2.1 (2:Nat) (0:Int)), (List.getD a2.2.1 (3:Nat) (0:Int)), (List.getD a2.2.1 (4:Nat) (0:Int)), (List.getD a2.2.1 (5:Nat) (0:Int)), (List.getD a2.2.1 (6:Nat) (0:Int)), (List.getD a2.2.1 (7:Nat) (0:Int)), (List.getD a2.2.1 (8:Nat) (0:Int)), (List.getD a2.2.1 (9:Nat) (0:Int))]
 let x1 : List Int := [(List.getD a3.2.1 (0:Nat) (0:Int)), (List.getD a3.2.1 (1:Nat) (0:Int)), (List.getD a3.2.1 (2:Nat) (0:Int)), (List.getD a3.2.1 (3:Nat) (0:Int)), (List.getD a3.2.1 (4:Nat) (0:Int)), (List.getD a3.2.1 (5:Nat) (0:Int)), (List.getD a3.2.1 (6:Nat) (0:Int)), (List.getD a3.2.1 (7:Nat) (0:Int)), (List.getD a3.2.1 (8:Nat) (0:Int)), (List.getD a3.2.1 (9:Nat) (0:Int))]
 ((F_9b0 (a2.1, ([(List.getD x0 (0:Nat) (0:Int)), (List.getD x0 (1:Nat) (0:Int)), (List.getD x0 (2:Nat) (0:Int)), (List.getD x0 (3:Nat) (0:Int)), (List.getD x0 (4:Nat) (0:Int)), (List.getD x0 (5:Nat) (0:Int)), (List.getD x0 (6:Nat) (0:Int)), (List.getD x0 (7:Nat) (0:Int)), (List.getD x0 (8:Nat) (0:Int)), (List.getD x0 (9:Nat) (0:Int))], ())) (a3.1, ([(List.getD x1 (0:Nat) (0:Int)), (List.getD x1 (1:Nat) (0:Int)), (List.getD x1 (2:Nat) (0:Int)), (List.getD x1 (3:Nat) (0:Int)), (List.getD x1 (4:Nat) (0:Int)), (List.getD x1 (5:Nat) (0:Int)), (List.getD x1 (6:Nat) (0:Int)), (List.getD x1 (7:Nat) (0:Int)), (List.getD x1 (8:Nat) (0:Int)), (List.getD x1 (9:Nat) (0:Int))], ())))).bind fun r2 =>
 let x3 : List Int := [(List.getD r2.2.1 (0:Nat) (0:Int)), (List.getD r2.2.1 (1:Nat) (0:Int)), (List.getD r2.2.1 (2:Nat) (0:Int)), (List.getD r2.2.1 (3:Nat) (0:Int)), (List.getD r2.2.1 (4:Nat) (0:Int)), (List.getD r2.2.1 (5:Nat) (0:Int)), (List.getD r2.2.1 (6:Nat) (0:Int)), (List.getD r2.2.1 (7:Nat) (0:Int)), (List.getD r2.2.1 (8:Nat) (0:Int)), (List.getD r2.2.1 (9:Nat) (0:Int))]
 let x4 : List (T (Fm.i IntKind.u64)) := [(List.getD x3 (0:Nat) (0:Int)), (List.getD x3 (1:Nat) (0:Int)), (List.getD x3 (2:Nat) (0:Int)), (List.getD x3 (3:Nat) (0:Int)), (List.getD x3 (4:Nat) (0:Int)), (List.getD x3 (5:Nat) (0:Int)), (List.getD x3 (6:Nat) (0:Int)), (List.getD x3 (7:Nat) (0:Int)), (List.getD x3 (8:Nat) (0:Int)), (List.getD x3 (9:Nat) (0:Int))]
 let x5 : List Int := [(List.getD x4 (0:Nat) (0:Int)), (List.getD x4 (1:Nat) (0:Int)), (List.getD x4 (2:Nat) (0:Int)), (List.getD x4 (3:Nat) (0:Int)), (List.getD x4 (4:Nat) (0:Int)), (List.getD x4 (5:Nat) (0:Int)), (List.getD x4 (6:Nat) (0:Int)), (List.getD x4 (7:Nat) (0:Int)), (List.getD x4 (8:Nat) (0:Int)), (List.getD x4 (9:Nat) (0:Int))]
 bif (((List.getD x5 (0:Nat) (0:Int)) == (0:Int)) && (((List.getD x5 (1:Nat) (0:Int)) == (0:Int)) && (((List.getD x5 (2:Nat) (0:Int)) == (0:Int)) && (((List.getD x5 (3:Nat) (0:Int)) == (0:Int)) && (((List.getD x5 (4:Nat) (0:Int)) == (0:Int)) && (((List.getD x5 (5:Nat) (0:Int)) == (0:Int)) && (((List.getD x5 (6:Nat) (0:Int)) == (0:Int)) && (((List.getD x5 (7:Nat) (0:Int)) == (0:Int)) && (((List.getD x5 (8:Nat) (0:Int)) == (0:Int)) && (((List.getD x5 (9:Nat) (0:Int)) == (0:Int)) && true)))))))))) then
 ((F_934 a0 (a1 == (3:Int)))).bind fun r6 =>
 (some (r6, ((false, (false, (false, (false, (false, ()))))), ())))
 else
 ((F_9b2 a0 a1 (r2.1, (x4, ())))).bind fun r7 =>
 (some r7)
noncomputable def G_9a3 : T fa_9a3 → TH ha_9a3 → Option (Int × (Bool × Bool × Bool × Bool × Bool × Unit) × Unit) := fun x y => F_9a3 x.1 x.2.1 x.2.2.1 x.2.2.2.1
noncomputable def c_9a3 : Orc := ent i_9a3 [] 0 (sp fa_9a3 ha_9a3 fr_9a3 hr_9a3 G_9a3 out_9a3)
theorem ok_9a3 : OrcOk PR c_9a3 := fnT okO_9a3 mixed p_9a3 (by kernel_rfl) (by kernel_rfl) (L := L_9a3) (kp := false) (by kernel_rfl) (inn := inn_9a3) (out := out_9a3) (fun _ _ => rfl) (loopsL (l := []) (by kernel_rfl) trivial) (fun x y => by kernel_rfl)
noncomputable def O_97f : Orc := (orm c_980 (orm c_955 (orm c_954 (orm c_936 (orm c_957 (orm c_956 (orm c_933 (orm c_934 (orm c_951 (orm c_9a4 c_9a3))))))))))
theorem okO_97f : OrcOk PR O_97f := (orm_ok ok_980 (orm_ok ok_955 (orm_ok ok_954 (orm_ok ok_936 (orm_ok ok_957 (orm_ok ok_956 (orm_ok ok_933 (orm_ok ok_934 (orm_ok ok_951 (orm_ok ok_9a4 ok_9a3))))))))))
abbrev fa_97f : Fm := (.pair (.i .i64) (.pair (.i .i64) (.pair (.i .u32) (.pair (.i .u32) (.pair (.i .u32) .unit)))))
abbrev ha_97f : List BF := []
abbrev fr_97f : Fm := (.tup (.pair (.i .u32) (.pair (.agg (.pair .b (.pair .b (.pair .b (.pair .b (.pair .b .unit)))))) .unit)))
abbrev hr_97f : List BF := []
noncomputable def L_97f : Lps := L0
def inn_97f : T fr_97f → TH hr_97f → Int × (Bool × Bool × Bool × Bool × Bool × Unit) × Unit := (fun z w => z)
def out_97f : Int × (Bool × Bool × Bool × Bool × Bool × Unit) × Unit → T fr_97f × TH hr_97f := fun r => (r, ())
noncomputable def F_97f (a0 : Int) (a1 : Int) (a2 : Int) (a3 : Int) (a4 : Int) : Option (Int × (Bool × Bool × Bool × Bool × Bool × Unit) × Unit) :=
 ((F_980 a0 a2)).bind fun r0 =>
 bif r0 then
 ((F_955 a0 a3)).bind fun r1 =>
 bif r1 then
 ((F_954 a0 [a2, a3, a4])).bind fun r2 =>
 bif r2.1 then
 ((F_936 a0)).bind fun r3 =>
 bif r2.2.1 then
 (some (r3, ((true, (false, (false, (false, (false, ()))))), ())))
 else
 (some (r3, ((true, (false, (false, (false, (false, ()))))), ())))
 else
 ((F_936 a0)).bind fun r4 =>
 bif r2.2.1 then
 (some (r4, ((true, (false, (false, (false, (false, ()))))), ())))
 else
 (some (r4, ((true, (false, (false, (false, (false, ()))))), ())))
 else
 ((F_955 a0 a2)).bind fun r5 =>
 bif r5 then
 ((F_980 a0 a3)).bind fun r6 =>
 ((F_954 a0 [a2, a3, a4])).bind fun r7 =>
 bif r7.1 then
 ((F_936 a0)).bind fun r8 =>
 bif r7.2.1 then
 (some (r8, ((true, (false, (false, (false, (false, ()))))), ())))
 else
 (some (r8, ((r6, (false, (false, (false, (false, ()))))), ())))
 else
 bif r6 then
 ((F_936 a0)).bind fun r9 =>
 bif r7.2.1 then
 (some (r9, ((true, (false, (false, (false, (false, ()))))), ())))
 else
 (some (r9, ((r6, (false, (false, (false, (false, ()))))), ())))
 else
 ((F_957 a0 a2)).bind fun r10 =>
 ((F_957 a0 a3)).bind fun r11 =>
 let x12 : Bool := (!(r10 == r11))
 ((F_955 a0 a2)).bind fun r13 =>
 bif r13 then
 ((F_955 a0 a4)).bind fun r14 =>
 bif r14 then
 ((F_957 a0 a4)).bind fun r15 =>
 bif (!(r15 == x12)) then
 ((F_936 a0)).bind fun r16 =>
 (some (r16, ((true, (false, (false, (false, (false, ()))))), ())))
 else
 ((F_956 a0 x12)).bind fun r17 =>
 (some (r17, ((false, (false, (false, (false, (false, ()))))), ())))
 else
 ((F_956 a0 x12)).bind fun r18 =>
 (some (r18, ((false, (false, (false, (false, (false, ()))))), ())))
 else
 ((F_955 a0 a3)).bind fun r19 =>
 bif r19 then
 ((F_955 a0 a4)).bind fun r20 =>
 bif r20 then
 ((F_957 a0 a4)).bind fun r21 =>
 bif (!(r21 == x12)) then
 ((F_936 a0)).bind fun r22 =>
 (some (r22, ((true, (false, (false, (false, (false, ()))))), ())))
 else
 ((F_956 a0 x12)).bind fun r23 =>
 (some (r23, ((false, (false, (false, (false, (false, ()))))), ())))
 else
 ((F_956 a0 x12)).bind fun r24 =>
 (some (r24, ((false, (false, (false, (false, (false, ()))))), ())))
 else
 ((F_955 a0 a4)).bind fun r25 =>
 bif r25 then
 ((F_933 a0)).bind fun r26 =>
 (some ((bits .and .u32 a4 r26), ((false, (false, (false, (false, (false, ()))))), ())))
 else
 ((F_980 a0 a2)).bind fun r27 =>
 bif r27 then
 ((F_980 a0 a4)).bind fun r28 =>
 bif r28 then
 ((F_957 a0 a4)).bind fun r29 =>
 bif (x12 == r29) then
 ((F_934 a0 x12)).bind fun r30 =>
 (some (r30, ((false, (false, (false, (false, (false, ()))))), ())))
 else
 ((F_951 a0 a2)).bind fun r31 =>
 let x32 : Int := r31.2.2.1
 ((F_951 a0 a3)).bind fun r33 =>
 let x34 : Int := r33.2.2.1
 ((F_9a4 x12 (IntKind.wrap .i64 (r31.2.1 + r33.2.1)) (IntKind.wrap .u64 (x32 * x34)))).bind fun r35 =>
 ((F_951 a0 a4)).bind fun r36 =>
 let x37 : Int := r36.2.2.1
 ((F_9a4 r36.1 r36.2.1 x37)).bind fun r38 =>
 ((F_9a3 a0 a1 (r35.1, ([(List.getD r35.2.1 (0:Nat) (0:Int)), (List.getD r35.2.1 (1:Nat) (0:Int)), (List.getD r35.2.1 (2:Nat) (0:Int)), (List.getD r35.2.1 (3:Nat) (0:Int)), (List.getD r35.2.1 (4:Nat) (0:Int)), (List.getD r35.2.1 (5:Nat) (0:Int)), (List.getD r35.2.1 (6:Nat) (0:Int)), (List.getD r35.2.1 (7:Nat) (0:Int)), (List.getD r35.2.1 (8:Nat) (0:Int)), (List.getD r35.2.1 (9:Nat) (0:Int))], ())) (r38.1, ([(List.getD r38.2.1 (0:Nat) (0:Int)), (List.getD r38.2.1 (1:Nat) (0:Int)), (List.getD r38.2.1 (2:Nat) (0:Int)), (List.getD r38.2.1 (3:Nat) (0:Int)), (List.getD r38.2.1 (4:Nat) (0:Int)), (List.getD r38.2.1 (5:Nat) (0:Int)), (List.getD r38.2.1 (6:Nat) (0:Int)), (List.getD r38.2.1 (7:Nat) (0:Int)), (List.getD r38.2.1 (8:Nat) (0:Int)), (List.getD r38.2.1 (9:Nat) (0:Int))], ())))).bind fun r39 =>
 (some r39)
 else
 ((F_951 a0 a2)).bind fun r40 =>
 let x41 : Int := r40.2.2.1
 ((F_951 a0 a3)).bind fun r42 =>
 let x43 : Int := r42.2.2.1
 ((F_9a4 x12 (IntKind.wrap .i64 (r40.2.1 + r42.2.1)) (IntKind.wrap .u64 (x41 * x43)))).bind fun r44 =>
 ((F_951 a0 a4)).bind fun r45 =>
 let x46 : Int := r45.2.2.1
 ((F_9a4 r45.1 r45.2.1 x46)).bind fun r47 =>
 ((F_9a3 a0 a1 (r44.1, ([(List.getD r44.2.1 (0:Nat) (0:Int)), (List.getD r44.2.1 (1:Nat) (0:Int)), (List.getD r44.2.1 (2:Nat) (0:Int)), (List.getD r44.2.1 (3:Nat) (0:Int)), (List.getD r44.2.1 (4:Nat) (0:Int)), (List.getD r44.2.1 (5:Nat) (0:Int)), (List.getD r44.2.1 (6:Nat) (0:Int)), (List.getD r44.2.1 (7:Nat) (0:Int)), (List.getD r44.2.1 (8:Nat) (0:Int)), (List.getD r44.2.1 (9:Nat) (0:Int))], ())) (r47.1, ([(List.getD r47.2.1 (0:Nat) (0:Int)), (List.getD r47.2.1 (1:Nat) (0:Int)), (List.getD r47.2.1 (2:Nat) (0:Int)), (List.getD r47.2.1 (3:Nat) (0:Int)), (List.getD r47.2.1 (4:Nat) (0:Int)), (List.getD r47.2.1 (5:Nat) (0:Int)), (List.getD r47.2.1 (6:Nat) (0:Int)), (List.getD r47.2.1 (7:Nat) (0:Int)), (List.getD r47.2.1 (8:Nat) (0:Int)), (List.getD r47.2.1 (9:Nat) (0:Int))], ())))).bind fun r48 =>
 (some r48)
 else
 ((F_980 a0 a3)).bind fun r49 =>
 bif r49 then
 ((F_980 a0 a4)).bind fun r50 =>
 bif r50 then
 ((F_957 a0 a4)).bind fun r51 =>
 bif (x12 == r51) then
 ((F_934 a0 x12)).bind fun r52 =>
 (some (r52, ((false, (false, (false, (false, (false, ()))))), ())))
 else
 ((F_951 a0 a2)).bind fun r53 =>
 let x54 : Int := r53.2.2.1
 ((F_951 a0 a3)).bind fun r55 =>
 let x56 : Int := r55.2.2.1
 ((F_9a4 x12 (IntKind.wrap .i64 (r53.2.1 + r55.2.1)) (IntKind.wrap .u64 (x54 * x56)))).bind fun r57 =>
 ((F_951 a0 a4)).bind fun r58 =>
 let x59 : Int := r58.2.2.1
 ((F_9a4 r58.1 r58.2.1 x59)).bind fun r60 =>
 ((F_9a3 a0 a1 (r57.1, ([(List.getD r57.2.1 (0:Nat) (0:Int)), (List.getD r57.2.1 (1:Nat) (0:Int)), (List.getD r57.2.1 (2:Nat) (0:Int)), (List.getD r57.2.1 (3:Nat) (0:Int)), (List.getD r57.2.1 (4:Nat) (0:Int)), (List.getD r57.2.1 (5:Nat) (0:Int)), (List.getD r57.2.1 (6:Nat) (0:Int)), (List.getD r57.2.1 (7:Nat) (0:Int)), (List.getD r57.2.1 (8:Nat) (0:Int)), (List.getD r57.2.1 (9:Nat) (0:Int))], ())) (r60.1, ([(List.getD r60.2.1 (0:Nat) (0:Int)), (List.getD r60.2.1 (1:Nat) (0:Int)), (List.getD r60.2.1 (2:Nat) (0:Int)), (List.getD r60.2.1 (3:Nat) (0:Int)), (List.getD r60.2.1 (4:Nat) (0:Int)), (List.getD r60.2.1 (5:Nat) (0:Int)), (List.getD r60.2.1 (6:Nat) (0:Int)), (List.getD r60.2.1 (7:Nat) (0:Int)), (List.getD r60.2.1 (8:Nat) (0:Int)), (List.getD r60.2.1 (9:Nat) (0:Int))], ())))).bind fun r61 =>
 (some r61)
 else
 ((F_951 a0 a2)).bind fun r62 =>
 let x63 : Int := r62.2.2.1
 ((F_951 a0 a3)).bind fun r64 =>
 let x65 : Int := r64.2.2.1
 ((F_9a4 x12 (IntKind.wrap .i64 (r62.2.1 + r64.2.1)) (IntKind.wrap .u64 (x63 * x65)))).bind fun r66 =>
 ((F_951 a0 a4)).bind fun r67 =>
 let x68 : Int := r67.2.2.1
 ((F_9a4 r67.1 r67.2.1 x68)).bind fun r69 =>
 ((F_9a3 a0 a1 (r66.1, ([(List.getD r66.2.1 (0:Nat) (0:Int)), (List.getD r66.2.1 (1:Nat) (0:Int)), (List.getD r66.2.1 (2:Nat) (0:Int)), (List.getD r66.2.1 (3:Nat) (0:Int)), (List.getD r66.2.1 (4:Nat) (0:Int)), (List.getD r66.2.1 (5:Nat) (0:Int)), (List.getD r66.2.1 (6:Nat) (0:Int)), (List.getD r66.2.1 (7:Nat) (0:Int)), (List.getD r66.2.1 (8:Nat) (0:Int)), (List.getD r66.2.1 (9:Nat) (0:Int))], ())) (r69.1, ([(List.getD r69.2.1 (0:Nat) (0:Int)), (List.getD r69.2.1 (1:Nat) (0:Int)), (List.getD r69.2.1 (2:Nat) (0:Int)), (List.getD r69.2.1 (3:Nat) (0:Int)), (List.getD r69.2.1 (4:Nat) (0:Int)), (List.getD r69.2.1 (5:Nat) (0:Int)), (List.getD r69.2.1 (6:Nat) (0:Int)), (List.getD r69.2.1 (7:Nat) (0:Int)), (List.getD r69.2.1 (8:Nat) (0:Int)), (List.getD r69.2.1 (9:Nat) (0:Int))], ())))).bind fun r70 =>
 (some r70)
 else
 ((F_951 a0 a2)).bind fun r71 =>
 let x72 : Int := r71.2.2.1
 ((F_951 a0 a3)).bind fun r73 =>
 let x74 : Int := r73.2.2.1
 ((F_9a4 x12 (IntKind.wrap .i64 (r71.2.1 + r73.2.1)) (IntKind.wrap .u64 (x72 * x74)))).bind fun r75 =>
 ((F_951 a0 a4)).bind fun r76 =>
 let x77 : Int := r76.2.2.1
 ((F_9a4 r76.1 r76.2.1 x77)).bind fun r78 =>
 ((F_9a3 a0 a1 (r75.1, ([(List.getD r75.2.1 (0:Nat) (0:Int)), (List.getD r75.2.1 (1:Nat) (0:Int)), (List.getD r75.2.1 (2:Nat) (0:Int)), (List.getD r75.2.1 (3:Nat) (0:Int)), (List.getD r75.2.1 (4:Nat) (0:Int)), (List.getD r75.2.1 (5:Nat) (0:Int)), (List.getD r75.2.1 (6:Nat) (0:Int)), (List.getD r75.2.1 (7:Nat) (0:Int)), (List.getD r75.2.1 (8:Nat) (0:Int)), (List.getD r75.2.1 (9:Nat) (0:Int))], ())) (r78.1, ([(List.getD r78.2.1 (0:Nat) (0:Int)), (List.getD r78.2.1 (1:Nat) (0:Int)), (List.getD r78.2.1 (2:Nat) (0:Int)), (List.getD r78.2.1 (3:Nat) (0:Int)), (List.getD r78.2.1 (4:Nat) (0:Int)), (List.getD r78.2.1 (5:Nat) (0:Int)), (List.getD r78.2.1 (6:Nat) (0:Int)), (List.getD r78.2.1 (7:Nat) (0:Int)), (List.getD r78.2.1 (8:Nat) (0:Int)), (List.getD r78.2.1 (9:Nat) (0:Int))], ())))).bind fun r79 =>
 (some r79)
 else
 ((F_954 a0 [a2, a3, a4])).bind fun r80 =>
 bif r80.1 then
 ((F_936 a0)).bind fun r81 =>
 bif r80.2.1 then
 (some (r81, ((true, (false, (false, (false, (false, ()))))), ())))
 else
 (some (r81, ((false, (false, (false, (false, (false, ()))))), ())))
 else
 ((F_957 a0 a2)).bind fun r82 =>
 ((F_957 a0 a3)).bind fun r83 =>
 let x84 : Bool := (!(r82 == r83))
 ((F_955 a0 a2)).bind fun r85 =>
 bif r85 then
 ((F_955 a0 a4)).bind fun r86 =>
 bif r86 then
 ((F_957 a0 a4)).bind fun r87 =>
 bif (!(r87 == x84)) then
 ((F_936 a0)).bind fun r88 =>
 (some (r88, ((true, (false, (false, (false, (false, ()))))), ())))
 else
 ((F_956 a0 x84)).bind fun r89 =>
 (some (r89, ((false, (false, (false, (false, (false, ()))))), ())))
 else
 ((F_956 a0 x84)).bind fun r90 =>
 (some (r90, ((false, (false, (false, (false, (false, ()))))), ())))
 else
 ((F_955 a0 a3)).bind fun r91 =>
 bif r91 then
 ((F_955 a0 a4)).bind fun r92 =>
 bif r92 then
 ((F_957 a0 a4)).bind fun r93 =>
 bif (!(r93 == x84)) then
 ((F_936 a0)).bind fun r94 =>
 (some (r94, ((true, (false, (false, (false, (false, ()))))), ())))
 else
 ((F_956 a0 x84)).bind fun r95 =>
 (some (r95, ((false, (false, (false, (false, (false, ()))))), ())))
 else
 ((F_956 a0 x84)).bind fun r96 =>
 (some (r96, ((false, (false, (false, (false, (false, ()))))), ())))
 else
 ((F_955 a0 a4)).bind fun r97 =>
 bif r97 then
 ((F_933 a0)).bind fun r98 =>
 (some ((bits .and .u32 a4 r98), ((false, (false, (false, (false, (false, ()))))), ())))
 else
 ((F_980 a0 a2)).bind fun r99 =>
 bif r99 then
 ((F_980 a0 a4)).bind fun r100 =>
 bif r100 then
 ((F_957 a0 a4)).bind fun r101 =>
 bif (x84 == r101) then
 ((F_934 a0 x84)).bind fun r102 =>
 (some (r102, ((false, (false, (false, (false, (false, ()))))), ())))
 else
 ((F_951 a0 a2)).bind fun r103 =>
 let x104 : Int := r103.2.2.1
 ((F_951 a0 a3)).bind fun r105 =>
 let x106 : Int := r105.2.2.1
 ((F_9a4 x84 (IntKind.wrap .i64 (r103.2.1 + r105.2.1)) (IntKind.wrap .u64 (x104 * x106)))).bind fun r107 =>
 ((F_951 a0 a4)).bind fun r108 =>
 let x109 : Int := r108.2.2.1
 ((F_9a4 r108.1 r108.2.1 x109)).bind fun r110 =>
 ((F_9a3 a0 a1 (r107.1, ([(List.getD r107.2.1 (0:Nat) (0:Int)), (List.getD r107.2.1 (1:Nat) (0:Int)), (List.getD r107.2.1 (2:Nat) (0:Int)), (List.getD r107.2.1 (3:Nat) (0:Int)), (List.getD r107.2.1 (4:Nat) (0:Int)), (List.getD r107.2.1 (5:Nat) (0:Int)), (List.getD r107.2.1 (6:Nat) (0:Int)), (List.getD r107.2.1 (7:Nat) (0:Int)), (List.getD r107.2.1 (8:Nat) (0:Int)), (List.getD r107.2.1 (9:Nat) (0:Int))], ())) (r110.1, ([(List.getD r110.2.1 (0:Nat) (0:Int)), (List.getD r110.2.1 (1:Nat) (0:Int)), (List.getD r110.2.1 (2:Nat) (0:Int)), (List.getD r110.2.1 (3:Nat) (0:Int)), (List.getD r110.2.1 (4:Nat) (0:Int)), (List.getD r110.2.1 (5:Nat) (0:Int)), (List.getD r110.2.1 (6:Nat) (0:Int)), (List.getD r110.2.1 (7:Nat) (0:Int)), (List.getD r110.2.1 (8:Nat) (0:Int)), (List.getD r110.2.1 (9:Nat) (0:Int))], ())))).bind fun r111 =>
 (some r111)
 else
 ((F_951 a0 a2)).bind fun r112 =>
 let x113 : Int := r112.2.2.1
 ((F_951 a0 a3)).bind fun r114 =>
 let x115 : Int := r114.2.2.1
 ((F_9a4 x84 (IntKind.wrap .i64 (r112.2.1 + r114.2.1)) (IntKind.wrap .u64 (x113 * x115)))).bind fun r116 =>
 ((F_951 a0 a4)).bind fun r117 =>
 let x118 : Int := r117.2.2.1
 ((F_9a4 r117.1 r117.2.1 x118)).bind fun r119 =>
 ((F_9a3 a0 a1 (r116.1, ([(List.getD r116.2.1 (0:Nat) (0:Int)), (List.getD r116.2.1 (1:Nat) (0:Int)), (List.getD r116.2.1 (2:Nat) (0:Int)), (List.getD r116.2.1 (3:Nat) (0:Int)), (List.getD r116.2.1 (4:Nat) (0:Int)), (List.getD r116.2.1 (5:Nat) (0:Int)), (List.getD r116.2.1 (6:Nat) (0:Int)), (List.getD r116.2.1 (7:Nat) (0:Int)), (List.getD r116.2.1 (8:Nat) (0:Int)), (List.getD r116.2.1 (9:Nat) (0:Int))], ())) (r119.1, ([(List.getD r119.2.1 (0:Nat) (0:Int)), (List.getD r119.2.1 (1:Nat) (0:Int)), (List.getD r119.2.1 (2:Nat) (0:Int)), (List.getD r119.2.1 (3:Nat) (0:Int)), (List.getD r119.2.1 (4:Nat) (0:Int)), (List.getD r119.2.1 (5:Nat) (0:Int)), (List.getD r119.2.1 (6:Nat) (0:Int)), (List.getD r119.2.1 (7:Nat) (0:Int)), (List.getD r119.2.1 (8:Nat) (0:Int)), (List.getD r119.2.1 (9:Nat) (0:Int))], ())))).bind fun r120 =>
 (some r120)
 else
 ((F_980 a0 a3)).bind fun r121 =>
 bif r121 then
 ((F_980 a0 a4)).bind fun r122 =>
 bif r122 then
 ((F_957 a0 a4)).bind fun r123 =>
 bif (x84 == r123) then
 ((F_934 a0 x84)).bind fun r124 =>
 (some (r124, ((false, (false, (false, (false, (false, ()))))), ())))
 else
 ((F_951 a0 a2)).bind fun r125 =>
 let x126 : Int := r125.2.2.1
 ((F_951 a0 a3)).bind fun r127 =>
 let x128 : Int := r127.2.2.1
 ((F_9a4 x84 (IntKind.wrap .i64 (r125.2.1 + r127.2.1)) (IntKind.wrap .u64 (x126 * x128)))).bind fun r129 =>
 ((F_951 a0 a4)).bind fun r130 =>
 let x131 : Int := r130.2.2.1
 ((F_9a4 r130.1 r130.2.1 x131)).bind fun r132 =>
 ((F_9a3 a0 a1 (r129.1, ([(List.getD r129.2.1 (0:Nat) (0:Int)), (List.getD r129.2.1 (1:Nat) (0:Int)), (List.getD r129.2.1 (2:Nat) (0:Int)), (List.getD r129.2.1 (3:Nat) (0:Int)), (List.getD r129.2.1 (4:Nat) (0:Int)), (List.getD r129.2.1 (5:Nat) (0:Int)), (List.getD r129.2.1 (6:Nat) (0:Int)), (List.getD r129.2.1 (7:Nat) (0:Int)), (List.getD r129.2.1 (8:Nat) (0:Int)), (List.getD r129.2.1 (9:Nat) (0:Int))], ())) (r132.1, ([(List.getD r132.2.1 (0:Nat) (0:Int)), (List.getD r132.2.1 (1:Nat) (0:Int)), (List.getD r132.2.1 (2:Nat) (0:Int)), (List.getD r132.2.1 (3:Nat) (0:Int)), (List.getD r132.2.1 (4:Nat) (0:Int)), (List.getD r132.2.1 (5:Nat) (0:Int)), (List.getD r132.2.1 (6:Nat) (0:Int)), (List.getD r132.2.1 (7:Nat) (0:Int)), (List.getD r132.2.1 (8:Nat) (0:Int)), (List.getD r132.2.1 (9:Nat) (0:Int))], ())))).bind fun r133 =>
 (some r133)
 else
 ((F_951 a0 a2)).bind fun r134 =>
 let x135 : Int := r134.2.2.1
 ((F_951 a0 a3)).bind fun r136 =>
 let x137 : Int := r136.2.2.1
 ((F_9a4 x84 (IntKind.wrap .i64 (r134.2.1 + r136.2.1)) (IntKind.wrap .u64 (x135 * x137)))).bind fun r138 =>
 ((F_951 a0 a4)).bind fun r139 =>
 let x140 : Int := r139.2.2.1
 ((F_9a4 r139.1 r139.2.1 x140)).bind fun r141 =>
 ((F_9a3 a0 a1 (r138.1, ([(List.getD r138.2.1 (0:Nat) (0:Int)), (List.getD r138.2.1 (1:Nat) (0:Int)), (List.getD r138.2.1 (2:Nat) (0:Int)), (List.getD r138.2.1 (3:Nat) (0:Int)), (List.getD r138.2.1 (4:Nat) (0:Int)), (List.getD r138.2.1 (5:Nat) (0:Int)), (List.getD r138.2.1 (6:Nat) (0:Int)), (List.getD r138.2.1 (7:Nat) (0:Int)), (List.getD r138.2.1 (8:Nat) (0:Int)), (List.getD r138.2.1 (9:Nat) (0:Int))], ())) (r141.1, ([(List.getD r141.2.1 (0:Nat) (0:Int)), (List.getD r141.2.1 (1:Nat) (0:Int)), (List.getD r141.2.1 (2:Nat) (0:Int)), (List.getD r141.2.1 (3:Nat) (0:Int)), (List.getD r141.2.1 (4:Nat) (0:Int)), (List.getD r141.2.1 (5:Nat) (0:Int)), (List.getD r141.2.1 (6:Nat) (0:Int)), (List.getD r141.2.1 (7:Nat) (0:Int)), (List.getD r141.2.1 (8:Nat) (0:Int)), (List.getD r141.2.1 (9:Nat) (0:Int))], ())))).bind fun r142 =>
 (some r142)
 else
 ((F_951 a0 a2)).bind fun r143 =>
 let x144 : Int := r143.2.2.1
 ((F_951 a0 a3)).bind fun r145 =>
 let x146 : Int := r145.2.2.1
 ((F_9a4 x84 (IntKind.wrap .i64 (r143.2.1 + r145.2.1)) (IntKind.wrap .u64 (x144 * x146)))).bind fun r147 =>
 ((F_951 a0 a4)).bind fun r148 =>
 let x149 : Int := r148.2.2.1
 ((F_9a4 r148.1 r148.2.1 x149)).bind fun r150 =>
 ((F_9a3 a0 a1 (r147.1, ([(List.getD r147.2.1 (0:Nat) (0:Int)), (List.getD r147.2.1 (1:Nat) (0:Int)), (List.getD r147.2.1 (2:Nat) (0:Int)), (List.getD r147.2.1 (3:Nat) (0:Int)), (List.getD r147.2.1 (4:Nat) (0:Int)), (List.getD r147.2.1 (5:Nat) (0:Int)), (List.getD r147.2.1 (6:Nat) (0:Int)), (List.getD r147.2.1 (7:Nat) (0:Int)), (List.getD r147.2.1 (8:Nat) (0:Int)), (List.getD r147.2.1 (9:Nat) (0:Int))], ())) (r150.1, ([(List.getD r150.2.1 (0:Nat) (0:Int)), (List.getD r150.2.1 (1:Nat) (0:Int)), (List.getD r150.2.1 (2:Nat) (0:Int)), (List.getD r150.2.1 (3:Nat) (0:Int)), (List.getD r150.2.1 (4:Nat) (0:Int)), (List.getD r150.2.1 (5:Nat) (0:Int)), (List.getD r150.2.1 (6:Nat) (0:Int)), (List.getD r150.2.1 (7:Nat) (0:Int)), (List.getD r150.2.1 (8:Nat) (0:Int)), (List.getD r150.2.1 (9:Nat) (0:Int))], ())))).bind fun r151 =>
 (some r151)
 else
 ((F_955 a0 a2)).bind fun r152 =>
 bif r152 then
 ((F_980 a0 a3)).bind fun r153 =>
 ((F_954 a0 [a2, a3, a4])).bind fun r154 =>
 bif r154.1 then
 ((F_936 a0)).bind fun r155 =>
 bif r154.2.1 then
 (some (r155, ((true, (false, (false, (false, (false, ()))))), ())))
 else
 (some (r155, ((r153, (false, (false, (false, (false, ()))))), ())))
 else
 bif r153 then
 ((F_936 a0)).bind fun r156 =>
 bif r154.2.1 then
 (some (r156, ((true, (false, (false, (false, (false, ()))))), ())))
 else
 (some (r156, ((r153, (false, (false, (false, (false, ()))))), ())))
 else
 ((F_957 a0 a2)).bind fun r157 =>
 ((F_957 a0 a3)).bind fun r158 =>
 let x159 : Bool := (!(r157 == r158))
 ((F_955 a0 a2)).bind fun r160 =>
 bif r160 then
 ((F_955 a0 a4)).bind fun r161 =>
 bif r161 then
 ((F_957 a0 a4)).bind fun r162 =>
 bif (!(r162 == x159)) then
 ((F_936 a0)).bind fun r163 =>
 (some (r163, ((true, (false, (false, (false, (false, ()))))), ())))
 else
 ((F_956 a0 x159)).bind fun r164 =>
 (some (r164, ((false, (false, (false, (false, (false, ()))))), ())))
 else
 ((F_956 a0 x159)).bind fun r165 =>
 (some (r165, ((false, (false, (false, (false, (false, ()))))), ())))
 else
 ((F_955 a0 a3)).bind fun r166 =>
 bif r166 then
 ((F_955 a0 a4)).bind fun r167 =>
 bif r167 then
 ((F_957 a0 a4)).bind fun r168 =>
 bif (!(r168 == x159)) then
 ((F_936 a0)).bind fun r169 =>
 (some (r169, ((true, (false, (false, (false, (false, ()))))), ())))
 else
 ((F_956 a0 x159)).bind fun r170 =>
 (some (r170, ((false, (false, (false, (false, (false, ()))))), ())))
 else
 ((F_956 a0 x159)).bind fun r171 =>
 (some (r171, ((false, (false, (false, (false, (false, ()))))), ())))
 else
 ((F_955 a0 a4)).bind fun r172 =>
 bif r172 then
 ((F_933 a0)).bind fun r173 =>
 (some ((bits .and .u32 a4 r173), ((false, (false, (false, (false, (false, ()))))), ())))
 else
 ((F_980 a0 a2)).bind fun r174 =>
 bif r174 then
 ((F_980 a0 a4)).bind fun r175 =>
 bif r175 then
 ((F_957 a0 a4)).bind fun r176 =>
 bif (x159 == r176) then
 ((F_934 a0 x159)).bind fun r177 =>
 (some (r177, ((false, (false, (false, (false, (false, ()))))), ())))
 else
 ((F_951 a0 a2)).bind fun r178 =>
 let x179 : Int := r178.2.2.1
 ((F_951 a0 a3)).bind fun r180 =>
 let x181 : Int := r180.2.2.1
 ((F_9a4 x159 (IntKind.wrap .i64 (r178.2.1 + r180.2.1)) (IntKind.wrap .u64 (x179 * x181)))).bind fun r182 =>
 ((F_951 a0 a4)).bind fun r183 =>
 let x184 : Int := r183.2.2.1
 ((F_9a4 r183.1 r183.2.1 x184)).bind fun r185 =>
 ((F_9a3 a0 a1 (r182.1, ([(List.getD r182.2.1 (0:Nat) (0:Int)), (List.getD r182.2.1 (1:Nat) (0:Int)), (List.getD r182.2.1 (2:Nat) (0:Int)), (List.getD r182.2.1 (3:Nat) (0:Int)), (List.getD r182.2.1 (4:Nat) (0:Int)), (List.getD r182.2.1 (5:Nat) (0:Int)), (List.getD r182.2.1 (6:Nat) (0:Int)), (List.getD r182.2.1 (7:Nat) (0:Int)), (List.getD r182.2.1 (8:Nat) (0:Int)), (List.getD r182.2.1 (9:Nat) (0:Int))], ())) (r185.1, ([(List.getD r185.2.1 (0:Nat) (0:Int)), (List.getD r185.2.1 (1:Nat) (0:Int)), (List.getD r185.2.1 (2:Nat) (0:Int)), (List.getD r185.2.1 (3:Nat) (0:Int)), (List.getD r185.2.1 (4:Nat) (0:Int)), (List.getD r185.2.1 (5:Nat) (0:Int)), (List.getD r185.2.1 (6:Nat) (0:Int)), (List.getD r185.2.1 (7:Nat) (0:Int)), (List.getD r185.2.1 (8:Nat) (0:Int)), (List.getD r185.2.1 (9:Nat) (0:Int))], ())))).bind fun r186 =>
 (some r186)
 else
 ((F_951 a0 a2)).bind fun r187 =>
 let x188 : Int := r187.2.2.1
 ((F_951 a0 a3)).bind fun r189 =>
 let x190 : Int := r189.2.2.1
 ((F_9a4 x159 (IntKind.wrap .i64 (r187.2.1 + r189.2.1)) (IntKind.wrap .u64 (x188 * x190)))).bind fun r191 =>
 ((F_951 a0 a4)).bind fun r192 =>
 let x193 : Int := r192.2.2.1
 ((F_9a4 r192.1 r192.2.1 x193)).bind fun r194 =>
 ((F_9a3 a0 a1 (r191.1, ([(List.getD r191.2.1 (0:Nat) (0:Int)), (List.getD r191.2.1 (1:Nat) (0:Int)), (List.getD r191.2.1 (2:Nat) (0:Int)), (List.getD r191.2.1 (3:Nat) (0:Int)), (List.getD r191.2.1 (4:Nat) (0:Int)), (List.getD r191.2.1 (5:Nat) (0:Int)), (List.getD r191.2.1 (6:Nat) (0:Int)), (List.getD r191.2.1 (7:Nat) (0:Int)), (List.getD r191.2.1 (8:Nat) (0:Int)), (List.getD r191.2.1 (9:Nat) (0:Int))], ())) (r194.1, ([(List.getD r194.2.1 (0:Nat) (0:Int)), (List.getD r194.2.1 (1:Nat) (0:Int)), (List.getD r194.2.1 (2:Nat) (0:Int)), (List.getD r194.2.1 (3:Nat) (0:Int)), (List.getD r194.2.1 (4:Nat) (0:Int)), (List.getD r194.2.1 (5:Nat) (0:Int)), (List.getD r194.2.1 (6:Nat) (0:Int)), (List.getD r194.2.1 (7:Nat) (0:Int)), (List.getD r194.2.1 (8:Nat) (0:Int)), (List.getD r194.2.1 (9:Nat) (0:Int))], ())))).bind fun r195 =>
 (some r195)
 else
 ((F_980 a0 a3)).bind fun r196 =>
 bif r196 then
 ((F_980 a0 a4)).bind fun r197 =>
 bif r197 then
 ((F_957 a0 a4)).bind fun r198 =>
 bif (x159 == r198) then
 ((F_934 a0 x159)).bind fun r199 =>
 (some (r199, ((false, (false, (false, (false, (false, ()))))), ())))
 else
 ((F_951 a0 a2)).bind fun r200 =>
 let x201 : Int := r200.2.2.1
 ((F_951 a0 a3)).bind fun r202 =>
 let x203 : Int := r202.2.2.1
 ((F_9a4 x159 (IntKind.wrap .i64 (r200.2.1 + r202.2.1)) (IntKind.wrap .u64 (x201 * x203)))).bind fun r204 =>
 ((F_951 a0 a4)).bind fun r205 =>
 let x206 : Int := r205.2.2.1
 ((F_9a4 r205.1 r205.2.1 x206)).bind fun r207 =>
 ((F_9a3 a0 a1 (r204.1, ([(List.getD r204.2.1 (0:Nat) (0:Int)), (List.getD r204.2.1 (1:Nat) (0:Int)), (List.getD r204.2.1 (2:Nat) (0:Int)), (List.getD r204.2.1 (3:Nat) (0:Int)), (List.getD r204.2.1 (4:Nat) (0:Int)), (List.getD r204.2.1 (5:Nat) (0:Int)), (List.getD r204.2.1 (6:Nat) (0:Int)), (List.getD r204.2.1 (7:Nat) (0:Int)), (List.getD r204.2.1 (8:Nat) (0:Int)), (List.getD r204.2.1 (9:Nat) (0:Int))], ())) (r207.1, ([(List.getD r207.2.1 (0:Nat) (0:Int)), (List.getD r207.2.1 (1:Nat) (0:Int)), (List.getD r207.2.1 (2:Nat) (0:Int)), (List.getD r207.2.1 (3:Nat) (0:Int)), (List.getD r207.2.1 (4:Nat) (0:Int)), (List.getD r207.2.1 (5:Nat) (0:Int)), (List.getD r207.2.1 (6:Nat) (0:Int)), (List.getD r207.2.1 (7:Nat) (0:Int)), (List.getD r207.2.1 (8:Nat) (0:Int)), (List.getD r207.2.1 (9:Nat) (0:Int))], ())))).bind fun r208 =>
 (some r208)
 else
 ((F_951 a0 a2)).bind fun r209 =>
 let x210 : Int := r209.2.2.1
 ((F_951 a0 a3)).bind fun r211 =>
 let x212 : Int := r211.2.2.1
 ((F_9a4 x159 (IntKind.wrap .i64 (r209.2.1 + r211.2.1)) (IntKind.wrap .u64 (x210 * x212)))).bind fun r213 =>
 ((F_951 a0 a4)).bind fun r214 =>
 let x215 : Int := r214.2.2.1
 ((F_9a4 r214.1 r214.2.1 x215)).bind fun r216 =>
 ((F_9a3 a0 a1 (r213.1, ([(List.getD r213.2.1 (0:Nat) (0:Int)), (List.getD r213.2.1 (1:Nat) (0:Int)), (List.getD r213.2.1 (2:Nat) (0:Int)), (List.getD r213.2.1 (3:Nat) (0:Int)), (List.getD r213.2.1 (4:Nat) (0:Int)), (List.getD r213.2.1 (5:Nat) (0:Int)), (List.getD r213.2.1 (6:Nat) (0:Int)), (List.getD r213.2.1 (7:Nat) (0:Int)), (List.getD r213.2.1 (8:Nat) (0:Int)), (List.getD r213.2.1 (9:Nat) (0:Int))], ())) (r216.1, ([(List.getD r216.2.1 (0:Nat) (0:Int)), (List.getD r216.2.1 (1:Nat) (0:Int)), (List.getD r216.2.1 (2:Nat) (0:Int)), (List.getD r216.2.1 (3:Nat) (0:Int)), (List.getD r216.2.1 (4:Nat) (0:Int)), (List.getD r216.2.1 (5:Nat) (0:Int)), (List.getD r216.2.1 (6:Nat) (0:Int)), (List.getD r216.2.1 (7:Nat) (0:Int)), (List.getD r216.2.1 (8:Nat) (0:Int)), (List.getD r216.2.1 (9:Nat) (0:Int))], ())))).bind fun r217 =>
 (some r217)
 else
 ((F_951 a0 a2)).bind fun r218 =>
 let x219 : Int := r218.2.2.1
 ((F_951 a0 a3)).bind fun r220 =>
 let x221 : Int := r220.2.2.1
 ((F_9a4 x159 (IntKind.wrap .i64 (r218.2.1 + r220.2.1)) (IntKind.wrap .u64 (x219 * x221)))).bind fun r222 =>
 ((F_951 a0 a4)).bind fun r223 =>
 let x224 : Int := r223.2.2.1
 ((F_9a4 r223.1 r223.2.1 x224)).bind fun r225 =>
 ((F_9a3 a0 a1 (r222.1, ([(List.getD r222.2.1 (0:Nat) (0:Int)), (List.getD r222.2.1 (1:Nat) (0:Int)), (List.getD r222.2.1 (2:Nat) (0:Int)), (List.getD r222.2.1 (3:Nat) (0:Int)), (List.getD r222.2.1 (4:Nat) (0:Int)), (List.getD r222.2.1 (5:Nat) (0:Int)), (List.getD r222.2.1 (6:Nat) (0:Int)), (List.getD r222.2.1 (7:Nat) (0:Int)), (List.getD r222.2.1 (8:Nat) (0:Int)), (List.getD r222.2.1 (9:Nat) (0:Int))], ())) (r225.1, ([(List.getD r225.2.1 (0:Nat) (0:Int)), (List.getD r225.2.1 (1:Nat) (0:Int)), (List.getD r225.2.1 (2:Nat) (0:Int)), (List.getD r225.2.1 (3:Nat) (0:Int)), (List.getD r225.2.1 (4:Nat) (0:Int)), (List.getD r225.2.1 (5:Nat) (0:Int)), (List.getD r225.2.1 (6:Nat) (0:Int)), (List.getD r225.2.1 (7:Nat) (0:Int)), (List.getD r225.2.1 (8:Nat) (0:Int)), (List.getD r225.2.1 (9:Nat) (0:Int))], ())))).bind fun r226 =>
 (some r226)
 else
 ((F_954 a0 [a2, a3, a4])).bind fun r227 =>
 bif r227.1 then
 ((F_936 a0)).bind fun r228 =>
 bif r227.2.1 then
 (some (r228, ((true, (false, (false, (false, (false, ()))))), ())))
 else
 (some (r228, ((false, (false, (false, (false, (false, ()))))), ())))
 else
 ((F_957 a0 a2)).bind fun r229 =>
 ((F_957 a0 a3)).bind fun r230 =>
 let x231 : Bool := (!(r229 == r230))
 ((F_955 a0 a2)).bind fun r232 =>
 bif r232 then
 ((F_955 a0 a4)).bind fun r233 =>
 bif r233 then
 ((F_957 a0 a4)).bind fun r234 =>
 bif (!(r234 == x231)) then
 ((F_936 a0)).bind fun r235 =>
 (some (r235, ((true, (false, (false, (false, (false, ()))))), ())))
 else
 ((F_956 a0 x231)).bind fun r236 =>
 (some (r236, ((false, (false, (false, (false, (false, ()))))), ())))
 else
 ((F_956 a0 x231)).bind fun r237 =>
 (some (r237, ((false, (false, (false, (false, (false, ()))))), ())))
 else
 ((F_955 a0 a3)).bind fun r238 =>
 bif r238 then
 ((F_955 a0 a4)).bind fun r239 =>
 bif r239 then
 ((F_957 a0 a4)).bind fun r240 =>
 bif (!(r240 == x231)) then
 ((F_936 a0)).bind fun r241 =>
 (some (r241, ((true, (false, (false, (false, (false, ()))))), ())))
 else
 ((F_956 a0 x231)).bind fun r242 =>
 (some (r242, ((false, (false, (false, (false, (false, ()))))), ())))
 else
 ((F_956 a0 x231)).bind fun r243 =>
 (some (r243, ((false, (false, (false, (false, (false, ()))))), ())))
 else
 ((F_955 a0 a4)).bind fun r244 =>
 bif r244 then
 ((F_933 a0)).bind fun r245 =>
 (some ((bits .and .u32 a4 r245), ((false, (false, (false, (false, (false, ()))))), ())))
 else
 ((F_980 a0 a2)).bind fun r246 =>
 bif r246 then
 ((F_980 a0 a4)).bind fun r247 =>
 bif r247 then
 ((F_957 a0 a4)).bind fun r248 =>
 bif (x231 == r248) then
 ((F_934 a0 x231)).bind fun r249 =>
 (some (r249, ((false, (false, (false, (false, (false, ()))))), ())))
 else
 ((F_951 a0 a2)).bind fun r250 =>
 let x251 : Int := r250.2.2.1
 ((F_951 a0 a3)).bind fun r252 =>
 let x253 : Int := r252.2.2.1
 ((F_9a4 x231 (IntKind.wrap .i64 (r250.2.1 + r252.2.1)) (IntKind.wrap .u64 (x251 * x253)))).bind fun r254 =>
 ((F_951 a0 a4)).bind fun r255 =>
 let x256 : Int := r255.2.2.1
 ((F_9a4 r255.1 r255.2.1 x256)).bind fun r257 =>
 ((F_9a3 a0 a1 (r254.1, ([(List.getD r254.2.1 (0:Nat) (0:Int)), (List.getD r254.2.1 (1:Nat) (0:Int)), (List.getD r254.2.1 (2:Nat) (0:Int)), (List.getD r254.2.1 (3:Nat) (0:Int)), (List.getD r254.2.1 (4:Nat) (0:Int)), (List.getD r254.2.1 (5:Nat) (0:Int)), (List.getD r254.2.1 (6:Nat) (0:Int)), (List.getD r254.2.1 (7:Nat) (0:Int)), (List.getD r254.2.1 (8:Nat) (0:Int)), (List.getD r254.2.1 (9:Nat) (0:Int))], ())) (r257.1, ([(List.getD r257.2.1 (0:Nat) (0:Int)), (List.getD r257.2.1 (1:Nat) (0:Int)), (List.getD r257.2.1 (2:Nat) (0:Int)), (List.getD r257.2.1 (3:Nat) (0:Int)), (List.getD r257.2.1 (4:Nat) (0:Int)), (List.getD r257.2.1 (5:Nat) (0:Int)), (List.getD r257.2.1 (6:Nat) (0:Int)), (List.getD r257.2.1 (7:Nat) (0:Int)), (List.getD r257.2.1 (8:Nat) (0:Int)), (List.getD r257.2.1 (9:Nat) (0:Int))], ())))).bind fun r258 =>
 (some r258)
 else
 ((F_951 a0 a2)).bind fun r259 =>
 let x260 : Int := r259.2.2.1
 ((F_951 a0 a3)).bind fun r261 =>
 let x262 : Int := r261.2.2.1
 ((F_9a4 x231 (IntKind.wrap .i64 (r259.2.1 + r261.2.1)) (IntKind.wrap .u64 (x260 * x262)))).bind fun r263 =>
 ((F_951 a0 a4)).bind fun r264 =>
 let x265 : Int := r264.2.2.1
 ((F_9a4 r264.1 r264.2.1 x265)).bind fun r266 =>
 ((F_9a3 a0 a1 (r263.1, ([(List.getD r263.2.1 (0:Nat) (0:Int)), (List.getD r263.2.1 (1:Nat) (0:Int)), (List.getD r263.2.1 (2:Nat) (0:Int)), (List.getD r263.2.1 (3:Nat) (0:Int)), (List.getD r263.2.1 (4:Nat) (0:Int)), (List.getD r263.2.1 (5:Nat) (0:Int)), (List.getD r263.2.1 (6:Nat) (0:Int)), (List.getD r263.2.1 (7:Nat) (0:Int)), (List.getD r263.2.1 (8:Nat) (0:Int)), (List.getD r263.2.1 (9:Nat) (0:Int))], ())) (r266.1, ([(List.getD r266.2.1 (0:Nat) (0:Int)), (List.getD r266.2.1 (1:Nat) (0:Int)), (List.getD r266.2.1 (2:Nat) (0:Int)), (List.getD r266.2.1 (3:Nat) (0:Int)), (List.getD r266.2.1 (4:Nat) (0:Int)), (List.getD r266.2.1 (5:Nat) (0:Int)), (List.getD r266.2.1 (6:Nat) (0:Int)), (List.getD r266.2.1 (7:Nat) (0:Int)), (List.getD r266.2.1 (8:Nat) (0:Int)), (List.getD r266.2.1 (9:Nat) (0:Int))], ())))).bind fun r267 =>
 (some r267)
 else
 ((F_980 a0 a3)).bind fun r268 =>
 bif r268 then
 ((F_980 a0 a4)).bind fun r269 =>
 bif r269 then
 ((F_957 a0 a4)).bind fun r270 =>
 bif (x231 == r270) then
 ((F_934 a0 x231)).bind fun r271 =>
 (some (r271, ((false, (false, (false, (false, (false, ()))))), ())))
 else
 ((F_951 a0 a2)).bind fun r272 =>
 let x273 : Int := r272.2.2.1
 ((F_951 a0 a3)).bind fun r274 =>
 let x275 : Int := r274.2.2.1
 ((F_9a4 x231 (IntKind.wrap .i64 (r272.2.1 + r274.2.1)) (IntKind.wrap .u64 (x273 * x275)))).bind fun r276 =>
 ((F_951 a0 a4)).bind fun r277 =>
 let x278 : Int := r277.2.2.1
 ((F_9a4 r277.1 r277.2.1 x278)).bind fun r279 =>
 ((F_9a3 a0 a1 (r276.1, ([(List.getD r276.2.1 (0:Nat) (0:Int)), (List.getD r276.2.1 (1:Nat) (0:Int)), (List.getD r276.2.1 (2:Nat) (0:Int)), (List.getD r276.2.1 (3:Nat) (0:Int)), (List.getD r276.2.1 (4:Nat) (0:Int)), (List.getD r276.2.1 (5:Nat) (0:Int)), (List.getD r276.2.1 (6:Nat) (0:Int)), (List.getD r276.2.1 (7:Nat) (0:Int)), (List.getD r276.2.1 (8:Nat) (0:Int)), (List.getD r276.2.1 (9:Nat) (0:Int))], ())) (r279.1, ([(List.getD r279.2.1 (0:Nat) (0:Int)), (List.getD r279.2.1 (1:Nat) (0:Int)), (List.getD r279.2.1 (2:Nat) (0:Int)), (List.getD r279.2.1 (3:Nat) (0:Int)), (List.getD r279.2.1 (4:Nat) (0:Int)), (List.getD r279.2.1 (5:Nat) (0:Int)), (List.getD r279.2.1 (6:Nat) (0:Int)), (List.getD r279.2.1 (7:Nat) (0:Int)), (List.getD r279.2.1 (8:Nat) (0:Int)), (List.getD r279.2.1 (9:Nat) (0:Int))], ())))).bind fun r280 =>
 (some r280)
 else
 ((F_951 a0 a2)).bind fun r281 =>
 let x282 : Int := r281.2.2.1
 ((F_951 a0 a3)).bind fun r283 =>
 let x284 : Int := r283.2.2.1
 ((F_9a4 x231 (IntKind.wrap .i64 (r281.2.1 + r283.2.1)) (IntKind.wrap .u64 (x282 * x284)))).bind fun r285 =>
 ((F_951 a0 a4)).bind fun r286 =>
 let x287 : Int := r286.2.2.1
 ((F_9a4 r286.1 r286.2.1 x287)).bind fun r288 =>
 ((F_9a3 a0 a1 (r285.1, ([(List.getD r285.2.1 (0:Nat) (0:Int)), (List.getD r285.2.1 (1:Nat) (0:Int)), (List.getD r285.2.1 (2:Nat) (0:Int)), (List.getD r285.2.1 (3:Nat) (0:Int)), (List.getD r285.2.1 (4:Nat) (0:Int)), (List.getD r285.2.1 (5:Nat) (0:Int)), (List.getD r285.2.1 (6:Nat) (0:Int)), (List.getD r285.2.1 (7:Nat) (0:Int)), (List.getD r285.2.1 (8:Nat) (0:Int)), (List.getD r285.2.1 (9:Nat) (0:Int))], ())) (r288.1, ([(List.getD r288.2.1 (0:Nat) (0:Int)), (List.getD r288.2.1 (1:Nat) (0:Int)), (List.getD r288.2.1 (2:Nat) (0:Int)), (List.getD r288.2.1 (3:Nat) (0:Int)), (List.getD r288.2.1 (4:Nat) (0:Int)), (List.getD r288.2.1 (5:Nat) (0:Int)), (List.getD r288.2.1 (6:Nat) (0:Int)), (List.getD r288.2.1 (7:Nat) (0:Int)), (List.getD r288.2.1 (8:Nat) (0:Int)), (List.getD r288.2.1 (9:Nat) (0:Int))], ())))).bind fun r289 =>
 (some r289)
 else
 ((F_951 a0 a2)).bind fun r290 =>
 let x291 : Int := r290.2.2.1
 ((F_951 a0 a3)).bind fun r292 =>
 let x293 : Int := r292.2.2.1
 ((F_9a4 x231 (IntKind.wrap .i64 (r290.2.1 + r292.2.1)) (IntKind.wrap .u64 (x291 * x293)))).bind fun r294 =>
 ((F_951 a0 a4)).bind fun r295 =>
 let x296 : Int := r295.2.2.1
 ((F_9a4 r295.1 r295.2.1 x296)).bind fun r297 =>
 ((F_9a3 a0 a1 (r294.1, ([(List.getD r294.2.1 (0:Nat) (0:Int)), (List.getD r294.2.1 (1:Nat) (0:Int)), (List.getD r294.2.1 (2:Nat) (0:Int)), (List.getD r294.2.1 (3:Nat) (0:Int)), (List.getD r294.2.1 (4:Nat) (0:Int)), (List.getD r294.2.1 (5:Nat) (0:Int)), (List.getD r294.2.1 (6:Nat) (0:Int)), (List.getD r294.2.1 (7:Nat) (0:Int)), (List.getD r294.2.1 (8:Nat) (0:Int)), (List.getD r294.2.1 (9:Nat) (0:Int))], ())) (r297.1, ([(List.getD r297.2.1 (0:Nat) (0:Int)), (List.getD r297.2.1 (1:Nat) (0:Int)), (List.getD r297.2.1 (2:Nat) (0:Int)), (List.getD r297.2.1 (3:Nat) (0:Int)), (List.getD r297.2.1 (4:Nat) (0:Int)), (List.getD r297.2.1 (5:Nat) (0:Int)), (List.getD r297.2.1 (6:Nat) (0:Int)), (List.getD r297.2.1 (7:Nat) (0:Int)), (List.getD r297.2.1 (8:Nat) (0:Int)), (List.getD r297.2.1 (9:Nat) (0:Int))], ())))).bind fun r298 =>
 (some r298)
noncomputable def G_97f : T fa_97f → TH ha_97f → Option (Int × (Bool × Bool × Bool × Bool × Bool × Unit) × Unit) := fun x y => F_97f x.1 x.2.1 x.2.2.1 x.2.2.2.1 x.2.2.2.2.1
noncomputable def c_97f : Orc := ent i_97f [] 0 (sp fa_97f ha_97f fr_97f hr_97f G_97f out_97f)
theorem ok_97f : OrcOk PR c_97f := fnT okO_97f mixed p_97f (by kernel_rfl) (by kernel_rfl) (L := L_97f) (kp := false) (by kernel_rfl) (inn := inn_97f) (out := out_97f) (fun _ _ => rfl) (loopsL (l := []) (by kernel_rfl) trivial) (fun x y => by kernel_rfl)
noncomputable def O_94d : Orc := c_97f
theorem okO_94d : OrcOk PR O_94d := ok_97f
abbrev fa_94d : Fm := (.pair (.i .u32) (.pair (.i .u32) (.pair (.i .u32) .unit)))
abbrev ha_94d : List BF := []
abbrev fr_94d : Fm := (.i .u32)
abbrev hr_94d : List BF := []
noncomputable def L_94d : Lps := L0
def inn_94d : T fr_94d → TH hr_94d → Int := (fun z w => z)
def out_94d : Int → T fr_94d × TH hr_94d := fun r => (r, ())
noncomputable def F_94d (a0 : Int) (a1 : Int) (a2 : Int) : Option (Int) :=
 ((F_97f (2:Int) (0:Int) a0 a1 a2)).bind fun r0 =>
 (some r0.1)
noncomputable def G_94d : T fa_94d → TH ha_94d → Option (Int) := fun x y => F_94d x.1 x.2.1 x.2.2.1
noncomputable def c_94d : Orc := ent i_94d [] 0 (sp fa_94d ha_94d fr_94d hr_94d G_94d out_94d)
theorem ok_94d : OrcOk PR c_94d := fnT okO_94d mixed p_94d (by kernel_rfl) (by kernel_rfl) (L := L_94d) (kp := false) (by kernel_rfl) (inn := inn_94d) (out := out_94d) (fun _ _ => rfl) (loopsL (l := []) (by kernel_rfl) trivial) (fun x y => by kernel_rfl)
end Go.Proofs.YtfpjkmgfkaoapaaGreat.VI
