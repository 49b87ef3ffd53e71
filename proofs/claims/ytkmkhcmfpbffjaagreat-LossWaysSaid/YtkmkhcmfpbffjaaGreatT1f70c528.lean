import Derived.Test.YtkmkhcmfpbffjaaGreatT643e6092
namespace Go.Proofs.YtkmkhcmfpbffjaaGreat.VI
set_option linter.unusedVariables false
set_option linter.unusedSimpArgs false
set_option maxRecDepth 100000
noncomputable def O_971 : Orc := orn
theorem okO_971 : OrcOk PR O_971 := (orn_ok _)
abbrev fa_971 : Fm := (.pair .b (.pair (.i .i64) (.pair (.i .u64) .unit)))
abbrev fr_971 : Fm := (.agg (.pair .b (.pair (.rep 10 (.i .u64)) .unit)))
noncomputable def F_971 (a0 : Bool) (a1 : Int) (a2 : Int) : Option (Bool × List (Int) × Unit) :=
 let x0 : Int := (IntKind.wrap .i64 (a1 + (298:Int)))
 let x1 : Int := (IntKind.wrap .i64 (Int.tdiv x0 (64:Int)))
 let x2 : Int := (Int.tmod x0 (64:Int))
 let x3 : List Int := (List.set [(0:Int), (0:Int), (0:Int), (0:Int), (0:Int), (0:Int), (0:Int), (0:Int), (0:Int), (0:Int)] (((1:Nat) + ((Int.toNat x1) * (1:Nat))) - (1:Nat)) (IntKind.wrap .u64 (a2 * ((2:Int) ^ (Min.min (Int.toNat x2) (64:Nat))))))
 let x4 : List Int := (List.set x3 (((1:Nat) + ((Int.toNat (IntKind.wrap .i64 (x1 + (1:Int)))) * (1:Nat))) - (1:Nat)) (a2 / ((2:Int) ^ (Min.min (Int.toNat (IntKind.wrap .i64 ((64:Int) - x2))) (64:Nat)))))
 let x5 : List Int := [(List.getD x4 (0:Nat) (0:Int)), (List.getD x4 (1:Nat) (0:Int)), (List.getD x4 (2:Nat) (0:Int)), (List.getD x4 (3:Nat) (0:Int)), (List.getD x4 (4:Nat) (0:Int)), (List.getD x4 (5:Nat) (0:Int)), (List.getD x4 (6:Nat) (0:Int)), (List.getD x4 (7:Nat) (0:Int)), (List.getD x4 (8:Nat) (0:Int)), (List.getD x4 (9:Nat) (0:Int))]
 let x6 : List Int := [(List.getD x3 (0:Nat) (0:Int)), (List.getD x3 (1:Nat) (0:Int)), (List.getD x3 (2:Nat) (0:Int)), (List.getD x3 (3:Nat) (0:Int)), (List.getD x3 (4:Nat) (0:Int)), (List.getD x3 (5:Nat) (0:Int)), (List.getD x3 (6:Nat) (0:Int)), (List.getD x3 (7:Nat) (0:Int)), (List.getD x3 (8:Nat) (0:Int)), (List.getD x3 (9:Nat) (0:Int))]
 bif (decide ((0:Int) ≤ x2)) then
 bif (decide (((0:Int) ≤ x1) ∧ (x1 < (10:Int)))) then
 bif (decide (((1:Nat) ≤ ((1:Nat) + ((Int.toNat x1) * (1:Nat)))) ∧ (((1:Nat) + ((Int.toNat x1) * (1:Nat))) < (11:Nat)))) then
 bif (decide (x2 > (0:Int))) then
 bif (decide (x1 < (9:Int))) then
 bif (decide ((0:Int) ≤ (IntKind.wrap .i64 ((64:Int) - x2)))) then
 bif (decide (((0:Int) ≤ (IntKind.wrap .i64 (x1 + (1:Int)))) ∧ ((IntKind.wrap .i64 (x1 + (1:Int))) < (10:Int)))) then
 bif (decide (((1:Nat) ≤ ((1:Nat) + ((Int.toNat (IntKind.wrap .i64 (x1 + (1:Int)))) * (1:Nat)))) ∧ (((1:Nat) + ((Int.toNat (IntKind.wrap .i64 (x1 + (1:Int)))) * (1:Nat))) < ((1:Nat) + (List.length x3))))) then
 bif (decide ((11:Nat) = ((1:Nat) + (List.length x4)))) then
 (some (a0, ([(List.getD x5 (0:Nat) (0:Int)), (List.getD x5 (1:Nat) (0:Int)), (List.getD x5 (2:Nat) (0:Int)), (List.getD x5 (3:Nat) (0:Int)), (List.getD x5 (4:Nat) (0:Int)), (List.getD x5 (5:Nat) (0:Int)), (List.getD x5 (6:Nat) (0:Int)), (List.getD x5 (7:Nat) (0:Int)), (List.getD x5 (8:Nat) (0:Int)), (List.getD x5 (9:Nat) (0:Int))], ())))
 else
 none
 else
 none
 else
 none
 else
 none
 else
 bif (decide ((11:Nat) = ((1:Nat) + (List.length x3)))) then
 (some (a0, ([(List.getD x6 (0:Nat) (0:Int)), (List.getD x6 (1:Nat) (0:Int)), (List.getD x6 (2:Nat) (0:Int)), (List.getD x6 (3:Nat) (0:Int)), (List.getD x6 (4:Nat) (0:Int)), (List.getD x6 (5:Nat) (0:Int)), (List.getD x6 (6:Nat) (0:Int)), (List.getD x6 (7:Nat) (0:Int)), (List.getD x6 (8:Nat) (0:Int)), (List.getD x6 (9:Nat) (0:Int))], ())))
 else
 none
 else
 bif (decide ((11:Nat) = ((1:Nat) + (List.length x3)))) then
 (some (a0, ([(List.getD x6 (0:Nat) (0:Int)), (List.getD x6 (1:Nat) (0:Int)), (List.getD x6 (2:Nat) (0:Int)), (List.getD x6 (3:Nat) (0:Int)), (List.getD x6 (4:Nat) (0:Int)), (List.getD x6 (5:Nat) (0:Int)), (List.getD x6 (6:Nat) (0:Int)), (List.getD x6 (7:Nat) (0:Int)), (List.getD x6 (8:Nat) (0:Int)), (List.getD x6 (9:Nat) (0:Int))], ())))
 else
 none
 else
 none
 else
 none
 else
 none
noncomputable def G_971 : T fa_971 → TH hN0 → Option (Bool × List (Int) × Unit) := fun x y => F_971 x.1 x.2.1 x.2.2.1
noncomputable def c_971 : Orc := ent i_971 [] 0 (sp fa_971 hN0 fr_971 hN0 G_971 (outN fr_971))
theorem ok_971 : OrcOk PR c_971 := fnT okO_971 mixed p_971 (by kernel_rfl) (by kernel_rfl) (L := L0) (kp := false) (by kernel_rfl) (inn := (innN fr_971)) (out := (outN fr_971)) (fun _ _ => rfl) (loopsL (l := []) (by kernel_rfl) trivial) (fun x y => by kernel_rfl)
noncomputable def O_98b : Orc := orn
theorem okO_98b : OrcOk PR O_98b := (orn_ok _)
abbrev fa_98b : Fm := (.pair (.agg (.pair .b (.pair (.rep 10 (.i .u64)) .unit))) (.pair (.agg (.pair .b (.pair (.rep 10 (.i .u64)) .unit))) .unit))
abbrev fr_98b : Fm := .b
abbrev ff_98b_0 : Fm := (.us 2 (.cst (.ref 0 1 0) (.cst (.ref 1 1 0) (.us 1 (.pair (.i .i64) (.us 22 .unit))))))
abbrev hf_98b_0 : List BF := [(.mix 1 y_93 true (.pair .b .unit) .u64), (.mix 1 y_93 true (.pair .b .unit) .u64)]
abbrev X_98b_0 : Xs := (.alt (.exit 0) [] (.us 28 .unit) [] (.one .ret [4] (.us 4 (.pair .b (.us 23 .unit))) []))
abbrev S_98b_0 : Type := T ff_98b_0 × TH hf_98b_0
abbrev E_98b_0 : Type := TX X_98b_0
noncomputable def LB_98b_0 : Lps := L0
noncomputable def st_98b_0 : StepT S_98b_0 E_98b_0 := fun R v kn ko =>
 let x0 : Int := v.1.1
 let x1 : Nat := (((1:Nat) + ((Int.toNat x0) * (1:Nat))) - (1:Nat))
 bif (decide (x0 ≥ (0:Int))) then
 bif (decide (((0:Int) ≤ x0) ∧ (x0 < (10:Int)))) then
 bif (decide (((1:Nat) ≤ ((1:Nat) + ((Int.toNat x0) * (1:Nat)))) ∧ (((1:Nat) + ((Int.toNat x0) * (1:Nat))) < ((1:Nat) + (List.length v.2.1.2))))) then
 bif (decide (((0:Int) ≤ x0) ∧ (x0 < (10:Int)))) then
 bif (decide (((1:Nat) ≤ ((1:Nat) + ((Int.toNat x0) * (1:Nat)))) ∧ (((1:Nat) + ((Int.toNat x0) * (1:Nat))) < ((1:Nat) + (List.length v.2.2.1.2))))) then
 bif ((List.getD v.2.1.2 x1 (0:Int)) != (List.getD v.2.2.1.2 x1 (0:Int))) then
 bif (decide (((0:Int) ≤ x0) ∧ (x0 < (10:Int)))) then
 bif (decide (((1:Nat) ≤ ((1:Nat) + ((Int.toNat x0) * (1:Nat)))) ∧ (((1:Nat) + ((Int.toNat x0) * (1:Nat))) < ((1:Nat) + (List.length v.2.1.2))))) then
 bif (decide (((0:Int) ≤ x0) ∧ (x0 < (10:Int)))) then
 bif (decide (((1:Nat) ≤ ((1:Nat) + ((Int.toNat x0) * (1:Nat)))) ∧ (((1:Nat) + ((Int.toNat x0) * (1:Nat))) < ((1:Nat) + (List.length v.2.2.1.2))))) then
 (ko (Sum.inr (((decide ((List.getD v.2.1.2 x1 (0:Int)) < (List.getD v.2.2.1.2 x1 (0:Int)))), ()), ())))
 else
 none
 else
 none
 else
 none
 else
 none
 else
 (kn (((IntKind.wrap .i64 (x0 - (1:Int))), ()), v.2))
 else
 none
 else
 none
 else
 none
 else
 none
 else
 (ko (Sum.inl ((), ())))
noncomputable def ls_98b_0 : St → LTr := (lsum ff_98b_0 hf_98b_0 X_98b_0 Prod.mk id st_98b_0 (hd [] [] [2, 3, 5] 0))
theorem lp_98b_0 : LoopOk PR 0 (lpN f_98b 0) ls_98b_0 := loopT okO_98b mixed (L := LB_98b_0) (d := 1) (bs := []) (ks := [2, 3, 5]) (loopsL (l := []) (by kernel_rfl) trivial) (by kernel_rfl) (inS := Prod.mk) (outS := id) (fun _ _ => rfl) (inX := id) (outX := id) (fun _ => rfl) (fun v R kn ko => by kernel_rfl) (hd_wk [] [] [2, 3, 5] 0)
noncomputable def L_98b : Lps := (lpB 3 (.by_ ls_98b_0) L0)
noncomputable def F_98b (a0 : Bool × List (Int) × Unit) (a1 : Bool × List (Int) × Unit) : Option (Bool) :=
 ((lim st_98b_0 (((9:Int), ()), (((a0.1, ()), [(List.getD a0.2.1 (0:Nat) (0:Int)), (List.getD a0.2.1 (1:Nat) (0:Int)), (List.getD a0.2.1 (2:Nat) (0:Int)), (List.getD a0.2.1 (3:Nat) (0:Int)), (List.getD a0.2.1 (4:Nat) (0:Int)), (List.getD a0.2.1 (5:Nat) (0:Int)), (List.getD a0.2.1 (6:Nat) (0:Int)), (List.getD a0.2.1 (7:Nat) (0:Int)), (List.getD a0.2.1 (8:Nat) (0:Int)), (List.getD a0.2.1 (9:Nat) (0:Int))]), (((a1.1, ()), [(List.getD a1.2.1 (0:Nat) (0:Int)), (List.getD a1.2.1 (1:Nat) (0:Int)), (List.getD a1.2.1 (2:Nat) (0:Int)), (List.getD a1.2.1 (3:Nat) (0:Int)), (List.getD a1.2.1 (4:Nat) (0:Int)), (List.getD a1.2.1 (5:Nat) (0:Int)), (List.getD a1.2.1 (6:Nat) (0:Int)), (List.getD a1.2.1 (7:Nat) (0:Int)), (List.getD a1.2.1 (8:Nat) (0:Int)), (List.getD a1.2.1 (9:Nat) (0:Int))]), ()))))).bind fun r0 =>
 els (fun l1 =>
 (some false)) (fun r2 =>
 (some r2.1.1)) r0
noncomputable def G_98b : T fa_98b → TH hN0 → Option (Bool) := fun x y => F_98b x.1 x.2.1
noncomputable def c_98b : Orc := ent i_98b [] 0 (sp fa_98b hN0 fr_98b hN0 G_98b (outN fr_98b))
theorem ok_98b : OrcOk PR c_98b := fnT okO_98b mixed p_98b (by kernel_rfl) (by kernel_rfl) (L := L_98b) (kp := false) (by kernel_rfl) (inn := (innN fr_98b)) (out := (outN fr_98b)) (fun _ _ => rfl) (loopsL (l := [((lpN f_98b 0), ls_98b_0)]) (by kernel_rfl) ⟨lp_98b_0, trivial⟩) (fun x y => by kernel_rfl)
noncomputable def O_98a : Orc := c_98b
theorem okO_98a : OrcOk PR O_98a := ok_98b
abbrev fa_98a : Fm := (.pair (.agg (.pair .b (.pair (.rep 10 (.i .u64)) .unit))) (.pair (.agg (.pair .b (.pair (.rep 10 (.i .u64)) .unit))) .unit))
abbrev fr_98a : Fm := (.agg (.pair .b (.pair (.rep 10 (.i .u64)) .unit)))
abbrev ff_98a_0 : Fm := (.us 2 (.cst (.ref 0 1 0) (.cst (.ref 1 1 0) (.cst (.ref 2 1 0) (.pair (.i .u64) (.pair (.i .i64) (.us 44 .unit)))))))
abbrev hf_98a_0 : List BF := [(.mix 1 y_93 true (.pair .b .unit) .u64), (.mix 1 y_93 true (.pair .b .unit) .u64), (.mix 1 y_93 true (.pair .b .unit) .u64)]
abbrev X_98a_0 : Xs := (.one (.exit 0) [2, 4] (.us 2 (.cst (.ref 0 1 0) (.us 1 (.cst (.ref 1 1 0) (.us 46 .unit))))) [(.mix 1 y_93 true (.pair .b .unit) .u64), (.mix 1 y_93 true (.pair .b .unit) .u64)])
abbrev S_98a_0 : Type := T ff_98a_0 × TH hf_98a_0
abbrev E_98a_0 : Type := TX X_98a_0
noncomputable def LB_98a_0 : Lps := L0
noncomputable def st_98a_0 : StepT S_98a_0 E_98a_0 := fun R v kn ko =>
 let x0 : Int := v.1.2.1
 let x1 : List Int := v.2.1.2
 let x2 : Nat := (((1:Nat) + ((Int.toNat x0) * (1:Nat))) - (1:Nat))
 bif (decide (x0 < (10:Int))) then
 bif (decide (((0:Int) ≤ x0) ∧ (x0 < (10:Int)))) then
 bif (decide (((1:Nat) ≤ ((1:Nat) + ((Int.toNat x0) * (1:Nat)))) ∧ (((1:Nat) + ((Int.toNat x0) * (1:Nat))) < ((1:Nat) + (List.length x1))))) then
 bif (decide (((0:Int) ≤ x0) ∧ (x0 < (10:Int)))) then
 bif (decide (((1:Nat) ≤ ((1:Nat) + ((Int.toNat x0) * (1:Nat)))) ∧ (((1:Nat) + ((Int.toNat x0) * (1:Nat))) < ((1:Nat) + (List.length v.2.2.1.2))))) then
 bif (decide (((0:Int) ≤ x0) ∧ (x0 < (10:Int)))) then
 bif (decide (((1:Nat) ≤ ((1:Nat) + ((Int.toNat x0) * (1:Nat)))) ∧ (((1:Nat) + ((Int.toNat x0) * (1:Nat))) < ((1:Nat) + (List.length x1))))) then
 bif (decide (((0:Int) ≤ x0) ∧ (x0 < (10:Int)))) then
 bif (decide (((1:Nat) ≤ ((1:Nat) + ((Int.toNat x0) * (1:Nat)))) ∧ (((1:Nat) + ((Int.toNat x0) * (1:Nat))) < ((1:Nat) + (List.length v.2.2.1.2))))) then
 bif (decide ((List.getD x1 x2 (0:Int)) < (List.getD v.2.2.1.2 x2 (0:Int)))) then
 bif (decide (((0:Int) ≤ x0) ∧ (x0 < (10:Int)))) then
 bif (decide (((1:Nat) ≤ ((1:Nat) + ((Int.toNat x0) * (1:Nat)))) ∧ (((1:Nat) + ((Int.toNat x0) * (1:Nat))) < ((1:Nat) + (List.length x1))))) then
 (kn (((1:Int), ((IntKind.wrap .i64 (x0 + (1:Int))), ())), ((v.2.1.1, (List.set x1 x2 (IntKind.wrap .u64 ((IntKind.wrap .u64 ((List.getD x1 x2 (0:Int)) - (List.getD v.2.2.1.2 x2 (0:Int)))) - v.1.1)))), v.2.2)))
 else
 none
 else
 none
 else
 bif (decide (((0:Int) ≤ x0) ∧ (x0 < (10:Int)))) then
 bif (decide (((1:Nat) ≤ ((1:Nat) + ((Int.toNat x0) * (1:Nat)))) ∧ (((1:Nat) + ((Int.toNat x0) * (1:Nat))) < ((1:Nat) + (List.length x1))))) then
 (kn (((bif (decide ((IntKind.wrap .u64 ((List.getD x1 x2 (0:Int)) - (List.getD v.2.2.1.2 x2 (0:Int)))) < v.1.1)) then (1:Int) else (0:Int)), ((IntKind.wrap .i64 (x0 + (1:Int))), ())), ((v.2.1.1, (List.set x1 x2 (IntKind.wrap .u64 ((IntKind.wrap .u64 ((List.getD x1 x2 (0:Int)) - (List.getD v.2.2.1.2 x2 (0:Int)))) - v.1.1)))), v.2.2)))
 else
 none
 else
 none
 else
 none
 else
 none
 else
 none
 else
 none
 else
 none
 else
 none
 else
 none
 else
 none
 else
 (ko ((), (v.2.1, v.2.2.2)))
noncomputable def ls_98a_0 : St → LTr := (lsum ff_98a_0 hf_98a_0 X_98a_0 Prod.mk id st_98a_0 (hd [] [] [2, 3, 4, 5, 6] 0))
theorem lp_98a_0 : LoopOk PR 0 (lpN f_98a 0) ls_98a_0 := loopT okO_98a mixed (L := LB_98a_0) (d := 1) (bs := []) (ks := [2, 3, 4, 5, 6]) (loopsL (l := []) (by kernel_rfl) trivial) (by kernel_rfl) (inS := Prod.mk) (outS := id) (fun _ _ => rfl) (inX := id) (outX := id) (fun _ => rfl) (fun v R kn ko => by kernel_rfl) (hd_wk [] [] [2, 3, 4, 5, 6] 0)
noncomputable def L_98a : Lps := (lpB 6 (.by_ ls_98a_0) L0)
noncomputable def F_98a (a0 : Bool × List (Int) × Unit) (a1 : Bool × List (Int) × Unit) : Option (Bool × List (Int) × Unit) :=
 let x0 : List Int := [(List.getD a0.2.1 (0:Nat) (0:Int)), (List.getD a0.2.1 (1:Nat) (0:Int)), (List.getD a0.2.1 (2:Nat) (0:Int)), (List.getD a0.2.1 (3:Nat) (0:Int)), (List.getD a0.2.1 (4:Nat) (0:Int)), (List.getD a0.2.1 (5:Nat) (0:Int)), (List.getD a0.2.1 (6:Nat) (0:Int)), (List.getD a0.2.1 (7:Nat) (0:Int)), (List.getD a0.2.1 (8:Nat) (0:Int)), (List.getD a0.2.1 (9:Nat) (0:Int))]
 let x1 : Int := (List.getD x0 (0:Nat) (0:Int))
 let x2 : Int := (List.getD x0 (1:Nat) (0:Int))
 let x3 : Int := (List.getD x0 (2:Nat) (0:Int))
 let x4 : Int := (List.getD x0 (3:Nat) (0:Int))
 let x5 : Int := (List.getD x0 (4:Nat) (0:Int))
 let x6 : Int := (List.getD x0 (5:Nat) (0:Int))
 let x7 : Int := (List.getD x0 (6:Nat) (0:Int))
 let x8 : Int := (List.getD x0 (7:Nat) (0:Int))
 let x9 : Int := (List.getD x0 (8:Nat) (0:Int))
 let x10 : Int := (List.getD x0 (9:Nat) (0:Int))
 let x11 : List Int := [(List.getD a1.2.1 (0:Nat) (0:Int)), (List.getD a1.2.1 (1:Nat) (0:Int)), (List.getD a1.2.1 (2:Nat) (0:Int)), (List.getD a1.2.1 (3:Nat) (0:Int)), (List.getD a1.2.1 (4:Nat) (0:Int)), (List.getD a1.2.1 (5:Nat) (0:Int)), (List.getD a1.2.1 (6:Nat) (0:Int)), (List.getD a1.2.1 (7:Nat) (0:Int)), (List.getD a1.2.1 (8:Nat) (0:Int)), (List.getD a1.2.1 (9:Nat) (0:Int))]
 let x12 : Int := (List.getD x11 (0:Nat) (0:Int))
 let x13 : Int := (List.getD x11 (1:Nat) (0:Int))
 let x14 : Int := (List.getD x11 (2:Nat) (0:Int))
 let x15 : Int := (List.getD x11 (3:Nat) (0:Int))
 let x16 : Int := (List.getD x11 (4:Nat) (0:Int))
 let x17 : Int := (List.getD x11 (5:Nat) (0:Int))
 let x18 : Int := (List.getD x11 (6:Nat) (0:Int))
 let x19 : Int := (List.getD x11 (7:Nat) (0:Int))
 let x20 : Int := (List.getD x11 (8:Nat) (0:Int))
 let x21 : Int := (List.getD x11 (9:Nat) (0:Int))
 ((F_98b (a0.1, ([x1, x2, x3, x4, x5, x6, x7, x8, x9, x10], ())) (a1.1, ([x12, x13, x14, x15, x16, x17, x18, x19, x20, x21], ())))).bind fun r22 =>
 bif r22 then
 ((lim st_98a_0 (((0:Int), ((0:Int), ())), (((a1.1, ()), [x12, x13, x14, x15, x16, x17, x18, x19, x20, x21]), (((a0.1, ()), [x1, x2, x3, x4, x5, x6, x7, x8, x9, x10]), (((false, ()), [(0:Int), (0:Int), (0:Int), (0:Int), (0:Int), (0:Int), (0:Int), (0:Int), (0:Int), (0:Int)]), ())))))).bind fun r23 =>
 let x24 : List Int := r23.2.1.2
 let x25 : List Int := [(List.getD x24 (0:Nat) (0:Int)), (List.getD x24 (1:Nat) (0:Int)), (List.getD x24 (2:Nat) (0:Int)), (List.getD x24 (3:Nat) (0:Int)), (List.getD x24 (4:Nat) (0:Int)), (List.getD x24 (5:Nat) (0:Int)), (List.getD x24 (6:Nat) (0:Int)), (List.getD x24 (7:Nat) (0:Int)), (List.getD x24 (8:Nat) (0:Int)), (List.getD x24 (9:Nat) (0:Int))]
 bif (decide ((11:Nat) = ((1:Nat) + (List.length x24)))) then
 bif (decide (((0:Nat) = (0:Nat)) ∧ (((10:Nat) = (List.length r23.2.2.1.2)) ∧ ((1:Nat) ≤ (11:Nat))))) then
 (some (r23.2.1.1.1, ([(List.getD x25 (0:Nat) (0:Int)), (List.getD x25 (1:Nat) (0:Int)), (List.getD x25 (2:Nat) (0:Int)), (List.getD x25 (3:Nat) (0:Int)), (List.getD x25 (4:Nat) (0:Int)), (List.getD x25 (5:Nat) (0:Int)), (List.getD x25 (6:Nat) (0:Int)), (List.getD x25 (7:Nat) (0:Int)), (List.getD x25 (8:Nat) (0:Int)), (List.getD x25 (9:Nat) (0:Int))], ())))
 else
 none
 else
 none
 else
 ((lim st_98a_0 (((0:Int), ((0:Int), ())), (((a0.1, ()), x0), (((a1.1, ()), x11), (((false, ()), [(0:Int), (0:Int), (0:Int), (0:Int), (0:Int), (0:Int), (0:Int), (0:Int), (0:Int), (0:Int)]), ())))))).bind fun r26 =>
 let x27 : List Int := r26.2.1.2
 let x28 : List Int := [(List.getD x27 (0:Nat) (0:Int)), (List.getD x27 (1:Nat) (0:Int)), (List.getD x27 (2:Nat) (0:Int)), (List.getD x27 (3:Nat) (0:Int)), (List.getD x27 (4:Nat) (0:Int)), (List.getD x27 (5:Nat) (0:Int)), (List.getD x27 (6:Nat) (0:Int)), (List.getD x27 (7:Nat) (0:Int)), (List.getD x27 (8:Nat) (0:Int)), (List.getD x27 (9:Nat) (0:Int))]
 bif (decide ((11:Nat) = ((1:Nat) + (List.length x27)))) then
 bif (decide (((0:Nat) = (0:Nat)) ∧ (((10:Nat) = (List.length r26.2.2.1.2)) ∧ ((1:Nat) ≤ (11:Nat))))) then
 (some (r26.2.1.1.1, ([(List.getD x28 (0:Nat) (0:Int)), (List.getD x28 (1:Nat) (0:Int)), (List.getD x28 (2:Nat) (0:Int)), (List.getD x28 (3:Nat) (0:Int)), (List.getD x28 (4:Nat) (0:Int)), (List.getD x28 (5:Nat) (0:Int)), (List.getD x28 (6:Nat) (0:Int)), (List.getD x28 (7:Nat) (0:Int)), (List.getD x28 (8:Nat) (0:Int)), (List.getD x28 (9:Nat) (0:Int))], ())))
 else
 none
 else
 none
noncomputable def G_98a : T fa_98a → TH hN0 → Option (Bool × List (Int) × Unit) := fun x y => F_98a x.1 x.2.1
noncomputable def c_98a : Orc := ent i_98a [] 0 (sp fa_98a hN0 fr_98a hN0 G_98a (outN fr_98a))
theorem ok_98a : OrcOk PR c_98a := fnT okO_98a mixed p_98a (by kernel_rfl) (by kernel_rfl) (L := L_98a) (kp := false) (by kernel_rfl) (inn := (innN fr_98a)) (out := (outN fr_98a)) (fun _ _ => rfl) (loopsL (l := [((lpN f_98a 0), ls_98a_0)]) (by kernel_rfl) ⟨lp_98a_0, trivial⟩) (fun x y => by kernel_rfl)
noncomputable def O_984 : Orc := c_98a
theorem okO_984 : OrcOk PR O_984 := ok_98a
abbrev fa_984 : Fm := (.pair (.agg (.pair .b (.pair (.rep 10 (.i .u64)) .unit))) (.pair (.agg (.pair .b (.pair (.rep 10 (.i .u64)) .unit))) .unit))
abbrev fr_984 : Fm := (.agg (.pair .b (.pair (.rep 10 (.i .u64)) .unit)))
abbrev ff_984_0 : Fm := (.us 2 (.cst (.ref 0 1 0) (.cst (.ref 1 1 0) (.cst (.ref 2 1 0) (.pair (.i .u64) (.pair (.i .i64) (.us 42 .unit)))))))
abbrev hf_984_0 : List BF := [(.mix 1 y_93 true (.pair .b .unit) .u64), (.mix 1 y_93 true (.pair .b .unit) .u64), (.mix 1 y_93 true (.pair .b .unit) .u64)]
abbrev X_984_0 : Xs := (.one (.exit 0) [2, 4] (.us 2 (.cst (.ref 0 1 0) (.us 1 (.cst (.ref 1 1 0) (.us 44 .unit))))) [(.mix 1 y_93 true (.pair .b .unit) .u64), (.mix 1 y_93 true (.pair .b .unit) .u64)])
abbrev S_984_0 : Type := T ff_984_0 × TH hf_984_0
abbrev E_984_0 : Type := TX X_984_0
noncomputable def LB_984_0 : Lps := L0
noncomputable def st_984_0 : StepT S_984_0 E_984_0 := fun R v kn ko =>
 let x0 : Int := v.1.2.1
 let x1 : List Int := v.2.1.2
 let x2 : Nat := (((1:Nat) + ((Int.toNat x0) * (1:Nat))) - (1:Nat))
 bif (decide (x0 < (10:Int))) then
 bif (decide (((0:Int) ≤ x0) ∧ (x0 < (10:Int)))) then
 bif (decide (((1:Nat) ≤ ((1:Nat) + ((Int.toNat x0) * (1:Nat)))) ∧ (((1:Nat) + ((Int.toNat x0) * (1:Nat))) < ((1:Nat) + (List.length x1))))) then
 bif (decide (((0:Int) ≤ x0) ∧ (x0 < (10:Int)))) then
 bif (decide (((1:Nat) ≤ ((1:Nat) + ((Int.toNat x0) * (1:Nat)))) ∧ (((1:Nat) + ((Int.toNat x0) * (1:Nat))) < ((1:Nat) + (List.length v.2.2.1.2))))) then
 bif (decide (((0:Int) ≤ x0) ∧ (x0 < (10:Int)))) then
 bif (decide (((1:Nat) ≤ ((1:Nat) + ((Int.toNat x0) * (1:Nat)))) ∧ (((1:Nat) + ((Int.toNat x0) * (1:Nat))) < ((1:Nat) + (List.length x1))))) then
 bif (decide ((IntKind.wrap .u64 ((List.getD x1 x2 (0:Int)) + (List.getD v.2.2.1.2 x2 (0:Int)))) < (List.getD x1 x2 (0:Int)))) then
 bif (decide (((0:Int) ≤ x0) ∧ (x0 < (10:Int)))) then
 bif (decide (((1:Nat) ≤ ((1:Nat) + ((Int.toNat x0) * (1:Nat)))) ∧ (((1:Nat) + ((Int.toNat x0) * (1:Nat))) < ((1:Nat) + (List.length x1))))) then
 (kn (((1:Int), ((IntKind.wrap .i64 (x0 + (1:Int))), ())), ((v.2.1.1, (List.set x1 x2 (IntKind.wrap .u64 ((IntKind.wrap .u64 ((List.getD x1 x2 (0:Int)) + (List.getD v.2.2.1.2 x2 (0:Int)))) + v.1.1)))), v.2.2)))
 else
 none
 else
 none
 else
 bif (decide (((0:Int) ≤ x0) ∧ (x0 < (10:Int)))) then
 bif (decide (((1:Nat) ≤ ((1:Nat) + ((Int.toNat x0) * (1:Nat)))) ∧ (((1:Nat) + ((Int.toNat x0) * (1:Nat))) < ((1:Nat) + (List.length x1))))) then
 (kn (((bif (decide ((IntKind.wrap .u64 ((IntKind.wrap .u64 ((List.getD x1 x2 (0:Int)) + (List.getD v.2.2.1.2 x2 (0:Int)))) + v.1.1)) < (IntKind.wrap .u64 ((List.getD x1 x2 (0:Int)) + (List.getD v.2.2.1.2 x2 (0:Int)))))) then (1:Int) else (0:Int)), ((IntKind.wrap .i64 (x0 + (1:Int))), ())), ((v.2.1.1, (List.set x1 x2 (IntKind.wrap .u64 ((IntKind.wrap .u64 ((List.getD x1 x2 (0:Int)) + (List.getD v.2.2.1.2 x2 (0:Int)))) + v.1.1)))), v.2.2)))
 else
 none
 else
 none
 else
 none
 else
 none
 else
 none
 else
 none
 else
 none
 else
 none
 else
 (ko ((), (v.2.1, v.2.2.2)))
noncomputable def ls_984_0 : St → LTr := (lsum ff_984_0 hf_984_0 X_984_0 Prod.mk id st_984_0 (hd [] [] [2, 3, 4, 5, 6] 0))
theorem lp_984_0 : LoopOk PR 0 (lpN f_984 0) ls_984_0 := loopT okO_984 mixed (L := LB_984_0) (d := 1) (bs := []) (ks := [2, 3, 4, 5, 6]) (loopsL (l := []) (by kernel_rfl) trivial) (by kernel_rfl) (inS := Prod.mk) (outS := id) (fun _ _ => rfl) (inX := id) (outX := id) (fun _ => rfl) (fun v R kn ko => by kernel_rfl) (hd_wk [] [] [2, 3, 4, 5, 6] 0)
noncomputable def L_984 : Lps := (lpB 6 (.by_ ls_984_0) L0)
noncomputable def F_984 (a0 : Bool × List (Int) × Unit) (a1 : Bool × List (Int) × Unit) : Option (Bool × List (Int) × Unit) :=
 let x0 : List Int := [(List.getD a0.2.1 (0:Nat) (0:Int)), (List.getD a0.2.1 (1:Nat) (0:Int)), (List.getD a0.2.1 (2:Nat) (0:Int)), (List.getD a0.2.1 (3:Nat) (0:Int)), (List.getD a0.2.1 (4:Nat) (0:Int)), (List.getD a0.2.1 (5:Nat) (0:Int)), (List.getD a0.2.1 (6:Nat) (0:Int)), (List.getD a0.2.1 (7:Nat) (0:Int)), (List.getD a0.2.1 (8:Nat) (0:Int)), (List.getD a0.2.1 (9:Nat) (0:Int))]
 let x1 : List Int := [(List.getD a1.2.1 (0:Nat) (0:Int)), (List.getD a1.2.1 (1:Nat) (0:Int)), (List.getD a1.2.1 (2:Nat) (0:Int)), (List.getD a1.2.1 (3:Nat) (0:Int)), (List.getD a1.2.1 (4:Nat) (0:Int)), (List.getD a1.2.1 (5:Nat) (0:Int)), (List.getD a1.2.1 (6:Nat) (0:Int)), (List.getD a1.2.1 (7:Nat) (0:Int)), (List.getD a1.2.1 (8:Nat) (0:Int)), (List.getD a1.2.1 (9:Nat) (0:Int))]
 bif (!(a0.1 == a1.1)) then
 ((F_98a (a0.1, ([(List.getD x0 (0:Nat) (0:Int)), (List.getD x0 (1:Nat) (0:Int)), (List.getD x0 (2:Nat) (0:Int)), (List.getD x0 (3:Nat) (0:Int)), (List.getD x0 (4:Nat) (0:Int)), (List.getD x0 (5:Nat) (0:Int)), (List.getD x0 (6:Nat) (0:Int)), (List.getD x0 (7:Nat) (0:Int)), (List.getD x0 (8:Nat) (0:Int)), (List.getD x0 (9:Nat) (0:Int))], ())) (a1.1, ([(List.getD x1 (0:Nat) (0:Int)), (List.getD x1 (1:Nat) (0:Int)), (List.getD x1 (2:Nat) (0:Int)), (List.getD x1 (3:Nat) (0:Int)), (List.getD x1 (4:Nat) (0:Int)), (List.getD x1 (5:Nat) (0:Int)), (List.getD x1 (6:Nat) (0:Int)), (List.getD x1 (7:Nat) (0:Int)), (List.getD x1 (8:Nat) (0:Int)), (List.getD x1 (9:Nat) (0:Int))], ())))).bind fun r2 =>
 let x3 : List Int := [(List.getD r2.2.1 (0:Nat) (0:Int)), (List.getD r2.2.1 (1:Nat) (0:Int)), (List.getD r2.2.1 (2:Nat) (0:Int)), (List.getD r2.2.1 (3:Nat) (0:Int)), (List.getD r2.2.1 (4:Nat) (0:Int)), (List.getD r2.2.1 (5:Nat) (0:Int)), (List.getD r2.2.1 (6:Nat) (0:Int)), (List.getD r2.2.1 (7:Nat) (0:Int)), (List.getD r2.2.1 (8:Nat) (0:Int)), (List.getD r2.2.1 (9:Nat) (0:Int))]
 (some (r2.1, ([(List.getD x3 (0:Nat) (0:Int)), (List.getD x3 (1:Nat) (0:Int)), (List.getD x3 (2:Nat) (0:Int)), (List.getD x3 (3:Nat) (0:Int)), (List.getD x3 (4:Nat) (0:Int)), (List.getD x3 (5:Nat) (0:Int)), (List.getD x3 (6:Nat) (0:Int)), (List.getD x3 (7:Nat) (0:Int)), (List.getD x3 (8:Nat) (0:Int)), (List.getD x3 (9:Nat) (0:Int))], ())))
 else
 ((lim st_984_0 (((0:Int), ((0:Int), ())), (((a0.1, ()), x0), (((a1.1, ()), x1), (((false, ()), [(0:Int), (0:Int), (0:Int), (0:Int), (0:Int), (0:Int), (0:Int), (0:Int), (0:Int), (0:Int)]), ())))))).bind fun r4 =>
 let x5 : List Int := r4.2.1.2
 let x6 : List Int := [(List.getD x5 (0:Nat) (0:Int)), (List.getD x5 (1:Nat) (0:Int)), (List.getD x5 (2:Nat) (0:Int)), (List.getD x5 (3:Nat) (0:Int)), (List.getD x5 (4:Nat) (0:Int)), (List.getD x5 (5:Nat) (0:Int)), (List.getD x5 (6:Nat) (0:Int)), (List.getD x5 (7:Nat) (0:Int)), (List.getD x5 (8:Nat) (0:Int)), (List.getD x5 (9:Nat) (0:Int))]
 bif (decide ((11:Nat) = ((1:Nat) + (List.length x5)))) then
 bif (decide (((0:Nat) = (0:Nat)) ∧ (((10:Nat) = (List.length r4.2.2.1.2)) ∧ ((1:Nat) ≤ (11:Nat))))) then
 (some (r4.2.1.1.1, ([(List.getD x6 (0:Nat) (0:Int)), (List.getD x6 (1:Nat) (0:Int)), (List.getD x6 (2:Nat) (0:Int)), (List.getD x6 (3:Nat) (0:Int)), (List.getD x6 (4:Nat) (0:Int)), (List.getD x6 (5:Nat) (0:Int)), (List.getD x6 (6:Nat) (0:Int)), (List.getD x6 (7:Nat) (0:Int)), (List.getD x6 (8:Nat) (0:Int)), (List.getD x6 (9:Nat) (0:Int))], ())))
 else
 none
 else
 none
noncomputable def G_984 : T fa_984 → TH hN0 → Option (Bool × List (Int) × Unit) := fun x y => F_984 x.1 x.2.1
noncomputable def c_984 : Orc := ent i_984 [] 0 (sp fa_984 hN0 fr_984 hN0 G_984 (outN fr_984))
theorem ok_984 : OrcOk PR c_984 := fnT okO_984 mixed p_984 (by kernel_rfl) (by kernel_rfl) (L := L_984) (kp := false) (by kernel_rfl) (inn := (innN fr_984)) (out := (outN fr_984)) (fun _ _ => rfl) (loopsL (l := [((lpN f_984 0), ls_984_0)]) (by kernel_rfl) ⟨lp_984_0, trivial⟩) (fun x y => by kernel_rfl)
noncomputable def O_986 : Orc := (orm c_94e c_92b)
theorem okO_986 : OrcOk PR O_986 := (orm_ok ok_94e ok_92b)
abbrev fa_986 : Fm := (.pair (.i .i64) (.pair (.i .i64) (.pair (.agg (.pair .b (.pair (.rep 10 (.i .u64)) .unit))) .unit)))
abbrev fr_986 : Fm := (.tup (.pair (.i .u32) (.pair (.agg (.pair .b (.pair .b (.pair .b (.pair .b (.pair .b .unit)))))) .unit)))
abbrev ff_986_0 : Fm := (.pair (.i .i64) (.pair (.i .i64) (.us 3 (.cst (.ref 0 1 0) (.us 1 (.cst (.ref 1 1 0) (.pair (.i .i64) (.us 86 .unit))))))))
abbrev hf_986_0 : List BF := [(.mix 1 y_93 true (.pair .b .unit) .u64), (.list 1 y_92 true (.pair .b (.pair .b (.pair .b (.pair .b (.pair .b .unit))))))]
abbrev X_986_0 : Xs := (.one (.exit 0) [0, 1, 5, 7, 8] (.pair (.i .i64) (.pair (.i .i64) (.us 3 (.cst (.ref 0 1 0) (.us 1 (.cst (.ref 1 1 0) (.pair (.i .i64) (.us 86 .unit)))))))) [(.mix 1 y_93 true (.pair .b .unit) .u64), (.list 1 y_92 true (.pair .b (.pair .b (.pair .b (.pair .b (.pair .b .unit))))))])
abbrev S_986_0 : Type := T ff_986_0 × TH hf_986_0
abbrev E_986_0 : Type := TX X_986_0
noncomputable def LB_986_0 : Lps := L0
noncomputable def st_986_0 : StepT S_986_0 E_986_0 := fun R v kn ko =>
 let x0 : Int := v.1.2.2.1
 bif (decide (((0:Int) ≤ x0) ∧ (x0 < (10:Int)))) then
 bif (decide (((1:Nat) ≤ ((1:Nat) + ((Int.toNat x0) * (1:Nat)))) ∧ (((1:Nat) + ((Int.toNat x0) * (1:Nat))) < ((1:Nat) + (List.length v.2.1.2))))) then
 bif ((List.getD v.2.1.2 (((1:Nat) + ((Int.toNat x0) * (1:Nat))) - (1:Nat)) (0:Int)) == (0:Int)) then
 (kn ((v.1.1, (v.1.2.1, ((IntKind.wrap .i64 (x0 - (1:Int))), ()))), v.2))
 else
 (ko v)
 else
 none
 else
 none
noncomputable def ls_986_0 : St → LTr := (lsum ff_986_0 hf_986_0 X_986_0 Prod.mk id st_986_0 (hd [] [] [0, 1, 5, 7, 8] 0))
theorem lp_986_0 : LoopOk PR 0 (lpN f_986 0) ls_986_0 := loopT okO_986 mixed (L := LB_986_0) (d := 1) (bs := []) (ks := [0, 1, 5, 7, 8]) (loopsL (l := []) (by kernel_rfl) trivial) (by kernel_rfl) (inS := Prod.mk) (outS := id) (fun _ _ => rfl) (inX := id) (outX := id) (fun _ => rfl) (fun v R kn ko => by kernel_rfl) (hd_wk [] [] [0, 1, 5, 7, 8] 0)
abbrev ff_986_1 : Fm := (.pair (.i .i64) (.pair (.i .i64) (.us 3 (.cst (.ref 0 1 0) (.us 1 (.cst (.ref 1 1 0) (.pair (.i .i64) (.us 1 (.pair (.i .u64) (.pair (.i .i64) (.pair .b (.us 2 (.pair (.i .i64) (.us 79 .unit))))))))))))))
abbrev hf_986_1 : List BF := [(.mix 1 y_93 true (.pair .b .unit) .u64), (.list 1 y_92 true (.pair .b (.pair .b (.pair .b (.pair .b (.pair .b .unit))))))]
abbrev X_986_1 : Xs := (.one (.exit 2) [0, 1, 5, 7, 10, 11, 12] (.pair (.i .i64) (.pair (.i .i64) (.us 3 (.cst (.ref 0 1 0) (.us 1 (.cst (.ref 1 1 0) (.us 2 (.pair (.i .u64) (.pair (.i .i64) (.pair .b (.us 82 .unit))))))))))) [(.mix 1 y_93 true (.pair .b .unit) .u64), (.list 1 y_92 true (.pair .b (.pair .b (.pair .b (.pair .b (.pair .b .unit))))))])
abbrev S_986_1 : Type := T ff_986_1 × TH hf_986_1
abbrev E_986_1 : Type := TX X_986_1
noncomputable def LB_986_1 : Lps := (lpB 3 (.by_ ls_986_0) L0)
noncomputable def st_986_1 : StepT S_986_1 E_986_1 := fun R v kn ko =>
 let x0 : Bool := v.1.2.2.2.2.2.1
 let x1 : Int := v.1.1
 let x2 : Int := v.1.2.1
 let x3 : Int := v.1.2.2.1
 let x4 : Int := v.1.2.2.2.1
 let x5 : Int := v.1.2.2.2.2.1
 let x6 : Int := v.1.2.2.2.2.2.2.1
 bif (decide (x6 < (IntKind.wrap .i64 (x3 - (1:Int))))) then
 bif x0 then
 (kn ((x1, (x2, (x3, (x4, (x5, (true, ((IntKind.wrap .i64 (x6 + (1:Int))), ()))))))), v.2))
 else
 bif (decide (((0:Int) ≤ x6) ∧ (x6 < (10:Int)))) then
 bif (decide (((1:Nat) ≤ ((1:Nat) + ((Int.toNat x6) * (1:Nat)))) ∧ (((1:Nat) + ((Int.toNat x6) * (1:Nat))) < ((1:Nat) + (List.length v.2.1.2))))) then
 (kn ((x1, (x2, (x3, (x4, (x5, (((List.getD v.2.1.2 (((1:Nat) + ((Int.toNat x6) * (1:Nat))) - (1:Nat)) (0:Int)) != (0:Int)), ((IntKind.wrap .i64 (x6 + (1:Int))), ()))))))), v.2))
 else
 none
 else
 none
 else
 (ko ((x1, (x2, (x4, (x5, (x0, ()))))), v.2))
noncomputable def ls_986_1 : St → LTr := (lsum ff_986_1 hf_986_1 X_986_1 Prod.mk id st_986_1 (hd [] [] [0, 1, 5, 7, 8, 10, 11, 12, 15] 0))
theorem lp_986_1 : LoopOk PR 0 (lpN f_986 1) ls_986_1 := loopT okO_986 mixed (L := LB_986_1) (d := 1) (bs := []) (ks := [0, 1, 5, 7, 8, 10, 11, 12, 15]) (loopsL (l := []) (by kernel_rfl) trivial) (by kernel_rfl) (inS := Prod.mk) (outS := id) (fun _ _ => rfl) (inX := id) (outX := id) (fun _ => rfl) (fun v R kn ko => by kernel_rfl) (hd_wk [] [] [0, 1, 5, 7, 8, 10, 11, 12, 15] 0)
noncomputable def L_986 : Lps := (lpB 20 (.by_ ls_986_1) (lpB 3 (.by_ ls_986_0) L0))
noncomputable def F_986 (a0 : Int) (a1 : Int) (a2 : Bool × List (Int) × Unit) : Option (Int × (Bool × Bool × Bool × Bool × Bool × Unit) × Unit) :=
 ((lim st_986_0 ((a0, (a1, ((9:Int), ()))), (((a2.1, ()), [(List.getD a2.2.1 (0:Nat) (0:Int)), (List.getD a2.2.1 (1:Nat) (0:Int)), (List.getD a2.2.1 (2:Nat) (0:Int)), (List.getD a2.2.1 (3:Nat) (0:Int)), (List.getD a2.2.1 (4:Nat) (0:Int)), (List.getD a2.2.1 (5:Nat) (0:Int)), (List.getD a2.2.1 (6:Nat) (0:Int)), (List.getD a2.2.1 (7:Nat) (0:Int)), (List.getD a2.2.1 (8:Nat) (0:Int)), (List.getD a2.2.1 (9:Nat) (0:Int))]), ((false, (false, (false, (false, (false, ()))))), ()))))).bind fun r0 =>
 let x1 : List Int := r0.2.1.2
 let x2 : Int := r0.1.2.2.1
 let x3 : Int := (List.getD x1 (((1:Nat) + ((Int.toNat x2) * (1:Nat))) - (1:Nat)) (0:Int))
 let x4 : Int := r0.1.1
 let x5 : Int := r0.1.2.1
 let x6 : Int := (IntKind.wrap .i64 ((IntKind.wrap .i64 ((64:Int) * x2)) - (298:Int)))
 let x7 : Int := (List.getD x1 (((1:Nat) + ((Int.toNat (IntKind.wrap .i64 (x2 - (1:Int)))) * (1:Nat))) - (1:Nat)) (0:Int))
 bif (decide (((0:Int) ≤ x2) ∧ (x2 < (10:Int)))) then
 bif (decide (((1:Nat) ≤ ((1:Nat) + ((Int.toNat x2) * (1:Nat)))) ∧ (((1:Nat) + ((Int.toNat x2) * (1:Nat))) < ((1:Nat) + (List.length x1))))) then
 ((F_94e x3)).bind fun r8 =>
 let x9 : Int := (IntKind.wrap .i64 ((64:Int) - r8))
 let x10 : Int := (IntKind.wrap .i64 (x6 - x9))
 let x11 : Int := ((2:Int) ^ (Min.min (Int.toNat x9) (64:Nat)))
 let x12 : Int := (bits .or .u64 (IntKind.wrap .u64 (x3 * x11)) (x7 / ((2:Int) ^ (Min.min (Int.toNat r8) (64:Nat)))))
 bif (decide (((0:Int) ≤ x2) ∧ (x2 < (10:Int)))) then
 bif (decide (((1:Nat) ≤ ((1:Nat) + ((Int.toNat x2) * (1:Nat)))) ∧ (((1:Nat) + ((Int.toNat x2) * (1:Nat))) < ((1:Nat) + (List.length x1))))) then
 bif (decide (x2 > (0:Int))) then
 bif (decide ((0:Int) ≤ x9)) then
 bif (decide (((0:Int) ≤ (IntKind.wrap .i64 (x2 - (1:Int)))) ∧ ((IntKind.wrap .i64 (x2 - (1:Int))) < (10:Int)))) then
 bif (decide (((1:Nat) ≤ ((1:Nat) + ((Int.toNat (IntKind.wrap .i64 (x2 - (1:Int)))) * (1:Nat)))) ∧ (((1:Nat) + ((Int.toNat (IntKind.wrap .i64 (x2 - (1:Int)))) * (1:Nat))) < ((1:Nat) + (List.length x1))))) then
 bif (decide ((0:Int) ≤ r8)) then
 bif (r8 == (64:Int)) then
 bif (decide (((0:Int) ≤ x2) ∧ (x2 < (10:Int)))) then
 bif (decide (((1:Nat) ≤ ((1:Nat) + ((Int.toNat x2) * (1:Nat)))) ∧ (((1:Nat) + ((Int.toNat x2) * (1:Nat))) < ((1:Nat) + (List.length x1))))) then
 bif (decide (((0:Int) ≤ (IntKind.wrap .i64 (x2 - (1:Int)))) ∧ ((IntKind.wrap .i64 (x2 - (1:Int))) < (10:Int)))) then
 bif (decide (((1:Nat) ≤ ((1:Nat) + ((Int.toNat (IntKind.wrap .i64 (x2 - (1:Int)))) * (1:Nat)))) ∧ (((1:Nat) + ((Int.toNat (IntKind.wrap .i64 (x2 - (1:Int)))) * (1:Nat))) < ((1:Nat) + (List.length x1))))) then
 bif (decide (r8 < (64:Int))) then
 bif (decide ((0:Int) ≤ x9)) then
 ((lim st_986_1 ((x4, (x5, (x2, (x3, (x10, (((IntKind.wrap .u64 (x7 * x11)) != (0:Int)), ((0:Int), ()))))))), r0.2))).bind fun r13 =>
 ((F_92b r13.1.1 r13.1.2.1 r13.2.1.1.1 r13.1.2.2.2.1 r13.1.2.2.1 r13.1.2.2.2.2.1)).bind fun r14 =>
 (some r14)
 else
 none
 else
 ((lim st_986_1 ((x4, (x5, (x2, (x3, (x10, ((x7 != (0:Int)), ((0:Int), ()))))))), r0.2))).bind fun r15 =>
 ((F_92b r15.1.1 r15.1.2.1 r15.2.1.1.1 r15.1.2.2.2.1 r15.1.2.2.1 r15.1.2.2.2.2.1)).bind fun r16 =>
 (some r16)
 else
 none
 else
 none
 else
 none
 else
 none
 else
 bif (decide (((0:Int) ≤ (IntKind.wrap .i64 (x2 - (1:Int)))) ∧ ((IntKind.wrap .i64 (x2 - (1:Int))) < (10:Int)))) then
 bif (decide (((1:Nat) ≤ ((1:Nat) + ((Int.toNat (IntKind.wrap .i64 (x2 - (1:Int)))) * (1:Nat)))) ∧ (((1:Nat) + ((Int.toNat (IntKind.wrap .i64 (x2 - (1:Int)))) * (1:Nat))) < ((1:Nat) + (List.length x1))))) then
 bif (decide (r8 < (64:Int))) then
 bif (decide ((0:Int) ≤ x9)) then
 ((lim st_986_1 ((x4, (x5, (x2, (x12, (x10, (((IntKind.wrap .u64 (x7 * x11)) != (0:Int)), ((0:Int), ()))))))), r0.2))).bind fun r17 =>
 ((F_92b r17.1.1 r17.1.2.1 r17.2.1.1.1 r17.1.2.2.2.1 r17.1.2.2.1 r17.1.2.2.2.2.1)).bind fun r18 =>
 (some r18)
 else
 none
 else
 ((lim st_986_1 ((x4, (x5, (x2, (x12, (x10, ((x7 != (0:Int)), ((0:Int), ()))))))), r0.2))).bind fun r19 =>
 ((F_92b r19.1.1 r19.1.2.1 r19.2.1.1.1 r19.1.2.2.2.1 r19.1.2.2.1 r19.1.2.2.2.2.1)).bind fun r20 =>
 (some r20)
 else
 none
 else
 none
 else
 none
 else
 none
 else
 none
 else
 none
 else
 ((F_92b x4 x5 r0.2.1.1.1 x6 x3 false)).bind fun r21 =>
 (some r21)
 else
 none
 else
 none
 else
 none
 else
 none
noncomputable def G_986 : T fa_986 → TH hN0 → Option (Int × (Bool × Bool × Bool × Bool × Bool × Unit) × Unit) := fun x y => F_986 x.1 x.2.1 x.2.2.1
noncomputable def c_986 : Orc := ent i_986 [] 0 (sp fa_986 hN0 fr_986 hN0 G_986 (outN fr_986))
theorem ok_986 : OrcOk PR c_986 := fnT okO_986 mixed p_986 (by kernel_rfl) (by kernel_rfl) (L := L_986) (kp := false) (by kernel_rfl) (inn := (innN fr_986)) (out := (outN fr_986)) (fun _ _ => rfl) (loopsL (l := [((lpN f_986 0), ls_986_0), ((lpN f_986 1), ls_986_1)]) (by kernel_rfl) ⟨lp_986_0, ⟨lp_986_1, trivial⟩⟩) (fun x y => by kernel_rfl)
noncomputable def O_91a : Orc := (orm c_926 (orm c_927 (orm c_92a (orm c_942 (orm c_928 (orm c_929 (orm c_910 (orm c_91e c_92b))))))))
theorem okO_91a : OrcOk PR O_91a := (orm_ok ok_926 (orm_ok ok_927 (orm_ok ok_92a (orm_ok ok_942 (orm_ok ok_928 (orm_ok ok_929 (orm_ok ok_910 (orm_ok ok_91e ok_92b))))))))
abbrev fa_91a : Fm := (.pair (.i .i64) (.pair (.i .i64) (.pair (.i .u32) (.pair (.i .u32) .unit))))
abbrev fr_91a : Fm := (.tup (.pair (.i .u32) (.pair (.agg (.pair .b (.pair .b (.pair .b (.pair .b (.pair .b .unit)))))) .unit)))
abbrev ff_91a_0 : Fm := (.pair (.i .i64) (.pair (.i .i64) (.us 7 (.cst (.ref 0 1 0) (.us 2 (.pair .b (.us 1 (.pair (.i .i64) (.pair (.i .u64) (.us 1 (.pair (.i .i64) (.pair (.i .u64) (.us 116 .unit)))))))))))))
abbrev hf_91a_0 : List BF := [(.list 1 y_92 true (.pair .b (.pair .b (.pair .b (.pair .b (.pair .b .unit))))))]
abbrev X_91a_0 : Xs := (.one (.exit 1) [0, 1, 9, 12, 14, 15, 17, 18] (.pair (.i .i64) (.pair (.i .i64) (.us 7 (.cst (.ref 0 1 0) (.us 2 (.pair .b (.us 1 (.pair (.i .i64) (.pair (.i .u64) (.us 1 (.pair (.i .i64) (.pair (.i .u64) (.us 116 .unit))))))))))))) [(.list 1 y_92 true (.pair .b (.pair .b (.pair .b (.pair .b (.pair .b .unit))))))])
abbrev S_91a_0 : Type := T ff_91a_0 × TH hf_91a_0
abbrev E_91a_0 : Type := TX X_91a_0
noncomputable def LB_91a_0 : Lps := L0
noncomputable def st_91a_0 : StepT S_91a_0 E_91a_0 := fun R v kn ko =>
 bif (decide (v.1.2.2.2.2.1 < (8388608:Int))) then
 (kn ((v.1.1, (v.1.2.1, (v.1.2.2.1, ((IntKind.wrap .i64 (v.1.2.2.2.1 - (1:Int))), ((IntKind.wrap .u64 (v.1.2.2.2.2.1 * (2:Int))), v.1.2.2.2.2.2))))), v.2))
 else
 (ko v)
noncomputable def ls_91a_0 : St → LTr := (lsum ff_91a_0 hf_91a_0 X_91a_0 Prod.mk id st_91a_0 (hd [] [] [0, 1, 9, 12, 14, 15, 17, 18] 0))
theorem lp_91a_0 : LoopOk PR 0 (lpN f_91a 0) ls_91a_0 := loopT okO_91a mixed (L := LB_91a_0) (d := 1) (bs := []) (ks := [0, 1, 9, 12, 14, 15, 17, 18]) (loopsL (l := []) (by kernel_rfl) trivial) (by kernel_rfl) (inS := Prod.mk) (outS := id) (fun _ _ => rfl) (inX := id) (outX := id) (fun _ => rfl) (fun v R kn ko => by kernel_rfl) (hd_wk [] [] [0, 1, 9, 12, 14, 15, 17, 18] 0)
abbrev ff_91a_1 : Fm := (.pair (.i .i64) (.pair (.i .i64) (.us 7 (.cst (.ref 0 1 0) (.us 2 (.pair .b (.us 1 (.pair (.i .i64) (.pair (.i .u64) (.us 1 (.pair (.i .i64) (.pair (.i .u64) (.us 116 .unit)))))))))))))
abbrev hf_91a_1 : List BF := [(.list 1 y_92 true (.pair .b (.pair .b (.pair .b (.pair .b (.pair .b .unit))))))]
abbrev X_91a_1 : Xs := (.one (.exit 3) [0, 1, 9, 12, 14, 15, 17, 18] (.pair (.i .i64) (.pair (.i .i64) (.us 7 (.cst (.ref 0 1 0) (.us 2 (.pair .b (.us 1 (.pair (.i .i64) (.pair (.i .u64) (.us 1 (.pair (.i .i64) (.pair (.i .u64) (.us 116 .unit))))))))))))) [(.list 1 y_92 true (.pair .b (.pair .b (.pair .b (.pair .b (.pair .b .unit))))))])
abbrev S_91a_1 : Type := T ff_91a_1 × TH hf_91a_1
abbrev E_91a_1 : Type := TX X_91a_1
noncomputable def LB_91a_1 : Lps := (lpB 16 (.by_ ls_91a_0) L0)
noncomputable def st_91a_1 : StepT S_91a_1 E_91a_1 := fun R v kn ko =>
 bif (decide (v.1.2.2.2.2.2.2.1 < (8388608:Int))) then
 (kn ((v.1.1, (v.1.2.1, (v.1.2.2.1, (v.1.2.2.2.1, (v.1.2.2.2.2.1, ((IntKind.wrap .i64 (v.1.2.2.2.2.2.1 - (1:Int))), ((IntKind.wrap .u64 (v.1.2.2.2.2.2.2.1 * (2:Int))), ()))))))), v.2))
 else
 (ko v)
noncomputable def ls_91a_1 : St → LTr := (lsum ff_91a_1 hf_91a_1 X_91a_1 Prod.mk id st_91a_1 (hd [] [] [0, 1, 9, 12, 14, 15, 17, 18] 0))
theorem lp_91a_1 : LoopOk PR 0 (lpN f_91a 1) ls_91a_1 := loopT okO_91a mixed (L := LB_91a_1) (d := 1) (bs := []) (ks := [0, 1, 9, 12, 14, 15, 17, 18]) (loopsL (l := []) (by kernel_rfl) trivial) (by kernel_rfl) (inS := Prod.mk) (outS := id) (fun _ _ => rfl) (inX := id) (outX := id) (fun _ => rfl) (fun v R kn ko => by kernel_rfl) (hd_wk [] [] [0, 1, 9, 12, 14, 15, 17, 18] 0)
noncomputable def L_91a : Lps := (lpB 18 (.by_ ls_91a_1) (lpB 16 (.by_ ls_91a_0) L0))
noncomputable def F_91a (a0 : Int) (a1 : Int) (a2 : Int) (a3 : Int) : Option (Int × (Bool × Bool × Bool × Bool × Bool × Unit) × Unit) :=
 ((F_926 a0 [a2, a3])).bind fun r0 =>
 bif r0.1 then
 ((F_927 a0)).bind fun r1 =>
 (some (r1, ((r0.2.1, (false, (false, (false, (false, ()))))), ())))
 else
 ((F_92a a0 a2)).bind fun r2 =>
 ((F_92a a0 a3)).bind fun r3 =>
 let x4 : Bool := (!(r2 == r3))
 ((F_942 a0 a2)).bind fun r5 =>
 bif r5 then
 ((F_942 a0 a3)).bind fun r6 =>
 bif r6 then
 ((F_927 a0)).bind fun r7 =>
 (some (r7, ((true, (false, (false, (false, (false, ()))))), ())))
 else
 ((F_928 a0 a2)).bind fun r8 =>
 bif r8 then
 ((F_928 a0 a3)).bind fun r9 =>
 bif r9 then
 ((F_927 a0)).bind fun r10 =>
 (some (r10, ((true, (false, (false, (false, (false, ()))))), ())))
 else
 ((F_928 a0 a2)).bind fun r11 =>
 bif r11 then
 ((F_929 a0 x4)).bind fun r12 =>
 (some (r12, ((false, (false, (false, (false, (false, ()))))), ())))
 else
 ((F_928 a0 a3)).bind fun r13 =>
 bif r13 then
 ((F_910 a0 x4)).bind fun r14 =>
 (some (r14, ((false, (false, (false, (false, (false, ()))))), ())))
 else
 ((F_942 a0 a2)).bind fun r15 =>
 bif r15 then
 ((F_910 a0 x4)).bind fun r16 =>
 (some (r16, ((false, (false, (false, (false, (false, ()))))), ())))
 else
 ((F_942 a0 a3)).bind fun r17 =>
 bif r17 then
 ((F_929 a0 x4)).bind fun r18 =>
 (some (r18, ((false, (true, (false, (false, (false, ()))))), ())))
 else
 ((F_91e a0 a2)).bind fun r19 =>
 let x20 : Int := r19.2.2.1
 ((F_91e a0 a3)).bind fun r21 =>
 ((lim st_91a_0 ((a0, (a1, (x4, (r19.2.1, (x20, r21.2))))), ((false, (false, (false, (false, (false, ()))))), ())))).bind fun r22 =>
 ((lim st_91a_1 r22)).bind fun r23 =>
 let x24 : Int := r23.1.2.2.2.2.2.2.1
 let x25 : Bool := (x24 == (0:Int))
 let x26 : Int := (IntKind.wrap .u64 (r23.1.2.2.2.2.1 * (1099511627776:Int)))
 bif x25 then
 none
 else
 bif x25 then
 none
 else
 ((F_92b r23.1.1 r23.1.2.1 r23.1.2.2.1 (IntKind.wrap .i64 ((IntKind.wrap .i64 (r23.1.2.2.2.1 - r23.1.2.2.2.2.2.1)) - (40:Int))) (IntKind.wrap .u64 (Int.tdiv x26 x24)) ((Int.tmod x26 x24) != (0:Int)))).bind fun r27 =>
 (some r27)
 else
 ((F_928 a0 a2)).bind fun r28 =>
 bif r28 then
 ((F_929 a0 x4)).bind fun r29 =>
 (some (r29, ((false, (false, (false, (false, (false, ()))))), ())))
 else
 ((F_928 a0 a3)).bind fun r30 =>
 bif r30 then
 ((F_910 a0 x4)).bind fun r31 =>
 (some (r31, ((false, (false, (false, (false, (false, ()))))), ())))
 else
 ((F_942 a0 a2)).bind fun r32 =>
 bif r32 then
 ((F_910 a0 x4)).bind fun r33 =>
 (some (r33, ((false, (false, (false, (false, (false, ()))))), ())))
 else
 ((F_942 a0 a3)).bind fun r34 =>
 bif r34 then
 ((F_929 a0 x4)).bind fun r35 =>
 (some (r35, ((false, (true, (false, (false, (false, ()))))), ())))
 else
 ((F_91e a0 a2)).bind fun r36 =>
 let x37 : Int := r36.2.2.1
 ((F_91e a0 a3)).bind fun r38 =>
 ((lim st_91a_0 ((a0, (a1, (x4, (r36.2.1, (x37, r38.2))))), ((false, (false, (false, (false, (false, ()))))), ())))).bind fun r39 =>
 ((lim st_91a_1 r39)).bind fun r40 =>
 let x41 : Int := r40.1.2.2.2.2.2.2.1
 let x42 : Bool := (x41 == (0:Int))
 let x43 : Int := (IntKind.wrap .u64 (r40.1.2.2.2.2.1 * (1099511627776:Int)))
 bif x42 then
 none
 else
 bif x42 then
 none
 else
 ((F_92b r40.1.1 r40.1.2.1 r40.1.2.2.1 (IntKind.wrap .i64 ((IntKind.wrap .i64 (r40.1.2.2.2.1 - r40.1.2.2.2.2.2.1)) - (40:Int))) (IntKind.wrap .u64 (Int.tdiv x43 x41)) ((Int.tmod x43 x41) != (0:Int)))).bind fun r44 =>
 (some r44)
 else
 ((F_928 a0 a2)).bind fun r45 =>
 bif r45 then
 ((F_928 a0 a3)).bind fun r46 =>
 bif r46 then
 ((F_927 a0)).bind fun r47 =>
 (some (r47, ((true, (false, (false, (false, (false, ()))))), ())))
 else
 ((F_928 a0 a2)).bind fun r48 =>
 bif r48 then
 ((F_929 a0 x4)).bind fun r49 =>
 (some (r49, ((false, (false, (false, (false, (false, ()))))), ())))
 else
 ((F_928 a0 a3)).bind fun r50 =>
 bif r50 then
 ((F_910 a0 x4)).bind fun r51 =>
 (some (r51, ((false, (false, (false, (false, (false, ()))))), ())))
 else
 ((F_942 a0 a2)).bind fun r52 =>
 bif r52 then
 ((F_910 a0 x4)).bind fun r53 =>
 (some (r53, ((false, (false, (false, (false, (false, ()))))), ())))
 else
 ((F_942 a0 a3)).bind fun r54 =>
 bif r54 then
 ((F_929 a0 x4)).bind fun r55 =>
 (some (r55, ((false, (true, (false, (false, (false, ()))))), ())))
 else
 ((F_91e a0 a2)).bind fun r56 =>
 let x57 : Int := r56.2.2.1
 ((F_91e a0 a3)).bind fun r58 =>
 ((lim st_91a_0 ((a0, (a1, (x4, (r56.2.1, (x57, r58.2))))), ((false, (false, (false, (false, (false, ()))))), ())))).bind fun r59 =>
 ((lim st_91a_1 r59)).bind fun r60 =>
 let x61 : Int := r60.1.2.2.2.2.2.2.1
 let x62 : Bool := (x61 == (0:Int))
 let x63 : Int := (IntKind.wrap .u64 (r60.1.2.2.2.2.1 * (1099511627776:Int)))
 bif x62 then
 none
 else
 bif x62 then
 none
 else
 ((F_92b r60.1.1 r60.1.2.1 r60.1.2.2.1 (IntKind.wrap .i64 ((IntKind.wrap .i64 (r60.1.2.2.2.1 - r60.1.2.2.2.2.2.1)) - (40:Int))) (IntKind.wrap .u64 (Int.tdiv x63 x61)) ((Int.tmod x63 x61) != (0:Int)))).bind fun r64 =>
 (some r64)
 else
 ((F_928 a0 a2)).bind fun r65 =>
 bif r65 then
 ((F_929 a0 x4)).bind fun r66 =>
 (some (r66, ((false, (false, (false, (false, (false, ()))))), ())))
 else
 ((F_928 a0 a3)).bind fun r67 =>
 bif r67 then
 ((F_910 a0 x4)).bind fun r68 =>
 (some (r68, ((false, (false, (false, (false, (false, ()))))), ())))
 else
 ((F_942 a0 a2)).bind fun r69 =>
 bif r69 then
 ((F_910 a0 x4)).bind fun r70 =>
 (some (r70, ((false, (false, (false, (false, (false, ()))))), ())))
 else
 ((F_942 a0 a3)).bind fun r71 =>
 bif r71 then
 ((F_929 a0 x4)).bind fun r72 =>
 (some (r72, ((false, (true, (false, (false, (false, ()))))), ())))
 else
 ((F_91e a0 a2)).bind fun r73 =>
 let x74 : Int := r73.2.2.1
 ((F_91e a0 a3)).bind fun r75 =>
 ((lim st_91a_0 ((a0, (a1, (x4, (r73.2.1, (x74, r75.2))))), ((false, (false, (false, (false, (false, ()))))), ())))).bind fun r76 =>
 ((lim st_91a_1 r76)).bind fun r77 =>
 let x78 : Int := r77.1.2.2.2.2.2.2.1
 let x79 : Bool := (x78 == (0:Int))
 let x80 : Int := (IntKind.wrap .u64 (r77.1.2.2.2.2.1 * (1099511627776:Int)))
 bif x79 then
 none
 else
 bif x79 then
 none
 else
 ((F_92b r77.1.1 r77.1.2.1 r77.1.2.2.1 (IntKind.wrap .i64 ((IntKind.wrap .i64 (r77.1.2.2.2.1 - r77.1.2.2.2.2.2.1)) - (40:Int))) (IntKind.wrap .u64 (Int.tdiv x80 x78)) ((Int.tmod x80 x78) != (0:Int)))).bind fun r81 =>
 (some r81)
noncomputable def G_91a : T fa_91a → TH hN0 → Option (Int × (Bool × Bool × Bool × Bool × Bool × Unit) × Unit) := fun x y => F_91a x.1 x.2.1 x.2.2.1 x.2.2.2.1
noncomputable def c_91a : Orc := ent i_91a [] 0 (sp fa_91a hN0 fr_91a hN0 G_91a (outN fr_91a))
theorem ok_91a : OrcOk PR c_91a := fnT okO_91a mixed p_91a (by kernel_rfl) (by kernel_rfl) (L := L_91a) (kp := false) (by kernel_rfl) (inn := (innN fr_91a)) (out := (outN fr_91a)) (fun _ _ => rfl) (loopsL (l := [((lpN f_91a 0), ls_91a_0), ((lpN f_91a 1), ls_91a_1)]) (by kernel_rfl) ⟨lp_91a_0, ⟨lp_91a_1, trivial⟩⟩) (fun x y => by kernel_rfl)
noncomputable def O_91b : Orc := c_92b
theorem okO_91b : OrcOk PR O_91b := ok_92b
abbrev fa_91b : Fm := (.pair (.i .i64) (.pair (.i .i64) (.pair (.i .i64) .unit)))
abbrev fr_91b : Fm := (.tup (.pair (.i .u32) (.pair (.agg (.pair .b (.pair .b (.pair .b (.pair .b (.pair .b .unit)))))) .unit)))
noncomputable def F_91b (a0 : Int) (a1 : Int) (a2 : Int) : Option (Int × (Bool × Bool × Bool × Bool × Bool × Unit) × Unit) :=
 bif (decide (a2 < (0:Int))) then
 ((F_92b a0 a1 true (0:Int) (IntKind.wrap .u64 ((0:Int) - (IntKind.wrap .u64 a2))) false)).bind fun r0 =>
 (some r0)
 else
 ((F_92b a0 a1 false (0:Int) (IntKind.wrap .u64 a2) false)).bind fun r1 =>
 (some r1)
noncomputable def G_91b : T fa_91b → TH hN0 → Option (Int × (Bool × Bool × Bool × Bool × Bool × Unit) × Unit) := fun x y => F_91b x.1 x.2.1 x.2.2.1
noncomputable def c_91b : Orc := ent i_91b [] 0 (sp fa_91b hN0 fr_91b hN0 G_91b (outN fr_91b))
theorem ok_91b : OrcOk PR c_91b := fnT okO_91b mixed p_91b (by kernel_rfl) (by kernel_rfl) (L := L0) (kp := false) (by kernel_rfl) (inn := (innN fr_91b)) (out := (outN fr_91b)) (fun _ _ => rfl) (loopsL (l := []) (by kernel_rfl) trivial) (fun x y => by kernel_rfl)
noncomputable def O_921 : Orc := c_948
theorem okO_921 : OrcOk PR O_921 := ok_948
abbrev fa_921 : Fm := (.pair (.i .u32) (.pair (.i .u32) .unit))
abbrev fr_921 : Fm := .b
noncomputable def F_921 (a0 : Int) (a1 : Int) : Option (Bool) :=
 ((F_948 (2:Int) a1 a0)).bind fun r0 =>
 (some r0)
noncomputable def G_921 : T fa_921 → TH hN0 → Option (Bool) := fun x y => F_921 x.1 x.2.1
noncomputable def c_921 : Orc := ent i_921 [] 0 (sp fa_921 hN0 fr_921 hN0 G_921 (outN fr_921))
theorem ok_921 : OrcOk PR c_921 := fnT okO_921 mixed p_921 (by kernel_rfl) (by kernel_rfl) (L := L0) (kp := false) (by kernel_rfl) (inn := (innN fr_921)) (out := (outN fr_921)) (fun _ _ => rfl) (loopsL (l := []) (by kernel_rfl) trivial) (fun x y => by kernel_rfl)
noncomputable def O_99 : Orc := c_91b
theorem okO_99 : OrcOk PR O_99 := ok_91b
abbrev fa_99 : Fm := (.pair (.i .i64) .unit)
abbrev fr_99 : Fm := (.i .u32)
noncomputable def F_99 (a0 : Int) : Option (Int) :=
 ((F_91b (2:Int) (0:Int) a0)).bind fun r0 =>
 (some r0.1)
noncomputable def G_99 : T fa_99 → TH hN0 → Option (Int) := fun x y => F_99 x.1
noncomputable def c_99 : Orc := ent i_99 [] 0 (sp fa_99 hN0 fr_99 hN0 G_99 (outN fr_99))
theorem ok_99 : OrcOk PR c_99 := fnT okO_99 mixed p_99 (by kernel_rfl) (by kernel_rfl) (L := L0) (kp := false) (by kernel_rfl) (inn := (innN fr_99)) (out := (outN fr_99)) (fun _ _ => rfl) (loopsL (l := []) (by kernel_rfl) trivial) (fun x y => by kernel_rfl)
noncomputable def O_98 : Orc := c_91a
theorem okO_98 : OrcOk PR O_98 := ok_91a
abbrev fa_98 : Fm := (.pair (.i .u32) (.pair (.i .u32) .unit))
abbrev fr_98 : Fm := (.i .u32)
noncomputable def F_98 (a0 : Int) (a1 : Int) : Option (Int) :=
 ((F_91a (2:Int) (0:Int) a0 a1)).bind fun r0 =>
 (some r0.1)
noncomputable def G_98 : T fa_98 → TH hN0 → Option (Int) := fun x y => F_98 x.1 x.2.1
noncomputable def c_98 : Orc := ent i_98 [] 0 (sp fa_98 hN0 fr_98 hN0 G_98 (outN fr_98))
theorem ok_98 : OrcOk PR c_98 := fnT okO_98 mixed p_98 (by kernel_rfl) (by kernel_rfl) (L := L0) (kp := false) (by kernel_rfl) (inn := (innN fr_98)) (out := (outN fr_98)) (fun _ _ => rfl) (loopsL (l := []) (by kernel_rfl) trivial) (fun x y => by kernel_rfl)
noncomputable def O_985 : Orc := orn
theorem okO_985 : OrcOk PR O_985 := (orn_ok _)
abbrev fa_985 : Fm := (.pair (.agg (.pair .b (.pair (.rep 10 (.i .u64)) .unit))) .unit)
abbrev fr_985 : Fm := .b
noncomputable def F_985 (a0 : Bool × List (Int) × Unit) : Option (Bool) :=
 let x0 : List Int := [(List.getD a0.2.1 (0:Nat) (0:Int)), (List.getD a0.2.1 (1:Nat) (0:Int)), (List.getD a0.2.1 (2:Nat) (0:Int)), (List.getD a0.2.1 (3:Nat) (0:Int)), (List.getD a0.2.1 (4:Nat) (0:Int)), (List.getD a0.2.1 (5:Nat) (0:Int)), (List.getD a0.2.1 (6:Nat) (0:Int)), (List.getD a0.2.1 (7:Nat) (0:Int)), (List.getD a0.2.1 (8:Nat) (0:Int)), (List.getD a0.2.1 (9:Nat) (0:Int))]
 (some (((List.getD x0 (0:Nat) (0:Int)) == (0:Int)) && (((List.getD x0 (1:Nat) (0:Int)) == (0:Int)) && (((List.getD x0 (2:Nat) (0:Int)) == (0:Int)) && (((List.getD x0 (3:Nat) (0:Int)) == (0:Int)) && (((List.getD x0 (4:Nat) (0:Int)) == (0:Int)) && (((List.getD x0 (5:Nat) (0:Int)) == (0:Int)) && (((List.getD x0 (6:Nat) (0:Int)) == (0:Int)) && (((List.getD x0 (7:Nat) (0:Int)) == (0:Int)) && (((List.getD x0 (8:Nat) (0:Int)) == (0:Int)) && (((List.getD x0 (9:Nat) (0:Int)) == (0:Int)) && true)))))))))))
noncomputable def G_985 : T fa_985 → TH hN0 → Option (Bool) := fun x y => F_985 x.1
noncomputable def c_985 : Orc := ent i_985 [] 0 (sp fa_985 hN0 fr_985 hN0 G_985 (outN fr_985))
theorem ok_985 : OrcOk PR c_985 := fnT okO_985 mixed p_985 (by kernel_rfl) (by kernel_rfl) (L := L0) (kp := false) (by kernel_rfl) (inn := (innN fr_985)) (out := (outN fr_985)) (fun _ _ => rfl) (loopsL (l := []) (by kernel_rfl) trivial) (fun x y => by kernel_rfl)
noncomputable def O_970 : Orc := (orm c_984 (orm c_985 (orm c_910 c_986)))
theorem okO_970 : OrcOk PR O_970 := (orm_ok ok_984 (orm_ok ok_985 (orm_ok ok_910 ok_986)))
abbrev fa_970 : Fm := (.pair (.i .i64) (.pair (.i .i64) (.pair (.agg (.pair .b (.pair (.rep 10 (.i .u64)) .unit))) (.pair (.agg (.pair .b (.pair (.rep 10 (.i .u64)) .unit))) .unit))))
abbrev fr_970 : Fm := (.tup (.pair (.i .u32) (.pair (.agg (.pair .b (.pair .b (.pair .b (.pair .b (.pair .b .unit)))))) .unit)))
noncomputable def F_970 (a0 : Int) (a1 : Int) (a2 : Bool × List (Int) × Unit) (a3 : Bool × List (Int) × Unit) : Option (Int × (Bool × Bool × Bool × Bool × Bool × Unit) × Unit) :=
 let x0 : List Int := [(List.getD a2.2.1 (0:Nat) (0:Int)), (List.getD a2.2.1 (1:Nat) (0:Int)), (List.getD a2.2.1 (2:Nat) (0:Int)), (List.getD a2.2.1 (3:Nat) (0:Int)), (List.getD a2.2.1 (4:Nat) (0:Int)), (List.getD a2.2.1 (5:Nat) (0:Int)), (List.getD a2.2.1 (6:Nat) (0:Int)), (List.getD a2.2.1 (7:Nat) (0:Int)), (List.getD a2.2.1 (8:Nat) (0:Int)), (List.getD a2.2.1 (9:Nat) (0:Int))]
 let x1 : List Int := [(List.getD a3.2.1 (0:Nat) (0:Int)), (List.getD a3.2.1 (1:Nat) (0:Int)), (List.getD a3.2.1 (2:Nat) (0:Int)), (List.getD a3.2.1 (3:Nat) (0:Int)), (List.getD a3.2.1 (4:Nat) (0:Int)), (List.getD a3.2.1 (5:Nat) (0:Int)), (List.getD a3.2.1 (6:Nat) (0:Int)), (List.getD a3.2.1 (7:Nat) (0:Int)), (List.getD a3.2.1 (8:Nat) (0:Int)), (List.getD a3.2.1 (9:Nat) (0:Int))]
 ((F_984 (a2.1, ([(List.getD x0 (0:Nat) (0:Int)), (List.getD x0 (1:Nat) (0:Int)), (List.getD x0 (2:Nat) (0:Int)), (List.getD x0 (3:Nat) (0:Int)), (List.getD x0 (4:Nat) (0:Int)), (List.getD x0 (5:Nat) (0:Int)), (List.getD x0 (6:Nat) (0:Int)), (List.getD x0 (7:Nat) (0:Int)), (List.getD x0 (8:Nat) (0:Int)), (List.getD x0 (9:Nat) (0:Int))], ())) (a3.1, ([(List.getD x1 (0:Nat) (0:Int)), (List.getD x1 (1:Nat) (0:Int)), (List.getD x1 (2:Nat) (0:Int)), (List.getD x1 (3:Nat) (0:Int)), (List.getD x1 (4:Nat) (0:Int)), (List.getD x1 (5:Nat) (0:Int)), (List.getD x1 (6:Nat) (0:Int)), (List.getD x1 (7:Nat) (0:Int)), (List.getD x1 (8:Nat) (0:Int)), (List.getD x1 (9:Nat) (0:Int))], ())))).bind fun r2 =>
 let x3 : List Int := [(List.getD r2.2.1 (0:Nat) (0:Int)), (List.getD r2.2.1 (1:Nat) (0:Int)), (List.getD r2.2.1 (2:Nat) (0:Int)), (List.getD r2.2.1 (3:Nat) (0:Int)), (List.getD r2.2.1 (4:Nat) (0:Int)), (List.getD r2.2.1 (5:Nat) (0:Int)), (List.getD r2.2.1 (6:Nat) (0:Int)), (List.getD r2.2.1 (7:Nat) (0:Int)), (List.getD r2.2.1 (8:Nat) (0:Int)), (List.getD r2.2.1 (9:Nat) (0:Int))]
 let x4 : List (T (Fm.i IntKind.u64)) := [(List.getD x3 (0:Nat) (0:Int)), (List.getD x3 (1:Nat) (0:Int)), (List.getD x3 (2:Nat) (0:Int)), (List.getD x3 (3:Nat) (0:Int)), (List.getD x3 (4:Nat) (0:Int)), (List.getD x3 (5:Nat) (0:Int)), (List.getD x3 (6:Nat) (0:Int)), (List.getD x3 (7:Nat) (0:Int)), (List.getD x3 (8:Nat) (0:Int)), (List.getD x3 (9:Nat) (0:Int))]
 let x5 : List Int := [(List.getD x4 (0:Nat) (0:Int)), (List.getD x4 (1:Nat) (0:Int)), (List.getD x4 (2:Nat) (0:Int)), (List.getD x4 (3:Nat) (0:Int)), (List.getD x4 (4:Nat) (0:Int)), (List.getD x4 (5:Nat) (0:Int)), (List.getD x4 (6:Nat) (0:Int)), (List.getD x4 (7:Nat) (0:Int)), (List.getD x4 (8:Nat) (0:Int)), (List.getD x4 (9:Nat) (0:Int))]
 bif (((List.getD x5 (0:Nat) (0:Int)) == (0:Int)) && (((List.getD x5 (1:Nat) (0:Int)) == (0:Int)) && (((List.getD x5 (2:Nat) (0:Int)) == (0:Int)) && (((List.getD x5 (3:Nat) (0:Int)) == (0:Int)) && (((List.getD x5 (4:Nat) (0:Int)) == (0:Int)) && (((List.getD x5 (5:Nat) (0:Int)) == (0:Int)) && (((List.getD x5 (6:Nat) (0:Int)) == (0:Int)) && (((List.getD x5 (7:Nat) (0:Int)) == (0:Int)) && (((List.getD x5 (8:Nat) (0:Int)) == (0:Int)) && (((List.getD x5 (9:Nat) (0:Int)) == (0:Int)) && true)))))))))) then
 ((F_910 a0 (a1 == (3:Int)))).bind fun r6 =>
 (some (r6, ((false, (false, (false, (false, (false, ()))))), ())))
 else
 ((F_986 a0 a1 (r2.1, (x4, ())))).bind fun r7 =>
 (some r7)
noncomputable def G_970 : T fa_970 → TH hN0 → Option (Int × (Bool × Bool × Bool × Bool × Bool × Unit) × Unit) := fun x y => F_970 x.1 x.2.1 x.2.2.1 x.2.2.2.1
noncomputable def c_970 : Orc := ent i_970 [] 0 (sp fa_970 hN0 fr_970 hN0 G_970 (outN fr_970))
theorem ok_970 : OrcOk PR c_970 := fnT okO_970 mixed p_970 (by kernel_rfl) (by kernel_rfl) (L := L0) (kp := false) (by kernel_rfl) (inn := (innN fr_970)) (out := (outN fr_970)) (fun _ _ => rfl) (loopsL (l := []) (by kernel_rfl) trivial) (fun x y => by kernel_rfl)
noncomputable def O_94a : Orc := (orm c_942 (orm c_928 (orm c_926 (orm c_927 (orm c_92a (orm c_929 (orm c_92c (orm c_910 (orm c_91e (orm c_971 c_970))))))))))
theorem okO_94a : OrcOk PR O_94a := (orm_ok ok_942 (orm_ok ok_928 (orm_ok ok_926 (orm_ok ok_927 (orm_ok ok_92a (orm_ok ok_929 (orm_ok ok_92c (orm_ok ok_910 (orm_ok ok_91e (orm_ok ok_971 ok_970))))))))))
abbrev fa_94a : Fm := (.pair (.i .i64) (.pair (.i .i64) (.pair (.i .u32) (.pair (.i .u32) (.pair (.i .u32) .unit)))))
abbrev fr_94a : Fm := (.tup (.pair (.i .u32) (.pair (.agg (.pair .b (.pair .b (.pair .b (.pair .b (.pair .b .unit)))))) .unit)))
noncomputable def F_94a (a0 : Int) (a1 : Int) (a2 : Int) (a3 : Int) (a4 : Int) : Option (Int × (Bool × Bool × Bool × Bool × Bool × Unit) × Unit) :=
 ((F_942 a0 a2)).bind fun r0 =>
 bif r0 then
 ((F_928 a0 a3)).bind fun r1 =>
 bif r1 then
 ((F_926 a0 [a2, a3, a4])).bind fun r2 =>
 bif r2.1 then
 ((F_927 a0)).bind fun r3 =>
 bif r2.2.1 then
 (some (r3, ((true, (false, (false, (false, (false, ()))))), ())))
 else
 (some (r3, ((true, (false, (false, (false, (false, ()))))), ())))
 else
 ((F_927 a0)).bind fun r4 =>
 bif r2.2.1 then
 (some (r4, ((true, (false, (false, (false, (false, ()))))), ())))
 else
 (some (r4, ((true, (false, (false, (false, (false, ()))))), ())))
 else
 ((F_928 a0 a2)).bind fun r5 =>
 bif r5 then
 ((F_942 a0 a3)).bind fun r6 =>
 ((F_926 a0 [a2, a3, a4])).bind fun r7 =>
 bif r7.1 then
 ((F_927 a0)).bind fun r8 =>
 bif r7.2.1 then
 (some (r8, ((true, (false, (false, (false, (false, ()))))), ())))
 else
 (some (r8, ((r6, (false, (false, (false, (false, ()))))), ())))
 else
 bif r6 then
 ((F_927 a0)).bind fun r9 =>
 bif r7.2.1 then
 (some (r9, ((true, (false, (false, (false, (false, ()))))), ())))
 else
 (some (r9, ((r6, (false, (false, (false, (false, ()))))), ())))
 else
 ((F_92a a0 a2)).bind fun r10 =>
 ((F_92a a0 a3)).bind fun r11 =>
 let x12 : Bool := (!(r10 == r11))
 ((F_928 a0 a2)).bind fun r13 =>
 bif r13 then
 ((F_928 a0 a4)).bind fun r14 =>
 bif r14 then
 ((F_92a a0 a4)).bind fun r15 =>
 bif (!(r15 == x12)) then
 ((F_927 a0)).bind fun r16 =>
 (some (r16, ((true, (false, (false, (false, (false, ()))))), ())))
 else
 ((F_929 a0 x12)).bind fun r17 =>
 (some (r17, ((false, (false, (false, (false, (false, ()))))), ())))
 else
 ((F_929 a0 x12)).bind fun r18 =>
 (some (r18, ((false, (false, (false, (false, (false, ()))))), ())))
 else
 ((F_928 a0 a3)).bind fun r19 =>
 bif r19 then
 ((F_928 a0 a4)).bind fun r20 =>
 bif r20 then
 ((F_92a a0 a4)).bind fun r21 =>
 bif (!(r21 == x12)) then
 ((F_927 a0)).bind fun r22 =>
 (some (r22, ((true, (false, (false, (false, (false, ()))))), ())))
 else
 ((F_929 a0 x12)).bind fun r23 =>
 (some (r23, ((false, (false, (false, (false, (false, ()))))), ())))
 else
 ((F_929 a0 x12)).bind fun r24 =>
 (some (r24, ((false, (false, (false, (false, (false, ()))))), ())))
 else
 ((F_928 a0 a4)).bind fun r25 =>
 bif r25 then
 ((F_92c a0)).bind fun r26 =>
 (some ((bits .and .u32 a4 r26), ((false, (false, (false, (false, (false, ()))))), ())))
 else
 ((F_942 a0 a2)).bind fun r27 =>
 bif r27 then
 ((F_942 a0 a4)).bind fun r28 =>
 bif r28 then
 ((F_92a a0 a4)).bind fun r29 =>
 bif (x12 == r29) then
 ((F_910 a0 x12)).bind fun r30 =>
 (some (r30, ((false, (false, (false, (false, (false, ()))))), ())))
 else
 ((F_91e a0 a2)).bind fun r31 =>
 let x32 : Int := r31.2.2.1
 ((F_91e a0 a3)).bind fun r33 =>
 let x34 : Int := r33.2.2.1
 ((F_971 x12 (IntKind.wrap .i64 (r31.2.1 + r33.2.1)) (IntKind.wrap .u64 (x32 * x34)))).bind fun r35 =>
 ((F_91e a0 a4)).bind fun r36 =>
 let x37 : Int := r36.2.2.1
 ((F_971 r36.1 r36.2.1 x37)).bind fun r38 =>
 ((F_970 a0 a1 (r35.1, ([(List.getD r35.2.1 (0:Nat) (0:Int)), (List.getD r35.2.1 (1:Nat) (0:Int)), (List.getD r35.2.1 (2:Nat) (0:Int)), (List.getD r35.2.1 (3:Nat) (0:Int)), (List.getD r35.2.1 (4:Nat) (0:Int)), (List.getD r35.2.1 (5:Nat) (0:Int)), (List.getD r35.2.1 (6:Nat) (0:Int)), (List.getD r35.2.1 (7:Nat) (0:Int)), (List.getD r35.2.1 (8:Nat) (0:Int)), (List.getD r35.2.1 (9:Nat) (0:Int))], ())) (r38.1, ([(List.getD r38.2.1 (0:Nat) (0:Int)), (List.getD r38.2.1 (1:Nat) (0:Int)), (List.getD r38.2.1 (2:Nat) (0:Int)), (List.getD r38.2.1 (3:Nat) (0:Int)), (List.getD r38.2.1 (4:Nat) (0:Int)), (List.getD r38.2.1 (5:Nat) (0:Int)), (List.getD r38.2.1 (6:Nat) (0:Int)), (List.getD r38.2.1 (7:Nat) (0:Int)), (List.getD r38.2.1 (8:Nat) (0:Int)), (List.getD r38.2.1 (9:Nat) (0:Int))], ())))).bind fun r39 =>
 (some r39)
 else
 ((F_91e a0 a2)).bind fun r40 =>
 let x41 : Int := r40.2.2.1
 ((F_91e a0 a3)).bind fun r42 =>
 let x43 : Int := r42.2.2.1
 ((F_971 x12 (IntKind.wrap .i64 (r40.2.1 + r42.2.1)) (IntKind.wrap .u64 (x41 * x43)))).bind fun r44 =>
 ((F_91e a0 a4)).bind fun r45 =>
 let x46 : Int := r45.2.2.1
 ((F_971 r45.1 r45.2.1 x46)).bind fun r47 =>
 ((F_970 a0 a1 (r44.1, ([(List.getD r44.2.1 (0:Nat) (0:Int)), (List.getD r44.2.1 (1:Nat) (0:Int)), (List.getD r44.2.1 (2:Nat) (0:Int)), (List.getD r44.2.1 (3:Nat) (0:Int)), (List.getD r44.2.1 (4:Nat) (0:Int)), (List.getD r44.2.1 (5:Nat) (0:Int)), (List.getD r44.2.1 (6:Nat) (0:Int)), (List.getD r44.2.1 (7:Nat) (0:Int)), (List.getD r44.2.1 (8:Nat) (0:Int)), (List.getD r44.2.1 (9:Nat) (0:Int))], ())) (r47.1, ([(List.getD r47.2.1 (0:Nat) (0:Int)), (List.getD r47.2.1 (1:Nat) (0:Int)), (List.getD r47.2.1 (2:Nat) (0:Int)), (List.getD r47.2.1 (3:Nat) (0:Int)), (List.getD r47.2.1 (4:Nat) (0:Int)), (List.getD r47.2.1 (5:Nat) (0:Int)), (List.getD r47.2.1 (6:Nat) (0:Int)), (List.getD r47.2.1 (7:Nat) (0:Int)), (List.getD r47.2.1 (8:Nat) (0:Int)), (List.getD r47.2.1 (9:Nat) (0:Int))], ())))).bind fun r48 =>
 (some r48)
 else
 ((F_942 a0 a3)).bind fun r49 =>
 bif r49 then
 ((F_942 a0 a4)).bind fun r50 =>
 bif r50 then
 ((F_92a a0 a4)).bind fun r51 =>
 bif (x12 == r51) then
 ((F_910 a0 x12)).bind fun r52 =>
 (some (r52, ((false, (false, (false, (false, (false, ()))))), ())))
 else
 ((F_91e a0 a2)).bind fun r53 =>
 let x54 : Int := r53.2.2.1
 ((F_91e a0 a3)).bind fun r55 =>
 let x56 : Int := r55.2.2.1
 ((F_971 x12 (IntKind.wrap .i64 (r53.2.1 + r55.2.1)) (IntKind.wrap .u64 (x54 * x56)))).bind fun r57 =>
 ((F_91e a0 a4)).bind fun r58 =>
 let x59 : Int := r58.2.2.1
 ((F_971 r58.1 r58.2.1 x59)).bind fun r60 =>
 ((F_970 a0 a1 (r57.1, ([(List.getD r57.2.1 (0:Nat) (0:Int)), (List.getD r57.2.1 (1:Nat) (0:Int)), (List.getD r57.2.1 (2:Nat) (0:Int)), (List.getD r57.2.1 (3:Nat) (0:Int)), (List.getD r57.2.1 (4:Nat) (0:Int)), (List.getD r57.2.1 (5:Nat) (0:Int)), (List.getD r57.2.1 (6:Nat) (0:Int)), (List.getD r57.2.1 (7:Nat) (0:Int)), (List.getD r57.2.1 (8:Nat) (0:Int)), (List.getD r57.2.1 (9:Nat) (0:Int))], ())) (r60.1, ([(List.getD r60.2.1 (0:Nat) (0:Int)), (List.getD r60.2.1 (1:Nat) (0:Int)), (List.getD r60.2.1 (2:Nat) (0:Int)), (List.getD r60.2.1 (3:Nat) (0:Int)), (List.getD r60.2.1 (4:Nat) (0:Int)), (List.getD r60.2.1 (5:Nat) (0:Int)), (List.getD r60.2.1 (6:Nat) (0:Int)), (List.getD r60.2.1 (7:Nat) (0:Int)), (List.getD r60.2.1 (8:Nat) (0:Int)), (List.getD r60.2.1 (9:Nat) (0:Int))], ())))).bind fun r61 =>
 (some r61)
 else
 ((F_91e a0 a2)).bind fun r62 =>
 let x63 : Int := r62.2.2.1
 ((F_91e a0 a3)).bind fun r64 =>
 let x65 : Int := r64.2.2.1
 ((F_971 x12 (IntKind.wrap .i64 (r62.2.1 + r64.2.1)) (IntKind.wrap .u64 (x63 * x65)))).bind fun r66 =>
 ((F_91e a0 a4)).bind fun r67 =>
 let x68 : Int := r67.2.2.1
 ((F_971 r67.1 r67.2.1 x68)).bind fun r69 =>
 ((F_970 a0 a1 (r66.1, ([(List.getD r66.2.1 (0:Nat) (0:Int)), (List.getD r66.2.1 (1:Nat) (0:Int)), (List.getD r66.2.1 (2:Nat) (0:Int)), (List.getD r66.2.1 (3:Nat) (0:Int)), (List.getD r66.2.1 (4:Nat) (0:Int)), (List.getD r66.2.1 (5:Nat) (0:Int)), (List.getD r66.2.1 (6:Nat) (0:Int)), (List.getD r66.2.1 (7:Nat) (0:Int)), (List.getD r66.2.1 (8:Nat) (0:Int)), (List.getD r66.2.1 (9:Nat) (0:Int))], ())) (r69.1, ([(List.getD r69.2.1 (0:Nat) (0:Int)), (List.getD r69.2.1 (1:Nat) (0:Int)), (List.getD r69.2.1 (2:Nat) (0:Int)), (List.getD r69.2.1 (3:Nat) (0:Int)), (List.getD r69.2.1 (4:Nat) (0:Int)), (List.getD r69.2.1 (5:Nat) (0:Int)), (List.getD r69.2.1 (6:Nat) (0:Int)), (List.getD r69.2.1 (7:Nat) (0:Int)), (List.getD r69.2.1 (8:Nat) (0:Int)), (List.getD r69.2.1 (9:Nat) (0:Int))], ())))).bind fun r70 =>
 (some r70)
 else
 ((F_91e a0 a2)).bind fun r71 =>
 let x72 : Int := r71.2.2.1
 ((F_91e a0 a3)).bind fun r73 =>
 let x74 : Int := r73.2.2.1
 ((F_971 x12 (IntKind.wrap .i64 (r71.2.1 + r73.2.1)) (IntKind.wrap .u64 (x72 * x74)))).bind fun r75 =>
 ((F_91e a0 a4)).bind fun r76 =>
 let x77 : Int := r76.2.2.1
 ((F_971 r76.1 r76.2.1 x77)).bind fun r78 =>
 ((F_970 a0 a1 (r75.1, ([(List.getD r75.2.1 (0:Nat) (0:Int)), (List.getD r75.2.1 (1:Nat) (0:Int)), (List.getD r75.2.1 (2:Nat) (0:Int)), (List.getD r75.2.1 (3:Nat) (0:Int)), (List.getD r75.2.1 (4:Nat) (0:Int)), (List.getD r75.2.1 (5:Nat) (0:Int)), (List.getD r75.2.1 (6:Nat) (0:Int)), (List.getD r75.2.1 (7:Nat) (0:Int)), (List.getD r75.2.1 (8:Nat) (0:Int)), (List.getD r75.2.1 (9:Nat) (0:Int))], ())) (r78.1, ([(List.getD r78.2.1 (0:Nat) (0:Int)), (List.getD r78.2.1 (1:Nat) (0:Int)), (List.getD r78.2.1 (2:Nat) (0:Int)), (List.getD r78.2.1 (3:Nat) (0:Int)), (List.getD r78.2.1 (4:Nat) (0:Int)), (List.getD r78.2.1 (5:Nat) (0:Int)), (List.getD r78.2.1 (6:Nat) (0:Int)), (List.getD r78.2.1 (7:Nat) (0:Int)), (List.getD r78.2.1 (8:Nat) (0:Int)), (List.getD r78.2.1 (9:Nat) (0:Int))], ())))).bind fun r79 =>
 (some r79)
 else
 ((F_926 a0 [a2, a3, a4])).bind fun r80 =>
 bif r80.1 then
 ((F_927 a0)).bind fun r81 =>
 bif r80.2.1 then
 (some (r81, ((true, (false, (false, (false, (false, ()))))), ())))
 else
 (some (r81, ((false, (false, (false, (false, (false, ()))))), ())))
 else
 ((F_92a a0 a2)).bind fun r82 =>
 ((F_92a a0 a3)).bind fun r83 =>
 let x84 : Bool := (!(r82 == r83))
 ((F_928 a0 a2)).bind fun r85 =>
 bif r85 then
 ((F_928 a0 a4)).bind fun r86 =>
 bif r86 then
 ((F_92a a0 a4)).bind fun r87 =>
 bif (!(r87 == x84)) then
 ((F_927 a0)).bind fun r88 =>
 (some (r88, ((true, (false, (false, (false, (false, ()))))), ())))
 else
 ((F_929 a0 x84)).bind fun r89 =>
 (some (r89, ((false, (false, (false, (false, (false, ()))))), ())))
 else
 ((F_929 a0 x84)).bind fun r90 =>
 (some (r90, ((false, (false, (false, (false, (false, ()))))), ())))
 else
 ((F_928 a0 a3)).bind fun r91 =>
 bif r91 then
 ((F_928 a0 a4)).bind fun r92 =>
 bif r92 then
 ((F_92a a0 a4)).bind fun r93 =>
 bif (!(r93 == x84)) then
 ((F_927 a0)).bind fun r94 =>
 (some (r94, ((true, (false, (false, (false, (false, ()))))), ())))
 else
 ((F_929 a0 x84)).bind fun r95 =>
 (some (r95, ((false, (false, (false, (false, (false, ()))))), ())))
 else
 ((F_929 a0 x84)).bind fun r96 =>
 (some (r96, ((false, (false, (false, (false, (false, ()))))), ())))
 else
 ((F_928 a0 a4)).bind fun r97 =>
 bif r97 then
 ((F_92c a0)).bind fun r98 =>
 (some ((bits .and .u32 a4 r98), ((false, (false, (false, (false, (false, ()))))), ())))
 else
 ((F_942 a0 a2)).bind fun r99 =>
 bif r99 then
 ((F_942 a0 a4)).bind fun r100 =>
 bif r100 then
 ((F_92a a0 a4)).bind fun r101 =>
 bif (x84 == r101) then
 ((F_910 a0 x84)).bind fun r102 =>
 (some (r102, ((false, (false, (false, (false, (false, ()))))), ())))
 else
 ((F_91e a0 a2)).bind fun r103 =>
 let x104 : Int := r103.2.2.1
 ((F_91e a0 a3)).bind fun r105 =>
 let x106 : Int := r105.2.2.1
 ((F_971 x84 (IntKind.wrap .i64 (r103.2.1 + r105.2.1)) (IntKind.wrap .u64 (x104 * x106)))).bind fun r107 =>
 ((F_91e a0 a4)).bind fun r108 =>
 let x109 : Int := r108.2.2.1
 ((F_971 r108.1 r108.2.1 x109)).bind fun r110 =>
 ((F_970 a0 a1 (r107.1, ([(List.getD r107.2.1 (0:Nat) (0:Int)), (List.getD r107.2.1 (1:Nat) (0:Int)), (List.getD r107.2.1 (2:Nat) (0:Int)), (List.getD r107.2.1 (3:Nat) (0:Int)), (List.getD r107.2.1 (4:Nat) (0:Int)), (List.getD r107.2.1 (5:Nat) (0:Int)), (List.getD r107.2.1 (6:Nat) (0:Int)), (List.getD r107.2.1 (7:Nat) (0:Int)), (List.getD r107.2.1 (8:Nat) (0:Int)), (List.getD r107.2.1 (9:Nat) (0:Int))], ())) (r110.1, ([(List.getD r110.2.1 (0:Nat) (0:Int)), (List.getD r110.2.1 (1:Nat) (0:Int)), (List.getD r110.2.1 (2:Nat) (0:Int)), (List.getD r110.2.1 (3:Nat) (0:Int)), (List.getD r110.2.1 (4:Nat) (0:Int)), (List.getD r110.2.1 (5:Nat) (0:Int)), (List.getD r110.2.1 (6:Nat) (0:Int)), (List.getD r110.2.1 (7:Nat) (0:Int)), (List.getD r110.2.1 (8:Nat) (0:Int)), (List.getD r110.2.1 (9:Nat) (0:Int))], ())))).bind fun r111 =>
 (some r111)
 else
 ((F_91e a0 a2)).bind fun r112 =>
 let x113 : Int := r112.2.2.1
 ((F_91e a0 a3)).bind fun r114 =>
 let x115 : Int := r114.2.2.1
 ((F_971 x84 (IntKind.wrap .i64 (r112.2.1 + r114.2.1)) (IntKind.wrap .u64 (x113 * x115)))).bind fun r116 =>
 ((F_91e a0 a4)).bind fun r117 =>
 let x118 : Int := r117.2.2.1
 ((F_971 r117.1 r117.2.1 x118)).bind fun r119 =>
 ((F_970 a0 a1 (r116.1, ([(List.getD r116.2.1 (0:Nat) (0:Int)), (List.getD r116.2.1 (1:Nat) (0:Int)), (List.getD r116.2.1 (2:Nat) (0:Int)), (List.getD r116.2.1 (3:Nat) (0:Int)), (List.getD r116.2.1 (4:Nat) (0:Int)), (List.getD r116.2.1 (5:Nat) (0:Int)), (List.getD r116.2.1 (6:Nat) (0:Int)), (List.getD r116.2.1 (7:Nat) (0:Int)), (List.getD r116.2.1 (8:Nat) (0:Int)), (List.getD r116.2.1 (9:Nat) (0:Int))], ())) (r119.1, ([(List.getD r119.2.1 (0:Nat) (0:Int)), (List.getD r119.2.1 (1:Nat) (0:Int)), (List.getD r119.2.1 (2:Nat) (0:Int)), (List.getD r119.2.1 (3:Nat) (0:Int)), (List.getD r119.2.1 (4:Nat) (0:Int)), (List.getD r119.2.1 (5:Nat) (0:Int)), (List.getD r119.2.1 (6:Nat) (0:Int)), (List.getD r119.2.1 (7:Nat) (0:Int)), (List.getD r119.2.1 (8:Nat) (0:Int)), (List.getD r119.2.1 (9:Nat) (0:Int))], ())))).bind fun r120 =>
 (some r120)
 else
 ((F_942 a0 a3)).bind fun r121 =>
 bif r121 then
 ((F_942 a0 a4)).bind fun r122 =>
 bif r122 then
 ((F_92a a0 a4)).bind fun r123 =>
 bif (x84 == r123) then
 ((F_910 a0 x84)).bind fun r124 =>
 (some (r124, ((false, (false, (false, (false, (false, ()))))), ())))
 else
 ((F_91e a0 a2)).bind fun r125 =>
 let x126 : Int := r125.2.2.1
 ((F_91e a0 a3)).bind fun r127 =>
 let x128 : Int := r127.2.2.1
 ((F_971 x84 (IntKind.wrap .i64 (r125.2.1 + r127.2.1)) (IntKind.wrap .u64 (x126 * x128)))).bind fun r129 =>
 ((F_91e a0 a4)).bind fun r130 =>
 let x131 : Int := r130.2.2.1
 ((F_971 r130.1 r130.2.1 x131)).bind fun r132 =>
 ((F_970 a0 a1 (r129.1, ([(List.getD r129.2.1 (0:Nat) (0:Int)), (List.getD r129.2.1 (1:Nat) (0:Int)), (List.getD r129.2.1 (2:Nat) (0:Int)), (List.getD r129.2.1 (3:Nat) (0:Int)), (List.getD r129.2.1 (4:Nat) (0:Int)), (List.getD r129.2.1 (5:Nat) (0:Int)), (List.getD r129.2.1 (6:Nat) (0:Int)), (List.getD r129.2.1 (7:Nat) (0:Int)), (List.getD r129.2.1 (8:Nat) (0:Int)), (List.getD r129.2.1 (9:Nat) (0:Int))], ())) (r132.1, ([(List.getD r132.2.1 (0:Nat) (0:Int)), (List.getD r132.2.1 (1:Nat) (0:Int)), (List.getD r132.2.1 (2:Nat) (0:Int)), (List.getD r132.2.1 (3:Nat) (0:Int)), (List.getD r132.2.1 (4:Nat) (0:Int)), (List.getD r132.2.1 (5:Nat) (0:Int)), (List.getD r132.2.1 (6:Nat) (0:Int)), (List.getD r132.2.1 (7:Nat) (0:Int)), (List.getD r132.2.1 (8:Nat) (0:Int)), (List.getD r132.2.1 (9:Nat) (0:Int))], ())))).bind fun r133 =>
 (some r133)
 else
 ((F_91e a0 a2)).bind fun r134 =>
 let x135 : Int := r134.2.2.1
 ((F_91e a0 a3)).bind fun r136 =>
 let x137 : Int := r136.2.2.1
 ((F_971 x84 (IntKind.wrap .i64 (r134.2.1 + r136.2.1)) (IntKind.wrap .u64 (x135 * x137)))).bind fun r138 =>
 ((F_91e a0 a4)).bind fun r139 =>
 let x140 : Int := r139.2.2.1
 ((F_971 r139.1 r139.2.1 x140)).bind fun r141 =>
 ((F_970 a0 a1 (r138.1, ([(List.getD r138.2.1 (0:Nat) (0:Int)), (List.getD r138.2.1 (1:Nat) (0:Int)), (List.getD r138.2.1 (2:Nat) (0:Int)), (List.getD r138.2.1 (3:Nat) (0:Int)), (List.getD r138.2.1 (4:Nat) (0:Int)), (List.getD r138.2.1 (5:Nat) (0:Int)), (List.getD r138.2.1 (6:Nat) (0:Int)), (List.getD r138.2.1 (7:Nat) (0:Int)), (List.getD r138.2.1 (8:Nat) (0:Int)), (List.getD r138.2.1 (9:Nat) (0:Int))], ())) (r141.1, ([(List.getD r141.2.1 (0:Nat) (0:Int)), (List.getD r141.2.1 (1:Nat) (0:Int)), (List.getD r141.2.1 (2:Nat) (0:Int)), (List.getD r141.2.1 (3:Nat) (0:Int)), (List.getD r141.2.1 (4:Nat) (0:Int)), (List.getD r141.2.1 (5:Nat) (0:Int)), (List.getD r141.2.1 (6:Nat) (0:Int)), (List.getD r141.2.1 (7:Nat) (0:Int)), (List.getD r141.2.1 (8:Nat) (0:Int)), (List.getD r141.2.1 (9:Nat) (0:Int))], ())))).bind fun r142 =>
 (some r142)
 else
 ((F_91e a0 a2)).bind fun r143 =>
 let x144 : Int := r143.2.2.1
 ((F_91e a0 a3)).bind fun r145 =>
 let x146 : Int := r145.2.2.1
 ((F_971 x84 (IntKind.wrap .i64 (r143.2.1 + r145.2.1)) (IntKind.wrap .u64 (x144 * x146)))).bind fun r147 =>
 ((F_91e a0 a4)).bind fun r148 =>
 let x149 : Int := r148.2.2.1
 ((F_971 r148.1 r148.2.1 x149)).bind fun r150 =>
 ((F_970 a0 a1 (r147.1, ([(List.getD r147.2.1 (0:Nat) (0:Int)), (List.getD r147.2.1 (1:Nat) (0:Int)), (List.getD r147.2.1 (2:Nat) (0:Int)), (List.getD r147.2.1 (3:Nat) (0:Int)), (List.getD r147.2.1 (4:Nat) (0:Int)), (List.getD r147.2.1 (5:Nat) (0:Int)), (List.getD r147.2.1 (6:Nat) (0:Int)), (List.getD r147.2.1 (7:Nat) (0:Int)), (List.getD r147.2.1 (8:Nat) (0:Int)), (List.getD r147.2.1 (9:Nat) (0:Int))], ())) (r150.1, ([(List.getD r150.2.1 (0:Nat) (0:Int)), (List.getD r150.2.1 (1:Nat) (0:Int)), (List.getD r150.2.1 (2:Nat) (0:Int)), (List.getD r150.2.1 (3:Nat) (0:Int)), (List.getD r150.2.1 (4:Nat) (0:Int)), (List.getD r150.2.1 (5:Nat) (0:Int)), (List.getD r150.2.1 (6:Nat) (0:Int)), (List.getD r150.2.1 (7:Nat) (0:Int)), (List.getD r150.2.1 (8:Nat) (0:Int)), (List.getD r150.2.1 (9:Nat) (0:Int))], ())))).bind fun r151 =>
 (some r151)
 else
 ((F_928 a0 a2)).bind fun r152 =>
 bif r152 then
 ((F_942 a0 a3)).bind fun r153 =>
 ((F_926 a0 [a2, a3, a4])).bind fun r154 =>
 bif r154.1 then
 ((F_927 a0)).bind fun r155 =>
 bif r154.2.1 then
 (some (r155, ((true, (false, (false, (false, (false, ()))))), ())))
 else
 (some (r155, ((r153, (false, (false, (false, (false, ()))))), ())))
 else
 bif r153 then
 ((F_927 a0)).bind fun r156 =>
 bif r154.2.1 then
 (some (r156, ((true, (false, (false, (false, (false, ()))))), ())))
 else
 (some (r156, ((r153, (false, (false, (false, (false, ()))))), ())))
 else
 ((F_92a a0 a2)).bind fun r157 =>
 ((F_92a a0 a3)).bind fun r158 =>
 let x159 : Bool := (!(r157 == r158))
 ((F_928 a0 a2)).bind fun r160 =>
 bif r160 then
 ((F_928 a0 a4)).bind fun r161 =>
 bif r161 then
 ((F_92a a0 a4)).bind fun r162 =>
 bif (!(r162 == x159)) then
 ((F_927 a0)).bind fun r163 =>
 (some (r163, ((true, (false, (false, (false, (false, ()))))), ())))
 else
 ((F_929 a0 x159)).bind fun r164 =>
 (some (r164, ((false, (false, (false, (false, (false, ()))))), ())))
 else
 ((F_929 a0 x159)).bind fun r165 =>
 (some (r165, ((false, (false, (false, (false, (false, ()))))), ())))
 else
 ((F_928 a0 a3)).bind fun r166 =>
 bif r166 then
 ((F_928 a0 a4)).bind fun r167 =>
 bif r167 then
 ((F_92a a0 a4)).bind fun r168 =>
 bif (!(r168 == x159)) then
 ((F_927 a0)).bind fun r169 =>
 (some (r169, ((true, (false, (false, (false, (false, ()))))), ())))
 else
 ((F_929 a0 x159)).bind fun r170 =>
 (some (r170, ((false, (false, (false, (false, (false, ()))))), ())))
 else
 ((F_929 a0 x159)).bind fun r171 =>
 (some (r171, ((false, (false, (false, (false, (false, ()))))), ())))
 else
 ((F_928 a0 a4)).bind fun r172 =>
 bif r172 then
 ((F_92c a0)).bind fun r173 =>
 (some ((bits .and .u32 a4 r173), ((false, (false, (false, (false, (false, ()))))), ())))
 else
 ((F_942 a0 a2)).bind fun r174 =>
 bif r174 then
 ((F_942 a0 a4)).bind fun r175 =>
 bif r175 then
 ((F_92a a0 a4)).bind fun r176 =>
 bif (x159 == r176) then
 ((F_910 a0 x159)).bind fun r177 =>
 (some (r177, ((false, (false, (false, (false, (false, ()))))), ())))
 else
 ((F_91e a0 a2)).bind fun r178 =>
 let x179 : Int := r178.2.2.1
 ((F_91e a0 a3)).bind fun r180 =>
 let x181 : Int := r180.2.2.1
 ((F_971 x159 (IntKind.wrap .i64 (r178.2.1 + r180.2.1)) (IntKind.wrap .u64 (x179 * x181)))).bind fun r182 =>
 ((F_91e a0 a4)).bind fun r183 =>
 let x184 : Int := r183.2.2.1
 ((F_971 r183.1 r183.2.1 x184)).bind fun r185 =>
 ((F_970 a0 a1 (r182.1, ([(List.getD r182.2.1 (0:Nat) (0:Int)), (List.getD r182.2.1 (1:Nat) (0:Int)), (List.getD r182.2.1 (2:Nat) (0:Int)), (List.getD r182.2.1 (3:Nat) (0:Int)), (List.getD r182.2.1 (4:Nat) (0:Int)), (List.getD r182.2.1 (5:Nat) (0:Int)), (List.getD r182.2.1 (6:Nat) (0:Int)), (List.getD r182.2.1 (7:Nat) (0:Int)), (List.getD r182.2.1 (8:Nat) (0:Int)), (List.getD r182.2.1 (9:Nat) (0:Int))], ())) (r185.1, ([(List.getD r185.2.1 (0:Nat) (0:Int)), (List.getD r185.2.1 (1:Nat) (0:Int)), (List.getD r185.2.1 (2:Nat) (0:Int)), (List.getD r185.2.1 (3:Nat) (0:Int)), (List.getD r185.2.1 (4:Nat) (0:Int)), (List.getD r185.2.1 (5:Nat) (0:Int)), (List.getD r185.2.1 (6:Nat) (0:Int)), (List.getD r185.2.1 (7:Nat) (0:Int)), (List.getD r185.2.1 (8:Nat) (0:Int)), (List.getD r185.2.1 (9:Nat) (0:Int))], ())))).bind fun r186 =>
 (some r186)
 else
 ((F_91e a0 a2)).bind fun r187 =>
 let x188 : Int := r187.2.2.1
 ((F_91e a0 a3)).bind fun r189 =>
 let x190 : Int := r189.2.2.1
 ((F_971 x159 (IntKind.wrap .i64 (r187.2.1 + r189.2.1)) (IntKind.wrap .u64 (x188 * x190)))).bind fun r191 =>
 ((F_91e a0 a4)).bind fun r192 =>
 let x193 : Int := r192.2.2.1
 ((F_971 r192.1 r192.2.1 x193)).bind fun r194 =>
 ((F_970 a0 a1 (r191.1, ([(List.getD r191.2.1 (0:Nat) (0:Int)), (List.getD r191.2.1 (1:Nat) (0:Int)), (List.getD r191.2.1 (2:Nat) (0:Int)), (List.getD r191.2.1 (3:Nat) (0:Int)), (List.getD r191.2.1 (4:Nat) (0:Int)), (List.getD r191.2.1 (5:Nat) (0:Int)), (List.getD r191.2.1 (6:Nat) (0:Int)), (List.getD r191.2.1 (7:Nat) (0:Int)), (List.getD r191.2.1 (8:Nat) (0:Int)), (List.getD r191.2.1 (9:Nat) (0:Int))], ())) (r194.1, ([(List.getD r194.2.1 (0:Nat) (0:Int)), (List.getD r194.2.1 (1:Nat) (0:Int)), (List.getD r194.2.1 (2:Nat) (0:Int)), (List.getD r194.2.1 (3:Nat) (0:Int)), (List.getD r194.2.1 (4:Nat) (0:Int)), (List.getD r194.2.1 (5:Nat) (0:Int)), (List.getD r194.2.1 (6:Nat) (0:Int)), (List.getD r194.2.1 (7:Nat) (0:Int)), (List.getD r194.2.1 (8:Nat) (0:Int)), (List.getD r194.2.1 (9:Nat) (0:Int))], ())))).bind fun r195 =>
 (some r195)
 else
 ((F_942 a0 a3)).bind fun r196 =>
 bif r196 then
 ((F_942 a0 a4)).bind fun r197 =>
 bif r197 then
 ((F_92a a0 a4)).bind fun r198 =>
 bif (x159 == r198) then
 ((F_910 a0 x159)).bind fun r199 =>
 (some (r199, ((false, (false, (false, (false, (false, ()))))), ())))
 else
 ((F_91e a0 a2)).bind fun r200 =>
 let x201 : Int := r200.2.2.1
 ((F_91e a0 a3)).bind fun r202 =>
 let x203 : Int := r202.2.2.1
 ((F_971 x159 (IntKind.wrap .i64 (r200.2.1 + r202.2.1)) (IntKind.wrap .u64 (x201 * x203)))).bind fun r204 =>
 ((F_91e a0 a4)).bind fun r205 =>
 let x206 : Int := r205.2.2.1
 ((F_971 r205.1 r205.2.1 x206)).bind fun r207 =>
 ((F_970 a0 a1 (r204.1, ([(List.getD r204.2.1 (0:Nat) (0:Int)), (List.getD r204.2.1 (1:Nat) (0:Int)), (List.getD r204.2.1 (2:Nat) (0:Int)), (List.getD r204.2.1 (3:Nat) (0:Int)), (List.getD r204.2.1 (4:Nat) (0:Int)), (List.getD r204.2.1 (5:Nat) (0:Int)), (List.getD r204.2.1 (6:Nat) (0:Int)), (List.getD r204.2.1 (7:Nat) (0:Int)), (List.getD r204.2.1 (8:Nat) (0:Int)), (List.getD r204.2.1 (9:Nat) (0:Int))], ())) (r207.1, ([(List.getD r207.2.1 (0:Nat) (0:Int)), (List.getD r207.2.1 (1:Nat) (0:Int)), (List.getD r207.2.1 (2:Nat) (0:Int)), (List.getD r207.2.1 (3:Nat) (0:Int)), (List.getD r207.2.1 (4:Nat) (0:Int)), (List.getD r207.2.1 (5:Nat) (0:Int)), (List.getD r207.2.1 (6:Nat) (0:Int)), (List.getD r207.2.1 (7:Nat) (0:Int)), (List.getD r207.2.1 (8:Nat) (0:Int)), (List.getD r207.2.1 (9:Nat) (0:Int))], ())))).bind fun r208 =>
 (some r208)
 else
 ((F_91e a0 a2)).bind fun r209 =>
 let x210 : Int := r209.2.2.1
 ((F_91e a0 a3)).bind fun r211 =>
 let x212 : Int := r211.2.2.1
 ((F_971 x159 (IntKind.wrap .i64 (r209.2.1 + r211.2.1)) (IntKind.wrap .u64 (x210 * x212)))).bind fun r213 =>
 ((F_91e a0 a4)).bind fun r214 =>
 let x215 : Int := r214.2.2.1
 ((F_971 r214.1 r214.2.1 x215)).bind fun r216 =>
 ((F_970 a0 a1 (r213.1, ([(List.getD r213.2.1 (0:Nat) (0:Int)), (List.getD r213.2.1 (1:Nat) (0:Int)), (List.getD r213.2.1 (2:Nat) (0:Int)), (List.getD r213.2.1 (3:Nat) (0:Int)), (List.getD r213.2.1 (4:Nat) (0:Int)), (List.getD r213.2.1 (5:Nat) (0:Int)), (List.getD r213.2.1 (6:Nat) (0:Int)), (List.getD r213.2.1 (7:Nat) (0:Int)), (List.getD r213.2.1 (8:Nat) (0:Int)), (List.getD r213.2.1 (9:Nat) (0:Int))], ())) (r216.1, ([(List.getD r216.2.1 (0:Nat) (0:Int)), (List.getD r216.2.1 (1:Nat) (0:Int)), (List.getD r216.2.1 (2:Nat) (0:Int)), (List.getD r216.2.1 (3:Nat) (0:Int)), (List.getD r216.2.1 (4:Nat) (0:Int)), (List.getD r216.2.1 (5:Nat) (0:Int)), (List.getD r216.2.1 (6:Nat) (0:Int)), (List.getD r216.2.1 (7:Nat) (0:Int)), (List.getD r216.2.1 (8:Nat) (0:Int)), (List.getD r216.2.1 (9:Nat) (0:Int))], ())))).bind fun r217 =>
 (some r217)
 else
 ((F_91e a0 a2)).bind fun r218 =>
 let x219 : Int := r218.2.2.1
 ((F_91e a0 a3)).bind fun r220 =>
 let x221 : Int := r220.2.2.1
 ((F_971 x159 (IntKind.wrap .i64 (r218.2.1 + r220.2.1)) (IntKind.wrap .u64 (x219 * x221)))).bind fun r222 =>
 ((F_91e a0 a4)).bind fun r223 =>
 let x224 : Int := r223.2.2.1
 ((F_971 r223.1 r223.2.1 x224)).bind fun r225 =>
 ((F_970 a0 a1 (r222.1, ([(List.getD r222.2.1 (0:Nat) (0:Int)), (List.getD r222.2.1 (1:Nat) (0:Int)), (List.getD r222.2.1 (2:Nat) (0:Int)), (List.getD r222.2.1 (3:Nat) (0:Int)), (List.getD r222.2.1 (4:Nat) (0:Int)), (List.getD r222.2.1 (5:Nat) (0:Int)), (List.getD r222.2.1 (6:Nat) (0:Int)), (List.getD r222.2.1 (7:Nat) (0:Int)), (List.getD r222.2.1 (8:Nat) (0:Int)), (List.getD r222.2.1 (9:Nat) (0:Int))], ())) (r225.1, ([(List.getD r225.2.1 (0:Nat) (0:Int)), (List.getD r225.2.1 (1:Nat) (0:Int)), (List.getD r225.2.1 (2:Nat) (0:Int)), (List.getD r225.2.1 (3:Nat) (0:Int)), (List.getD r225.2.1 (4:Nat) (0:Int)), (List.getD r225.2.1 (5:Nat) (0:Int)), (List.getD r225.2.1 (6:Nat) (0:Int)), (List.getD r225.2.1 (7:Nat) (0:Int)), (List.getD r225.2.1 (8:Nat) (0:Int)), (List.getD r225.2.1 (9:Nat) (0:Int))], ())))).bind fun r226 =>
 (some r226)
 else
 ((F_926 a0 [a2, a3, a4])).bind fun r227 =>
 bif r227.1 then
 ((F_927 a0)).bind fun r228 =>
 bif r227.2.1 then
 (some (r228, ((true, (false, (false, (false, (false, ()))))), ())))
 else
 (some (r228, ((false, (false, (false, (false, (false, ()))))), ())))
 else
 ((F_92a a0 a2)).bind fun r229 =>
 ((F_92a a0 a3)).bind fun r230 =>
 let x231 : Bool := (!(r229 == r230))
 ((F_928 a0 a2)).bind fun r232 =>
 bif r232 then
 ((F_928 a0 a4)).bind fun r233 =>
 bif r233 then
 ((F_92a a0 a4)).bind fun r234 =>
 bif (!(r234 == x231)) then
 ((F_927 a0)).bind fun r235 =>
 (some (r235, ((true, (false, (false, (false, (false, ()))))), ())))
 else
 ((F_929 a0 x231)).bind fun r236 =>
 (some (r236, ((false, (false, (false, (false, (false, ()))))), ())))
 else
 ((F_929 a0 x231)).bind fun r237 =>
 (some (r237, ((false, (false, (false, (false, (false, ()))))), ())))
 else
 ((F_928 a0 a3)).bind fun r238 =>
 bif r238 then
 ((F_928 a0 a4)).bind fun r239 =>
 bif r239 then
 ((F_92a a0 a4)).bind fun r240 =>
 bif (!(r240 == x231)) then
 ((F_927 a0)).bind fun r241 =>
 (some (r241, ((true, (false, (false, (false, (false, ()))))), ())))
 else
 ((F_929 a0 x231)).bind fun r242 =>
 (some (r242, ((false, (false, (false, (false, (false, ()))))), ())))
 else
 ((F_929 a0 x231)).bind fun r243 =>
 (some (r243, ((false, (false, (false, (false, (false, ()))))), ())))
 else
 ((F_928 a0 a4)).bind fun r244 =>
 bif r244 then
 ((F_92c a0)).bind fun r245 =>
 (some ((bits .and .u32 a4 r245), ((false, (false, (false, (false, (false, ()))))), ())))
 else
 ((F_942 a0 a2)).bind fun r246 =>
 bif r246 then
 ((F_942 a0 a4)).bind fun r247 =>
 bif r247 then
 ((F_92a a0 a4)).bind fun r248 =>
 bif (x231 == r248) then
 ((F_910 a0 x231)).bind fun r249 =>
 (some (r249, ((false, (false, (false, (false, (false, ()))))), ())))
 else
 ((F_91e a0 a2)).bind fun r250 =>
 let x251 : Int := r250.2.2.1
 ((F_91e a0 a3)).bind fun r252 =>
 let x253 : Int := r252.2.2.1
 ((F_971 x231 (IntKind.wrap .i64 (r250.2.1 + r252.2.1)) (IntKind.wrap .u64 (x251 * x253)))).bind fun r254 =>
 ((F_91e a0 a4)).bind fun r255 =>
 let x256 : Int := r255.2.2.1
 ((F_971 r255.1 r255.2.1 x256)).bind fun r257 =>
 ((F_970 a0 a1 (r254.1, ([(List.getD r254.2.1 (0:Nat) (0:Int)), (List.getD r254.2.1 (1:Nat) (0:Int)), (List.getD r254.2.1 (2:Nat) (0:Int)), (List.getD r254.2.1 (3:Nat) (0:Int)), (List.getD r254.2.1 (4:Nat) (0:Int)), (List.getD r254.2.1 (5:Nat) (0:Int)), (List.getD r254.2.1 (6:Nat) (0:Int)), (List.getD r254.2.1 (7:Nat) (0:Int)), (List.getD r254.2.1 (8:Nat) (0:Int)), (List.getD r254.2.1 (9:Nat) (0:Int))], ())) (r257.1, ([(List.getD r257.2.1 (0:Nat) (0:Int)), (List.getD r257.2.1 (1:Nat) (0:Int)), (List.getD r257.2.1 (2:Nat) (0:Int)), (List.getD r257.2.1 (3:Nat) (0:Int)), (List.getD r257.2.1 (4:Nat) (0:Int)), (List.getD r257.2.1 (5:Nat) (0:Int)), (List.getD r257.2.1 (6:Nat) (0:Int)), (List.getD r257.2.1 (7:Nat) (0:Int)), (List.getD r257.2.1 (8:Nat) (0:Int)), (List.getD r257.2.1 (9:Nat) (0:Int))], ())))).bind fun r258 =>
 (some r258)
 else
 ((F_91e a0 a2)).bind fun r259 =>
 let x260 : Int := r259.2.2.1
 ((F_91e a0 a3)).bind fun r261 =>
 let x262 : Int := r261.2.2.1
 ((F_971 x231 (IntKind.wrap .i64 (r259.2.1 + r261.2.1)) (IntKind.wrap .u64 (x260 * x262)))).bind fun r263 =>
 ((F_91e a0 a4)).bind fun r264 =>
 let x265 : Int := r264.2.2.1
 ((F_971 r264.1 r264.2.1 x265)).bind fun r266 =>
 ((F_970 a0 a1 (r263.1, ([(List.getD r263.2.1 (0:Nat) (0:Int)), (List.getD r263.2.1 (1:Nat) (0:Int)), (List.getD r263.2.1 (2:Nat) (0:Int)), (List.getD r263.2.1 (3:Nat) (0:Int)), (List.getD r263.2.1 (4:Nat) (0:Int)), (List.getD r263.2.1 (5:Nat) (0:Int)), (List.getD r263.2.1 (6:Nat) (0:Int)), (List.getD r263.2.1 (7:Nat) (0:Int)), (List.getD r263.2.1 (8:Nat) (0:Int)), (List.getD r263.2.1 (9:Nat) (0:Int))], ())) (r266.1, ([(List.getD r266.2.1 (0:Nat) (0:Int)), (List.getD r266.2.1 (1:Nat) (0:Int)), (List.getD r266.2.1 (2:Nat) (0:Int)), (List.getD r266.2.1 (3:Nat) (0:Int)), (List.getD r266.2.1 (4:Nat) (0:Int)), (List.getD r266.2.1 (5:Nat) (0:Int)), (List.getD r266.2.1 (6:Nat) (0:Int)), (List.getD r266.2.1 (7:Nat) (0:Int)), (List.getD r266.2.1 (8:Nat) (0:Int)), (List.getD r266.2.1 (9:Nat) (0:Int))], ())))).bind fun r267 =>
 (some r267)
 else
 ((F_942 a0 a3)).bind fun r268 =>
 bif r268 then
 ((F_942 a0 a4)).bind fun r269 =>
 bif r269 then
 ((F_92a a0 a4)).bind fun r270 =>
 bif (x231 == r270) then
 ((F_910 a0 x231)).bind fun r271 =>
 (some (r271, ((false, (false, (false, (false, (false, ()))))), ())))
 else
 ((F_91e a0 a2)).bind fun r272 =>
 let x273 : Int := r272.2.2.1
 ((F_91e a0 a3)).bind fun r274 =>
 let x275 : Int := r274.2.2.1
 ((F_971 x231 (IntKind.wrap .i64 (r272.2.1 + r274.2.1)) (IntKind.wrap .u64 (x273 * x275)))).bind fun r276 =>
 ((F_91e a0 a4)).bind fun r277 =>
 let x278 : Int := r277.2.2.1
 ((F_971 r277.1 r277.2.1 x278)).bind fun r279 =>
 ((F_970 a0 a1 (r276.1, ([(List.getD r276.2.1 (0:Nat) (0:Int)), (List.getD r276.2.1 (1:Nat) (0:Int)), (List.getD r276.2.1 (2:Nat) (0:Int)), (List.getD r276.2.1 (3:Nat) (0:Int)), (List.getD r276.2.1 (4:Nat) (0:Int)), (List.getD r276.2.1 (5:Nat) (0:Int)), (List.getD r276.2.1 (6:Nat) (0:Int)), (List.getD r276.2.1 (7:Nat) (0:Int)), (List.getD r276.2.1 (8:Nat) (0:Int)), (List.getD r276.2.1 (9:Nat) (0:Int))], ())) (r279.1, ([(List.getD r279.2.1 (0:Nat) (0:Int)), (List.getD r279.2.1 (1:Nat) (0:Int)), (List.getD r279.2.1 (2:Nat) (0:Int)), (List.getD r279.2.1 (3:Nat) (0:Int)), (List.getD r279.2.1 (4:Nat) (0:Int)), (List.getD r279.2.1 (5:Nat) (0:Int)), (List.getD r279.2.1 (6:Nat) (0:Int)), (List.getD r279.2.1 (7:Nat) (0:Int)), (List.getD r279.2.1 (8:Nat) (0:Int)), (List.getD r279.2.1 (9:Nat) (0:Int))], ())))).bind fun r280 =>
 (some r280)
 else
 ((F_91e a0 a2)).bind fun r281 =>
 let x282 : Int := r281.2.2.1
 ((F_91e a0 a3)).bind fun r283 =>
 let x284 : Int := r283.2.2.1
 ((F_971 x231 (IntKind.wrap .i64 (r281.2.1 + r283.2.1)) (IntKind.wrap .u64 (x282 * x284)))).bind fun r285 =>
 ((F_91e a0 a4)).bind fun r286 =>
 let x287 : Int := r286.2.2.1
 ((F_971 r286.1 r286.2.1 x287)).bind fun r288 =>
 ((F_970 a0 a1 (r285.1, ([(List.getD r285.2.1 (0:Nat) (0:Int)), (List.getD r285.2.1 (1:Nat) (0:Int)), (List.getD r285.2.1 (2:Nat) (0:Int)), (List.getD r285.2.1 (3:Nat) (0:Int)), (List.getD r285.2.1 (4:Nat) (0:Int)), (List.getD r285.2.1 (5:Nat) (0:Int)), (List.getD r285.2.1 (6:Nat) (0:Int)), (List.getD r285.2.1 (7:Nat) (0:Int)), (List.getD r285.2.1 (8:Nat) (0:Int)), (List.getD r285.2.1 (9:Nat) (0:Int))], ())) (r288.1, ([(List.getD r288.2.1 (0:Nat) (0:Int)), (List.getD r288.2.1 (1:Nat) (0:Int)), (List.getD r288.2.1 (2:Nat) (0:Int)), (List.getD r288.2.1 (3:Nat) (0:Int)), (List.getD r288.2.1 (4:Nat) (0:Int)), (List.getD r288.2.1 (5:Nat) (0:Int)), (List.getD r288.2.1 (6:Nat) (0:Int)), (List.getD r288.2.1 (7:Nat) (0:Int)), (List.getD r288.2.1 (8:Nat) (0:Int)), (List.getD r288.2.1 (9:Nat) (0:Int))], ())))).bind fun r289 =>
 (some r289)
 else
 ((F_91e a0 a2)).bind fun r290 =>
 let x291 : Int := r290.2.2.1
 ((F_91e a0 a3)).bind fun r292 =>
 let x293 : Int := r292.2.2.1
 ((F_971 x231 (IntKind.wrap .i64 (r290.2.1 + r292.2.1)) (IntKind.wrap .u64 (x291 * x293)))).bind fun r294 =>
 ((F_91e a0 a4)).bind fun r295 =>
 let x296 : Int := r295.2.2.1
 ((F_971 r295.1 r295.2.1 x296)).bind fun r297 =>
 ((F_970 a0 a1 (r294.1, ([(List.getD r294.2.1 (0:Nat) (0:Int)), (List.getD r294.2.1 (1:Nat) (0:Int)), (List.getD r294.2.1 (2:Nat) (0:Int)), (List.getD r294.2.1 (3:Nat) (0:Int)), (List.getD r294.2.1 (4:Nat) (0:Int)), (List.getD r294.2.1 (5:Nat) (0:Int)), (List.getD r294.2.1 (6:Nat) (0:Int)), (List.getD r294.2.1 (7:Nat) (0:Int)), (List.getD r294.2.1 (8:Nat) (0:Int)), (List.getD r294.2.1 (9:Nat) (0:Int))], ())) (r297.1, ([(List.getD r297.2.1 (0:Nat) (0:Int)), (List.getD r297.2.1 (1:Nat) (0:Int)), (List.getD r297.2.1 (2:Nat) (0:Int)), (List.getD r297.2.1 (3:Nat) (0:Int)), (List.getD r297.2.1 (4:Nat) (0:Int)), (List.getD r297.2.1 (5:Nat) (0:Int)), (List.getD r297.2.1 (6:Nat) (0:Int)), (List.getD r297.2.1 (7:Nat) (0:Int)), (List.getD r297.2.1 (8:Nat) (0:Int)), (List.getD r297.2.1 (9:Nat) (0:Int))], ())))).bind fun r298 =>
 (some r298)
noncomputable def G_94a : T fa_94a → TH hN0 → Option (Int × (Bool × Bool × Bool × Bool × Bool × Unit) × Unit) := fun x y => F_94a x.1 x.2.1 x.2.2.1 x.2.2.2.1 x.2.2.2.2.1
noncomputable def c_94a : Orc := ent i_94a [] 0 (sp fa_94a hN0 fr_94a hN0 G_94a (outN fr_94a))
theorem ok_94a : OrcOk PR c_94a := fnT okO_94a mixed p_94a (by kernel_rfl) (by kernel_rfl) (L := L0) (kp := false) (by kernel_rfl) (inn := (innN fr_94a)) (out := (outN fr_94a)) (fun _ _ => rfl) (loopsL (l := []) (by kernel_rfl) trivial) (fun x y => by kernel_rfl)
noncomputable def O_925 : Orc := c_94a
theorem okO_925 : OrcOk PR O_925 := ok_94a
abbrev fa_925 : Fm := (.pair (.i .u32) (.pair (.i .u32) (.pair (.i .u32) .unit)))
abbrev fr_925 : Fm := (.i .u32)
noncomputable def F_925 (a0 : Int) (a1 : Int) (a2 : Int) : Option (Int) :=
 ((F_94a (2:Int) (0:Int) a0 a1 a2)).bind fun r0 =>
 (some r0.1)
noncomputable def G_925 : T fa_925 → TH hN0 → Option (Int) := fun x y => F_925 x.1 x.2.1 x.2.2.1
noncomputable def c_925 : Orc := ent i_925 [] 0 (sp fa_925 hN0 fr_925 hN0 G_925 (outN fr_925))
theorem ok_925 : OrcOk PR c_925 := fnT okO_925 mixed p_925 (by kernel_rfl) (by kernel_rfl) (L := L0) (kp := false) (by kernel_rfl) (inn := (innN fr_925)) (out := (outN fr_925)) (fun _ _ => rfl) (loopsL (l := []) (by kernel_rfl) trivial) (fun x y => by kernel_rfl)
end Go.Proofs.YtkmkhcmfpbffjaaGreat.VI
