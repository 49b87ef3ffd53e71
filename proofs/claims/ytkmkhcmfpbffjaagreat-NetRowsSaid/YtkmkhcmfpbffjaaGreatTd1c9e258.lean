import Derived.Test.YtkmkhcmfpbffjaaGreatT40407add
namespace Go.Proofs.YtkmkhcmfpbffjaaGreat.VI
set_option linter.unusedVariables false
set_option linter.unusedSimpArgs false
set_option maxRecDepth 100000
noncomputable def O_99d : Orc := orn
theorem okO_99d : OrcOk PR O_99d := (orn_ok _)
abbrev fa_99d : Fm := (.pair (.agg (.rep 2 (.i .u32))) (.pair (.agg (.rep 4 (.i .u32))) .unit))
abbrev fr_99d : Fm := (.agg (.rep 4 (.i .u32)))
noncomputable def F_99d (a0 : List (Int)) (a1 : List (Int)) : Option (List (Int)) :=
 let x0 : Int := (IntKind.wrap .u64 ((IntKind.wrap .u64 (List.getD a1 (2:Nat) (0:Int))) * (3449720151:Int)))
 let x1 : Int := (IntKind.wrap .u64 ((IntKind.wrap .u64 (List.getD a1 (0:Nat) (0:Int))) * (3528531795:Int)))
 (some [(bits .xor .u32 (bits .xor .u32 (IntKind.wrap .u32 (x0 / (4294967296:Int))) (List.getD a1 (1:Nat) (0:Int))) (List.getD a0 (0:Nat) (0:Int))), (IntKind.wrap .u32 x0), (bits .xor .u32 (bits .xor .u32 (IntKind.wrap .u32 (x1 / (4294967296:Int))) (List.getD a1 (3:Nat) (0:Int))) (List.getD a0 (1:Nat) (0:Int))), (IntKind.wrap .u32 x1)])
noncomputable def G_99d : T fa_99d → TH hN0 → Option (List (Int)) := fun x y => F_99d x.1 x.2.1
noncomputable def c_99d : Orc := ent i_99d [] 0 (sp fa_99d hN0 fr_99d hN0 G_99d (outN fr_99d))
theorem ok_99d : OrcOk PR c_99d := fnT okO_99d mixed p_99d (by kernel_rfl) (by kernel_rfl) (L := L0) (kp := false) (by kernel_rfl) (inn := (innN fr_99d)) (out := (outN fr_99d)) (fun _ _ => rfl) (loopsL (l := []) (by kernel_rfl) trivial) (fun x y => by kernel_rfl)
noncomputable def O_98c : Orc := c_99d
theorem okO_98c : OrcOk PR O_98c := ok_99d
abbrev fa_98c : Fm := (.pair (.agg (.rep 2 (.i .u32))) (.pair (.agg (.rep 4 (.i .u32))) .unit))
abbrev fr_98c : Fm := (.agg (.rep 4 (.i .u32)))
abbrev ff_98c_0 : Fm := (.us 2 (.cst (.ref 0 1 0) (.cst (.ref 1 1 0) (.cst (.ref 2 1 0) (.pair (.i .i64) (.us 14 .unit))))))
abbrev hf_98c_0 : List BF := [(.list 1 y_9a true (.rep 2 (.i .u32))), (.list 1 y_99 true (.rep 4 (.i .u32))), (.list 1 y_99 true (.rep 4 (.i .u32)))]
abbrev X_98c_0 : Xs := (.one (.exit 0) [3, 4] (.us 3 (.cst (.ref 0 1 0) (.cst (.ref 1 1 0) (.us 15 .unit)))) [(.list 1 y_99 true (.rep 4 (.i .u32))), (.list 1 y_99 true (.rep 4 (.i .u32)))])
abbrev S_98c_0 : Type := T ff_98c_0 × TH hf_98c_0
abbrev E_98c_0 : Type := TX X_98c_0
noncomputable def LB_98c_0 : Lps := L0
noncomputable def st_98c_0 : StepT S_98c_0 E_98c_0 := fun R v kn ko =>
 let x0 : List (T (Fm.i IntKind.u32)) := v.2.1
 let x1 : Int := (List.getD x0 (0:Nat) (0:Int))
 let x2 : Int := (List.getD x0 (1:Nat) (0:Int))
 let x3 : List (T (Fm.i IntKind.u32)) := v.2.2.1
 let x4 : List (T (Fm.i IntKind.u32)) := [(List.getD x3 (0:Nat) (0:Int)), (List.getD x3 (1:Nat) (0:Int)), (List.getD x3 (2:Nat) (0:Int)), (List.getD x3 (3:Nat) (0:Int))]
 let x5 : Int := (IntKind.wrap .u64 ((IntKind.wrap .u64 (List.getD x4 (2:Nat) (0:Int))) * (3449720151:Int)))
 let x6 : List (T (Fm.i IntKind.u32)) := [x1, x2]
 let x7 : Int := (IntKind.wrap .u64 ((IntKind.wrap .u64 (List.getD x4 (0:Nat) (0:Int))) * (3528531795:Int)))
 let x8 : List Int := [(bits .xor .u32 (bits .xor .u32 (IntKind.wrap .u32 (x5 / (4294967296:Int))) (List.getD x4 (1:Nat) (0:Int))) (List.getD x6 (0:Nat) (0:Int))), (IntKind.wrap .u32 x5), (bits .xor .u32 (bits .xor .u32 (IntKind.wrap .u32 (x7 / (4294967296:Int))) (List.getD x4 (3:Nat) (0:Int))) (List.getD x6 (1:Nat) (0:Int))), (IntKind.wrap .u32 x7)]
 let x9 : List (T (Fm.i IntKind.u32)) := v.2.2.2.1
 bif (decide (v.1.1 < (10:Int))) then
 (kn (((IntKind.wrap .i64 (v.1.1 + (1:Int))), ()), ([(IntKind.wrap .u32 (x1 + (2654435769:Int))), (IntKind.wrap .u32 (x2 + (3144134277:Int)))], ([(List.getD x8 (0:Nat) (0:Int)), (List.getD x8 (1:Nat) (0:Int)), (List.getD x8 (2:Nat) (0:Int)), (List.getD x8 (3:Nat) (0:Int))], ([(List.getD x9 (0:Nat) (0:Int)), (List.getD x9 (1:Nat) (0:Int)), (List.getD x9 (2:Nat) (0:Int)), (List.getD x9 (3:Nat) (0:Int))], ())))))
 else
 (ko ((), (x4, ([(List.getD x9 (0:Nat) (0:Int)), (List.getD x9 (1:Nat) (0:Int)), (List.getD x9 (2:Nat) (0:Int)), (List.getD x9 (3:Nat) (0:Int))], ()))))
noncomputable def ls_98c_0 : St → LTr := (lsum ff_98c_0 hf_98c_0 X_98c_0 Prod.mk id st_98c_0 (hd [] [] [2, 3, 4, 5] 0))
theorem lp_98c_0 : LoopOk PR 0 (lpN f_98c 0) ls_98c_0 := loopT okO_98c mixed (L := LB_98c_0) (d := 1) (bs := []) (ks := [2, 3, 4, 5]) (loopsL (l := []) (by kernel_rfl) trivial) (by kernel_rfl) (inS := Prod.mk) (outS := id) (fun _ _ => rfl) (inX := id) (outX := id) (fun _ => rfl) (fun v R kn ko => by kernel_rfl) (hd_wk [] [] [2, 3, 4, 5] 0)
noncomputable def L_98c : Lps := (lpB 3 (.by_ ls_98c_0) L0)
noncomputable def F_98c (a0 : List (Int)) (a1 : List (Int)) : Option (List (Int)) :=
 ((lim st_98c_0 (((0:Int), ()), ([(List.getD a0 (0:Nat) (0:Int)), (List.getD a0 (1:Nat) (0:Int))], ([(List.getD a1 (0:Nat) (0:Int)), (List.getD a1 (1:Nat) (0:Int)), (List.getD a1 (2:Nat) (0:Int)), (List.getD a1 (3:Nat) (0:Int))], ([(0:Int), (0:Int), (0:Int), (0:Int)], ())))))).bind fun r0 =>
 let x1 : List (T (Fm.i IntKind.u32)) := r0.2.1
 (some [(List.getD x1 (0:Nat) (0:Int)), (List.getD x1 (1:Nat) (0:Int)), (List.getD x1 (2:Nat) (0:Int)), (List.getD x1 (3:Nat) (0:Int))])
noncomputable def G_98c : T fa_98c → TH hN0 → Option (List (Int)) := fun x y => F_98c x.1 x.2.1
noncomputable def c_98c : Orc := ent i_98c [] 0 (sp fa_98c hN0 fr_98c hN0 G_98c (outN fr_98c))
theorem ok_98c : OrcOk PR c_98c := fnT okO_98c mixed p_98c (by kernel_rfl) (by kernel_rfl) (L := L_98c) (kp := false) (by kernel_rfl) (inn := (innN fr_98c)) (out := (outN fr_98c)) (fun _ _ => rfl) (loopsL (l := [((lpN f_98c 0), ls_98c_0)]) (by kernel_rfl) ⟨lp_98c_0, trivial⟩) (fun x y => by kernel_rfl)
noncomputable def O_958 : Orc := c_98c
theorem okO_958 : OrcOk PR O_958 := ok_98c
abbrev fa_958 : Fm := (.pair (.i .u64) (.pair (.i .u32) (.pair (.i .u64) .unit)))
abbrev fr_958 : Fm := (.i .u32)
noncomputable def F_958 (a0 : Int) (a1 : Int) (a2 : Int) : Option (Int) :=
 let x0 : Int := (IntKind.wrap .u64 (Int.tdiv a2 (4:Int)))
 let x1 : Nat := ((0:Nat) + ((Int.toNat (Int.tmod a2 (4:Int))) * (1:Nat)))
 ((F_98c [(IntKind.wrap .u32 a0), (IntKind.wrap .u32 (a0 / (4294967296:Int)))] [(IntKind.wrap .u32 x0), (IntKind.wrap .u32 (x0 / (4294967296:Int))), a1, (0:Int)])).bind fun r2 =>
 bif (decide (((0:Int) ≤ (Int.tmod a2 (4:Int))) ∧ ((Int.tmod a2 (4:Int)) < (4:Int)))) then
 bif (Nat.beq x1 (0:Nat)) then
 (some (List.getD r2 (0:Nat) (0:Int)))
 else
 bif (Nat.beq x1 (1:Nat)) then
 (some (List.getD r2 (1:Nat) (0:Int)))
 else
 bif (Nat.beq x1 (2:Nat)) then
 (some (List.getD r2 (2:Nat) (0:Int)))
 else
 bif (Nat.beq x1 (3:Nat)) then
 (some (List.getD r2 (3:Nat) (0:Int)))
 else
 bif (Nat.beq x1 (4:Nat)) then
 none
 else
 none
 else
 none
noncomputable def G_958 : T fa_958 → TH hN0 → Option (Int) := fun x y => F_958 x.1 x.2.1 x.2.2.1
noncomputable def c_958 : Orc := ent i_958 [] 0 (sp fa_958 hN0 fr_958 hN0 G_958 (outN fr_958))
theorem ok_958 : OrcOk PR c_958 := fnT okO_958 mixed p_958 (by kernel_rfl) (by kernel_rfl) (L := L0) (kp := false) (by kernel_rfl) (inn := (innN fr_958)) (out := (outN fr_958)) (fun _ _ => rfl) (loopsL (l := []) (by kernel_rfl) trivial) (fun x y => by kernel_rfl)
noncomputable def O_986 : Orc := c_97c
theorem okO_986 : OrcOk PR O_986 := ok_97c
abbrev fa_986 : Fm := (.pair (.i .i64) (.pair (.i .i64) (.pair (.i .i64) .unit)))
abbrev fr_986 : Fm := (.agg (.pair (.i .i64) (.pair (.i .i64) (.pair (.i .i64) (.pair (.si .u32) .unit)))))
noncomputable def F_986 (a0 : Int) (a1 : Int) (a2 : Int) : Option (Int × Int × Int × List Int × Unit) :=
 let x0 : Int := (bif (decide ((IntKind.wrap .i64 ((mn (mx a0 (0:Int)) (4096:Int)) * (mn (mx a1 (0:Int)) (4096:Int)))) > (262144:Int))) then (0:Int) else (mn (mx a0 (0:Int)) (4096:Int)))
 let x1 : Int := (bif (decide ((IntKind.wrap .i64 ((mn (mx a0 (0:Int)) (4096:Int)) * (mn (mx a1 (0:Int)) (4096:Int)))) > (262144:Int))) then (0:Int) else (mn (mx a1 (0:Int)) (4096:Int)))
 let x2 : Nat := (Int.toNat (IntKind.wrap .i64 (x0 * x1)))
 ((F_97c a2)).bind fun r3 =>
 bif (decide (((0:Int) ≤ (IntKind.wrap .i64 (x0 * x1))) ∧ ((IntKind.wrap .i64 (x0 * x1)) ≤ (1073741824:Int)))) then
 (some (x0, (x1, ((bif (!r3) then (2:Int) else a2), ((List.take x2 (List.drop (0:Nat) (List.replicate x2 (0:Int)))), ())))))
 else
 none
noncomputable def G_986 : T fa_986 → TH hN0 → Option (Int × Int × Int × List Int × Unit) := fun x y => F_986 x.1 x.2.1 x.2.2.1
noncomputable def c_986 : Orc := ent i_986 [] 0 (sp fa_986 hN0 fr_986 hN0 G_986 (outN fr_986))
theorem ok_986 : OrcOk PR c_986 := fnT okO_986 mixed p_986 (by kernel_rfl) (by kernel_rfl) (L := L0) (kp := false) (by kernel_rfl) (inn := (innN fr_986)) (out := (outN fr_986)) (fun _ _ => rfl) (loopsL (l := []) (by kernel_rfl) trivial) (fun x y => by kernel_rfl)
noncomputable def O_987 : Orc := c_958
theorem okO_987 : OrcOk PR O_987 := ok_958
abbrev fa_987 : Fm := (.pair (.i .i64) (.pair (.i .u32) (.cst (.ref 0 1 0) (.cst (.ref 1 1 0) (.cst (.ref 2 1 0) (.cst (.ref 3 1 0) .unit))))))
abbrev ha_987 : List BF := [(.ints 1 y_94 true .u64), (.ints 1 y_91 true .u32), (.ints 1 y_91 true .u32), (.ints 1 y_91 true .u32)]
abbrev fr_987 : Fm := (.i .u32)
abbrev hr_987 : List BF := [(.ints 1 y_94 true .u64), (.ints 1 y_91 true .u32), (.ints 1 y_91 true .u32), (.ints 1 y_91 true .u32)]
def inn_987 : T fr_987 → TH hr_987 → (Int) × (List Int × List Int × List Int × List Int × Unit) := Prod.mk
def out_987 : (Int) × (List Int × List Int × List Int × List Int × Unit) → T fr_987 × TH hr_987 := id
noncomputable def F_987 (a0 : Int) (a1 : Int) (a2 : List Int) (a3 : List Int) (a4 : List Int) (a5 : List Int) : Option ((Int) × (List Int × List Int × List Int × List Int × Unit)) :=
 bif (decide ((0:Nat) < (List.length a2))) then
 bif (decide ((0:Nat) < (List.length a3))) then
 ((F_958 (List.getD a2 (0:Nat) (0:Int)) (List.getD a3 (0:Nat) (0:Int)) (IntKind.wrap .u64 a0))).bind fun r0 =>
 bif (decide ((0:Nat) < (List.length a4))) then
 bif (decide (r0 < (List.getD a4 (0:Nat) (0:Int)))) then
 (some ((0:Int), (a2, (a3, (a4, (a5, ()))))))
 else
 bif (decide ((0:Nat) < (List.length a5))) then
 (some ((List.getD a5 (0:Nat) (0:Int)), (a2, (a3, (a4, (a5, ()))))))
 else
 none
 else
 none
 else
 none
 else
 none
noncomputable def G_987 : T fa_987 → TH ha_987 → Option ((Int) × (List Int × List Int × List Int × List Int × Unit)) := fun x y => F_987 x.1 x.2.1 y.1 y.2.1 y.2.2.1 y.2.2.2.1
noncomputable def c_987 : Orc := ent i_987 [false, false, true, true, true, true] 0 (sp fa_987 ha_987 fr_987 hr_987 G_987 out_987)
theorem ok_987 : OrcOk PR c_987 := fnT okO_987 mixed p_987 (by kernel_rfl) (by kernel_rfl) (L := L0) (kp := false) (by kernel_rfl) (inn := inn_987) (out := out_987) (fun _ _ => rfl) (loopsL (l := []) (by kernel_rfl) trivial) (fun x y => by kernel_rfl)
noncomputable def O_9ab : Orc := c_987
theorem okO_9ab : OrcOk PR O_9ab := ok_987
abbrev fa_9ab : Fm := (.pair (.agg (.pair (.i .i64) (.pair (.i .i64) (.pair (.i .i64) (.pair (.si .u32) .unit))))) (.pair (.i .i64) (.pair (.fn i_987 (.pair (.ref 0 1 0) (.pair (.ref 1 1 0) (.pair (.ref 2 1 0) (.pair (.ref 3 1 0) .unit))))) .unit)))
abbrev ha_9ab : List BF := [(.ints 1 y_94 true .u64), (.ints 1 y_91 true .u32), (.ints 1 y_91 true .u32), (.ints 1 y_91 true .u32)]
abbrev fr_9ab : Fm := (.agg (.pair (.i .i64) (.pair (.i .i64) (.pair (.i .i64) (.pair (.si .u32) .unit)))))
abbrev hr_9ab : List BF := [(.ints 1 y_94 true .u64), (.ints 1 y_91 true .u32), (.ints 1 y_91 true .u32), (.ints 1 y_91 true .u32)]
abbrev ff_9ab_0 : Fm := (.us 2 (.cst (.fn i_987 (.cst (.ref 0 1 0) (.cst (.ref 1 1 0) (.cst (.ref 2 1 0) (.cst (.ref 3 1 0) .unit))))) (.us 3 (.cst (.ref 4 1 0) (.cst (.ref 5 1 0) (.us 13 (.pair (.si .u32) (.pair (.i .i64) (.pair (.i .i64) (.us 14 .unit))))))))))
abbrev hf_9ab_0 : List BF := [(.ints 1 y_94 true .u64), (.ints 1 y_91 true .u32), (.ints 1 y_91 true .u32), (.ints 1 y_91 true .u32), (.list 1 y_92 true (.pair (.i .i64) (.pair (.i .i64) (.pair (.i .i64) (.cst .nils .unit))))), (.list 1 y_92 true (.pair (.i .i64) (.pair (.i .i64) (.pair (.i .i64) (.pair (.own 6 1 0 1) .unit))))), (.ints 1 y_91 true .u32)]
abbrev X_9ab_0 : Xs := (.one (.exit 0) [6, 7] (.us 6 (.cst (.ref 4 1 0) (.cst (.ref 5 1 0) (.us 30 .unit)))) [(.ints 1 y_94 true .u64), (.ints 1 y_91 true .u32), (.ints 1 y_91 true .u32), (.ints 1 y_91 true .u32), (.list 1 y_92 true (.pair (.i .i64) (.pair (.i .i64) (.pair (.i .i64) (.cst .nils .unit))))), (.list 1 y_92 true (.pair (.i .i64) (.pair (.i .i64) (.pair (.i .i64) (.pair (.own 6 1 0 1) .unit))))), (.ints 1 y_91 true .u32)])
abbrev S_9ab_0 : Type := T ff_9ab_0 × TH hf_9ab_0
abbrev E_9ab_0 : Type := TX X_9ab_0
noncomputable def LB_9ab_0 : Lps := L0
noncomputable def st_9ab_0 : StepT S_9ab_0 E_9ab_0 := fun R v kn ko =>
 let x0 : Int := v.1.2.2.1
 let x1 : List Int := v.1.1
 let x2 : Nat := (Int.toNat x0)
 bif (decide (x0 < v.1.2.1)) then
 bif (decide (((0:Int) ≤ x0) ∧ (x0 < (((List.length x1) : Nat) : Int)))) then
 ((F_987 x0 (List.getD x1 x2 (0:Int)) v.2.1 v.2.2.1 v.2.2.2.1 v.2.2.2.2.1)).bind fun r3 =>
 bif (decide (((0:Int) ≤ x0) ∧ (x0 < ((v.2.2.2.2.2.2.1.2.2.2.1 : Nat) : Int)))) then
 bif (decide (((0:Nat) + (x2 * (1:Nat))) < (List.length v.2.2.2.2.2.2.2.1))) then
 (kn (((List.take (List.length x1) x1), (v.1.2.1, ((IntKind.wrap .i64 (x0 + (1:Int))), ()))), (r3.2.1, (r3.2.2.1, (r3.2.2.2.1, (r3.2.2.2.2.1, (v.2.2.2.2.2.1, (v.2.2.2.2.2.2.1, ((List.set v.2.2.2.2.2.2.2.1 ((0:Nat) + (x2 * (1:Nat))) r3.1), ())))))))))
 else
 none
 else
 none
 else
 none
 else
 (ko ((), v.2))
noncomputable def ls_9ab_0 : St → LTr := (lsum ff_9ab_0 hf_9ab_0 X_9ab_0 Prod.mk id st_9ab_0 (hd [] [] [2, 6, 7, 21, 22, 23] 4))
theorem lp_9ab_0 : LoopOk PR 4 (lpN f_95e 0) ls_9ab_0 := loopT okO_9ab mixed (L := LB_9ab_0) (d := 1) (bs := []) (ks := [2, 6, 7, 21, 22, 23]) (loopsL (l := []) (by kernel_rfl) trivial) (by kernel_rfl) (inS := Prod.mk) (outS := id) (fun _ _ => rfl) (inX := id) (outX := id) (fun _ => rfl) (fun v R kn ko => by kernel_rfl) (hd_wk [] [] [2, 6, 7, 21, 22, 23] 4)
noncomputable def L_9ab : Lps := (lpB 4 (.by_ ls_9ab_0) L0)
def inn_9ab : T fr_9ab → TH hr_9ab → (Int × Int × Int × List Int × Unit) × (List Int × List Int × List Int × List Int × Unit) := Prod.mk
def out_9ab : (Int × Int × Int × List Int × Unit) × (List Int × List Int × List Int × List Int × Unit) → T fr_9ab × TH hr_9ab := id
noncomputable def F_9ab (a0 : Int × Int × Int × List Int × Unit) (a1 : Int) (a2 : List Int) (a3 : List Int) (a4 : List Int) (a5 : List Int) : Option ((Int × Int × Int × List Int × Unit) × (List Int × List Int × List Int × List Int × Unit)) :=
 let x0 : List Int := a0.2.2.2.1
 let x1 : Nat := (List.length x0)
 let x2 : Int := ((x1 : Nat) : Int)
 let x3 : Nat := (Int.toNat x2)
 bif (decide (((0:Int) ≤ x2) ∧ (x2 ≤ (1073741824:Int)))) then
 ((lim st_9ab_0 (((List.take x1 x0), (x2, ((0:Int), ()))), (a2, (a3, (a4, (a5, (((0:Int), ((0:Int), ((0:Int), ()))), ((a0.1, (a0.2.1, (a1, (x3, ())))), ((List.replicate x3 (0:Int)), ())))))))))).bind fun r4 =>
 (some ((r4.2.2.2.2.2.2.1.1, (r4.2.2.2.2.2.2.1.2.1, (r4.2.2.2.2.2.2.1.2.2.1, ((List.take r4.2.2.2.2.2.2.1.2.2.2.1 (List.drop (0:Nat) r4.2.2.2.2.2.2.2.1)), ())))), (r4.2.1, (r4.2.2.1, (r4.2.2.2.1, (r4.2.2.2.2.1, ()))))))
 else
 none
noncomputable def G_9ab : T fa_9ab → TH ha_9ab → Option ((Int × Int × Int × List Int × Unit) × (List Int × List Int × List Int × List Int × Unit)) := fun x y => F_9ab x.1 x.2.1 y.1 y.2.1 y.2.2.1 y.2.2.2.1
noncomputable def c_9ab : Orc := ent i_95e [false, false, true] 0 (sp fa_9ab ha_9ab fr_9ab hr_9ab G_9ab out_9ab)
theorem ok_9ab : OrcOk PR c_9ab := fnT okO_9ab mixed p_95e (by kernel_rfl) (by kernel_rfl) (L := L_9ab) (kp := false) (by kernel_rfl) (inn := inn_9ab) (out := out_9ab) (fun _ _ => rfl) (loopsL (l := [((lpN f_95e 0), ls_9ab_0)]) (by kernel_rfl) ⟨lp_9ab_0, trivial⟩) (fun x y => by kernel_rfl)
noncomputable def O_952 : Orc := (orm c_91b (orm c_91e (orm c_986 (orm c_9ab c_987))))
theorem okO_952 : OrcOk PR O_952 := (orm_ok ok_91b (orm_ok ok_91e (orm_ok ok_986 (orm_ok ok_9ab ok_987))))
abbrev fa_952 : Fm := (.pair (.i .i64) (.pair (.i .i64) (.pair (.i .u32) (.pair (.i .u64) (.pair (.i .u32) .unit)))))
abbrev fr_952 : Fm := (.agg (.pair (.i .i64) (.pair (.i .i64) (.pair (.i .i64) (.pair (.si .u32) .unit)))))
noncomputable def F_952 (a0 : Int) (a1 : Int) (a2 : Int) (a3 : Int) (a4 : Int) : Option (Int × Int × Int × List Int × Unit) :=
 ((F_91b (IntKind.wrap .i64 ((4294967296:Int) - (IntKind.wrap .i64 (List.getD [a2] (0:Nat) (0:Int))))))).bind fun r0 =>
 ((F_91e (1333788672:Int) r0)).bind fun r1 =>
 ((F_986 a0 a1 (2:Int))).bind fun r2 =>
 let x3 : Int := r2.2.2.1
 let x4 : List Int := r2.2.2.2.1
 ((F_9ab (r2.1, (r2.2.1, (x3, ((List.take (List.length x4) x4), ())))) (2:Int) [a3] [a4] [a2] [r1])).bind fun r5 =>
 let x6 : List Int := r5.1.2.2.2.1
 (some (r5.1.1, (r5.1.2.1, (r5.1.2.2.1, ((List.take (List.length x6) x6), ())))))
noncomputable def G_952 : T fa_952 → TH hN0 → Option (Int × Int × Int × List Int × Unit) := fun x y => F_952 x.1 x.2.1 x.2.2.1 x.2.2.2.1 x.2.2.2.2.1
noncomputable def c_952 : Orc := ent i_952 [] 0 (sp fa_952 hN0 fr_952 hN0 G_952 (outN fr_952))
theorem ok_952 : OrcOk PR c_952 := fnT okO_952 mixed p_952 (by kernel_rfl) (by kernel_rfl) (L := L0) (kp := false) (by kernel_rfl) (inn := (innN fr_952)) (out := (outN fr_952)) (fun _ _ => rfl) (loopsL (l := []) (by kernel_rfl) trivial) (fun x y => by kernel_rfl)
noncomputable def O_955 : Orc := c_956
theorem okO_955 : OrcOk PR O_955 := ok_956
abbrev fa_955 : Fm := (.pair (.i .i64) (.pair (.i .u32) (.cst (.ref 0 1 0) (.cst (.ref 1 1 0) .unit))))
abbrev ha_955 : List BF := [(.list 1 y_92 true (.pair (.i .i64) (.pair (.i .i64) (.pair (.i .i64) (.pair (.si .u32) .unit))))), (.ints 1 y_90 true .i64)]
abbrev fr_955 : Fm := (.i .u32)
abbrev hr_955 : List BF := [(.list 1 y_92 true (.pair (.i .i64) (.pair (.i .i64) (.pair (.i .i64) (.pair (.si .u32) .unit))))), (.ints 1 y_90 true .i64)]
def inn_955 : T fr_955 → TH hr_955 → (Int) × ((Int × Int × Int × List Int × Unit) × List Int × Unit) := Prod.mk
def out_955 : (Int) × ((Int × Int × Int × List Int × Unit) × List Int × Unit) → T fr_955 × TH hr_955 := id
noncomputable def F_955 (a0 : Int) (a1 : Int) (a2 : Int × Int × Int × List Int × Unit) (a3 : List Int) : Option ((Int) × ((Int × Int × Int × List Int × Unit) × List Int × Unit)) :=
 let x0 : Int := a2.2.2.1
 let x1 : List Int := a2.2.2.2.1
 bif (decide ((0:Nat) < (List.length a3))) then
 ((F_956 x0 (List.getD a3 (0:Nat) (0:Int)) (0:Int) a1)).bind fun r2 =>
 (some (r2.1, ((a2.1, (a2.2.1, (x0, ((List.take (List.length x1) x1), ())))), (a3, ()))))
 else
 none
noncomputable def G_955 : T fa_955 → TH ha_955 → Option ((Int) × ((Int × Int × Int × List Int × Unit) × List Int × Unit)) := fun x y => F_955 x.1 x.2.1 y.1 y.2.1
noncomputable def c_955 : Orc := ent i_955 [false, false, true, true] 0 (sp fa_955 ha_955 fr_955 hr_955 G_955 out_955)
theorem ok_955 : OrcOk PR c_955 := fnT okO_955 mixed p_955 (by kernel_rfl) (by kernel_rfl) (L := L0) (kp := false) (by kernel_rfl) (inn := inn_955) (out := out_955) (fun _ _ => rfl) (loopsL (l := []) (by kernel_rfl) trivial) (fun x y => by kernel_rfl)
noncomputable def O_9ac : Orc := c_955
theorem okO_9ac : OrcOk PR O_9ac := ok_955
abbrev fa_9ac : Fm := (.pair (.agg (.pair (.i .i64) (.pair (.i .i64) (.pair (.i .i64) (.pair (.si .u32) .unit))))) (.pair (.i .i64) (.pair (.fn i_955 (.pair (.ref 0 1 0) (.pair (.ref 1 1 0) .unit))) .unit)))
abbrev ha_9ac : List BF := [(.list 1 y_92 true (.pair (.i .i64) (.pair (.i .i64) (.pair (.i .i64) (.pair (.si .u32) .unit))))), (.ints 1 y_90 true .i64)]
abbrev fr_9ac : Fm := (.agg (.pair (.i .i64) (.pair (.i .i64) (.pair (.i .i64) (.pair (.si .u32) .unit)))))
abbrev hr_9ac : List BF := [(.list 1 y_92 true (.pair (.i .i64) (.pair (.i .i64) (.pair (.i .i64) (.pair (.si .u32) .unit))))), (.ints 1 y_90 true .i64)]
abbrev ff_9ac_0 : Fm := (.us 2 (.cst (.fn i_955 (.cst (.ref 0 1 0) (.cst (.ref 1 1 0) .unit))) (.us 3 (.cst (.ref 2 1 0) (.cst (.ref 3 1 0) (.us 13 (.pair (.si .u32) (.pair (.i .i64) (.pair (.i .i64) (.us 14 .unit))))))))))
abbrev hf_9ac_0 : List BF := [(.list 1 y_92 true (.pair (.i .i64) (.pair (.i .i64) (.pair (.i .i64) (.pair (.si .u32) .unit))))), (.ints 1 y_90 true .i64), (.list 1 y_92 true (.pair (.i .i64) (.pair (.i .i64) (.pair (.i .i64) (.cst .nils .unit))))), (.list 1 y_92 true (.pair (.i .i64) (.pair (.i .i64) (.pair (.i .i64) (.pair (.own 4 1 0 1) .unit))))), (.ints 1 y_91 true .u32)]
abbrev X_9ac_0 : Xs := (.one (.exit 0) [6, 7] (.us 6 (.cst (.ref 2 1 0) (.cst (.ref 3 1 0) (.us 30 .unit)))) [(.list 1 y_92 true (.pair (.i .i64) (.pair (.i .i64) (.pair (.i .i64) (.pair (.si .u32) .unit))))), (.ints 1 y_90 true .i64), (.list 1 y_92 true (.pair (.i .i64) (.pair (.i .i64) (.pair (.i .i64) (.cst .nils .unit))))), (.list 1 y_92 true (.pair (.i .i64) (.pair (.i .i64) (.pair (.i .i64) (.pair (.own 4 1 0 1) .unit))))), (.ints 1 y_91 true .u32)])
abbrev S_9ac_0 : Type := T ff_9ac_0 × TH hf_9ac_0
abbrev E_9ac_0 : Type := TX X_9ac_0
noncomputable def LB_9ac_0 : Lps := L0
noncomputable def st_9ac_0 : StepT S_9ac_0 E_9ac_0 := fun R v kn ko =>
 let x0 : Int := v.1.2.2.1
 let x1 : List Int := v.1.1
 let x2 : Nat := (Int.toNat x0)
 let x3 : List Int := v.2.1.2.2.2.1
 bif (decide (x0 < v.1.2.1)) then
 bif (decide (((0:Int) ≤ x0) ∧ (x0 < (((List.length x1) : Nat) : Int)))) then
 ((F_955 x0 (List.getD x1 x2 (0:Int)) (v.2.1.1, (v.2.1.2.1, (v.2.1.2.2.1, ((List.take (List.length x3) x3), ())))) v.2.2.1)).bind fun r4 =>
 let x5 : List Int := r4.2.1.2.2.2.1
 bif (decide (((0:Int) ≤ x0) ∧ (x0 < ((v.2.2.2.2.1.2.2.2.1 : Nat) : Int)))) then
 bif (decide (((0:Nat) + (x2 * (1:Nat))) < (List.length v.2.2.2.2.2.1))) then
 (kn (((List.take (List.length x1) x1), (v.1.2.1, ((IntKind.wrap .i64 (x0 + (1:Int))), ()))), ((r4.2.1.1, (r4.2.1.2.1, (r4.2.1.2.2.1, ((List.take (List.length x5) x5), ())))), (r4.2.2.1, (v.2.2.2.1, (v.2.2.2.2.1, ((List.set v.2.2.2.2.2.1 ((0:Nat) + (x2 * (1:Nat))) r4.1), ())))))))
 else
 none
 else
 none
 else
 none
 else
 (ko ((), ((v.2.1.1, (v.2.1.2.1, (v.2.1.2.2.1, ((List.take (List.length x3) x3), ())))), v.2.2)))
noncomputable def ls_9ac_0 : St → LTr := (lsum ff_9ac_0 hf_9ac_0 X_9ac_0 Prod.mk id st_9ac_0 (hd [] [] [2, 6, 7, 21, 22, 23] 2))
theorem lp_9ac_0 : LoopOk PR 2 (lpN f_95e 0) ls_9ac_0 := loopT okO_9ac mixed (L := LB_9ac_0) (d := 1) (bs := []) (ks := [2, 6, 7, 21, 22, 23]) (loopsL (l := []) (by kernel_rfl) trivial) (by kernel_rfl) (inS := Prod.mk) (outS := id) (fun _ _ => rfl) (inX := id) (outX := id) (fun _ => rfl) (fun v R kn ko => by kernel_rfl) (hd_wk [] [] [2, 6, 7, 21, 22, 23] 2)
noncomputable def L_9ac : Lps := (lpB 4 (.by_ ls_9ac_0) L0)
def inn_9ac : T fr_9ac → TH hr_9ac → (Int × Int × Int × List Int × Unit) × ((Int × Int × Int × List Int × Unit) × List Int × Unit) := Prod.mk
def out_9ac : (Int × Int × Int × List Int × Unit) × ((Int × Int × Int × List Int × Unit) × List Int × Unit) → T fr_9ac × TH hr_9ac := id
noncomputable def F_9ac (a0 : Int × Int × Int × List Int × Unit) (a1 : Int) (a2 : Int × Int × Int × List Int × Unit) (a3 : List Int) : Option ((Int × Int × Int × List Int × Unit) × ((Int × Int × Int × List Int × Unit) × List Int × Unit)) :=
 let x0 : List Int := a0.2.2.2.1
 let x1 : Nat := (List.length x0)
 let x2 : Int := ((x1 : Nat) : Int)
 let x3 : Int := a2.2.2.1
 let x4 : List Int := a2.2.2.2.1
 let x5 : Nat := (Int.toNat x2)
 bif (decide (((0:Int) ≤ x2) ∧ (x2 ≤ (1073741824:Int)))) then
 ((lim st_9ac_0 (((List.take x1 x0), (x2, ((0:Int), ()))), ((a2.1, (a2.2.1, (x3, ((List.take (List.length x4) x4), ())))), (a3, (((0:Int), ((0:Int), ((0:Int), ()))), ((a0.1, (a0.2.1, (a1, (x5, ())))), ((List.replicate x5 (0:Int)), ())))))))).bind fun r6 =>
 let x7 : List Int := r6.2.1.2.2.2.1
 (some ((r6.2.2.2.2.1.1, (r6.2.2.2.2.1.2.1, (r6.2.2.2.2.1.2.2.1, ((List.take r6.2.2.2.2.1.2.2.2.1 (List.drop (0:Nat) r6.2.2.2.2.2.1)), ())))), ((r6.2.1.1, (r6.2.1.2.1, (r6.2.1.2.2.1, ((List.take (List.length x7) x7), ())))), (r6.2.2.1, ()))))
 else
 none
noncomputable def G_9ac : T fa_9ac → TH ha_9ac → Option ((Int × Int × Int × List Int × Unit) × ((Int × Int × Int × List Int × Unit) × List Int × Unit)) := fun x y => F_9ac x.1 x.2.1 y.1 y.2.1
noncomputable def c_9ac : Orc := ent i_95e [false, false, true] 0 (sp fa_9ac ha_9ac fr_9ac hr_9ac G_9ac out_9ac)
theorem ok_9ac : OrcOk PR c_9ac := fnT okO_9ac mixed p_95e (by kernel_rfl) (by kernel_rfl) (L := L_9ac) (kp := false) (by kernel_rfl) (inn := inn_9ac) (out := out_9ac) (fun _ _ => rfl) (loopsL (l := [((lpN f_95e 0), ls_9ac_0)]) (by kernel_rfl) ⟨lp_9ac_0, trivial⟩) (fun x y => by kernel_rfl)
noncomputable def O_9ad : Orc := (orm c_94d (orm c_97c c_9ac))
theorem okO_9ad : OrcOk PR O_9ad := (orm_ok ok_94d (orm_ok ok_97c ok_9ac))
abbrev fa_9ad : Fm := (.pair (.agg (.pair (.i .i64) (.pair (.i .i64) (.pair (.i .i64) (.pair (.si .u32) .unit))))) (.pair (.i .i64) (.pair (.fn i_955 (.pair (.ref 0 1 0) (.pair (.ref 1 1 0) .unit))) .unit)))
abbrev ha_9ad : List BF := [(.list 1 y_92 true (.pair (.i .i64) (.pair (.i .i64) (.pair (.i .i64) (.pair (.si .u32) .unit))))), (.ints 1 y_90 true .i64)]
abbrev fr_9ad : Fm := (.tup (.pair (.agg (.pair (.i .i64) (.pair (.i .i64) (.pair (.i .i64) (.pair (.si .u32) .unit))))) (.pair (.i .i64) .unit)))
abbrev hr_9ad : List BF := [(.list 1 y_92 true (.pair (.i .i64) (.pair (.i .i64) (.pair (.i .i64) (.pair (.si .u32) .unit))))), (.ints 1 y_90 true .i64)]
def inn_9ad : T fr_9ad → TH hr_9ad → ((Int × Int × Int × List Int × Unit) × Int × Unit) × ((Int × Int × Int × List Int × Unit) × List Int × Unit) := Prod.mk
def out_9ad : ((Int × Int × Int × List Int × Unit) × Int × Unit) × ((Int × Int × Int × List Int × Unit) × List Int × Unit) → T fr_9ad × TH hr_9ad := id
noncomputable def F_9ad (a0 : Int × Int × Int × List Int × Unit) (a1 : Int) (a2 : Int × Int × Int × List Int × Unit) (a3 : List Int) : Option (((Int × Int × Int × List Int × Unit) × Int × Unit) × ((Int × Int × Int × List Int × Unit) × List Int × Unit)) :=
 let x0 : Int := a0.2.2.1
 let x1 : List Int := a0.2.2.2.1
 let x2 : Int := a2.2.2.1
 let x3 : List Int := a2.2.2.2.1
 ((F_94d (a0.1, (a0.2.1, (x0, ((List.take (List.length x1) x1), ())))))).bind fun r4 =>
 bif (!r4) then
 (some ((((0:Int), ((0:Int), ((0:Int), ([], ())))), ((21:Int), ())), ((a2.1, (a2.2.1, (x2, ((List.take (List.length x3) x3), ())))), (a3, ()))))
 else
 ((F_97c a1)).bind fun r5 =>
 bif (!r5) then
 (some ((((0:Int), ((0:Int), ((0:Int), ([], ())))), ((22:Int), ())), ((a2.1, (a2.2.1, (x2, ((List.take (List.length x3) x3), ())))), (a3, ()))))
 else
 ((F_9ac (a0.1, (a0.2.1, (x0, ((List.take (List.length x1) x1), ())))) a1 (a2.1, (a2.2.1, (x2, ((List.take (List.length x3) x3), ())))) a3)).bind fun r6 =>
 let x7 : List Int := r6.1.2.2.2.1
 let x8 : List Int := r6.2.1.2.2.2.1
 (some (((r6.1.1, (r6.1.2.1, (r6.1.2.2.1, ((List.take (List.length x7) x7), ())))), ((0:Int), ())), ((r6.2.1.1, (r6.2.1.2.1, (r6.2.1.2.2.1, ((List.take (List.length x8) x8), ())))), r6.2.2)))
noncomputable def G_9ad : T fa_9ad → TH ha_9ad → Option (((Int × Int × Int × List Int × Unit) × Int × Unit) × ((Int × Int × Int × List Int × Unit) × List Int × Unit)) := fun x y => F_9ad x.1 x.2.1 y.1 y.2.1
noncomputable def c_9ad : Orc := ent i_954 [false, false, true] 0 (sp fa_9ad ha_9ad fr_9ad hr_9ad G_9ad out_9ad)
theorem ok_9ad : OrcOk PR c_9ad := fnT okO_9ad mixed p_954 (by kernel_rfl) (by kernel_rfl) (L := L0) (kp := false) (by kernel_rfl) (inn := inn_9ad) (out := out_9ad) (fun _ _ => rfl) (loopsL (l := []) (by kernel_rfl) trivial) (fun x y => by kernel_rfl)
noncomputable def O_929 : Orc := (orm c_9ad c_955)
theorem okO_929 : OrcOk PR O_929 := (orm_ok ok_9ad ok_955)
abbrev fa_929 : Fm := (.pair (.agg (.pair (.i .i64) (.pair (.i .i64) (.pair (.i .i64) (.pair (.si .u32) .unit))))) (.pair (.i .i64) .unit))
abbrev fr_929 : Fm := (.tup (.pair (.agg (.pair (.i .i64) (.pair (.i .i64) (.pair (.i .i64) (.pair (.si .u32) .unit))))) (.pair (.i .i64) .unit)))
noncomputable def F_929 (a0 : Int × Int × Int × List Int × Unit) (a1 : Int) : Option ((Int × Int × Int × List Int × Unit) × Int × Unit) :=
 let x0 : Int := a0.2.2.1
 let x1 : List Int := a0.2.2.2.1
 ((F_9ad (a0.1, (a0.2.1, (x0, ((List.take (List.length x1) x1), ())))) (List.getD [a1] (0:Nat) (0:Int)) (a0.1, (a0.2.1, (x0, ((List.take (List.length x1) x1), ())))) [a1])).bind fun r2 =>
 let x3 : List Int := r2.1.1.2.2.2.1
 (some ((r2.1.1.1, (r2.1.1.2.1, (r2.1.1.2.2.1, ((List.take (List.length x3) x3), ())))), r2.1.2))
noncomputable def G_929 : T fa_929 → TH hN0 → Option ((Int × Int × Int × List Int × Unit) × Int × Unit) := fun x y => F_929 x.1 x.2.1
noncomputable def c_929 : Orc := ent i_929 [] 0 (sp fa_929 hN0 fr_929 hN0 G_929 (outN fr_929))
theorem ok_929 : OrcOk PR c_929 := fnT okO_929 mixed p_929 (by kernel_rfl) (by kernel_rfl) (L := L0) (kp := false) (by kernel_rfl) (inn := (innN fr_929)) (out := (outN fr_929)) (fun _ _ => rfl) (loopsL (l := []) (by kernel_rfl) trivial) (fun x y => by kernel_rfl)
noncomputable def O_950 : Orc := c_929
theorem okO_950 : OrcOk PR O_950 := ok_929
abbrev fa_950 : Fm := (.pair (.agg (.pair (.si .i64) (.pair (.i .i64) (.pair (.i .i64) (.pair (.i .i64) (.pair (.i .i64) (.pair (.i .i64) (.pair (.i .u32) (.pair (.i .u32) (.pair (.i .u32) (.pair (.i .u32) (.pair (.i .u32) (.pair (.i .u32) (.pair (.i .i64) (.pair (.i .i64) (.pair (.i .i64) (.pair (.i .i64) (.pair (.i .u64) (.pair (.i .u32) (.pair .b (.pair (.i .i64) (.pair (.i .i64) (.pair (.i .i64) (.pair (.i .i64) (.pair (.i .i64) (.pair (.i .i64) (.pair (.i .i64) .unit))))))))))))))))))))))))))) (.pair (.agg (.pair (.i .i64) (.pair (.i .i64) (.pair (.i .i64) (.pair (.si .u32) .unit))))) (.pair (.i .i64) .unit)))
abbrev fr_950 : Fm := (.tup (.pair (.agg (.pair (.i .i64) (.pair (.i .i64) (.pair (.i .i64) (.pair (.si .u32) .unit))))) (.pair (.i .i64) .unit)))
noncomputable def F_950 (a0 : List Int × Int × Int × Int × Int × Int × Int × Int × Int × Int × Int × Int × Int × Int × Int × Int × Int × Int × Bool × Int × Int × Int × Int × Int × Int × Int × Unit) (a1 : Int × Int × Int × List Int × Unit) (a2 : Int) : Option ((Int × Int × Int × List Int × Unit) × Int × Unit) :=
 let x0 : Int := a1.2.2.1
 let x1 : List Int := a1.2.2.2.1
 bif (a2 != (0:Int)) then
 (some (((0:Int), ((0:Int), ((0:Int), ([], ())))), (a2, ())))
 else
 ((F_929 (a1.1, (a1.2.1, (x0, ((List.take (List.length x1) x1), ())))) a0.2.1)).bind fun r2 =>
 let x3 : Int := r2.1.2.1
 let x4 : Int := r2.1.2.2.1
 let x5 : List Int := r2.1.2.2.2.1
 (some ((r2.1.1, (x3, (x4, ((List.take (List.length x5) x5), ())))), r2.2))
noncomputable def G_950 : T fa_950 → TH hN0 → Option ((Int × Int × Int × List Int × Unit) × Int × Unit) := fun x y => F_950 x.1 x.2.1 x.2.2.1
noncomputable def c_950 : Orc := ent i_950 [] 0 (sp fa_950 hN0 fr_950 hN0 G_950 (outN fr_950))
theorem ok_950 : OrcOk PR c_950 := fnT okO_950 mixed p_950 (by kernel_rfl) (by kernel_rfl) (L := L0) (kp := false) (by kernel_rfl) (inn := (innN fr_950)) (out := (outN fr_950)) (fun _ _ => rfl) (loopsL (l := []) (by kernel_rfl) trivial) (fun x y => by kernel_rfl)
noncomputable def O_926 : Orc := (orm c_94e (orm c_94f c_950))
theorem okO_926 : OrcOk PR O_926 := (orm_ok ok_94e (orm_ok ok_94f ok_950))
abbrev fa_926 : Fm := (.pair (.agg (.pair (.si .i64) (.pair (.i .i64) (.pair (.i .i64) (.pair (.i .i64) (.pair (.i .i64) (.pair (.i .i64) (.pair (.i .u32) (.pair (.i .u32) (.pair (.i .u32) (.pair (.i .u32) (.pair (.i .u32) (.pair (.i .u32) (.pair (.i .i64) (.pair (.i .i64) (.pair (.i .i64) (.pair (.i .i64) (.pair (.i .u64) (.pair (.i .u32) (.pair .b (.pair (.i .i64) (.pair (.i .i64) (.pair (.i .i64) (.pair (.i .i64) (.pair (.i .i64) (.pair (.i .i64) (.pair (.i .i64) .unit))))))))))))))))))))))))))) (.pair (.agg (.pair (.i .i64) (.pair (.i .i64) (.pair (.i .i64) (.pair (.si .u32) .unit))))) (.pair (.agg (.pair (.i .i64) (.pair (.i .i64) (.pair (.i .i64) (.pair (.si .u32) .unit))))) (.pair (.agg (.pair (.i .i64) (.pair (.i .i64) (.pair (.i .i64) (.pair (.si .u32) .unit))))) .unit))))
abbrev fr_926 : Fm := (.tup (.pair (.agg (.pair (.i .i64) (.pair (.i .i64) (.pair (.i .i64) (.pair (.si .u32) .unit))))) (.pair (.i .i64) .unit)))
noncomputable def F_926 (a0 : List Int × Int × Int × Int × Int × Int × Int × Int × Int × Int × Int × Int × Int × Int × Int × Int × Int × Int × Bool × Int × Int × Int × Int × Int × Int × Int × Unit) (a1 : Int × Int × Int × List Int × Unit) (a2 : Int × Int × Int × List Int × Unit) (a3 : Int × Int × Int × List Int × Unit) : Option ((Int × Int × Int × List Int × Unit) × Int × Unit) :=
 let x0 : Int := a1.2.2.1
 let x1 : List Int := a1.2.2.2.1
 let x2 : Int := a2.2.2.1
 let x3 : List Int := a2.2.2.2.1
 let x4 : Int := a3.2.2.1
 let x5 : List Int := a3.2.2.2.1
 ((F_94e (a1.1, (a1.2.1, (x0, ((List.take (List.length x1) x1), ())))) (a2.1, (a2.2.1, (x2, ((List.take (List.length x3) x3), ())))))).bind fun r6 =>
 let x7 : Int := r6.1.2.1
 let x8 : Int := r6.1.2.2.1
 let x9 : List Int := r6.1.2.2.2.1
 bif (r6.2.1 != (0:Int)) then
 (some (((0:Int), ((0:Int), ((0:Int), ([], ())))), r6.2))
 else
 ((F_94f (r6.1.1, (x7, (x8, ((List.take (List.length x9) x9), ())))) (a3.1, (a3.2.1, (x4, ((List.take (List.length x5) x5), ())))))).bind fun r10 =>
 let x11 : Int := r10.1.2.1
 let x12 : Int := r10.1.2.2.1
 let x13 : List Int := r10.1.2.2.2.1
 ((F_950 ((List.take (List.length a0.1) a0.1), a0.2) (r10.1.1, (x11, (x12, ((List.take (List.length x13) x13), ())))) r10.2.1)).bind fun r14 =>
 let x15 : Int := r14.1.2.1
 let x16 : Int := r14.1.2.2.1
 let x17 : List Int := r14.1.2.2.2.1
 (some ((r14.1.1, (x15, (x16, ((List.take (List.length x17) x17), ())))), r14.2))
noncomputable def G_926 : T fa_926 → TH hN0 → Option ((Int × Int × Int × List Int × Unit) × Int × Unit) := fun x y => F_926 x.1 x.2.1 x.2.2.1 x.2.2.2.1
noncomputable def c_926 : Orc := ent i_926 [] 0 (sp fa_926 hN0 fr_926 hN0 G_926 (outN fr_926))
theorem ok_926 : OrcOk PR c_926 := fnT okO_926 mixed p_926 (by kernel_rfl) (by kernel_rfl) (L := L0) (kp := false) (by kernel_rfl) (inn := (innN fr_926)) (out := (outN fr_926)) (fun _ _ => rfl) (loopsL (l := []) (by kernel_rfl) trivial) (fun x y => by kernel_rfl)
noncomputable def O_92a : Orc := orn
theorem okO_92a : OrcOk PR O_92a := (orn_ok _)
abbrev fa_92a : Fm := (.pair (.i .u32) (.pair (.i .i64) (.pair (.i .i64) .unit)))
abbrev fr_92a : Fm := (.i .u32)
noncomputable def F_92a (a0 : Int) (a1 : Int) (a2 : Int) : Option (Int) :=
 (some (IntKind.wrap .u32 ((IntKind.wrap .u32 (a0 + (IntKind.wrap .u32 ((IntKind.wrap .u32 a1) * (64:Int))))) + (IntKind.wrap .u32 a2))))
noncomputable def G_92a : T fa_92a → TH hN0 → Option (Int) := fun x y => F_92a x.1 x.2.1 x.2.2.1
noncomputable def c_92a : Orc := ent i_92a [] 0 (sp fa_92a hN0 fr_92a hN0 G_92a (outN fr_92a))
theorem ok_92a : OrcOk PR c_92a := fnT okO_92a mixed p_92a (by kernel_rfl) (by kernel_rfl) (L := L0) (kp := false) (by kernel_rfl) (inn := (innN fr_92a)) (out := (outN fr_92a)) (fun _ _ => rfl) (loopsL (l := []) (by kernel_rfl) trivial) (fun x y => by kernel_rfl)
noncomputable def O_927 : Orc := (orm c_951 (orm c_92a (orm c_952 (orm c_953 c_950))))
theorem okO_927 : OrcOk PR O_927 := (orm_ok ok_951 (orm_ok ok_92a (orm_ok ok_952 (orm_ok ok_953 ok_950))))
abbrev fa_927 : Fm := (.pair (.agg (.pair (.si .i64) (.pair (.i .i64) (.pair (.i .i64) (.pair (.i .i64) (.pair (.i .i64) (.pair (.i .i64) (.pair (.i .u32) (.pair (.i .u32) (.pair (.i .u32) (.pair (.i .u32) (.pair (.i .u32) (.pair (.i .u32) (.pair (.i .i64) (.pair (.i .i64) (.pair (.i .i64) (.pair (.i .i64) (.pair (.i .u64) (.pair (.i .u32) (.pair .b (.pair (.i .i64) (.pair (.i .i64) (.pair (.i .i64) (.pair (.i .i64) (.pair (.i .i64) (.pair (.i .i64) (.pair (.i .i64) .unit))))))))))))))))))))))))))) (.pair (.agg (.pair (.i .i64) (.pair (.i .i64) (.pair (.i .i64) (.pair (.si .u32) .unit))))) (.pair (.i .i64) (.pair (.i .i64) .unit))))
abbrev fr_927 : Fm := (.tup (.pair (.agg (.pair (.i .i64) (.pair (.i .i64) (.pair (.i .i64) (.pair (.si .u32) .unit))))) (.pair (.agg (.pair (.i .i64) (.pair (.i .i64) (.pair (.i .i64) (.pair (.si .u32) .unit))))) (.pair (.i .i64) .unit))))
noncomputable def F_927 (a0 : List Int × Int × Int × Int × Int × Int × Int × Int × Int × Int × Int × Int × Int × Int × Int × Int × Int × Int × Bool × Int × Int × Int × Int × Int × Int × Int × Unit) (a1 : Int × Int × Int × List Int × Unit) (a2 : Int) (a3 : Int) : Option ((Int × Int × Int × List Int × Unit) × (Int × Int × Int × List Int × Unit) × Int × Unit) :=
 let x0 : Int := a0.2.2.1
 let x1 : Int := a1.2.2.1
 let x2 : List Int := a1.2.2.2.1
 let x3 : Int := a0.2.2.2.2.2.2.2.2.2.2.2.2.2.2.2.2.2.1
 let x4 : Int := a0.2.2.2.2.2.2.2.2.2.2.2.2.2.2.2.2.1
 ((F_951 x0 (a1.1, (a1.2.1, (x1, ((List.take (List.length x2) x2), ())))))).bind fun r5 =>
 let x6 : Int := r5.1.2.1
 let x7 : Int := r5.1.2.2.1
 let x8 : List Int := r5.1.2.2.2.1
 bif (r5.2.1 != (0:Int)) then
 (some ((r5.1.1, (x6, (x7, ((List.take (List.length x8) x8), ())))), (((0:Int), ((0:Int), ((0:Int), ([], ())))), r5.2)))
 else
 bif (decide (a2 < (0:Int))) then
 (some ((r5.1.1, (x6, (x7, ((List.take (List.length x8) x8), ())))), (((0:Int), ((0:Int), ((0:Int), ([], ())))), r5.2)))
 else
 bif (x3 == (0:Int)) then
 (some ((r5.1.1, (x6, (x7, ((List.take (List.length x8) x8), ())))), (((0:Int), ((0:Int), ((0:Int), ([], ())))), r5.2)))
 else
 ((F_952 a1.1 a1.2.1 x3 x4 (IntKind.wrap .u32 ((IntKind.wrap .u32 ((2147483648:Int) + (IntKind.wrap .u32 ((IntKind.wrap .u32 a2) * (64:Int))))) + (IntKind.wrap .u32 a3))))).bind fun r9 =>
 let x10 : Int := r9.2.2.1
 let x11 : List Int := r9.2.2.2.1
 ((F_953 (r5.1.1, (x6, (x7, ((List.take (List.length x8) x8), ())))) (r9.1, (r9.2.1, (x10, ((List.take (List.length x11) x11), ())))))).bind fun r12 =>
 let x13 : Int := r12.1.2.1
 let x14 : Int := r12.1.2.2.1
 let x15 : List Int := r12.1.2.2.2.1
 ((F_950 ((List.take (List.length a0.1) a0.1), a0.2) (r12.1.1, (x13, (x14, ((List.take (List.length x15) x15), ())))) r12.2.1)).bind fun r16 =>
 let x17 : Int := r16.1.2.1
 let x18 : Int := r16.1.2.2.1
 let x19 : List Int := r16.1.2.2.2.1
 (some ((r16.1.1, (x17, (x18, ((List.take (List.length x19) x19), ())))), ((r9.1, (r9.2.1, (x10, ((List.take (List.length x11) x11), ())))), r16.2)))
noncomputable def G_927 : T fa_927 → TH hN0 → Option ((Int × Int × Int × List Int × Unit) × (Int × Int × Int × List Int × Unit) × Int × Unit) := fun x y => F_927 x.1 x.2.1 x.2.2.1 x.2.2.2.1
noncomputable def c_927 : Orc := ent i_927 [] 0 (sp fa_927 hN0 fr_927 hN0 G_927 (outN fr_927))
theorem ok_927 : OrcOk PR c_927 := fnT okO_927 mixed p_927 (by kernel_rfl) (by kernel_rfl) (L := L0) (kp := false) (by kernel_rfl) (inn := (innN fr_927)) (out := (outN fr_927)) (fun _ _ => rfl) (loopsL (l := []) (by kernel_rfl) trivial) (fun x y => by kernel_rfl)
noncomputable def O_928 : Orc := orn
theorem okO_928 : OrcOk PR O_928 := (orn_ok _)
abbrev fa_928 : Fm := (.pair (.agg (.pair (.i .i64) (.pair (.i .i64) (.pair (.i .i64) (.pair (.si .u32) .unit))))) .unit)
abbrev fr_928 : Fm := (.agg (.pair (.i .i64) (.pair (.i .i64) (.pair (.i .i64) (.pair (.si .u32) .unit)))))
noncomputable def F_928 (a0 : Int × Int × Int × List Int × Unit) : Option (Int × Int × Int × List Int × Unit) :=
 let x0 : Int := a0.2.2.1
 let x1 : List Int := a0.2.2.2.1
 let x2 : Nat := (List.length x1)
 bif (decide (((0:Nat) + x2) ≤ (1073741824:Nat))) then
 (some (a0.1, (a0.2.1, (x0, ((List.take ((0:Nat) + x2) (List.drop (0:Nat) ([] ++ (List.take x2 x1)))), ())))))
 else
 none
noncomputable def G_928 : T fa_928 → TH hN0 → Option (Int × Int × Int × List Int × Unit) := fun x y => F_928 x.1
noncomputable def c_928 : Orc := ent i_928 [] 0 (sp fa_928 hN0 fr_928 hN0 G_928 (outN fr_928))
theorem ok_928 : OrcOk PR c_928 := fnT okO_928 mixed p_928 (by kernel_rfl) (by kernel_rfl) (L := L0) (kp := false) (by kernel_rfl) (inn := (innN fr_928)) (out := (outN fr_928)) (fun _ _ => rfl) (loopsL (l := []) (by kernel_rfl) trivial) (fun x y => by kernel_rfl)
noncomputable def O_932 : Orc := orn
theorem okO_932 : OrcOk PR O_932 := (orn_ok _)
abbrev fa_932 : Fm := (.pair (.agg (.pair (.si .i64) (.pair (.i .i64) (.pair (.i .i64) (.pair (.i .i64) (.pair (.i .i64) (.pair (.i .i64) (.pair (.i .u32) (.pair (.i .u32) (.pair (.i .u32) (.pair (.i .u32) (.pair (.i .u32) (.pair (.i .u32) (.pair (.i .i64) (.pair (.i .i64) (.pair (.i .i64) (.pair (.i .i64) (.pair (.i .u64) (.pair (.i .u32) (.pair .b (.pair (.i .i64) (.pair (.i .i64) (.pair (.i .i64) (.pair (.i .i64) (.pair (.i .i64) (.pair (.i .i64) (.pair (.i .i64) .unit))))))))))))))))))))))))))) .unit)
abbrev fr_932 : Fm := (.i .i64)
noncomputable def F_932 (a0 : List Int × Int × Int × Int × Int × Int × Int × Int × Int × Int × Int × Int × Int × Int × Int × Int × Int × Int × Bool × Int × Int × Int × Int × Int × Int × Int × Unit) : Option (Int) :=
 (some (IntKind.wrap .i64 ((((List.length a0.1) : Nat) : Int) - (1:Int))))
noncomputable def G_932 : T fa_932 → TH hN0 → Option (Int) := fun x y => F_932 x.1
noncomputable def c_932 : Orc := ent i_932 [] 0 (sp fa_932 hN0 fr_932 hN0 G_932 (outN fr_932))
theorem ok_932 : OrcOk PR c_932 := fnT okO_932 mixed p_932 (by kernel_rfl) (by kernel_rfl) (L := L0) (kp := false) (by kernel_rfl) (inn := (innN fr_932)) (out := (outN fr_932)) (fun _ _ => rfl) (loopsL (l := []) (by kernel_rfl) trivial) (fun x y => by kernel_rfl)
noncomputable def O_924 : Orc := c_94d
theorem okO_924 : OrcOk PR O_924 := ok_94d
abbrev fa_924 : Fm := (.pair (.agg (.pair (.i .i64) (.pair (.i .i64) (.pair (.i .i64) (.pair (.si .u32) .unit))))) (.pair (.i .i64) (.pair (.i .i64) (.pair (.i .i64) .unit))))
abbrev fr_924 : Fm := .b
noncomputable def F_924 (a0 : Int × Int × Int × List Int × Unit) (a1 : Int) (a2 : Int) (a3 : Int) : Option (Bool) :=
 let x0 : Int := a0.2.2.1
 let x1 : List Int := a0.2.2.2.1
 bif (a0.1 == a1) then
 bif (a0.2.1 == a2) then
 bif (x0 == a3) then
 ((F_94d (a0.1, (a0.2.1, (x0, ((List.take (List.length x1) x1), ())))))).bind fun r2 =>
 (some r2)
 else
 (some false)
 else
 (some false)
 else
 (some false)
noncomputable def G_924 : T fa_924 → TH hN0 → Option (Bool) := fun x y => F_924 x.1 x.2.1 x.2.2.1 x.2.2.2.1
noncomputable def c_924 : Orc := ent i_924 [] 0 (sp fa_924 hN0 fr_924 hN0 G_924 (outN fr_924))
theorem ok_924 : OrcOk PR c_924 := fnT okO_924 mixed p_924 (by kernel_rfl) (by kernel_rfl) (L := L0) (kp := false) (by kernel_rfl) (inn := (innN fr_924)) (out := (outN fr_924)) (fun _ _ => rfl) (loopsL (l := []) (by kernel_rfl) trivial) (fun x y => by kernel_rfl)
noncomputable def O_916 : Orc := (orm c_932 c_924)
theorem okO_916 : OrcOk PR O_916 := (orm_ok ok_932 ok_924)
abbrev fa_916 : Fm := (.pair (.agg (.pair (.si .i64) (.pair (.i .i64) (.pair (.i .i64) (.pair (.i .i64) (.pair (.i .i64) (.pair (.i .i64) (.pair (.i .u32) (.pair (.i .u32) (.pair (.i .u32) (.pair (.i .u32) (.pair (.i .u32) (.pair (.i .u32) (.pair (.i .i64) (.pair (.i .i64) (.pair (.i .i64) (.pair (.i .i64) (.pair (.i .u64) (.pair (.i .u32) (.pair .b (.pair (.i .i64) (.pair (.i .i64) (.pair (.i .i64) (.pair (.i .i64) (.pair (.i .i64) (.pair (.i .i64) (.pair (.i .i64) .unit))))))))))))))))))))))))))) (.pair (.sr (.pair (.pair (.i .i64) (.pair (.i .i64) (.pair (.i .i64) (.pair (.si .u32) .unit)))) (.pair (.pair (.i .i64) (.pair (.i .i64) (.pair (.i .i64) (.pair (.si .u32) .unit)))) .unit)) 8) .unit))
abbrev fr_916 : Fm := .b
abbrev ff_916_0 : Fm := (.us 2 (.cst (.ref 0 1 0) (.us 11 (.pair (.sr (.rep 2 (.pair (.i .i64) (.pair (.i .i64) (.pair (.i .i64) (.pair (.si .u32) .unit))))) 8) (.pair (.i .i64) (.pair (.i .i64) (.us 29 .unit)))))))
abbrev hf_916_0 : List BF := [(.list 1 y_95 true (.pair (.si .i64) (.pair (.i .i64) (.pair (.i .i64) (.pair (.i .i64) (.pair (.i .i64) (.pair (.i .i64) (.pair (.i .u32) (.pair (.i .u32) (.pair (.i .u32) (.pair (.i .u32) (.pair (.i .u32) (.pair (.i .u32) (.pair (.i .i64) (.pair (.i .i64) (.pair (.i .i64) (.pair (.i .i64) (.pair (.i .u64) (.pair (.i .u32) (.pair .b (.pair (.i .i64) (.pair (.i .i64) (.pair (.i .i64) (.pair (.i .i64) (.pair (.i .i64) (.pair (.i .i64) (.pair (.i .i64) .unit)))))))))))))))))))))))))))]
abbrev X_916_0 : Xs := (.alt (.exit 0) [] (.us 46 .unit) [] (.one .ret [4] (.us 4 (.pair .b (.us 41 .unit))) []))
abbrev S_916_0 : Type := T ff_916_0 × TH hf_916_0
abbrev E_916_0 : Type := TX X_916_0
noncomputable def LB_916_0 : Lps := L0
noncomputable def st_916_0 : StepT S_916_0 E_916_0 := fun R v kn ko =>
 let x0 : List (T (Fm.rep 2 ((Fm.i IntKind.i64).pair ((Fm.i IntKind.i64).pair ((Fm.i IntKind.i64).pair ((Fm.si IntKind.u32).pair Fm.unit)))))) := v.1.1
 let x1 : Int := v.1.2.2.1
 let x2 : Nat := (Int.toNat x1)
 let x3 : List (T ((Fm.i IntKind.i64).pair ((Fm.i IntKind.i64).pair ((Fm.i IntKind.i64).pair ((Fm.si IntKind.u32).pair Fm.unit))))) := (List.getD x0 x2 [])
 let x4 : List Int := (List.getD x3 (0:Nat) ((0:Int), ((0:Int), ((0:Int), ([], ()))))).2.2.2.1
 let x5 : List Int := v.2.1.1
 let x6 : Int := (IntKind.wrap .i64 (x1 + (1:Int)))
 let x7 : Int := (List.getD x5 (Int.toNat x6) (0:Int))
 let x8 : List Int := (List.getD x3 (1:Nat) ((0:Int), ((0:Int), ((0:Int), ([], ()))))).2.2.2.1
 let x9 : Nat := (List.length x0)
 bif (decide (x1 < v.1.2.1)) then
 bif (decide (((0:Int) ≤ x1) ∧ (x1 < ((x9 : Nat) : Int)))) then
 bif (decide (((0:Int) ≤ x1) ∧ (x1 < (((List.length x5) : Nat) : Int)))) then
 bif (decide (((0:Int) ≤ x6) ∧ (x6 < (((List.length x5) : Nat) : Int)))) then
 ((F_924 ((List.getD x3 (0:Nat) ((0:Int), ((0:Int), ((0:Int), ([], ()))))).1, ((List.getD x3 (0:Nat) ((0:Int), ((0:Int), ((0:Int), ([], ()))))).2.1, ((List.getD x3 (0:Nat) ((0:Int), ((0:Int), ((0:Int), ([], ()))))).2.2.1, ((List.take (List.length x4) x4), ())))) x7 (List.getD x5 x2 (0:Int)) (2:Int))).bind fun r10 =>
 bif (!r10) then
 (ko (Sum.inr ((false, ()), ())))
 else
 ((F_924 ((List.getD x3 (1:Nat) ((0:Int), ((0:Int), ((0:Int), ([], ()))))).1, ((List.getD x3 (1:Nat) ((0:Int), ((0:Int), ((0:Int), ([], ()))))).2.1, ((List.getD x3 (1:Nat) ((0:Int), ((0:Int), ((0:Int), ([], ()))))).2.2.1, ((List.take (List.length x8) x8), ())))) (1:Int) x7 (2:Int))).bind fun r11 =>
 bif (!r11) then
 (ko (Sum.inr ((false, ()), ())))
 else
 bif (((allR x9 (fun j12 => true)) && true) && true) then
 (kn (((rowsOf x9 (fun j13 => [((List.getD (List.getD x0 j13 []) (0:Nat) ((0:Int), ((0:Int), ((0:Int), ([], ()))))).1, ((List.getD (List.getD x0 j13 []) (0:Nat) ((0:Int), ((0:Int), ((0:Int), ([], ()))))).2.1, ((List.getD (List.getD x0 j13 []) (0:Nat) ((0:Int), ((0:Int), ((0:Int), ([], ()))))).2.2.1, ((List.take (List.length (List.getD (List.getD x0 j13 []) (0:Nat) ((0:Int), ((0:Int), ((0:Int), ([], ()))))).2.2.2.1) (List.getD (List.getD x0 j13 []) (0:Nat) ((0:Int), ((0:Int), ((0:Int), ([], ()))))).2.2.2.1), ())))), ((List.getD (List.getD x0 j13 []) (1:Nat) ((0:Int), ((0:Int), ((0:Int), ([], ()))))).1, ((List.getD (List.getD x0 j13 []) (1:Nat) ((0:Int), ((0:Int), ((0:Int), ([], ()))))).2.1, ((List.getD (List.getD x0 j13 []) (1:Nat) ((0:Int), ((0:Int), ((0:Int), ([], ()))))).2.2.1, ((List.take (List.length (List.getD (List.getD x0 j13 []) (1:Nat) ((0:Int), ((0:Int), ((0:Int), ([], ()))))).2.2.2.1) (List.getD (List.getD x0 j13 []) (1:Nat) ((0:Int), ((0:Int), ((0:Int), ([], ()))))).2.2.2.1), ()))))])), (v.1.2.1, (x6, ()))), (((List.take (List.length x5) x5), v.2.1.2), ())))
 else
 none
 else
 none
 else
 none
 else
 none
 else
 (ko (Sum.inl ((), ())))
noncomputable def ls_916_0 : St → LTr := (lsum ff_916_0 hf_916_0 X_916_0 Prod.mk id st_916_0 (hd [] [] [2, 14, 15, 16] 0))
theorem lp_916_0 : LoopOk PR 0 (lpN f_916 0) ls_916_0 := loopT okO_916 mixed (L := LB_916_0) (d := 1) (bs := []) (ks := [2, 14, 15, 16]) (loopsL (l := []) (by kernel_rfl) trivial) (by kernel_rfl) (inS := Prod.mk) (outS := id) (fun _ _ => rfl) (inX := id) (outX := id) (fun _ => rfl) (fun v R kn ko => by kernel_rfl) (hd_wk [] [] [2, 14, 15, 16] 0)
noncomputable def L_916 : Lps := (lpB 5 (.by_ ls_916_0) L0)
noncomputable def F_916 (a0 : List Int × Int × Int × Int × Int × Int × Int × Int × Int × Int × Int × Int × Int × Int × Int × Int × Int × Int × Bool × Int × Int × Int × Int × Int × Int × Int × Unit) (a1 : List ((Int × Int × Int × List Int × Unit) × (Int × Int × Int × List Int × Unit) × Unit)) : Option (Bool) :=
 let x0 : List Int := (List.take (List.length a0.1) a0.1)
 bif ((((List.length a1) : Nat) : Int) != (IntKind.wrap .i64 ((((List.length x0) : Nat) : Int) - (1:Int)))) then
 (some false)
 else
 bif (((allR (List.length a1) (fun j1 => true)) && true) && true) then
 ((lim st_916_0 (((rowsOf (List.length a1) (fun j2 => [((List.getD a1 j2 (((0:Int), ((0:Int), ((0:Int), ([], ())))), (((0:Int), ((0:Int), ((0:Int), ([], ())))), ()))).1.1, ((List.getD a1 j2 (((0:Int), ((0:Int), ((0:Int), ([], ())))), (((0:Int), ((0:Int), ((0:Int), ([], ())))), ()))).1.2.1, ((List.getD a1 j2 (((0:Int), ((0:Int), ((0:Int), ([], ())))), (((0:Int), ((0:Int), ((0:Int), ([], ())))), ()))).1.2.2.1, ((List.take (List.length (List.getD a1 j2 (((0:Int), ((0:Int), ((0:Int), ([], ())))), (((0:Int), ((0:Int), ((0:Int), ([], ())))), ()))).1.2.2.2.1) (List.getD a1 j2 (((0:Int), ((0:Int), ((0:Int), ([], ())))), (((0:Int), ((0:Int), ((0:Int), ([], ())))), ()))).1.2.2.2.1), ())))), ((List.getD a1 j2 (((0:Int), ((0:Int), ((0:Int), ([], ())))), (((0:Int), ((0:Int), ((0:Int), ([], ())))), ()))).2.1.1, ((List.getD a1 j2 (((0:Int), ((0:Int), ((0:Int), ([], ())))), (((0:Int), ((0:Int), ((0:Int), ([], ())))), ()))).2.1.2.1, ((List.getD a1 j2 (((0:Int), ((0:Int), ((0:Int), ([], ())))), (((0:Int), ((0:Int), ((0:Int), ([], ())))), ()))).2.1.2.2.1, ((List.take (List.length (List.getD a1 j2 (((0:Int), ((0:Int), ((0:Int), ([], ())))), (((0:Int), ((0:Int), ((0:Int), ([], ())))), ()))).2.1.2.2.2.1) (List.getD a1 j2 (((0:Int), ((0:Int), ((0:Int), ([], ())))), (((0:Int), ((0:Int), ((0:Int), ([], ())))), ()))).2.1.2.2.2.1), ()))))])), ((((List.length a1) : Nat) : Int), ((0:Int), ()))), ((x0, a0.2), ())))).bind fun r3 =>
 els (fun l4 =>
 (some true)) (fun r5 =>
 (some r5.1.1)) r3
 else
 none
noncomputable def G_916 : T fa_916 → TH hN0 → Option (Bool) := fun x y => F_916 x.1 x.2.1
noncomputable def c_916 : Orc := ent i_916 [] 0 (sp fa_916 hN0 fr_916 hN0 G_916 (outN fr_916))
theorem ok_916 : OrcOk PR c_916 := fnT okO_916 mixed p_916 (by kernel_rfl) (by kernel_rfl) (L := L_916) (kp := false) (by kernel_rfl) (inn := (innN fr_916)) (out := (outN fr_916)) (fun _ _ => rfl) (loopsL (l := [((lpN f_916 0), ls_916_0)]) (by kernel_rfl) ⟨lp_916_0, trivial⟩) (fun x y => by kernel_rfl)
noncomputable def O_923 : Orc := (orm c_932 c_924)
theorem okO_923 : OrcOk PR O_923 := (orm_ok ok_932 ok_924)
abbrev fa_923 : Fm := (.pair (.agg (.pair (.si .i64) (.pair (.i .i64) (.pair (.i .i64) (.pair (.i .i64) (.pair (.i .i64) (.pair (.i .i64) (.pair (.i .u32) (.pair (.i .u32) (.pair (.i .u32) (.pair (.i .u32) (.pair (.i .u32) (.pair (.i .u32) (.pair (.i .i64) (.pair (.i .i64) (.pair (.i .i64) (.pair (.i .i64) (.pair (.i .u64) (.pair (.i .u32) (.pair .b (.pair (.i .i64) (.pair (.i .i64) (.pair (.i .i64) (.pair (.i .i64) (.pair (.i .i64) (.pair (.i .i64) (.pair (.i .i64) .unit))))))))))))))))))))))))))) (.pair (.sr (.pair (.i .i64) (.pair (.i .i64) (.pair (.i .i64) (.pair (.si .u32) .unit)))) 4) .unit))
abbrev fr_923 : Fm := .b
abbrev ff_923_0 : Fm := (.us 2 (.cst (.ref 0 1 0) (.us 9 (.pair (.sr (.pair (.i .i64) (.pair (.i .i64) (.pair (.i .i64) (.pair (.si .u32) .unit)))) 4) (.pair (.i .i64) (.pair (.i .i64) (.us 21 .unit)))))))
abbrev hf_923_0 : List BF := [(.list 1 y_95 true (.pair (.si .i64) (.pair (.i .i64) (.pair (.i .i64) (.pair (.i .i64) (.pair (.i .i64) (.pair (.i .i64) (.pair (.i .u32) (.pair (.i .u32) (.pair (.i .u32) (.pair (.i .u32) (.pair (.i .u32) (.pair (.i .u32) (.pair (.i .i64) (.pair (.i .i64) (.pair (.i .i64) (.pair (.i .i64) (.pair (.i .u64) (.pair (.i .u32) (.pair .b (.pair (.i .i64) (.pair (.i .i64) (.pair (.i .i64) (.pair (.i .i64) (.pair (.i .i64) (.pair (.i .i64) (.pair (.i .i64) .unit)))))))))))))))))))))))))))]
abbrev X_923_0 : Xs := (.alt (.exit 0) [] (.us 36 .unit) [] (.one .ret [4] (.us 4 (.pair .b (.us 31 .unit))) []))
abbrev S_923_0 : Type := T ff_923_0 × TH hf_923_0
abbrev E_923_0 : Type := TX X_923_0
noncomputable def LB_923_0 : Lps := L0
noncomputable def st_923_0 : StepT S_923_0 E_923_0 := fun R v kn ko =>
 let x0 : List (T ((Fm.i IntKind.i64).pair ((Fm.i IntKind.i64).pair ((Fm.i IntKind.i64).pair ((Fm.si IntKind.u32).pair Fm.unit))))) := v.1.1
 let x1 : Int := v.1.2.2.1
 let x2 : Nat := (Int.toNat x1)
 let x3 : List Int := (List.getD x0 x2 ((0:Int), ((0:Int), ((0:Int), ([], ()))))).2.2.2.1
 let x4 : List Int := v.2.1.1
 let x5 : Int := (IntKind.wrap .i64 (x1 + (1:Int)))
 let x6 : Nat := (List.length x0)
 bif (decide (x1 < v.1.2.1)) then
 bif (decide (((0:Int) ≤ x1) ∧ (x1 < ((x6 : Nat) : Int)))) then
 bif (decide (((0:Int) ≤ x5) ∧ (x5 < (((List.length x4) : Nat) : Int)))) then
 bif (decide (((0:Int) ≤ x1) ∧ (x1 < (((List.length x4) : Nat) : Int)))) then
 ((F_924 ((List.getD x0 x2 ((0:Int), ((0:Int), ((0:Int), ([], ()))))).1, ((List.getD x0 x2 ((0:Int), ((0:Int), ((0:Int), ([], ()))))).2.1, ((List.getD x0 x2 ((0:Int), ((0:Int), ((0:Int), ([], ()))))).2.2.1, ((List.take (List.length x3) x3), ())))) (List.getD x4 (Int.toNat x5) (0:Int)) (List.getD x4 x2 (0:Int)) v.2.1.2.1)).bind fun r7 =>
 bif (!r7) then
 (ko (Sum.inr ((false, ()), ())))
 else
 bif (((allR x6 (fun j8 => true)) && true) && true) then
 (kn (((rowsOf x6 (fun j9 => ((List.getD x0 j9 ((0:Int), ((0:Int), ((0:Int), ([], ()))))).1, ((List.getD x0 j9 ((0:Int), ((0:Int), ((0:Int), ([], ()))))).2.1, ((List.getD x0 j9 ((0:Int), ((0:Int), ((0:Int), ([], ()))))).2.2.1, ((List.take (List.length (List.getD x0 j9 ((0:Int), ((0:Int), ((0:Int), ([], ()))))).2.2.2.1) (List.getD x0 j9 ((0:Int), ((0:Int), ((0:Int), ([], ()))))).2.2.2.1), ())))))), (v.1.2.1, (x5, ()))), (((List.take (List.length x4) x4), v.2.1.2), ())))
 else
 none
 else
 none
 else
 none
 else
 none
 else
 (ko (Sum.inl ((), ())))
noncomputable def ls_923_0 : St → LTr := (lsum ff_923_0 hf_923_0 X_923_0 Prod.mk id st_923_0 (hd [] [] [2, 12, 13, 14] 0))
theorem lp_923_0 : LoopOk PR 0 (lpN f_923 0) ls_923_0 := loopT okO_923 mixed (L := LB_923_0) (d := 1) (bs := []) (ks := [2, 12, 13, 14]) (loopsL (l := []) (by kernel_rfl) trivial) (by kernel_rfl) (inS := Prod.mk) (outS := id) (fun _ _ => rfl) (inX := id) (outX := id) (fun _ => rfl) (fun v R kn ko => by kernel_rfl) (hd_wk [] [] [2, 12, 13, 14] 0)
noncomputable def L_923 : Lps := (lpB 5 (.by_ ls_923_0) L0)
noncomputable def F_923 (a0 : List Int × Int × Int × Int × Int × Int × Int × Int × Int × Int × Int × Int × Int × Int × Int × Int × Int × Int × Bool × Int × Int × Int × Int × Int × Int × Int × Unit) (a1 : List (Int × Int × Int × List Int × Unit)) : Option (Bool) :=
 let x0 : List Int := (List.take (List.length a0.1) a0.1)
 bif ((((List.length a1) : Nat) : Int) != (IntKind.wrap .i64 ((((List.length x0) : Nat) : Int) - (1:Int)))) then
 (some false)
 else
 bif (((allR (List.length a1) (fun j1 => true)) && true) && true) then
 ((lim st_923_0 (((rowsOf (List.length a1) (fun j2 => ((List.getD a1 j2 ((0:Int), ((0:Int), ((0:Int), ([], ()))))).1, ((List.getD a1 j2 ((0:Int), ((0:Int), ((0:Int), ([], ()))))).2.1, ((List.getD a1 j2 ((0:Int), ((0:Int), ((0:Int), ([], ()))))).2.2.1, ((List.take (List.length (List.getD a1 j2 ((0:Int), ((0:Int), ((0:Int), ([], ()))))).2.2.2.1) (List.getD a1 j2 ((0:Int), ((0:Int), ((0:Int), ([], ()))))).2.2.2.1), ())))))), ((((List.length a1) : Nat) : Int), ((0:Int), ()))), ((x0, a0.2), ())))).bind fun r3 =>
 els (fun l4 =>
 (some true)) (fun r5 =>
 (some r5.1.1)) r3
 else
 none
noncomputable def G_923 : T fa_923 → TH hN0 → Option (Bool) := fun x y => F_923 x.1 x.2.1
noncomputable def c_923 : Orc := ent i_923 [] 0 (sp fa_923 hN0 fr_923 hN0 G_923 (outN fr_923))
theorem ok_923 : OrcOk PR c_923 := fnT okO_923 mixed p_923 (by kernel_rfl) (by kernel_rfl) (L := L_923) (kp := false) (by kernel_rfl) (inn := (innN fr_923)) (out := (outN fr_923)) (fun _ _ => rfl) (loopsL (l := [((lpN f_923 0), ls_923_0)]) (by kernel_rfl) ⟨lp_923_0, trivial⟩) (fun x y => by kernel_rfl)
noncomputable def O_925 : Orc := orn
theorem okO_925 : OrcOk PR O_925 := (orn_ok _)
abbrev fa_925 : Fm := (.pair (.agg (.pair (.si .i64) (.pair (.i .i64) (.pair (.i .i64) (.pair (.i .i64) (.pair (.i .i64) (.pair (.i .i64) (.pair (.i .u32) (.pair (.i .u32) (.pair (.i .u32) (.pair (.i .u32) (.pair (.i .u32) (.pair (.i .u32) (.pair (.i .i64) (.pair (.i .i64) (.pair (.i .i64) (.pair (.i .i64) (.pair (.i .u64) (.pair (.i .u32) (.pair .b (.pair (.i .i64) (.pair (.i .i64) (.pair (.i .i64) (.pair (.i .i64) (.pair (.i .i64) (.pair (.i .i64) (.pair (.i .i64) .unit))))))))))))))))))))))))))) (.pair (.i .i64) .unit))
abbrev fr_925 : Fm := .b
abbrev ff_925_0 : Fm := (.us 1 (.pair (.i .i64) (.us 6 (.pair (.si .i64) (.pair (.i .i64) (.pair (.i .i64) (.us 8 .unit)))))))
abbrev hf_925_0 : List BF := []
abbrev X_925_0 : Xs := (.alt (.exit 0) [] (.us 19 .unit) [] (.one .ret [4] (.us 4 (.pair .b (.us 14 .unit))) []))
abbrev S_925_0 : Type := T ff_925_0 × TH hf_925_0
abbrev E_925_0 : Type := TX X_925_0
noncomputable def LB_925_0 : Lps := L0
noncomputable def st_925_0 : StepT S_925_0 E_925_0 := fun R v kn ko =>
 let x0 : List Int := v.1.2.1
 bif (decide (v.1.2.2.2.1 < v.1.2.2.1)) then
 bif (decide (((0:Int) ≤ v.1.2.2.2.1) ∧ (v.1.2.2.2.1 < (((List.length x0) : Nat) : Int)))) then
 bif (decide ((IntKind.wrap .i64 (v.1.1 * (List.getD x0 (Int.toNat v.1.2.2.2.1) (0:Int)))) > (262144:Int))) then
 (ko (Sum.inr ((false, ()), ())))
 else
 (kn ((v.1.1, ((List.take (List.length x0) x0), (v.1.2.2.1, ((IntKind.wrap .i64 (v.1.2.2.2.1 + (1:Int))), ())))), ()))
 else
 none
 else
 (ko (Sum.inl ((), ())))
noncomputable def ls_925_0 : St → LTr := (lsum ff_925_0 hf_925_0 X_925_0 Prod.mk id st_925_0 (hd [] [] [1, 8, 9, 10] 0))
theorem lp_925_0 : LoopOk PR 0 (lpN f_925 0) ls_925_0 := loopT okO_925 mixed (L := LB_925_0) (d := 1) (bs := []) (ks := [1, 8, 9, 10]) (loopsL (l := []) (by kernel_rfl) trivial) (by kernel_rfl) (inS := Prod.mk) (outS := id) (fun _ _ => rfl) (inX := id) (outX := id) (fun _ => rfl) (fun v R kn ko => by kernel_rfl) (hd_wk [] [] [1, 8, 9, 10] 0)
noncomputable def L_925 : Lps := (lpB 3 (.by_ ls_925_0) L0)
noncomputable def F_925 (a0 : List Int × Int × Int × Int × Int × Int × Int × Int × Int × Int × Int × Int × Int × Int × Int × Int × Int × Int × Bool × Int × Int × Int × Int × Int × Int × Int × Unit) (a1 : Int) : Option (Bool) :=
 ((lim st_925_0 ((a1, ((List.take (List.length a0.1) a0.1), ((((List.length a0.1) : Nat) : Int), ((0:Int), ())))), ()))).bind fun r0 =>
 els (fun l1 =>
 (some true)) (fun r2 =>
 (some r2.1.1)) r0
noncomputable def G_925 : T fa_925 → TH hN0 → Option (Bool) := fun x y => F_925 x.1 x.2.1
noncomputable def c_925 : Orc := ent i_925 [] 0 (sp fa_925 hN0 fr_925 hN0 G_925 (outN fr_925))
theorem ok_925 : OrcOk PR c_925 := fnT okO_925 mixed p_925 (by kernel_rfl) (by kernel_rfl) (L := L_925) (kp := false) (by kernel_rfl) (inn := (innN fr_925)) (out := (outN fr_925)) (fun _ _ => rfl) (loopsL (l := [((lpN f_925 0), ls_925_0)]) (by kernel_rfl) ⟨lp_925_0, trivial⟩) (fun x y => by kernel_rfl)
noncomputable def O_912 : Orc := (orm c_916 (orm c_923 (orm c_924 (orm c_925 (orm c_926 (orm c_927 c_928))))))
theorem okO_912 : OrcOk PR O_912 := (orm_ok ok_916 (orm_ok ok_923 (orm_ok ok_924 (orm_ok ok_925 (orm_ok ok_926 (orm_ok ok_927 ok_928))))))
abbrev fa_912 : Fm := (.pair (.agg (.pair (.si .i64) (.pair (.i .i64) (.pair (.i .i64) (.pair (.i .i64) (.pair (.i .i64) (.pair (.i .i64) (.pair (.i .u32) (.pair (.i .u32) (.pair (.i .u32) (.pair (.i .u32) (.pair (.i .u32) (.pair (.i .u32) (.pair (.i .i64) (.pair (.i .i64) (.pair (.i .i64) (.pair (.i .i64) (.pair (.i .u64) (.pair (.i .u32) (.pair .b (.pair (.i .i64) (.pair (.i .i64) (.pair (.i .i64) (.pair (.i .i64) (.pair (.i .i64) (.pair (.i .i64) (.pair (.i .i64) .unit))))))))))))))))))))))))))) (.pair (.sr (.pair (.pair (.i .i64) (.pair (.i .i64) (.pair (.i .i64) (.pair (.si .u32) .unit)))) (.pair (.pair (.i .i64) (.pair (.i .i64) (.pair (.i .i64) (.pair (.si .u32) .unit)))) .unit)) 8) (.pair (.sr (.pair (.i .i64) (.pair (.i .i64) (.pair (.i .i64) (.pair (.si .u32) .unit)))) 4) (.pair (.agg (.pair (.i .i64) (.pair (.i .i64) (.pair (.i .i64) (.pair (.si .u32) .unit))))) (.pair (.i .i64) .unit)))))
abbrev fr_912 : Fm := (.tup (.pair (.agg (.pair (.i .i64) (.pair (.i .i64) (.pair (.i .i64) (.pair (.si .u32) .unit))))) (.pair (.agg (.pair (.sr (.pair (.i .i64) (.pair (.i .i64) (.pair (.i .i64) (.pair (.si .u32) .unit)))) 4) (.pair (.sr (.pair (.i .i64) (.pair (.i .i64) (.pair (.i .i64) (.pair (.si .u32) .unit)))) 4) (.pair (.sr (.pair (.i .i64) (.pair (.i .i64) (.pair (.i .i64) (.pair (.si .u32) .unit)))) 4) .unit)))) (.pair (.i .i64) .unit))))
abbrev ff_912_0 : Fm := (.us 1 (.pair (.sr (.pair (.pair (.i .i64) (.pair (.i .i64) (.pair (.i .i64) (.pair (.si .u32) .unit)))) (.pair (.pair (.i .i64) (.pair (.i .i64) (.pair (.i .i64) (.pair (.si .u32) .unit)))) .unit)) 8) (.pair (.sr (.pair (.i .i64) (.pair (.i .i64) (.pair (.i .i64) (.pair (.si .u32) .unit)))) 4) (.us 1 (.pair (.i .i64) (.cst (.ref 0 1 0) (.us 2 (.cst (.ref 1 1 0) (.us 1 (.cst (.ref 2 1 0) (.cst (.ref 3 1 0) (.us 1 (.cst (.ref 4 1 0) (.us 37 (.pair (.i .i64) (.pair (.i .i64) (.us 69 .unit)))))))))))))))))
abbrev hf_912_0 : List BF := [(.list 1 y_95 true (.pair (.si .i64) (.pair (.i .i64) (.pair (.i .i64) (.pair (.i .i64) (.pair (.i .i64) (.pair (.i .i64) (.pair (.i .u32) (.pair (.i .u32) (.pair (.i .u32) (.pair (.i .u32) (.pair (.i .u32) (.pair (.i .u32) (.pair (.i .i64) (.pair (.i .i64) (.pair (.i .i64) (.pair (.i .i64) (.pair (.i .u64) (.pair (.i .u32) (.pair .b (.pair (.i .i64) (.pair (.i .i64) (.pair (.i .i64) (.pair (.i .i64) (.pair (.i .i64) (.pair (.i .i64) (.pair (.i .i64) .unit))))))))))))))))))))))))))), (.list 1 y_92 true (.pair (.i .i64) (.pair (.i .i64) (.pair (.i .i64) (.pair (.si .u32) .unit))))), (.list 1 y_92 true (.pair (.i .i64) (.pair (.i .i64) (.pair (.i .i64) (.cst .nils .unit))))), (.list 1 y_96 true (.cst .nils (.cst .nils (.cst .nils .unit)))), (.list 1 y_96 true (.pair (.own 5 1 0 4) (.pair (.own 6 1 0 4) (.pair (.own 7 1 0 4) .unit)))), (.recs 1 y_92 true (.pair (.i .i64) (.pair (.i .i64) (.pair (.i .i64) (.pair (.si .u32) .unit)))) 4), (.recs 1 y_92 true (.pair (.i .i64) (.pair (.i .i64) (.pair (.i .i64) (.pair (.si .u32) .unit)))) 4), (.recs 1 y_92 true (.pair (.i .i64) (.pair (.i .i64) (.pair (.i .i64) (.pair (.si .u32) .unit)))) 4)]
abbrev X_912_0 : Xs := (.alt (.exit 0) [1, 10, 11, 13] (.us 1 (.pair (.sr (.pair (.pair (.i .i64) (.pair (.i .i64) (.pair (.i .i64) (.pair (.si .u32) .unit)))) (.pair (.pair (.i .i64) (.pair (.i .i64) (.pair (.i .i64) (.pair (.si .u32) .unit)))) .unit)) 8) (.us 8 (.cst (.ref 0 1 0) (.cst (.ref 1 1 0) (.us 1 (.cst (.ref 2 1 0) (.us 108 .unit)))))))) [(.list 1 y_92 true (.pair (.i .i64) (.pair (.i .i64) (.pair (.i .i64) (.cst .nils .unit))))), (.list 1 y_96 true (.cst .nils (.cst .nils (.cst .nils .unit)))), (.list 1 y_96 true (.pair (.own 3 1 0 4) (.pair (.own 4 1 0 4) (.pair (.own 5 1 0 4) .unit)))), (.recs 1 y_92 true (.pair (.i .i64) (.pair (.i .i64) (.pair (.i .i64) (.pair (.si .u32) .unit)))) 4), (.recs 1 y_92 true (.pair (.i .i64) (.pair (.i .i64) (.pair (.i .i64) (.pair (.si .u32) .unit)))) 4), (.recs 1 y_92 true (.pair (.i .i64) (.pair (.i .i64) (.pair (.i .i64) (.pair (.si .u32) .unit)))) 4)] (.one .ret [10, 11, 12] (.us 10 (.cst (.ref 0 1 0) (.cst (.ref 1 1 0) (.pair (.i .i64) (.us 109 .unit))))) [(.list 1 y_92 true (.pair (.i .i64) (.pair (.i .i64) (.pair (.i .i64) (.cst .nils .unit))))), (.list 1 y_96 true (.cst .nils (.cst .nils (.cst .nils .unit))))]))
abbrev S_912_0 : Type := T ff_912_0 × TH hf_912_0
abbrev E_912_0 : Type := TX X_912_0
noncomputable def LB_912_0 : Lps := L0
noncomputable def st_912_0 : StepT S_912_0 E_912_0 := fun R v kn ko =>
 let x0 : List Int := v.2.1.1
 let x1 : List Int := v.2.2.1.2.2.2.1
 let x2 : List (T ((Fm.i IntKind.i64).pair ((Fm.i IntKind.i64).pair ((Fm.i IntKind.i64).pair ((Fm.si IntKind.u32).pair Fm.unit))))) := v.1.2.1
 let x3 : Int := v.1.2.2.2.2.1
 let x4 : Nat := (Int.toNat x3)
 let x5 : List Int := (List.getD x2 x4 ((0:Int), ((0:Int), ((0:Int), ([], ()))))).2.2.2.1
 let x6 : List (T (((Fm.i IntKind.i64).pair ((Fm.i IntKind.i64).pair ((Fm.i IntKind.i64).pair ((Fm.si IntKind.u32).pair Fm.unit)))).pair (((Fm.i IntKind.i64).pair ((Fm.i IntKind.i64).pair ((Fm.i IntKind.i64).pair ((Fm.si IntKind.u32).pair Fm.unit)))).pair Fm.unit))) := v.1.1
 let x7 : List Int := (List.getD x6 x4 (((0:Int), ((0:Int), ((0:Int), ([], ())))), (((0:Int), ((0:Int), ((0:Int), ([], ())))), ()))).2.1.2.2.2.1
 let x8 : Int := v.1.2.2.1
 let x9 : Nat := (List.length x6)
 let x11 : Bool := (allR x9 (fun j10 => true))
 let x12 : Nat := (List.length x2)
 let x13 : Nat := (v.2.2.2.2.2.1.1 + (1:Nat))
 let x14 : Nat := (v.2.2.2.2.2.1.2.1 + (1:Nat))
 let x15 : Nat := (v.2.2.2.2.2.1.2.2.1 + (1:Nat))
 let x20 : Bool := ((x11 && ((allR x12 (fun j16 => true)) && true)) && ((allR x13 (fun j17 => true)) && ((allR x14 (fun j18 => true)) && ((allR x15 (fun j19 => true)) && true))))
 let x22 : List (T (((Fm.i IntKind.i64).pair ((Fm.i IntKind.i64).pair ((Fm.i IntKind.i64).pair ((Fm.si IntKind.u32).pair Fm.unit)))).pair (((Fm.i IntKind.i64).pair ((Fm.i IntKind.i64).pair ((Fm.i IntKind.i64).pair ((Fm.si IntKind.u32).pair Fm.unit)))).pair Fm.unit))) := (rowsOf x9 (fun j21 => (((List.getD x6 j21 (((0:Int), ((0:Int), ((0:Int), ([], ())))), (((0:Int), ((0:Int), ((0:Int), ([], ())))), ()))).1.1, ((List.getD x6 j21 (((0:Int), ((0:Int), ((0:Int), ([], ())))), (((0:Int), ((0:Int), ((0:Int), ([], ())))), ()))).1.2.1, ((List.getD x6 j21 (((0:Int), ((0:Int), ((0:Int), ([], ())))), (((0:Int), ((0:Int), ((0:Int), ([], ())))), ()))).1.2.2.1, ((List.take (List.length (List.getD x6 j21 (((0:Int), ((0:Int), ((0:Int), ([], ())))), (((0:Int), ((0:Int), ((0:Int), ([], ())))), ()))).1.2.2.2.1) (List.getD x6 j21 (((0:Int), ((0:Int), ((0:Int), ([], ())))), (((0:Int), ((0:Int), ((0:Int), ([], ())))), ()))).1.2.2.2.1), ())))), (((List.getD x6 j21 (((0:Int), ((0:Int), ((0:Int), ([], ())))), (((0:Int), ((0:Int), ((0:Int), ([], ())))), ()))).2.1.1, ((List.getD x6 j21 (((0:Int), ((0:Int), ((0:Int), ([], ())))), (((0:Int), ((0:Int), ((0:Int), ([], ())))), ()))).2.1.2.1, ((List.getD x6 j21 (((0:Int), ((0:Int), ((0:Int), ([], ())))), (((0:Int), ((0:Int), ((0:Int), ([], ())))), ()))).2.1.2.2.1, ((List.take (List.length (List.getD x6 j21 (((0:Int), ((0:Int), ((0:Int), ([], ())))), (((0:Int), ((0:Int), ((0:Int), ([], ())))), ()))).2.1.2.2.2.1) (List.getD x6 j21 (((0:Int), ((0:Int), ((0:Int), ([], ())))), (((0:Int), ((0:Int), ((0:Int), ([], ())))), ()))).2.1.2.2.2.1), ())))), ()))))
 let x24 : List (T ((Fm.i IntKind.i64).pair ((Fm.i IntKind.i64).pair ((Fm.i IntKind.i64).pair ((Fm.si IntKind.u32).pair Fm.unit))))) := (rowsOf x13 (fun j23 => ((bif (Nat.beq j23 (v.2.2.2.2.2.1.1 + (0:Nat))) then v.2.2.1.1 else (List.getD v.2.2.2.2.2.2.1 j23 ((0:Int), ((0:Int), ((0:Int), ([], ()))))).1), ((bif (Nat.beq j23 (v.2.2.2.2.2.1.1 + (0:Nat))) then v.2.2.1.2.1 else (List.getD v.2.2.2.2.2.2.1 j23 ((0:Int), ((0:Int), ((0:Int), ([], ()))))).2.1), ((bif (Nat.beq j23 (v.2.2.2.2.2.1.1 + (0:Nat))) then v.2.2.1.2.2.1 else (List.getD v.2.2.2.2.2.2.1 j23 ((0:Int), ((0:Int), ((0:Int), ([], ()))))).2.2.1), ((List.take (bif (Nat.beq j23 (v.2.2.2.2.2.1.1 + (0:Nat))) then (List.length x1) else (List.length (List.getD v.2.2.2.2.2.2.1 j23 ((0:Int), ((0:Int), ((0:Int), ([], ()))))).2.2.2.1)) (bif (Nat.beq j23 (v.2.2.2.2.2.1.1 + (0:Nat))) then x1 else (List.getD v.2.2.2.2.2.2.1 j23 ((0:Int), ((0:Int), ((0:Int), ([], ()))))).2.2.2.1)), ()))))))
 let x25 : Nat := (List.length v.2.2.2.2.2.2.1)
 let x26 : Nat := (List.length v.2.2.2.2.2.2.2.1)
 let x27 : Nat := (List.length v.2.2.2.2.2.2.2.2.1)
 bif (decide (x3 < v.1.2.2.2.1)) then
 bif (decide (((0:Int) ≤ x3) ∧ (x3 < ((x12 : Nat) : Int)))) then
 bif (decide (((0:Int) ≤ x3) ∧ (x3 < ((x9 : Nat) : Int)))) then
 ((F_926 ((List.take (List.length x0) x0), v.2.1.2) (v.2.2.1.1, (v.2.2.1.2.1, (v.2.2.1.2.2.1, ((List.take (List.length x1) x1), ())))) ((List.getD x2 x4 ((0:Int), ((0:Int), ((0:Int), ([], ()))))).1, ((List.getD x2 x4 ((0:Int), ((0:Int), ((0:Int), ([], ()))))).2.1, ((List.getD x2 x4 ((0:Int), ((0:Int), ((0:Int), ([], ()))))).2.2.1, ((List.take (List.length x5) x5), ())))) ((List.getD x6 x4 (((0:Int), ((0:Int), ((0:Int), ([], ())))), (((0:Int), ((0:Int), ((0:Int), ([], ())))), ()))).2.1.1, ((List.getD x6 x4 (((0:Int), ((0:Int), ((0:Int), ([], ())))), (((0:Int), ((0:Int), ((0:Int), ([], ())))), ()))).2.1.2.1, ((List.getD x6 x4 (((0:Int), ((0:Int), ((0:Int), ([], ())))), (((0:Int), ((0:Int), ((0:Int), ([], ())))), ()))).2.1.2.2.1, ((List.take (List.length x7) x7), ())))))).bind fun r28 =>
 let x29 : Int := r28.1.2.1
 let x30 : Int := r28.1.2.2.1
 let x31 : List Int := r28.1.2.2.2.1
 let x33 : List (T ((Fm.i IntKind.i64).pair ((Fm.i IntKind.i64).pair ((Fm.i IntKind.i64).pair ((Fm.si IntKind.u32).pair Fm.unit))))) := (rowsOf x14 (fun j32 => ((bif (Nat.beq j32 (v.2.2.2.2.2.1.2.1 + (0:Nat))) then r28.1.1 else (List.getD v.2.2.2.2.2.2.2.1 j32 ((0:Int), ((0:Int), ((0:Int), ([], ()))))).1), ((bif (Nat.beq j32 (v.2.2.2.2.2.1.2.1 + (0:Nat))) then x29 else (List.getD v.2.2.2.2.2.2.2.1 j32 ((0:Int), ((0:Int), ((0:Int), ([], ()))))).2.1), ((bif (Nat.beq j32 (v.2.2.2.2.2.1.2.1 + (0:Nat))) then x30 else (List.getD v.2.2.2.2.2.2.2.1 j32 ((0:Int), ((0:Int), ((0:Int), ([], ()))))).2.2.1), ((List.take (bif (Nat.beq j32 (v.2.2.2.2.2.1.2.1 + (0:Nat))) then (List.length x31) else (List.length (List.getD v.2.2.2.2.2.2.2.1 j32 ((0:Int), ((0:Int), ((0:Int), ([], ()))))).2.2.2.1)) (bif (Nat.beq j32 (v.2.2.2.2.2.1.2.1 + (0:Nat))) then x31 else (List.getD v.2.2.2.2.2.2.2.1 j32 ((0:Int), ((0:Int), ((0:Int), ([], ()))))).2.2.2.1)), ()))))))
 let x34 : Bool := (r28.2.1 != (0:Int))
 bif (decide (x13 ≤ (1073741824:Nat))) then
 bif (decide (x14 ≤ (1073741824:Nat))) then
 bif (r28.2.1 == (0:Int)) then
 bif (decide (x3 < (IntKind.wrap .i64 (((x9 : Nat) : Int) - (1:Int))))) then
 ((F_927 ((List.take (List.length x0) x0), v.2.1.2) (r28.1.1, (x29, (x30, ((List.take (List.length x31) x31), ())))) x8 x3)).bind fun r35 =>
 let x36 : Int := r35.2.2.1
 let x37 : Int := r35.1.2.1
 let x38 : Int := r35.1.2.2.1
 let x39 : List Int := r35.1.2.2.2.1
 bif (x36 != (0:Int)) then
 (ko (Sum.inr (r35.2.2, (((0:Int), ((0:Int), ((0:Int), ()))), ((), ())))))
 else
 bif (decide (x15 ≤ (1073741824:Nat))) then
 bif x20 then
 (kn ((x22, ((rowsOf x12 (fun j40 => ((List.getD x2 j40 ((0:Int), ((0:Int), ((0:Int), ([], ()))))).1, ((List.getD x2 j40 ((0:Int), ((0:Int), ((0:Int), ([], ()))))).2.1, ((List.getD x2 j40 ((0:Int), ((0:Int), ((0:Int), ([], ()))))).2.2.1, ((List.take (List.length (List.getD x2 j40 ((0:Int), ((0:Int), ((0:Int), ([], ()))))).2.2.2.1) (List.getD x2 j40 ((0:Int), ((0:Int), ((0:Int), ([], ()))))).2.2.2.1), ())))))), (x8, (v.1.2.2.2.1, ((IntKind.wrap .i64 (x3 + (1:Int))), ()))))), (((List.take (List.length x0) x0), v.2.1.2), ((r35.1.1, (x37, (x38, ((List.take (List.length x39) x39), ())))), (v.2.2.2.1, ((), ((x13, (x14, (x15, ()))), (x24, (x33, ((rowsOf x15 (fun j41 => ((bif (Nat.beq j41 (v.2.2.2.2.2.1.2.2.1 + (0:Nat))) then r35.2.1.1 else (List.getD v.2.2.2.2.2.2.2.2.1 j41 ((0:Int), ((0:Int), ((0:Int), ([], ()))))).1), ((bif (Nat.beq j41 (v.2.2.2.2.2.1.2.2.1 + (0:Nat))) then r35.2.1.2.1 else (List.getD v.2.2.2.2.2.2.2.2.1 j41 ((0:Int), ((0:Int), ((0:Int), ([], ()))))).2.1), ((bif (Nat.beq j41 (v.2.2.2.2.2.1.2.2.1 + (0:Nat))) then r35.2.1.2.2.1 else (List.getD v.2.2.2.2.2.2.2.2.1 j41 ((0:Int), ((0:Int), ((0:Int), ([], ()))))).2.2.1), ((List.take (bif (Nat.beq j41 (v.2.2.2.2.2.1.2.2.1 + (0:Nat))) then (List.length r35.2.1.2.2.2.1) else (List.length (List.getD v.2.2.2.2.2.2.2.2.1 j41 ((0:Int), ((0:Int), ((0:Int), ([], ()))))).2.2.2.1)) (bif (Nat.beq j41 (v.2.2.2.2.2.1.2.2.1 + (0:Nat))) then r35.2.1.2.2.2.1 else (List.getD v.2.2.2.2.2.2.2.2.1 j41 ((0:Int), ((0:Int), ((0:Int), ([], ()))))).2.2.2.1)), ())))))), ()))))))))))
 else
 none
 else
 none
 else
 bif x34 then
 (ko (Sum.inr (r28.2, (((0:Int), ((0:Int), ((0:Int), ()))), ((), ())))))
 else
 bif (decide (x15 ≤ (1073741824:Nat))) then
 bif x20 then
 (kn ((x22, ((rowsOf x12 (fun j42 => ((List.getD x2 j42 ((0:Int), ((0:Int), ((0:Int), ([], ()))))).1, ((List.getD x2 j42 ((0:Int), ((0:Int), ((0:Int), ([], ()))))).2.1, ((List.getD x2 j42 ((0:Int), ((0:Int), ((0:Int), ([], ()))))).2.2.1, ((List.take (List.length (List.getD x2 j42 ((0:Int), ((0:Int), ((0:Int), ([], ()))))).2.2.2.1) (List.getD x2 j42 ((0:Int), ((0:Int), ((0:Int), ([], ()))))).2.2.2.1), ())))))), (x8, (v.1.2.2.2.1, ((IntKind.wrap .i64 (x3 + (1:Int))), ()))))), (((List.take (List.length x0) x0), v.2.1.2), ((v.2.2.1.1, (v.2.2.1.2.1, (v.2.2.1.2.2.1, ((List.take (List.length x1) x1), ())))), (v.2.2.2.1, ((), ((x13, (x14, (x15, ()))), (x24, (x33, ((rowsOf x15 (fun j43 => ((bif (Nat.beq j43 (v.2.2.2.2.2.1.2.2.1 + (0:Nat))) then (0:Int) else (List.getD v.2.2.2.2.2.2.2.2.1 j43 ((0:Int), ((0:Int), ((0:Int), ([], ()))))).1), ((bif (Nat.beq j43 (v.2.2.2.2.2.1.2.2.1 + (0:Nat))) then (0:Int) else (List.getD v.2.2.2.2.2.2.2.2.1 j43 ((0:Int), ((0:Int), ((0:Int), ([], ()))))).2.1), ((bif (Nat.beq j43 (v.2.2.2.2.2.1.2.2.1 + (0:Nat))) then (0:Int) else (List.getD v.2.2.2.2.2.2.2.2.1 j43 ((0:Int), ((0:Int), ((0:Int), ([], ()))))).2.2.1), ((List.take (bif (Nat.beq j43 (v.2.2.2.2.2.1.2.2.1 + (0:Nat))) then (0:Nat) else (List.length (List.getD v.2.2.2.2.2.2.2.2.1 j43 ((0:Int), ((0:Int), ((0:Int), ([], ()))))).2.2.2.1)) (bif (Nat.beq j43 (v.2.2.2.2.2.1.2.2.1 + (0:Nat))) then [] else (List.getD v.2.2.2.2.2.2.2.2.1 j43 ((0:Int), ((0:Int), ((0:Int), ([], ()))))).2.2.2.1)), ())))))), ()))))))))))
 else
 none
 else
 none
 else
 bif x34 then
 (ko (Sum.inr (r28.2, (((0:Int), ((0:Int), ((0:Int), ()))), ((), ())))))
 else
 bif (decide (x15 ≤ (1073741824:Nat))) then
 bif x20 then
 (kn ((x22, ((rowsOf x12 (fun j44 => ((List.getD x2 j44 ((0:Int), ((0:Int), ((0:Int), ([], ()))))).1, ((List.getD x2 j44 ((0:Int), ((0:Int), ((0:Int), ([], ()))))).2.1, ((List.getD x2 j44 ((0:Int), ((0:Int), ((0:Int), ([], ()))))).2.2.1, ((List.take (List.length (List.getD x2 j44 ((0:Int), ((0:Int), ((0:Int), ([], ()))))).2.2.2.1) (List.getD x2 j44 ((0:Int), ((0:Int), ((0:Int), ([], ()))))).2.2.2.1), ())))))), (x8, (v.1.2.2.2.1, ((IntKind.wrap .i64 (x3 + (1:Int))), ()))))), (((List.take (List.length x0) x0), v.2.1.2), ((v.2.2.1.1, (v.2.2.1.2.1, (v.2.2.1.2.2.1, ((List.take (List.length x1) x1), ())))), (v.2.2.2.1, ((), ((x13, (x14, (x15, ()))), (x24, (x33, ((rowsOf x15 (fun j45 => ((bif (Nat.beq j45 (v.2.2.2.2.2.1.2.2.1 + (0:Nat))) then (0:Int) else (List.getD v.2.2.2.2.2.2.2.2.1 j45 ((0:Int), ((0:Int), ((0:Int), ([], ()))))).1), ((bif (Nat.beq j45 (v.2.2.2.2.2.1.2.2.1 + (0:Nat))) then (0:Int) else (List.getD v.2.2.2.2.2.2.2.2.1 j45 ((0:Int), ((0:Int), ((0:Int), ([], ()))))).2.1), ((bif (Nat.beq j45 (v.2.2.2.2.2.1.2.2.1 + (0:Nat))) then (0:Int) else (List.getD v.2.2.2.2.2.2.2.2.1 j45 ((0:Int), ((0:Int), ((0:Int), ([], ()))))).2.2.1), ((List.take (bif (Nat.beq j45 (v.2.2.2.2.2.1.2.2.1 + (0:Nat))) then (0:Nat) else (List.length (List.getD v.2.2.2.2.2.2.2.2.1 j45 ((0:Int), ((0:Int), ((0:Int), ([], ()))))).2.2.2.1)) (bif (Nat.beq j45 (v.2.2.2.2.2.1.2.2.1 + (0:Nat))) then [] else (List.getD v.2.2.2.2.2.2.2.2.1 j45 ((0:Int), ((0:Int), ((0:Int), ([], ()))))).2.2.2.1)), ())))))), ()))))))))))
 else
 none
 else
 none
 else
 none
 else
 none
 else
 none
 else
 none
 else
 bif ((x11 && true) && ((allR x25 (fun j46 => true)) && ((allR x26 (fun j47 => true)) && ((allR x27 (fun j48 => true)) && true)))) then
 (ko (Sum.inl ((x22, ()), (v.2.2.2.1, ((), (v.2.2.2.2.2.1, ((rowsOf x25 (fun j49 => ((List.getD v.2.2.2.2.2.2.1 j49 ((0:Int), ((0:Int), ((0:Int), ([], ()))))).1, ((List.getD v.2.2.2.2.2.2.1 j49 ((0:Int), ((0:Int), ((0:Int), ([], ()))))).2.1, ((List.getD v.2.2.2.2.2.2.1 j49 ((0:Int), ((0:Int), ((0:Int), ([], ()))))).2.2.1, ((List.take (List.length (List.getD v.2.2.2.2.2.2.1 j49 ((0:Int), ((0:Int), ((0:Int), ([], ()))))).2.2.2.1) (List.getD v.2.2.2.2.2.2.1 j49 ((0:Int), ((0:Int), ((0:Int), ([], ()))))).2.2.2.1), ())))))), ((rowsOf x26 (fun j50 => ((List.getD v.2.2.2.2.2.2.2.1 j50 ((0:Int), ((0:Int), ((0:Int), ([], ()))))).1, ((List.getD v.2.2.2.2.2.2.2.1 j50 ((0:Int), ((0:Int), ((0:Int), ([], ()))))).2.1, ((List.getD v.2.2.2.2.2.2.2.1 j50 ((0:Int), ((0:Int), ((0:Int), ([], ()))))).2.2.1, ((List.take (List.length (List.getD v.2.2.2.2.2.2.2.1 j50 ((0:Int), ((0:Int), ((0:Int), ([], ()))))).2.2.2.1) (List.getD v.2.2.2.2.2.2.2.1 j50 ((0:Int), ((0:Int), ((0:Int), ([], ()))))).2.2.2.1), ())))))), ((rowsOf x27 (fun j51 => ((List.getD v.2.2.2.2.2.2.2.2.1 j51 ((0:Int), ((0:Int), ((0:Int), ([], ()))))).1, ((List.getD v.2.2.2.2.2.2.2.2.1 j51 ((0:Int), ((0:Int), ((0:Int), ([], ()))))).2.1, ((List.getD v.2.2.2.2.2.2.2.2.1 j51 ((0:Int), ((0:Int), ((0:Int), ([], ()))))).2.2.1, ((List.take (List.length (List.getD v.2.2.2.2.2.2.2.2.1 j51 ((0:Int), ((0:Int), ((0:Int), ([], ()))))).2.2.2.1) (List.getD v.2.2.2.2.2.2.2.2.1 j51 ((0:Int), ((0:Int), ((0:Int), ([], ()))))).2.2.2.1), ())))))), ())))))))))
 else
 none
noncomputable def ls_912_0 : St → LTr := (lsum ff_912_0 hf_912_0 X_912_0 Prod.mk id st_912_0 (hd [(.via 13 0, y_92, 3, .recs), (.via 13 1, y_92, 3, .recs), (.via 13 2, y_92, 3, .recs)] [] [1, 2, 4, 5, 8, 10, 11, 13, 51, 52] 0))
theorem lp_912_0 : LoopOk PR 0 (lpN f_912 0) ls_912_0 := loopT okO_912 mixed (L := LB_912_0) (d := 1) (bs := []) (ks := [1, 2, 4, 5, 8, 10, 11, 13, 51, 52]) (loopsL (l := []) (by kernel_rfl) trivial) (by kernel_rfl) (inS := Prod.mk) (outS := id) (fun _ _ => rfl) (inX := id) (outX := id) (fun _ => rfl) (fun v R kn ko => by kernel_rfl) (hd_wk [(.via 13 0, y_92, 3, .recs), (.via 13 1, y_92, 3, .recs), (.via 13 2, y_92, 3, .recs)] [] [1, 2, 4, 5, 8, 10, 11, 13, 51, 52] 0)
noncomputable def L_912 : Lps := (lpB 6 (.by_ ls_912_0) L0)
noncomputable def F_912 (a0 : List Int × Int × Int × Int × Int × Int × Int × Int × Int × Int × Int × Int × Int × Int × Int × Int × Int × Int × Bool × Int × Int × Int × Int × Int × Int × Int × Unit) (a1 : List ((Int × Int × Int × List Int × Unit) × (Int × Int × Int × List Int × Unit) × Unit)) (a2 : List (Int × Int × Int × List Int × Unit)) (a3 : Int × Int × Int × List Int × Unit) (a4 : Int) : Option ((Int × Int × Int × List Int × Unit) × ((List (Int × Int × Int × List Int × Unit)) × (List (Int × Int × Int × List Int × Unit)) × (List (Int × Int × Int × List Int × Unit)) × Unit) × Int × Unit) :=
 let x1 : Bool := (allR (List.length a1) (fun j0 => true))
 let x3 : List (T (((Fm.i IntKind.i64).pair ((Fm.i IntKind.i64).pair ((Fm.i IntKind.i64).pair ((Fm.si IntKind.u32).pair Fm.unit)))).pair (((Fm.i IntKind.i64).pair ((Fm.i IntKind.i64).pair ((Fm.i IntKind.i64).pair ((Fm.si IntKind.u32).pair Fm.unit)))).pair Fm.unit))) := (rowsOf (List.length a1) (fun j2 => (((List.getD a1 j2 (((0:Int), ((0:Int), ((0:Int), ([], ())))), (((0:Int), ((0:Int), ((0:Int), ([], ())))), ()))).1.1, ((List.getD a1 j2 (((0:Int), ((0:Int), ((0:Int), ([], ())))), (((0:Int), ((0:Int), ((0:Int), ([], ())))), ()))).1.2.1, ((List.getD a1 j2 (((0:Int), ((0:Int), ((0:Int), ([], ())))), (((0:Int), ((0:Int), ((0:Int), ([], ())))), ()))).1.2.2.1, ((List.take (List.length (List.getD a1 j2 (((0:Int), ((0:Int), ((0:Int), ([], ())))), (((0:Int), ((0:Int), ((0:Int), ([], ())))), ()))).1.2.2.2.1) (List.getD a1 j2 (((0:Int), ((0:Int), ((0:Int), ([], ())))), (((0:Int), ((0:Int), ((0:Int), ([], ())))), ()))).1.2.2.2.1), ())))), (((List.getD a1 j2 (((0:Int), ((0:Int), ((0:Int), ([], ())))), (((0:Int), ((0:Int), ((0:Int), ([], ())))), ()))).2.1.1, ((List.getD a1 j2 (((0:Int), ((0:Int), ((0:Int), ([], ())))), (((0:Int), ((0:Int), ((0:Int), ([], ())))), ()))).2.1.2.1, ((List.getD a1 j2 (((0:Int), ((0:Int), ((0:Int), ([], ())))), (((0:Int), ((0:Int), ((0:Int), ([], ())))), ()))).2.1.2.2.1, ((List.take (List.length (List.getD a1 j2 (((0:Int), ((0:Int), ((0:Int), ([], ())))), (((0:Int), ((0:Int), ((0:Int), ([], ())))), ()))).2.1.2.2.2.1) (List.getD a1 j2 (((0:Int), ((0:Int), ((0:Int), ([], ())))), (((0:Int), ((0:Int), ((0:Int), ([], ())))), ()))).2.1.2.2.2.1), ())))), ()))))
 let x5 : Bool := ((allR (List.length a2) (fun j4 => true)) && true)
 let x7 : List (T ((Fm.i IntKind.i64).pair ((Fm.i IntKind.i64).pair ((Fm.i IntKind.i64).pair ((Fm.si IntKind.u32).pair Fm.unit))))) := (rowsOf (List.length a2) (fun j6 => ((List.getD a2 j6 ((0:Int), ((0:Int), ((0:Int), ([], ()))))).1, ((List.getD a2 j6 ((0:Int), ((0:Int), ((0:Int), ([], ()))))).2.1, ((List.getD a2 j6 ((0:Int), ((0:Int), ((0:Int), ([], ()))))).2.2.1, ((List.take (List.length (List.getD a2 j6 ((0:Int), ((0:Int), ((0:Int), ([], ()))))).2.2.2.1) (List.getD a2 j6 ((0:Int), ((0:Int), ((0:Int), ([], ()))))).2.2.2.1), ()))))))
 let x8 : Int := a3.2.2.1
 let x9 : List Int := a3.2.2.2.1
 bif ((x1 && true) && true) then
 ((F_916 ((List.take (List.length a0.1) a0.1), a0.2) x3)).bind fun r10 =>
 bif (!r10) then
 (some (((0:Int), ((0:Int), ((0:Int), ([], ())))), (([], ([], ([], ()))), ((21:Int), ()))))
 else
 bif (x5 && true) then
 ((F_923 ((List.take (List.length a0.1) a0.1), a0.2) x7)).bind fun r11 =>
 bif (!r11) then
 (some (((0:Int), ((0:Int), ((0:Int), ([], ())))), (([], ([], ([], ()))), ((21:Int), ()))))
 else
 bif (decide (((0:Int) ≤ (0:Int)) ∧ ((0:Int) < (((List.length a0.1) : Nat) : Int)))) then
 ((F_924 (a3.1, (a3.2.1, (x8, ((List.take (List.length x9) x9), ())))) a3.1 (List.getD a0.1 (0:Nat) (0:Int)) a0.2.1)).bind fun r12 =>
 bif (!r12) then
 (some (((0:Int), ((0:Int), ((0:Int), ([], ())))), (([], ([], ([], ()))), ((21:Int), ()))))
 else
 ((F_925 ((List.take (List.length a0.1) a0.1), a0.2) a3.1)).bind fun r13 =>
 bif (!r13) then
 (some (((0:Int), ((0:Int), ((0:Int), ([], ())))), (([], ([], ([], ()))), ((21:Int), ()))))
 else
 bif ((x1 && x5) && true) then
 ((lim st_912_0 ((x3, (x7, (a4, ((((List.length a1) : Nat) : Int), ((0:Int), ()))))), (((List.take (List.length a0.1) a0.1), a0.2), ((a3.1, (a3.2.1, (x8, ((List.take (List.length x9) x9), ())))), (((0:Int), ((0:Int), ((0:Int), ()))), ((), (((0:Nat), ((0:Nat), ((0:Nat), ()))), ([], ([], ([], ()))))))))))).bind fun r14 =>
 els (fun l15 =>
 let x17 : List (T ((Fm.i IntKind.i64).pair ((Fm.i IntKind.i64).pair ((Fm.i IntKind.i64).pair ((Fm.si IntKind.u32).pair Fm.unit))))) := l15.2.2.2.2.2.1
 let x18 : List Int := (List.getD x17 ((0:Nat) + (Int.toNat (IntKind.wrap .i64 ((((List.length l15.1.1) : Nat) : Int) - (1:Int))))) ((0:Int), ((0:Int), ((0:Int), ([], ()))))).2.2.2.1
 let x19 : Nat := l15.2.2.2.1.1
 let x20 : Nat := l15.2.2.2.1.2.1
 let x21 : Nat := l15.2.2.2.1.2.2.1
 bif (decide (((0:Int) ≤ (IntKind.wrap .i64 ((((List.length l15.1.1) : Nat) : Int) - (1:Int)))) ∧ ((IntKind.wrap .i64 ((((List.length l15.1.1) : Nat) : Int) - (1:Int))) < ((x20 : Nat) : Int)))) then
 bif (decide (((0:Nat) + (Int.toNat (IntKind.wrap .i64 ((((List.length l15.1.1) : Nat) : Int) - (1:Int))))) < (List.length x17))) then
 ((F_928 ((List.getD x17 ((0:Nat) + (Int.toNat (IntKind.wrap .i64 ((((List.length l15.1.1) : Nat) : Int) - (1:Int))))) ((0:Int), ((0:Int), ((0:Int), ([], ()))))).1, ((List.getD x17 ((0:Nat) + (Int.toNat (IntKind.wrap .i64 ((((List.length l15.1.1) : Nat) : Int) - (1:Int))))) ((0:Int), ((0:Int), ((0:Int), ([], ()))))).2.1, ((List.getD x17 ((0:Nat) + (Int.toNat (IntKind.wrap .i64 ((((List.length l15.1.1) : Nat) : Int) - (1:Int))))) ((0:Int), ((0:Int), ((0:Int), ([], ()))))).2.2.1, ((List.take (List.length x18) x18), ())))))).bind fun r22 =>
 let x23 : Int := r22.2.2.1
 let x24 : List Int := r22.2.2.2.1
 bif ((((((allR x19 (fun j25 => true)) && ((allR x20 (fun j26 => true)) && ((allR x21 (fun j27 => true)) && true))) && true) && true) && true) && true) then
 (some ((r22.1, (r22.2.1, (x23, ((List.take (List.length x24) x24), ())))), (((rowsOf x19 (fun j28 => ((List.getD l15.2.2.2.2.1 j28 ((0:Int), ((0:Int), ((0:Int), ([], ()))))).1, ((List.getD l15.2.2.2.2.1 j28 ((0:Int), ((0:Int), ((0:Int), ([], ()))))).2.1, ((List.getD l15.2.2.2.2.1 j28 ((0:Int), ((0:Int), ((0:Int), ([], ()))))).2.2.1, ((List.take (List.length (List.getD l15.2.2.2.2.1 j28 ((0:Int), ((0:Int), ((0:Int), ([], ()))))).2.2.2.1) (List.getD l15.2.2.2.2.1 j28 ((0:Int), ((0:Int), ((0:Int), ([], ()))))).2.2.2.1), ())))))), ((rowsOf x20 (fun j29 => ((List.getD x17 j29 ((0:Int), ((0:Int), ((0:Int), ([], ()))))).1, ((List.getD x17 j29 ((0:Int), ((0:Int), ((0:Int), ([], ()))))).2.1, ((List.getD x17 j29 ((0:Int), ((0:Int), ((0:Int), ([], ()))))).2.2.1, ((List.take (List.length (List.getD x17 j29 ((0:Int), ((0:Int), ((0:Int), ([], ()))))).2.2.2.1) (List.getD x17 j29 ((0:Int), ((0:Int), ((0:Int), ([], ()))))).2.2.2.1), ())))))), ((rowsOf x21 (fun j30 => ((List.getD l15.2.2.2.2.2.2.1 j30 ((0:Int), ((0:Int), ((0:Int), ([], ()))))).1, ((List.getD l15.2.2.2.2.2.2.1 j30 ((0:Int), ((0:Int), ((0:Int), ([], ()))))).2.1, ((List.getD l15.2.2.2.2.2.2.1 j30 ((0:Int), ((0:Int), ((0:Int), ([], ()))))).2.2.1, ((List.take (List.length (List.getD l15.2.2.2.2.2.2.1 j30 ((0:Int), ((0:Int), ((0:Int), ([], ()))))).2.2.2.1) (List.getD l15.2.2.2.2.2.2.1 j30 ((0:Int), ((0:Int), ((0:Int), ([], ()))))).2.2.2.1), ())))))), ()))), ((0:Int), ()))))
 else
 none
 else
 none
 else
 none) (fun r16 =>
 let x31 : Int := r16.2.1.1
 let x32 : Int := r16.2.1.2.1
 let x33 : Int := r16.2.1.2.2.1
 (some ((x31, (x32, (x33, ([], ())))), (([], ([], ([], ()))), r16.1)))) r14
 else
 none
 else
 none
 else
 none
 else
 none
noncomputable def G_912 : T fa_912 → TH hN0 → Option ((Int × Int × Int × List Int × Unit) × ((List (Int × Int × Int × List Int × Unit)) × (List (Int × Int × Int × List Int × Unit)) × (List (Int × Int × Int × List Int × Unit)) × Unit) × Int × Unit) := fun x y => F_912 x.1 x.2.1 x.2.2.1 x.2.2.2.1 x.2.2.2.2.1
noncomputable def c_912 : Orc := ent i_912 [] 0 (sp fa_912 hN0 fr_912 hN0 G_912 (outN fr_912))
theorem ok_912 : OrcOk PR c_912 := fnT okO_912 mixed p_912 (by kernel_rfl) (by kernel_rfl) (L := L_912) (kp := false) (by kernel_rfl) (inn := (innN fr_912)) (out := (outN fr_912)) (fun _ _ => rfl) (loopsL (l := [((lpN f_912 0), ls_912_0)]) (by kernel_rfl) ⟨lp_912_0, trivial⟩) (fun x y => by kernel_rfl)
end Go.Proofs.YtkmkhcmfpbffjaaGreat.VI
