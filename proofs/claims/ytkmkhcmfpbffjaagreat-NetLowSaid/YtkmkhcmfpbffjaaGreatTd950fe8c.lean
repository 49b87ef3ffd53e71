import Derived.Test.YtkmkhcmfpbffjaaGreatT0424e33a
namespace Go.Proofs.YtkmkhcmfpbffjaaGreat.VI
set_option linter.unusedVariables false
set_option linter.unusedSimpArgs false
set_option maxRecDepth 100000
noncomputable def O_99a : Orc := orn
theorem okO_99a : OrcOk PR O_99a := (orn_ok _)
abbrev fa_99a : Fm := (.pair (.agg (.rep 2 (.i .u32))) (.pair (.agg (.rep 4 (.i .u32))) .unit))
abbrev fr_99a : Fm := (.agg (.rep 4 (.i .u32)))
noncomputable def F_99a (a0 : List (Int)) (a1 : List (Int)) : Option (List (Int)) :=
 let x0 : Int := (IntKind.wrap .u64 ((IntKind.wrap .u64 (List.getD a1 (2:Nat) (0:Int))) * (3449720151:Int)))
 let x1 : Int := (IntKind.wrap .u64 ((IntKind.wrap .u64 (List.getD a1 (0:Nat) (0:Int))) * (3528531795:Int)))
 (some [(bits .xor .u32 (bits .xor .u32 (IntKind.wrap .u32 (x0 / (4294967296:Int))) (List.getD a1 (1:Nat) (0:Int))) (List.getD a0 (0:Nat) (0:Int))), (IntKind.wrap .u32 x0), (bits .xor .u32 (bits .xor .u32 (IntKind.wrap .u32 (x1 / (4294967296:Int))) (List.getD a1 (3:Nat) (0:Int))) (List.getD a0 (1:Nat) (0:Int))), (IntKind.wrap .u32 x1)])
noncomputable def G_99a : T fa_99a → TH hN0 → Option (List (Int)) := fun x y => F_99a x.1 x.2.1
noncomputable def c_99a : Orc := ent i_99a [] 0 (sp fa_99a hN0 fr_99a hN0 G_99a (outN fr_99a))
theorem ok_99a : OrcOk PR c_99a := fnT okO_99a mixed p_99a (by kernel_rfl) (by kernel_rfl) (L := L0) (kp := false) (by kernel_rfl) (inn := (innN fr_99a)) (out := (outN fr_99a)) (fun _ _ => rfl) (loopsL (l := []) (by kernel_rfl) trivial) (fun x y => by kernel_rfl)
noncomputable def O_989 : Orc := c_99a
theorem okO_989 : OrcOk PR O_989 := ok_99a
abbrev fa_989 : Fm := (.pair (.agg (.rep 2 (.i .u32))) (.pair (.agg (.rep 4 (.i .u32))) .unit))
abbrev fr_989 : Fm := (.agg (.rep 4 (.i .u32)))
abbrev ff_989_0 : Fm := (.us 2 (.cst (.ref 0 1 0) (.cst (.ref 1 1 0) (.cst (.ref 2 1 0) (.pair (.i .i64) (.us 14 .unit))))))
abbrev hf_989_0 : List BF := [(.list 1 y_9a true (.rep 2 (.i .u32))), (.list 1 y_99 true (.rep 4 (.i .u32))), (.list 1 y_99 true (.rep 4 (.i .u32)))]
abbrev X_989_0 : Xs := (.one (.exit 0) [3, 4] (.us 3 (.cst (.ref 0 1 0) (.cst (.ref 1 1 0) (.us 15 .unit)))) [(.list 1 y_99 true (.rep 4 (.i .u32))), (.list 1 y_99 true (.rep 4 (.i .u32)))])
abbrev S_989_0 : Type := T ff_989_0 × TH hf_989_0
abbrev E_989_0 : Type := TX X_989_0
noncomputable def LB_989_0 : Lps := L0
noncomputable def st_989_0 : StepT S_989_0 E_989_0 := fun R v kn ko =>
 let x0 : List (T (Fm.i IntKind.u32)) := v.2.1
 let x1 : Int := (List.getD x0 (0:Nat) (0:Int))
 let x2 : Int := (List.getD x0 (1:Nat) (0:Int))
 let x3 : List (T (Fm.i IntKind.u32)) := v.2.2.1
 let x4 : List (T (Fm.i IntKind.u32)) := [(List.getD x3 (0:Nat) (0:Int)), (List.getD x3 (1:Nat) (0:Int)), (List.getD x3 (2:Nat) (0:Int)), (List.getD x3 (3:Nat) (0:Int))]
 let x5 : Int := (IntKind.wrap .u64 ((IntKind.wrap .u64 (List.getD x4 (2:Nat) (0:Int))) * (3449720151:Int)))
 let x6 : List (T (Fm.i IntKind.u32)) := [x1, x2]
 let x7 : Int := (IntKind.wrap .u64 ((IntKind.wrap .u64 (List.getD x4 (0:Nat) (0:Int))) * (3528531795:Int)))
 let x8 : List Int := [(bits .xor .u32 (bits .xor .u32 (IntKind.wrap .u32 (x5 / (4294967296:Int))) (List.getD x4 (1:Nat) (0:Int))) (List.getD x6 (0:Nat) (0:Int))), (IntKind.wrap .u32 x5), (bits .xor .u32 (bits .xor .u32 (IntKind.wrap .u32 (x7 / (4294967296:Int))) (List.getD x4 (3:Nat) (0:Int))) (List.getD x6 (1:Nat) (0:Int))), (IntKind.wrap .u32 x7)]
 let x9 : List (T (Fm.i IntKind.u32)) := v.2.2.2.1
 bif (decide (v.1.1 < (10:Int))) then
 (kn (((IntKind.wrap .i64 (v.1.1 + (1:Int))), ()), ([(IntKind.wrap .u32 (x1 + (2654435769:Int))), (IntKind.wrap .u32 (x2 + (3144134277:Int)))], ([(List.getD x8 (0:Nat) (0:Int)), (List.getD x8 (1:Nat) (0:Int)), (List.getD x8 (2:Nat) (0:Int)), (List.getD x8 (3:Nat) (0:Int))], ([(List.getD x9 (0:Nat) (0:Int)), (List.getD x9 (1:Nat) (0:Int)), (List.getD x9 (2:Nat) (0:Int)), (List.getD x9 (3:Nat) (0:Int))], ())))))
 else
 (ko ((), (x4, ([(List.getD x9 (0:Nat) (0:Int)), (List.getD x9 (1:Nat) (0:Int)), (List.getD x9 (2:Nat) (0:Int)), (List.getD x9 (3:Nat) (0:Int))], ()))))
noncomputable def ls_989_0 : St → LTr := (lsum ff_989_0 hf_989_0 X_989_0 Prod.mk id st_989_0 (hd [] [] [2, 3, 4, 5] 0))
theorem lp_989_0 : LoopOk PR 0 (lpN f_989 0) ls_989_0 := loopT okO_989 mixed (L := LB_989_0) (d := 1) (bs := []) (ks := [2, 3, 4, 5]) (loopsL (l := []) (by kernel_rfl) trivial) (by kernel_rfl) (inS := Prod.mk) (outS := id) (fun _ _ => rfl) (inX := id) (outX := id) (fun _ => rfl) (fun v R kn ko => by kernel_rfl) (hd_wk [] [] [2, 3, 4, 5] 0)
noncomputable def L_989 : Lps := (lpB 3 (.by_ ls_989_0) L0)
noncomputable def F_989 (a0 : List (Int)) (a1 : List (Int)) : Option (List (Int)) :=
 ((lim st_989_0 (((0:Int), ()), ([(List.getD a0 (0:Nat) (0:Int)), (List.getD a0 (1:Nat) (0:Int))], ([(List.getD a1 (0:Nat) (0:Int)), (List.getD a1 (1:Nat) (0:Int)), (List.getD a1 (2:Nat) (0:Int)), (List.getD a1 (3:Nat) (0:Int))], ([(0:Int), (0:Int), (0:Int), (0:Int)], ())))))).bind fun r0 =>
 let x1 : List (T (Fm.i IntKind.u32)) := r0.2.1
 (some [(List.getD x1 (0:Nat) (0:Int)), (List.getD x1 (1:Nat) (0:Int)), (List.getD x1 (2:Nat) (0:Int)), (List.getD x1 (3:Nat) (0:Int))])
noncomputable def G_989 : T fa_989 → TH hN0 → Option (List (Int)) := fun x y => F_989 x.1 x.2.1
noncomputable def c_989 : Orc := ent i_989 [] 0 (sp fa_989 hN0 fr_989 hN0 G_989 (outN fr_989))
theorem ok_989 : OrcOk PR c_989 := fnT okO_989 mixed p_989 (by kernel_rfl) (by kernel_rfl) (L := L_989) (kp := false) (by kernel_rfl) (inn := (innN fr_989)) (out := (outN fr_989)) (fun _ _ => rfl) (loopsL (l := [((lpN f_989 0), ls_989_0)]) (by kernel_rfl) ⟨lp_989_0, trivial⟩) (fun x y => by kernel_rfl)
noncomputable def O_954 : Orc := c_989
theorem okO_954 : OrcOk PR O_954 := ok_989
abbrev fa_954 : Fm := (.pair (.i .u64) (.pair (.i .u32) (.pair (.i .u64) .unit)))
abbrev fr_954 : Fm := (.i .u32)
noncomputable def F_954 (a0 : Int) (a1 : Int) (a2 : Int) : Option (Int) :=
 let x0 : Int := (IntKind.wrap .u64 (Int.tdiv a2 (4:Int)))
 let x1 : Nat := ((0:Nat) + ((Int.toNat (Int.tmod a2 (4:Int))) * (1:Nat)))
 ((F_989 [(IntKind.wrap .u32 a0), (IntKind.wrap .u32 (a0 / (4294967296:Int)))] [(IntKind.wrap .u32 x0), (IntKind.wrap .u32 (x0 / (4294967296:Int))), a1, (0:Int)])).bind fun r2 =>
 bif (decide (((0:Int) ≤ (Int.tmod a2 (4:Int))) ∧ ((Int.tmod a2 (4:Int)) < (4:Int)))) then
 bif (Nat.beq x1 (0:Nat)) then
 (some (List.getD r2 (0:Nat) (0:Int)))
 else
 bif (Nat.beq x1 (1:Nat)) then
 (some (List.getD r2 (1:Nat) (0:Int)))
 else
 bif (Nat.beq x1 (2:Nat)) then
 (some (List.getD r2 (2:Nat) (0:Int)))
 else
 bif (Nat.beq x1 (3:Nat)) then
 (some (List.getD r2 (3:Nat) (0:Int)))
 else
 bif (Nat.beq x1 (4:Nat)) then
 none
 else
 none
 else
 none
noncomputable def G_954 : T fa_954 → TH hN0 → Option (Int) := fun x y => F_954 x.1 x.2.1 x.2.2.1
noncomputable def c_954 : Orc := ent i_954 [] 0 (sp fa_954 hN0 fr_954 hN0 G_954 (outN fr_954))
theorem ok_954 : OrcOk PR c_954 := fnT okO_954 mixed p_954 (by kernel_rfl) (by kernel_rfl) (L := L0) (kp := false) (by kernel_rfl) (inn := (innN fr_954)) (out := (outN fr_954)) (fun _ _ => rfl) (loopsL (l := []) (by kernel_rfl) trivial) (fun x y => by kernel_rfl)
noncomputable def O_982 : Orc := c_978
theorem okO_982 : OrcOk PR O_982 := ok_978
abbrev fa_982 : Fm := (.pair (.i .i64) (.pair (.i .i64) (.pair (.i .i64) .unit)))
abbrev fr_982 : Fm := (.agg (.pair (.i .i64) (.pair (.i .i64) (.pair (.i .i64) (.pair (.si .u32) .unit)))))
noncomputable def F_982 (a0 : Int) (a1 : Int) (a2 : Int) : Option (Int × Int × Int × List Int × Unit) :=
 let x0 : Int := (bif (decide ((IntKind.wrap .i64 ((mn (mx a0 (0:Int)) (4096:Int)) * (mn (mx a1 (0:Int)) (4096:Int)))) > (262144:Int))) then (0:Int) else (mn (mx a0 (0:Int)) (4096:Int)))
 let x1 : Int := (bif (decide ((IntKind.wrap .i64 ((mn (mx a0 (0:Int)) (4096:Int)) * (mn (mx a1 (0:Int)) (4096:Int)))) > (262144:Int))) then (0:Int) else (mn (mx a1 (0:Int)) (4096:Int)))
 let x2 : Nat := (Int.toNat (IntKind.wrap .i64 (x0 * x1)))
 ((F_978 a2)).bind fun r3 =>
 bif (decide (((0:Int) ≤ (IntKind.wrap .i64 (x0 * x1))) ∧ ((IntKind.wrap .i64 (x0 * x1)) ≤ (1073741824:Int)))) then
 (some (x0, (x1, ((bif (!r3) then (2:Int) else a2), ((List.take x2 (List.drop (0:Nat) (List.replicate x2 (0:Int)))), ())))))
 else
 none
noncomputable def G_982 : T fa_982 → TH hN0 → Option (Int × Int × Int × List Int × Unit) := fun x y => F_982 x.1 x.2.1 x.2.2.1
noncomputable def c_982 : Orc := ent i_982 [] 0 (sp fa_982 hN0 fr_982 hN0 G_982 (outN fr_982))
theorem ok_982 : OrcOk PR c_982 := fnT okO_982 mixed p_982 (by kernel_rfl) (by kernel_rfl) (L := L0) (kp := false) (by kernel_rfl) (inn := (innN fr_982)) (out := (outN fr_982)) (fun _ _ => rfl) (loopsL (l := []) (by kernel_rfl) trivial) (fun x y => by kernel_rfl)
noncomputable def O_983 : Orc := c_954
theorem okO_983 : OrcOk PR O_983 := ok_954
abbrev fa_983 : Fm := (.pair (.i .i64) (.pair (.i .u32) (.cst (.ref 0 1 0) (.cst (.ref 1 1 0) (.cst (.ref 2 1 0) (.cst (.ref 3 1 0) .unit))))))
abbrev ha_983 : List BF := [(.ints 1 y_94 true .u64), (.ints 1 y_91 true .u32), (.ints 1 y_91 true .u32), (.ints 1 y_91 true .u32)]
abbrev fr_983 : Fm := (.i .u32)
abbrev hr_983 : List BF := [(.ints 1 y_94 true .u64), (.ints 1 y_91 true .u32), (.ints 1 y_91 true .u32), (.ints 1 y_91 true .u32)]
def inn_983 : T fr_983 → TH hr_983 → (Int) × (List Int × List Int × List Int × List Int × Unit) := Prod.mk
def out_983 : (Int) × (List Int × List Int × List Int × List Int × Unit) → T fr_983 × TH hr_983 := id
noncomputable def F_983 (a0 : Int) (a1 : Int) (a2 : List Int) (a3 : List Int) (a4 : List Int) (a5 : List Int) : Option ((Int) × (List Int × List Int × List Int × List Int × Unit)) :=
 bif (decide ((0:Nat) < (List.length a2))) then
 bif (decide ((0:Nat) < (List.length a3))) then
 ((F_954 (List.getD a2 (0:Nat) (0:Int)) (List.getD a3 (0:Nat) (0:Int)) (IntKind.wrap .u64 a0))).bind fun r0 =>
 bif (decide ((0:Nat) < (List.length a4))) then
 bif (decide (r0 < (List.getD a4 (0:Nat) (0:Int)))) then
 (some ((0:Int), (a2, (a3, (a4, (a5, ()))))))
 else
 bif (decide ((0:Nat) < (List.length a5))) then
 (some ((List.getD a5 (0:Nat) (0:Int)), (a2, (a3, (a4, (a5, ()))))))
 else
 none
 else
 none
 else
 none
 else
 none
noncomputable def G_983 : T fa_983 → TH ha_983 → Option ((Int) × (List Int × List Int × List Int × List Int × Unit)) := fun x y => F_983 x.1 x.2.1 y.1 y.2.1 y.2.2.1 y.2.2.2.1
noncomputable def c_983 : Orc := ent i_983 [false, false, true, true, true, true] 0 (sp fa_983 ha_983 fr_983 hr_983 G_983 out_983)
theorem ok_983 : OrcOk PR c_983 := fnT okO_983 mixed p_983 (by kernel_rfl) (by kernel_rfl) (L := L0) (kp := false) (by kernel_rfl) (inn := inn_983) (out := out_983) (fun _ _ => rfl) (loopsL (l := []) (by kernel_rfl) trivial) (fun x y => by kernel_rfl)
noncomputable def O_9a8 : Orc := c_983
theorem okO_9a8 : OrcOk PR O_9a8 := ok_983
abbrev fa_9a8 : Fm := (.pair (.agg (.pair (.i .i64) (.pair (.i .i64) (.pair (.i .i64) (.pair (.si .u32) .unit))))) (.pair (.i .i64) (.pair (.fn i_983 (.pair (.ref 0 1 0) (.pair (.ref 1 1 0) (.pair (.ref 2 1 0) (.pair (.ref 3 1 0) .unit))))) .unit)))
abbrev ha_9a8 : List BF := [(.ints 1 y_94 true .u64), (.ints 1 y_91 true .u32), (.ints 1 y_91 true .u32), (.ints 1 y_91 true .u32)]
abbrev fr_9a8 : Fm := (.agg (.pair (.i .i64) (.pair (.i .i64) (.pair (.i .i64) (.pair (.si .u32) .unit)))))
abbrev hr_9a8 : List BF := [(.ints 1 y_94 true .u64), (.ints 1 y_91 true .u32), (.ints 1 y_91 true .u32), (.ints 1 y_91 true .u32)]
abbrev ff_9a8_0 : Fm := (.us 2 (.cst (.fn i_983 (.cst (.ref 0 1 0) (.cst (.ref 1 1 0) (.cst (.ref 2 1 0) (.cst (.ref 3 1 0) .unit))))) (.us 3 (.cst (.ref 4 1 0) (.cst (.ref 5 1 0) (.us 13 (.pair (.si .u32) (.pair (.i .i64) (.pair (.i .i64) (.us 14 .unit))))))))))
abbrev hf_9a8_0 : List BF := [(.ints 1 y_94 true .u64), (.ints 1 y_91 true .u32), (.ints 1 y_91 true .u32), (.ints 1 y_91 true .u32), (.list 1 y_92 true (.pair (.i .i64) (.pair (.i .i64) (.pair (.i .i64) (.cst .nils .unit))))), (.list 1 y_92 true (.pair (.i .i64) (.pair (.i .i64) (.pair (.i .i64) (.pair (.own 6 1 0 1) .unit))))), (.ints 1 y_91 true .u32)]
abbrev X_9a8_0 : Xs := (.one (.exit 0) [6, 7] (.us 6 (.cst (.ref 4 1 0) (.cst (.ref 5 1 0) (.us 30 .unit)))) [(.ints 1 y_94 true .u64), (.ints 1 y_91 true .u32), (.ints 1 y_91 true .u32), (.ints 1 y_91 true .u32), (.list 1 y_92 true (.pair (.i .i64) (.pair (.i .i64) (.pair (.i .i64) (.cst .nils .unit))))), (.list 1 y_92 true (.pair (.i .i64) (.pair (.i .i64) (.pair (.i .i64) (.pair (.own 6 1 0 1) .unit))))), (.ints 1 y_91 true .u32)])
abbrev S_9a8_0 : Type := T ff_9a8_0 × TH hf_9a8_0
abbrev E_9a8_0 : Type := TX X_9a8_0
noncomputable def LB_9a8_0 : Lps := L0
noncomputable def st_9a8_0 : StepT S_9a8_0 E_9a8_0 := fun R v kn ko =>
 let x0 : Int := v.1.2.2.1
 let x1 : List Int := v.1.1
 let x2 : Nat := (Int.toNat x0)
 bif (decide (x0 < v.1.2.1)) then
 bif (decide (((0:Int) ≤ x0) ∧ (x0 < (((List.length x1) : Nat) : Int)))) then
 ((F_983 x0 (List.getD x1 x2 (0:Int)) v.2.1 v.2.2.1 v.2.2.2.1 v.2.2.2.2.1)).bind fun r3 =>
 bif (decide (((0:Int) ≤ x0) ∧ (x0 < ((v.2.2.2.2.2.2.1.2.2.2.1 : Nat) : Int)))) then
 bif (decide (((0:Nat) + (x2 * (1:Nat))) < (List.length v.2.2.2.2.2.2.2.1))) then
 (kn (((List.take (List.length x1) x1), (v.1.2.1, ((IntKind.wrap .i64 (x0 + (1:Int))), ()))), (r3.2.1, (r3.2.2.1, (r3.2.2.2.1, (r3.2.2.2.2.1, (v.2.2.2.2.2.1, (v.2.2.2.2.2.2.1, ((List.set v.2.2.2.2.2.2.2.1 ((0:Nat) + (x2 * (1:Nat))) r3.1), ())))))))))
 else
 none
 else
 none
 else
 none
 else
 (ko ((), v.2))
noncomputable def ls_9a8_0 : St → LTr := (lsum ff_9a8_0 hf_9a8_0 X_9a8_0 Prod.mk id st_9a8_0 (hd [] [] [2, 6, 7, 21, 22, 23] 4))
theorem lp_9a8_0 : LoopOk PR 4 (lpN f_95a 0) ls_9a8_0 := loopT okO_9a8 mixed (L := LB_9a8_0) (d := 1) (bs := []) (ks := [2, 6, 7, 21, 22, 23]) (loopsL (l := []) (by kernel_rfl) trivial) (by kernel_rfl) (inS := Prod.mk) (outS := id) (fun _ _ => rfl) (inX := id) (outX := id) (fun _ => rfl) (fun v R kn ko => by kernel_rfl) (hd_wk [] [] [2, 6, 7, 21, 22, 23] 4)
noncomputable def L_9a8 : Lps := (lpB 4 (.by_ ls_9a8_0) L0)
def inn_9a8 : T fr_9a8 → TH hr_9a8 → (Int × Int × Int × List Int × Unit) × (List Int × List Int × List Int × List Int × Unit) := Prod.mk
def out_9a8 : (Int × Int × Int × List Int × Unit) × (List Int × List Int × List Int × List Int × Unit) → T fr_9a8 × TH hr_9a8 := id
noncomputable def F_9a8 (a0 : Int × Int × Int × List Int × Unit) (a1 : Int) (a2 : List Int) (a3 : List Int) (a4 : List Int) (a5 : List Int) : Option ((Int × Int × Int × List Int × Unit) × (List Int × List Int × List Int × List Int × Unit)) :=
 let x0 : List Int := a0.2.2.2.1
 let x1 : Nat := (List.length x0)
 let x2 : Int := ((x1 : Nat) : Int)
 let x3 : Nat := (Int.toNat x2)
 bif (decide (((0:Int) ≤ x2) ∧ (x2 ≤ (1073741824:Int)))) then
 ((lim st_9a8_0 (((List.take x1 x0), (x2, ((0:Int), ()))), (a2, (a3, (a4, (a5, (((0:Int), ((0:Int), ((0:Int), ()))), ((a0.1, (a0.2.1, (a1, (x3, ())))), ((List.replicate x3 (0:Int)), ())))))))))).bind fun r4 =>
 (some ((r4.2.2.2.2.2.2.1.1, (r4.2.2.2.2.2.2.1.2.1, (r4.2.2.2.2.2.2.1.2.2.1, ((List.take r4.2.2.2.2.2.2.1.2.2.2.1 (List.drop (0:Nat) r4.2.2.2.2.2.2.2.1)), ())))), (r4.2.1, (r4.2.2.1, (r4.2.2.2.1, (r4.2.2.2.2.1, ()))))))
 else
 none
noncomputable def G_9a8 : T fa_9a8 → TH ha_9a8 → Option ((Int × Int × Int × List Int × Unit) × (List Int × List Int × List Int × List Int × Unit)) := fun x y => F_9a8 x.1 x.2.1 y.1 y.2.1 y.2.2.1 y.2.2.2.1
noncomputable def c_9a8 : Orc := ent i_95a [false, false, true] 0 (sp fa_9a8 ha_9a8 fr_9a8 hr_9a8 G_9a8 out_9a8)
theorem ok_9a8 : OrcOk PR c_9a8 := fnT okO_9a8 mixed p_95a (by kernel_rfl) (by kernel_rfl) (L := L_9a8) (kp := false) (by kernel_rfl) (inn := inn_9a8) (out := out_9a8) (fun _ _ => rfl) (loopsL (l := [((lpN f_95a 0), ls_9a8_0)]) (by kernel_rfl) ⟨lp_9a8_0, trivial⟩) (fun x y => by kernel_rfl)
noncomputable def O_94c : Orc := (orm c_918 (orm c_91b (orm c_982 (orm c_9a8 c_983))))
theorem okO_94c : OrcOk PR O_94c := (orm_ok ok_918 (orm_ok ok_91b (orm_ok ok_982 (orm_ok ok_9a8 ok_983))))
abbrev fa_94c : Fm := (.pair (.i .i64) (.pair (.i .i64) (.pair (.i .u32) (.pair (.i .u64) (.pair (.i .u32) .unit)))))
abbrev fr_94c : Fm := (.agg (.pair (.i .i64) (.pair (.i .i64) (.pair (.i .i64) (.pair (.si .u32) .unit)))))
noncomputable def F_94c (a0 : Int) (a1 : Int) (a2 : Int) (a3 : Int) (a4 : Int) : Option (Int × Int × Int × List Int × Unit) :=
 ((F_918 (IntKind.wrap .i64 ((4294967296:Int) - (IntKind.wrap .i64 (List.getD [a2] (0:Nat) (0:Int))))))).bind fun r0 =>
 ((F_91b (1333788672:Int) r0)).bind fun r1 =>
 ((F_982 a0 a1 (2:Int))).bind fun r2 =>
 let x3 : Int := r2.2.2.1
 let x4 : List Int := r2.2.2.2.1
 ((F_9a8 (r2.1, (r2.2.1, (x3, ((List.take (List.length x4) x4), ())))) (2:Int) [a3] [a4] [a2] [r1])).bind fun r5 =>
 let x6 : List Int := r5.1.2.2.2.1
 (some (r5.1.1, (r5.1.2.1, (r5.1.2.2.1, ((List.take (List.length x6) x6), ())))))
noncomputable def G_94c : T fa_94c → TH hN0 → Option (Int × Int × Int × List Int × Unit) := fun x y => F_94c x.1 x.2.1 x.2.2.1 x.2.2.2.1 x.2.2.2.2.1
noncomputable def c_94c : Orc := ent i_94c [] 0 (sp fa_94c hN0 fr_94c hN0 G_94c (outN fr_94c))
theorem ok_94c : OrcOk PR c_94c := fnT okO_94c mixed p_94c (by kernel_rfl) (by kernel_rfl) (L := L0) (kp := false) (by kernel_rfl) (inn := (innN fr_94c)) (out := (outN fr_94c)) (fun _ _ => rfl) (loopsL (l := []) (by kernel_rfl) trivial) (fun x y => by kernel_rfl)
noncomputable def O_914 : Orc := c_913
theorem okO_914 : OrcOk PR O_914 := ok_913
abbrev fa_914 : Fm := (.pair (.i .i64) (.pair (.i .u32) .unit))
abbrev fr_914 : Fm := (.i .u32)
noncomputable def F_914 (a0 : Int) (a1 : Int) : Option (Int) :=
 ((F_913 (2:Int) a0 (0:Int) a1)).bind fun r0 =>
 (some r0.1)
noncomputable def G_914 : T fa_914 → TH hN0 → Option (Int) := fun x y => F_914 x.1 x.2.1
noncomputable def c_914 : Orc := ent i_914 [] 0 (sp fa_914 hN0 fr_914 hN0 G_914 (outN fr_914))
theorem ok_914 : OrcOk PR c_914 := fnT okO_914 mixed p_914 (by kernel_rfl) (by kernel_rfl) (L := L0) (kp := false) (by kernel_rfl) (inn := (innN fr_914)) (out := (outN fr_914)) (fun _ _ => rfl) (loopsL (l := []) (by kernel_rfl) trivial) (fun x y => by kernel_rfl)
noncomputable def O_94f : Orc := c_950
theorem okO_94f : OrcOk PR O_94f := ok_950
abbrev fa_94f : Fm := (.pair (.i .i64) (.pair (.i .u32) (.cst (.ref 0 1 0) (.cst (.ref 1 1 0) .unit))))
abbrev ha_94f : List BF := [(.list 1 y_92 true (.pair (.i .i64) (.pair (.i .i64) (.pair (.i .i64) (.pair (.si .u32) .unit))))), (.ints 1 y_90 true .i64)]
abbrev fr_94f : Fm := (.i .u32)
abbrev hr_94f : List BF := [(.list 1 y_92 true (.pair (.i .i64) (.pair (.i .i64) (.pair (.i .i64) (.pair (.si .u32) .unit))))), (.ints 1 y_90 true .i64)]
def inn_94f : T fr_94f → TH hr_94f → (Int) × ((Int × Int × Int × List Int × Unit) × List Int × Unit) := Prod.mk
def out_94f : (Int) × ((Int × Int × Int × List Int × Unit) × List Int × Unit) → T fr_94f × TH hr_94f := id
noncomputable def F_94f (a0 : Int) (a1 : Int) (a2 : Int × Int × Int × List Int × Unit) (a3 : List Int) : Option ((Int) × ((Int × Int × Int × List Int × Unit) × List Int × Unit)) :=
 let x0 : Int := a2.2.2.1
 let x1 : List Int := a2.2.2.2.1
 bif (decide ((0:Nat) < (List.length a3))) then
 ((F_950 x0 (List.getD a3 (0:Nat) (0:Int)) (0:Int) a1)).bind fun r2 =>
 (some (r2.1, ((a2.1, (a2.2.1, (x0, ((List.take (List.length x1) x1), ())))), (a3, ()))))
 else
 none
noncomputable def G_94f : T fa_94f → TH ha_94f → Option ((Int) × ((Int × Int × Int × List Int × Unit) × List Int × Unit)) := fun x y => F_94f x.1 x.2.1 y.1 y.2.1
noncomputable def c_94f : Orc := ent i_94f [false, false, true, true] 0 (sp fa_94f ha_94f fr_94f hr_94f G_94f out_94f)
theorem ok_94f : OrcOk PR c_94f := fnT okO_94f mixed p_94f (by kernel_rfl) (by kernel_rfl) (L := L0) (kp := false) (by kernel_rfl) (inn := inn_94f) (out := out_94f) (fun _ _ => rfl) (loopsL (l := []) (by kernel_rfl) trivial) (fun x y => by kernel_rfl)
noncomputable def O_9a9 : Orc := c_94f
theorem okO_9a9 : OrcOk PR O_9a9 := ok_94f
abbrev fa_9a9 : Fm := (.pair (.agg (.pair (.i .i64) (.pair (.i .i64) (.pair (.i .i64) (.pair (.si .u32) .unit))))) (.pair (.i .i64) (.pair (.fn i_94f (.pair (.ref 0 1 0) (.pair (.ref 1 1 0) .unit))) .unit)))
abbrev ha_9a9 : List BF := [(.list 1 y_92 true (.pair (.i .i64) (.pair (.i .i64) (.pair (.i .i64) (.pair (.si .u32) .unit))))), (.ints 1 y_90 true .i64)]
abbrev fr_9a9 : Fm := (.agg (.pair (.i .i64) (.pair (.i .i64) (.pair (.i .i64) (.pair (.si .u32) .unit)))))
abbrev hr_9a9 : List BF := [(.list 1 y_92 true (.pair (.i .i64) (.pair (.i .i64) (.pair (.i .i64) (.pair (.si .u32) .unit))))), (.ints 1 y_90 true .i64)]
abbrev ff_9a9_0 : Fm := (.us 2 (.cst (.fn i_94f (.cst (.ref 0 1 0) (.cst (.ref 1 1 0) .unit))) (.us 3 (.cst (.ref 2 1 0) (.cst (.ref 3 1 0) (.us 13 (.pair (.si .u32) (.pair (.i .i64) (.pair (.i .i64) (.us 14 .unit))))))))))
abbrev hf_9a9_0 : List BF := [(.list 1 y_92 true (.pair (.i .i64) (.pair (.i .i64) (.pair (.i .i64) (.pair (.si .u32) .unit))))), (.ints 1 y_90 true .i64), (.list 1 y_92 true (.pair (.i .i64) (.pair (.i .i64) (.pair (.i .i64) (.cst .nils .unit))))), (.list 1 y_92 true (.pair (.i .i64) (.pair (.i .i64) (.pair (.i .i64) (.pair (.own 4 1 0 1) .unit))))), (.ints 1 y_91 true .u32)]
abbrev X_9a9_0 : Xs := (.one (.exit 0) [6, 7] (.us 6 (.cst (.ref 2 1 0) (.cst (.ref 3 1 0) (.us 30 .unit)))) [(.list 1 y_92 true (.pair (.i .i64) (.pair (.i .i64) (.pair (.i .i64) (.pair (.si .u32) .unit))))), (.ints 1 y_90 true .i64), (.list 1 y_92 true (.pair (.i .i64) (.pair (.i .i64) (.pair (.i .i64) (.cst .nils .unit))))), (.list 1 y_92 true (.pair (.i .i64) (.pair (.i .i64) (.pair (.i .i64) (.pair (.own 4 1 0 1) .unit))))), (.ints 1 y_91 true .u32)])
abbrev S_9a9_0 : Type := T ff_9a9_0 × TH hf_9a9_0
abbrev E_9a9_0 : Type := TX X_9a9_0
noncomputable def LB_9a9_0 : Lps := L0
noncomputable def st_9a9_0 : StepT S_9a9_0 E_9a9_0 := fun R v kn ko =>
 let x0 : Int := v.1.2.2.1
 let x1 : List Int := v.1.1
 let x2 : Nat := (Int.toNat x0)
 let x3 : List Int := v.2.1.2.2.2.1
 bif (decide (x0 < v.1.2.1)) then
 bif (decide (((0:Int) ≤ x0) ∧ (x0 < (((List.length x1) : Nat) : Int)))) then
 ((F_94f x0 (List.getD x1 x2 (0:Int)) (v.2.1.1, (v.2.1.2.1, (v.2.1.2.2.1, ((List.take (List.length x3) x3), ())))) v.2.2.1)).bind fun r4 =>
 let x5 : List Int := r4.2.1.2.2.2.1
 bif (decide (((0:Int) ≤ x0) ∧ (x0 < ((v.2.2.2.2.1.2.2.2.1 : Nat) : Int)))) then
 bif (decide (((0:Nat) + (x2 * (1:Nat))) < (List.length v.2.2.2.2.2.1))) then
 (kn (((List.take (List.length x1) x1), (v.1.2.1, ((IntKind.wrap .i64 (x0 + (1:Int))), ()))), ((r4.2.1.1, (r4.2.1.2.1, (r4.2.1.2.2.1, ((List.take (List.length x5) x5), ())))), (r4.2.2.1, (v.2.2.2.1, (v.2.2.2.2.1, ((List.set v.2.2.2.2.2.1 ((0:Nat) + (x2 * (1:Nat))) r4.1), ())))))))
 else
 none
 else
 none
 else
 none
 else
 (ko ((), ((v.2.1.1, (v.2.1.2.1, (v.2.1.2.2.1, ((List.take (List.length x3) x3), ())))), v.2.2)))
noncomputable def ls_9a9_0 : St → LTr := (lsum ff_9a9_0 hf_9a9_0 X_9a9_0 Prod.mk id st_9a9_0 (hd [] [] [2, 6, 7, 21, 22, 23] 2))
theorem lp_9a9_0 : LoopOk PR 2 (lpN f_95a 0) ls_9a9_0 := loopT okO_9a9 mixed (L := LB_9a9_0) (d := 1) (bs := []) (ks := [2, 6, 7, 21, 22, 23]) (loopsL (l := []) (by kernel_rfl) trivial) (by kernel_rfl) (inS := Prod.mk) (outS := id) (fun _ _ => rfl) (inX := id) (outX := id) (fun _ => rfl) (fun v R kn ko => by kernel_rfl) (hd_wk [] [] [2, 6, 7, 21, 22, 23] 2)
noncomputable def L_9a9 : Lps := (lpB 4 (.by_ ls_9a9_0) L0)
def inn_9a9 : T fr_9a9 → TH hr_9a9 → (Int × Int × Int × List Int × Unit) × ((Int × Int × Int × List Int × Unit) × List Int × Unit) := Prod.mk
def out_9a9 : (Int × Int × Int × List Int × Unit) × ((Int × Int × Int × List Int × Unit) × List Int × Unit) → T fr_9a9 × TH hr_9a9 := id
noncomputable def F_9a9 (a0 : Int × Int × Int × List Int × Unit) (a1 : Int) (a2 : Int × Int × Int × List Int × Unit) (a3 : List Int) : Option ((Int × Int × Int × List Int × Unit) × ((Int × Int × Int × List Int × Unit) × List Int × Unit)) :=
 let x0 : List Int := a0.2.2.2.1
 let x1 : Nat := (List.length x0)
 let x2 : Int := ((x1 : Nat) : Int)
 let x3 : Int := a2.2.2.1
 let x4 : List Int := a2.2.2.2.1
 let x5 : Nat := (Int.toNat x2)
 bif (decide (((0:Int) ≤ x2) ∧ (x2 ≤ (1073741824:Int)))) then
 ((lim st_9a9_0 (((List.take x1 x0), (x2, ((0:Int), ()))), ((a2.1, (a2.2.1, (x3, ((List.take (List.length x4) x4), ())))), (a3, (((0:Int), ((0:Int), ((0:Int), ()))), ((a0.1, (a0.2.1, (a1, (x5, ())))), ((List.replicate x5 (0:Int)), ())))))))).bind fun r6 =>
 let x7 : List Int := r6.2.1.2.2.2.1
 (some ((r6.2.2.2.2.1.1, (r6.2.2.2.2.1.2.1, (r6.2.2.2.2.1.2.2.1, ((List.take r6.2.2.2.2.1.2.2.2.1 (List.drop (0:Nat) r6.2.2.2.2.2.1)), ())))), ((r6.2.1.1, (r6.2.1.2.1, (r6.2.1.2.2.1, ((List.take (List.length x7) x7), ())))), (r6.2.2.1, ()))))
 else
 none
noncomputable def G_9a9 : T fa_9a9 → TH ha_9a9 → Option ((Int × Int × Int × List Int × Unit) × ((Int × Int × Int × List Int × Unit) × List Int × Unit)) := fun x y => F_9a9 x.1 x.2.1 y.1 y.2.1
noncomputable def c_9a9 : Orc := ent i_95a [false, false, true] 0 (sp fa_9a9 ha_9a9 fr_9a9 hr_9a9 G_9a9 out_9a9)
theorem ok_9a9 : OrcOk PR c_9a9 := fnT okO_9a9 mixed p_95a (by kernel_rfl) (by kernel_rfl) (L := L_9a9) (kp := false) (by kernel_rfl) (inn := inn_9a9) (out := out_9a9) (fun _ _ => rfl) (loopsL (l := [((lpN f_95a 0), ls_9a9_0)]) (by kernel_rfl) ⟨lp_9a9_0, trivial⟩) (fun x y => by kernel_rfl)
noncomputable def O_9aa : Orc := (orm c_947 (orm c_978 c_9a9))
theorem okO_9aa : OrcOk PR O_9aa := (orm_ok ok_947 (orm_ok ok_978 ok_9a9))
abbrev fa_9aa : Fm := (.pair (.agg (.pair (.i .i64) (.pair (.i .i64) (.pair (.i .i64) (.pair (.si .u32) .unit))))) (.pair (.i .i64) (.pair (.fn i_94f (.pair (.ref 0 1 0) (.pair (.ref 1 1 0) .unit))) .unit)))
abbrev ha_9aa : List BF := [(.list 1 y_92 true (.pair (.i .i64) (.pair (.i .i64) (.pair (.i .i64) (.pair (.si .u32) .unit))))), (.ints 1 y_90 true .i64)]
abbrev fr_9aa : Fm := (.tup (.pair (.agg (.pair (.i .i64) (.pair (.i .i64) (.pair (.i .i64) (.pair (.si .u32) .unit))))) (.pair (.i .i64) .unit)))
abbrev hr_9aa : List BF := [(.list 1 y_92 true (.pair (.i .i64) (.pair (.i .i64) (.pair (.i .i64) (.pair (.si .u32) .unit))))), (.ints 1 y_90 true .i64)]
def inn_9aa : T fr_9aa → TH hr_9aa → ((Int × Int × Int × List Int × Unit) × Int × Unit) × ((Int × Int × Int × List Int × Unit) × List Int × Unit) := Prod.mk
def out_9aa : ((Int × Int × Int × List Int × Unit) × Int × Unit) × ((Int × Int × Int × List Int × Unit) × List Int × Unit) → T fr_9aa × TH hr_9aa := id
noncomputable def F_9aa (a0 : Int × Int × Int × List Int × Unit) (a1 : Int) (a2 : Int × Int × Int × List Int × Unit) (a3 : List Int) : Option (((Int × Int × Int × List Int × Unit) × Int × Unit) × ((Int × Int × Int × List Int × Unit) × List Int × Unit)) :=
 let x0 : Int := a0.2.2.1
 let x1 : List Int := a0.2.2.2.1
 let x2 : Int := a2.2.2.1
 let x3 : List Int := a2.2.2.2.1
 ((F_947 (a0.1, (a0.2.1, (x0, ((List.take (List.length x1) x1), ())))))).bind fun r4 =>
 bif (!r4) then
 (some ((((0:Int), ((0:Int), ((0:Int), ([], ())))), ((21:Int), ())), ((a2.1, (a2.2.1, (x2, ((List.take (List.length x3) x3), ())))), (a3, ()))))
 else
 ((F_978 a1)).bind fun r5 =>
 bif (!r5) then
 (some ((((0:Int), ((0:Int), ((0:Int), ([], ())))), ((22:Int), ())), ((a2.1, (a2.2.1, (x2, ((List.take (List.length x3) x3), ())))), (a3, ()))))
 else
 ((F_9a9 (a0.1, (a0.2.1, (x0, ((List.take (List.length x1) x1), ())))) a1 (a2.1, (a2.2.1, (x2, ((List.take (List.length x3) x3), ())))) a3)).bind fun r6 =>
 let x7 : List Int := r6.1.2.2.2.1
 let x8 : List Int := r6.2.1.2.2.2.1
 (some (((r6.1.1, (r6.1.2.1, (r6.1.2.2.1, ((List.take (List.length x7) x7), ())))), ((0:Int), ())), ((r6.2.1.1, (r6.2.1.2.1, (r6.2.1.2.2.1, ((List.take (List.length x8) x8), ())))), r6.2.2)))
noncomputable def G_9aa : T fa_9aa → TH ha_9aa → Option (((Int × Int × Int × List Int × Unit) × Int × Unit) × ((Int × Int × Int × List Int × Unit) × List Int × Unit)) := fun x y => F_9aa x.1 x.2.1 y.1 y.2.1
noncomputable def c_9aa : Orc := ent i_94e [false, false, true] 0 (sp fa_9aa ha_9aa fr_9aa hr_9aa G_9aa out_9aa)
theorem ok_9aa : OrcOk PR c_9aa := fnT okO_9aa mixed p_94e (by kernel_rfl) (by kernel_rfl) (L := L0) (kp := false) (by kernel_rfl) (inn := inn_9aa) (out := out_9aa) (fun _ _ => rfl) (loopsL (l := []) (by kernel_rfl) trivial) (fun x y => by kernel_rfl)
noncomputable def O_925 : Orc := (orm c_9aa c_94f)
theorem okO_925 : OrcOk PR O_925 := (orm_ok ok_9aa ok_94f)
abbrev fa_925 : Fm := (.pair (.agg (.pair (.i .i64) (.pair (.i .i64) (.pair (.i .i64) (.pair (.si .u32) .unit))))) (.pair (.i .i64) .unit))
abbrev fr_925 : Fm := (.tup (.pair (.agg (.pair (.i .i64) (.pair (.i .i64) (.pair (.i .i64) (.pair (.si .u32) .unit))))) (.pair (.i .i64) .unit)))
noncomputable def F_925 (a0 : Int × Int × Int × List Int × Unit) (a1 : Int) : Option ((Int × Int × Int × List Int × Unit) × Int × Unit) :=
 let x0 : Int := a0.2.2.1
 let x1 : List Int := a0.2.2.2.1
 ((F_9aa (a0.1, (a0.2.1, (x0, ((List.take (List.length x1) x1), ())))) (List.getD [a1] (0:Nat) (0:Int)) (a0.1, (a0.2.1, (x0, ((List.take (List.length x1) x1), ())))) [a1])).bind fun r2 =>
 let x3 : List Int := r2.1.1.2.2.2.1
 (some ((r2.1.1.1, (r2.1.1.2.1, (r2.1.1.2.2.1, ((List.take (List.length x3) x3), ())))), r2.1.2))
noncomputable def G_925 : T fa_925 → TH hN0 → Option ((Int × Int × Int × List Int × Unit) × Int × Unit) := fun x y => F_925 x.1 x.2.1
noncomputable def c_925 : Orc := ent i_925 [] 0 (sp fa_925 hN0 fr_925 hN0 G_925 (outN fr_925))
theorem ok_925 : OrcOk PR c_925 := fnT okO_925 mixed p_925 (by kernel_rfl) (by kernel_rfl) (L := L0) (kp := false) (by kernel_rfl) (inn := (innN fr_925)) (out := (outN fr_925)) (fun _ _ => rfl) (loopsL (l := []) (by kernel_rfl) trivial) (fun x y => by kernel_rfl)
noncomputable def O_94a : Orc := c_925
theorem okO_94a : OrcOk PR O_94a := ok_925
abbrev fa_94a : Fm := (.pair (.agg (.pair (.si .i64) (.pair (.i .i64) (.pair (.i .i64) (.pair (.i .i64) (.pair (.i .i64) (.pair (.i .i64) (.pair (.i .u32) (.pair (.i .u32) (.pair (.i .u32) (.pair (.i .u32) (.pair (.i .u32) (.pair (.i .u32) (.pair (.i .i64) (.pair (.i .i64) (.pair (.i .i64) (.pair (.i .i64) (.pair (.i .u64) (.pair (.i .u32) (.pair .b (.pair (.i .i64) (.pair (.i .i64) (.pair (.i .i64) (.pair (.i .i64) (.pair (.i .i64) (.pair (.i .i64) (.pair (.i .i64) .unit))))))))))))))))))))))))))) (.pair (.agg (.pair (.i .i64) (.pair (.i .i64) (.pair (.i .i64) (.pair (.si .u32) .unit))))) (.pair (.i .i64) .unit)))
abbrev fr_94a : Fm := (.tup (.pair (.agg (.pair (.i .i64) (.pair (.i .i64) (.pair (.i .i64) (.pair (.si .u32) .unit))))) (.pair (.i .i64) .unit)))
noncomputable def F_94a (a0 : List Int × Int × Int × Int × Int × Int × Int × Int × Int × Int × Int × Int × Int × Int × Int × Int × Int × Int × Bool × Int × Int × Int × Int × Int × Int × Int × Unit) (a1 : Int × Int × Int × List Int × Unit) (a2 : Int) : Option ((Int × Int × Int × List Int × Unit) × Int × Unit) :=
 let x0 : Int := a1.2.2.1
 let x1 : List Int := a1.2.2.2.1
 bif (a2 != (0:Int)) then
 (some (((0:Int), ((0:Int), ((0:Int), ([], ())))), (a2, ())))
 else
 ((F_925 (a1.1, (a1.2.1, (x0, ((List.take (List.length x1) x1), ())))) a0.2.1)).bind fun r2 =>
 let x3 : Int := r2.1.2.1
 let x4 : Int := r2.1.2.2.1
 let x5 : List Int := r2.1.2.2.2.1
 (some ((r2.1.1, (x3, (x4, ((List.take (List.length x5) x5), ())))), r2.2))
noncomputable def G_94a : T fa_94a → TH hN0 → Option ((Int × Int × Int × List Int × Unit) × Int × Unit) := fun x y => F_94a x.1 x.2.1 x.2.2.1
noncomputable def c_94a : Orc := ent i_94a [] 0 (sp fa_94a hN0 fr_94a hN0 G_94a (outN fr_94a))
theorem ok_94a : OrcOk PR c_94a := fnT okO_94a mixed p_94a (by kernel_rfl) (by kernel_rfl) (L := L0) (kp := false) (by kernel_rfl) (inn := (innN fr_94a)) (out := (outN fr_94a)) (fun _ _ => rfl) (loopsL (l := []) (by kernel_rfl) trivial) (fun x y => by kernel_rfl)
noncomputable def O_922 : Orc := (orm c_948 (orm c_949 c_94a))
theorem okO_922 : OrcOk PR O_922 := (orm_ok ok_948 (orm_ok ok_949 ok_94a))
abbrev fa_922 : Fm := (.pair (.agg (.pair (.si .i64) (.pair (.i .i64) (.pair (.i .i64) (.pair (.i .i64) (.pair (.i .i64) (.pair (.i .i64) (.pair (.i .u32) (.pair (.i .u32) (.pair (.i .u32) (.pair (.i .u32) (.pair (.i .u32) (.pair (.i .u32) (.pair (.i .i64) (.pair (.i .i64) (.pair (.i .i64) (.pair (.i .i64) (.pair (.i .u64) (.pair (.i .u32) (.pair .b (.pair (.i .i64) (.pair (.i .i64) (.pair (.i .i64) (.pair (.i .i64) (.pair (.i .i64) (.pair (.i .i64) (.pair (.i .i64) .unit))))))))))))))))))))))))))) (.pair (.agg (.pair (.i .i64) (.pair (.i .i64) (.pair (.i .i64) (.pair (.si .u32) .unit))))) (.pair (.agg (.pair (.i .i64) (.pair (.i .i64) (.pair (.i .i64) (.pair (.si .u32) .unit))))) (.pair (.agg (.pair (.i .i64) (.pair (.i .i64) (.pair (.i .i64) (.pair (.si .u32) .unit))))) .unit))))
abbrev fr_922 : Fm := (.tup (.pair (.agg (.pair (.i .i64) (.pair (.i .i64) (.pair (.i .i64) (.pair (.si .u32) .unit))))) (.pair (.i .i64) .unit)))
noncomputable def F_922 (a0 : List Int × Int × Int × Int × Int × Int × Int × Int × Int × Int × Int × Int × Int × Int × Int × Int × Int × Int × Bool × Int × Int × Int × Int × Int × Int × Int × Unit) (a1 : Int × Int × Int × List Int × Unit) (a2 : Int × Int × Int × List Int × Unit) (a3 : Int × Int × Int × List Int × Unit) : Option ((Int × Int × Int × List Int × Unit) × Int × Unit) :=
 let x0 : Int := a1.2.2.1
 let x1 : List Int := a1.2.2.2.1
 let x2 : Int := a2.2.2.1
 let x3 : List Int := a2.2.2.2.1
 let x4 : Int := a3.2.2.1
 let x5 : List Int := a3.2.2.2.1
 ((F_948 (a1.1, (a1.2.1, (x0, ((List.take (List.length x1) x1), ())))) (a2.1, (a2.2.1, (x2, ((List.take (List.length x3) x3), ())))))).bind fun r6 =>
 let x7 : Int := r6.1.2.1
 let x8 : Int := r6.1.2.2.1
 let x9 : List Int := r6.1.2.2.2.1
 bif (r6.2.1 != (0:Int)) then
 (some (((0:Int), ((0:Int), ((0:Int), ([], ())))), r6.2))
 else
 ((F_949 (r6.1.1, (x7, (x8, ((List.take (List.length x9) x9), ())))) (a3.1, (a3.2.1, (x4, ((List.take (List.length x5) x5), ())))))).bind fun r10 =>
 let x11 : Int := r10.1.2.1
 let x12 : Int := r10.1.2.2.1
 let x13 : List Int := r10.1.2.2.2.1
 ((F_94a ((List.take (List.length a0.1) a0.1), a0.2) (r10.1.1, (x11, (x12, ((List.take (List.length x13) x13), ())))) r10.2.1)).bind fun r14 =>
 let x15 : Int := r14.1.2.1
 let x16 : Int := r14.1.2.2.1
 let x17 : List Int := r14.1.2.2.2.1
 (some ((r14.1.1, (x15, (x16, ((List.take (List.length x17) x17), ())))), r14.2))
noncomputable def G_922 : T fa_922 → TH hN0 → Option ((Int × Int × Int × List Int × Unit) × Int × Unit) := fun x y => F_922 x.1 x.2.1 x.2.2.1 x.2.2.2.1
noncomputable def c_922 : Orc := ent i_922 [] 0 (sp fa_922 hN0 fr_922 hN0 G_922 (outN fr_922))
theorem ok_922 : OrcOk PR c_922 := fnT okO_922 mixed p_922 (by kernel_rfl) (by kernel_rfl) (L := L0) (kp := false) (by kernel_rfl) (inn := (innN fr_922)) (out := (outN fr_922)) (fun _ _ => rfl) (loopsL (l := []) (by kernel_rfl) trivial) (fun x y => by kernel_rfl)
noncomputable def O_927 : Orc := orn
theorem okO_927 : OrcOk PR O_927 := (orn_ok _)
abbrev fa_927 : Fm := (.pair (.i .u32) (.pair (.i .i64) (.pair (.i .i64) .unit)))
abbrev fr_927 : Fm := (.i .u32)
noncomputable def F_927 (a0 : Int) (a1 : Int) (a2 : Int) : Option (Int) :=
 (some (IntKind.wrap .u32 ((IntKind.wrap .u32 (a0 + (IntKind.wrap .u32 ((IntKind.wrap .u32 a1) * (64:Int))))) + (IntKind.wrap .u32 a2))))
noncomputable def G_927 : T fa_927 → TH hN0 → Option (Int) := fun x y => F_927 x.1 x.2.1 x.2.2.1
noncomputable def c_927 : Orc := ent i_927 [] 0 (sp fa_927 hN0 fr_927 hN0 G_927 (outN fr_927))
theorem ok_927 : OrcOk PR c_927 := fnT okO_927 mixed p_927 (by kernel_rfl) (by kernel_rfl) (L := L0) (kp := false) (by kernel_rfl) (inn := (innN fr_927)) (out := (outN fr_927)) (fun _ _ => rfl) (loopsL (l := []) (by kernel_rfl) trivial) (fun x y => by kernel_rfl)
noncomputable def O_923 : Orc := (orm c_94b (orm c_927 (orm c_94c (orm c_94d c_94a))))
theorem okO_923 : OrcOk PR O_923 := (orm_ok ok_94b (orm_ok ok_927 (orm_ok ok_94c (orm_ok ok_94d ok_94a))))
abbrev fa_923 : Fm := (.pair (.agg (.pair (.si .i64) (.pair (.i .i64) (.pair (.i .i64) (.pair (.i .i64) (.pair (.i .i64) (.pair (.i .i64) (.pair (.i .u32) (.pair (.i .u32) (.pair (.i .u32) (.pair (.i .u32) (.pair (.i .u32) (.pair (.i .u32) (.pair (.i .i64) (.pair (.i .i64) (.pair (.i .i64) (.pair (.i .i64) (.pair (.i .u64) (.pair (.i .u32) (.pair .b (.pair (.i .i64) (.pair (.i .i64) (.pair (.i .i64) (.pair (.i .i64) (.pair (.i .i64) (.pair (.i .i64) (.pair (.i .i64) .unit))))))))))))))))))))))))))) (.pair (.agg (.pair (.i .i64) (.pair (.i .i64) (.pair (.i .i64) (.pair (.si .u32) .unit))))) (.pair (.i .i64) (.pair (.i .i64) .unit))))
abbrev fr_923 : Fm := (.tup (.pair (.agg (.pair (.i .i64) (.pair (.i .i64) (.pair (.i .i64) (.pair (.si .u32) .unit))))) (.pair (.agg (.pair (.i .i64) (.pair (.i .i64) (.pair (.i .i64) (.pair (.si .u32) .unit))))) (.pair (.i .i64) .unit))))
noncomputable def F_923 (a0 : List Int × Int × Int × Int × Int × Int × Int × Int × Int × Int × Int × Int × Int × Int × Int × Int × Int × Int × Bool × Int × Int × Int × Int × Int × Int × Int × Unit) (a1 : Int × Int × Int × List Int × Unit) (a2 : Int) (a3 : Int) : Option ((Int × Int × Int × List Int × Unit) × (Int × Int × Int × List Int × Unit) × Int × Unit) :=
 let x0 : Int := a0.2.2.1
 let x1 : Int := a1.2.2.1
 let x2 : List Int := a1.2.2.2.1
 let x3 : Int := a0.2.2.2.2.2.2.2.2.2.2.2.2.2.2.2.2.2.1
 let x4 : Int := a0.2.2.2.2.2.2.2.2.2.2.2.2.2.2.2.2.1
 ((F_94b x0 (a1.1, (a1.2.1, (x1, ((List.take (List.length x2) x2), ())))))).bind fun r5 =>
 let x6 : Int := r5.1.2.1
 let x7 : Int := r5.1.2.2.1
 let x8 : List Int := r5.1.2.2.2.1
 bif (r5.2.1 != (0:Int)) then
 (some ((r5.1.1, (x6, (x7, ((List.take (List.length x8) x8), ())))), (((0:Int), ((0:Int), ((0:Int), ([], ())))), r5.2)))
 else
 bif (decide (a2 < (0:Int))) then
 (some ((r5.1.1, (x6, (x7, ((List.take (List.length x8) x8), ())))), (((0:Int), ((0:Int), ((0:Int), ([], ())))), r5.2)))
 else
 bif (x3 == (0:Int)) then
 (some ((r5.1.1, (x6, (x7, ((List.take (List.length x8) x8), ())))), (((0:Int), ((0:Int), ((0:Int), ([], ())))), r5.2)))
 else
 ((F_94c a1.1 a1.2.1 x3 x4 (IntKind.wrap .u32 ((IntKind.wrap .u32 ((2147483648:Int) + (IntKind.wrap .u32 ((IntKind.wrap .u32 a2) * (64:Int))))) + (IntKind.wrap .u32 a3))))).bind fun r9 =>
 let x10 : Int := r9.2.2.1
 let x11 : List Int := r9.2.2.2.1
 ((F_94d (r5.1.1, (x6, (x7, ((List.take (List.length x8) x8), ())))) (r9.1, (r9.2.1, (x10, ((List.take (List.length x11) x11), ())))))).bind fun r12 =>
 let x13 : Int := r12.1.2.1
 let x14 : Int := r12.1.2.2.1
 let x15 : List Int := r12.1.2.2.2.1
 ((F_94a ((List.take (List.length a0.1) a0.1), a0.2) (r12.1.1, (x13, (x14, ((List.take (List.length x15) x15), ())))) r12.2.1)).bind fun r16 =>
 let x17 : Int := r16.1.2.1
 let x18 : Int := r16.1.2.2.1
 let x19 : List Int := r16.1.2.2.2.1
 (some ((r16.1.1, (x17, (x18, ((List.take (List.length x19) x19), ())))), ((r9.1, (r9.2.1, (x10, ((List.take (List.length x11) x11), ())))), r16.2)))
noncomputable def G_923 : T fa_923 → TH hN0 → Option ((Int × Int × Int × List Int × Unit) × (Int × Int × Int × List Int × Unit) × Int × Unit) := fun x y => F_923 x.1 x.2.1 x.2.2.1 x.2.2.2.1
noncomputable def c_923 : Orc := ent i_923 [] 0 (sp fa_923 hN0 fr_923 hN0 G_923 (outN fr_923))
theorem ok_923 : OrcOk PR c_923 := fnT okO_923 mixed p_923 (by kernel_rfl) (by kernel_rfl) (L := L0) (kp := false) (by kernel_rfl) (inn := (innN fr_923)) (out := (outN fr_923)) (fun _ _ => rfl) (loopsL (l := []) (by kernel_rfl) trivial) (fun x y => by kernel_rfl)
noncomputable def O_924 : Orc := orn
theorem okO_924 : OrcOk PR O_924 := (orn_ok _)
abbrev fa_924 : Fm := (.pair (.agg (.pair (.i .i64) (.pair (.i .i64) (.pair (.i .i64) (.pair (.si .u32) .unit))))) .unit)
abbrev fr_924 : Fm := (.agg (.pair (.i .i64) (.pair (.i .i64) (.pair (.i .i64) (.pair (.si .u32) .unit)))))
noncomputable def F_924 (a0 : Int × Int × Int × List Int × Unit) : Option (Int × Int × Int × List Int × Unit) :=
 let x0 : Int := a0.2.2.1
 let x1 : List Int := a0.2.2.2.1
 let x2 : Nat := (List.length x1)
 bif (decide (((0:Nat) + x2) ≤ (1073741824:Nat))) then
 (some (a0.1, (a0.2.1, (x0, ((List.take ((0:Nat) + x2) (List.drop (0:Nat) ([] ++ (List.take x2 x1)))), ())))))
 else
 none
noncomputable def G_924 : T fa_924 → TH hN0 → Option (Int × Int × Int × List Int × Unit) := fun x y => F_924 x.1
noncomputable def c_924 : Orc := ent i_924 [] 0 (sp fa_924 hN0 fr_924 hN0 G_924 (outN fr_924))
theorem ok_924 : OrcOk PR c_924 := fnT okO_924 mixed p_924 (by kernel_rfl) (by kernel_rfl) (L := L0) (kp := false) (by kernel_rfl) (inn := (innN fr_924)) (out := (outN fr_924)) (fun _ _ => rfl) (loopsL (l := []) (by kernel_rfl) trivial) (fun x y => by kernel_rfl)
noncomputable def O_92e : Orc := orn
theorem okO_92e : OrcOk PR O_92e := (orn_ok _)
abbrev fa_92e : Fm := (.pair (.agg (.pair (.si .i64) (.pair (.i .i64) (.pair (.i .i64) (.pair (.i .i64) (.pair (.i .i64) (.pair (.i .i64) (.pair (.i .u32) (.pair (.i .u32) (.pair (.i .u32) (.pair (.i .u32) (.pair (.i .u32) (.pair (.i .u32) (.pair (.i .i64) (.pair (.i .i64) (.pair (.i .i64) (.pair (.i .i64) (.pair (.i .u64) (.pair (.i .u32) (.pair .b (.pair (.i .i64) (.pair (.i .i64) (.pair (.i .i64) (.pair (.i .i64) (.pair (.i .i64) (.pair (.i .i64) (.pair (.i .i64) .unit))))))))))))))))))))))))))) .unit)
abbrev fr_92e : Fm := (.i .i64)
noncomputable def F_92e (a0 : List Int × Int × Int × Int × Int × Int × Int × Int × Int × Int × Int × Int × Int × Int × Int × Int × Int × Int × Bool × Int × Int × Int × Int × Int × Int × Int × Unit) : Option (Int) :=
 (some (IntKind.wrap .i64 ((((List.length a0.1) : Nat) : Int) - (1:Int))))
noncomputable def G_92e : T fa_92e → TH hN0 → Option (Int) := fun x y => F_92e x.1
noncomputable def c_92e : Orc := ent i_92e [] 0 (sp fa_92e hN0 fr_92e hN0 G_92e (outN fr_92e))
theorem ok_92e : OrcOk PR c_92e := fnT okO_92e mixed p_92e (by kernel_rfl) (by kernel_rfl) (L := L0) (kp := false) (by kernel_rfl) (inn := (innN fr_92e)) (out := (outN fr_92e)) (fun _ _ => rfl) (loopsL (l := []) (by kernel_rfl) trivial) (fun x y => by kernel_rfl)
noncomputable def O_920 : Orc := c_947
theorem okO_920 : OrcOk PR O_920 := ok_947
abbrev fa_920 : Fm := (.pair (.agg (.pair (.i .i64) (.pair (.i .i64) (.pair (.i .i64) (.pair (.si .u32) .unit))))) (.pair (.i .i64) (.pair (.i .i64) (.pair (.i .i64) .unit))))
abbrev fr_920 : Fm := .b
noncomputable def F_920 (a0 : Int × Int × Int × List Int × Unit) (a1 : Int) (a2 : Int) (a3 : Int) : Option (Bool) :=
 let x0 : Int := a0.2.2.1
 let x1 : List Int := a0.2.2.2.1
 bif (a0.1 == a1) then
 bif (a0.2.1 == a2) then
 bif (x0 == a3) then
 ((F_947 (a0.1, (a0.2.1, (x0, ((List.take (List.length x1) x1), ())))))).bind fun r2 =>
 (some r2)
 else
 (some false)
 else
 (some false)
 else
 (some false)
noncomputable def G_920 : T fa_920 → TH hN0 → Option (Bool) := fun x y => F_920 x.1 x.2.1 x.2.2.1 x.2.2.2.1
noncomputable def c_920 : Orc := ent i_920 [] 0 (sp fa_920 hN0 fr_920 hN0 G_920 (outN fr_920))
theorem ok_920 : OrcOk PR c_920 := fnT okO_920 mixed p_920 (by kernel_rfl) (by kernel_rfl) (L := L0) (kp := false) (by kernel_rfl) (inn := (innN fr_920)) (out := (outN fr_920)) (fun _ _ => rfl) (loopsL (l := []) (by kernel_rfl) trivial) (fun x y => by kernel_rfl)
noncomputable def O_915 : Orc := (orm c_92e c_920)
theorem okO_915 : OrcOk PR O_915 := (orm_ok ok_92e ok_920)
abbrev fa_915 : Fm := (.pair (.agg (.pair (.si .i64) (.pair (.i .i64) (.pair (.i .i64) (.pair (.i .i64) (.pair (.i .i64) (.pair (.i .i64) (.pair (.i .u32) (.pair (.i .u32) (.pair (.i .u32) (.pair (.i .u32) (.pair (.i .u32) (.pair (.i .u32) (.pair (.i .i64) (.pair (.i .i64) (.pair (.i .i64) (.pair (.i .i64) (.pair (.i .u64) (.pair (.i .u32) (.pair .b (.pair (.i .i64) (.pair (.i .i64) (.pair (.i .i64) (.pair (.i .i64) (.pair (.i .i64) (.pair (.i .i64) (.pair (.i .i64) .unit))))))))))))))))))))))))))) (.pair (.sr (.pair (.pair (.i .i64) (.pair (.i .i64) (.pair (.i .i64) (.pair (.si .u32) .unit)))) (.pair (.pair (.i .i64) (.pair (.i .i64) (.pair (.i .i64) (.pair (.si .u32) .unit)))) .unit)) 8) .unit))
abbrev fr_915 : Fm := .b
abbrev ff_915_0 : Fm := (.us 2 (.cst (.ref 0 1 0) (.us 11 (.pair (.sr (.rep 2 (.pair (.i .i64) (.pair (.i .i64) (.pair (.i .i64) (.pair (.si .u32) .unit))))) 8) (.pair (.i .i64) (.pair (.i .i64) (.us 29 .unit)))))))
abbrev hf_915_0 : List BF := [(.list 1 y_95 true (.pair (.si .i64) (.pair (.i .i64) (.pair (.i .i64) (.pair (.i .i64) (.pair (.i .i64) (.pair (.i .i64) (.pair (.i .u32) (.pair (.i .u32) (.pair (.i .u32) (.pair (.i .u32) (.pair (.i .u32) (.pair (.i .u32) (.pair (.i .i64) (.pair (.i .i64) (.pair (.i .i64) (.pair (.i .i64) (.pair (.i .u64) (.pair (.i .u32) (.pair .b (.pair (.i .i64) (.pair (.i .i64) (.pair (.i .i64) (.pair (.i .i64) (.pair (.i .i64) (.pair (.i .i64) (.pair (.i .i64) .unit)))))))))))))))))))))))))))]
abbrev X_915_0 : Xs := (.alt (.exit 0) [] (.us 46 .unit) [] (.one .ret [4] (.us 4 (.pair .b (.us 41 .unit))) []))
abbrev S_915_0 : Type := T ff_915_0 × TH hf_915_0
abbrev E_915_0 : Type := TX X_915_0
noncomputable def LB_915_0 : Lps := L0
noncomputable def st_915_0 : StepT S_915_0 E_915_0 := fun R v kn ko =>
 let x0 : List (T (Fm.rep 2 ((Fm.i IntKind.i64).pair ((Fm.i IntKind.i64).pair ((Fm.i IntKind.i64).pair ((Fm.si IntKind.u32).pair Fm.unit)))))) := v.1.1
 let x1 : Int := v.1.2.2.1
 let x2 : Nat := (Int.toNat x1)
 let x3 : List (T ((Fm.i IntKind.i64).pair ((Fm.i IntKind.i64).pair ((Fm.i IntKind.i64).pair ((Fm.si IntKind.u32).pair Fm.unit))))) := (List.getD x0 x2 [])
 let x4 : List Int := (List.getD x3 (0:Nat) ((0:Int), ((0:Int), ((0:Int), ([], ()))))).2.2.2.1
 let x5 : List Int := v.2.1.1
 let x6 : Int := (IntKind.wrap .i64 (x1 + (1:Int)))
 let x7 : Int := (List.getD x5 (Int.toNat x6) (0:Int))
 let x8 : List Int := (List.getD x3 (1:Nat) ((0:Int), ((0:Int), ((0:Int), ([], ()))))).2.2.2.1
 let x9 : Nat := (List.length x0)
 bif (decide (x1 < v.1.2.1)) then
 bif (decide (((0:Int) ≤ x1) ∧ (x1 < ((x9 : Nat) : Int)))) then
 bif (decide (((0:Int) ≤ x1) ∧ (x1 < (((List.length x5) : Nat) : Int)))) then
 bif (decide (((0:Int) ≤ x6) ∧ (x6 < (((List.length x5) : Nat) : Int)))) then
 ((F_920 ((List.getD x3 (0:Nat) ((0:Int), ((0:Int), ((0:Int), ([], ()))))).1, ((List.getD x3 (0:Nat) ((0:Int), ((0:Int), ((0:Int), ([], ()))))).2.1, ((List.getD x3 (0:Nat) ((0:Int), ((0:Int), ((0:Int), ([], ()))))).2.2.1, ((List.take (List.length x4) x4), ())))) x7 (List.getD x5 x2 (0:Int)) (2:Int))).bind fun r10 =>
 bif (!r10) then
 (ko (Sum.inr ((false, ()), ())))
 else
 ((F_920 ((List.getD x3 (1:Nat) ((0:Int), ((0:Int), ((0:Int), ([], ()))))).1, ((List.getD x3 (1:Nat) ((0:Int), ((0:Int), ((0:Int), ([], ()))))).2.1, ((List.getD x3 (1:Nat) ((0:Int), ((0:Int), ((0:Int), ([], ()))))).2.2.1, ((List.take (List.length x8) x8), ())))) (1:Int) x7 (2:Int))).bind fun r11 =>
 bif (!r11) then
 (ko (Sum.inr ((false, ()), ())))
 else
 bif (((allR x9 (fun j12 => true)) && true) && true) then
 (kn (((rowsOf x9 (fun j13 => [((List.getD (List.getD x0 j13 []) (0:Nat) ((0:Int), ((0:Int), ((0:Int), ([], ()))))).1, ((List.getD (List.getD x0 j13 []) (0:Nat) ((0:Int), ((0:Int), ((0:Int), ([], ()))))).2.1, ((List.getD (List.getD x0 j13 []) (0:Nat) ((0:Int), ((0:Int), ((0:Int), ([], ()))))).2.2.1, ((List.take (List.length (List.getD (List.getD x0 j13 []) (0:Nat) ((0:Int), ((0:Int), ((0:Int), ([], ()))))).2.2.2.1) (List.getD (List.getD x0 j13 []) (0:Nat) ((0:Int), ((0:Int), ((0:Int), ([], ()))))).2.2.2.1), ())))), ((List.getD (List.getD x0 j13 []) (1:Nat) ((0:Int), ((0:Int), ((0:Int), ([], ()))))).1, ((List.getD (List.getD x0 j13 []) (1:Nat) ((0:Int), ((0:Int), ((0:Int), ([], ()))))).2.1, ((List.getD (List.getD x0 j13 []) (1:Nat) ((0:Int), ((0:Int), ((0:Int), ([], ()))))).2.2.1, ((List.take (List.length (List.getD (List.getD x0 j13 []) (1:Nat) ((0:Int), ((0:Int), ((0:Int), ([], ()))))).2.2.2.1) (List.getD (List.getD x0 j13 []) (1:Nat) ((0:Int), ((0:Int), ((0:Int), ([], ()))))).2.2.2.1), ()))))])), (v.1.2.1, (x6, ()))), (((List.take (List.length x5) x5), v.2.1.2), ())))
 else
 none
 else
 none
 else
 none
 else
 none
 else
 (ko (Sum.inl ((), ())))
noncomputable def ls_915_0 : St → LTr := (lsum ff_915_0 hf_915_0 X_915_0 Prod.mk id st_915_0 (hd [] [] [2, 14, 15, 16] 0))
theorem lp_915_0 : LoopOk PR 0 (lpN f_915 0) ls_915_0 := loopT okO_915 mixed (L := LB_915_0) (d := 1) (bs := []) (ks := [2, 14, 15, 16]) (loopsL (l := []) (by kernel_rfl) trivial) (by kernel_rfl) (inS := Prod.mk) (outS := id) (fun _ _ => rfl) (inX := id) (outX := id) (fun _ => rfl) (fun v R kn ko => by kernel_rfl) (hd_wk [] [] [2, 14, 15, 16] 0)
noncomputable def L_915 : Lps := (lpB 5 (.by_ ls_915_0) L0)
noncomputable def F_915 (a0 : List Int × Int × Int × Int × Int × Int × Int × Int × Int × Int × Int × Int × Int × Int × Int × Int × Int × Int × Bool × Int × Int × Int × Int × Int × Int × Int × Unit) (a1 : List ((Int × Int × Int × List Int × Unit) × (Int × Int × Int × List Int × Unit) × Unit)) : Option (Bool) :=
 let x0 : List Int := (List.take (List.length a0.1) a0.1)
 bif ((((List.length a1) : Nat) : Int) != (IntKind.wrap .i64 ((((List.length x0) : Nat) : Int) - (1:Int)))) then
 (some false)
 else
 bif (((allR (List.length a1) (fun j1 => true)) && true) && true) then
 ((lim st_915_0 (((rowsOf (List.length a1) (fun j2 => [((List.getD a1 j2 (((0:Int), ((0:Int), ((0:Int), ([], ())))), (((0:Int), ((0:Int), ((0:Int), ([], ())))), ()))).1.1, ((List.getD a1 j2 (((0:Int), ((0:Int), ((0:Int), ([], ())))), (((0:Int), ((0:Int), ((0:Int), ([], ())))), ()))).1.2.1, ((List.getD a1 j2 (((0:Int), ((0:Int), ((0:Int), ([], ())))), (((0:Int), ((0:Int), ((0:Int), ([], ())))), ()))).1.2.2.1, ((List.take (List.length (List.getD a1 j2 (((0:Int), ((0:Int), ((0:Int), ([], ())))), (((0:Int), ((0:Int), ((0:Int), ([], ())))), ()))).1.2.2.2.1) (List.getD a1 j2 (((0:Int), ((0:Int), ((0:Int), ([], ())))), (((0:Int), ((0:Int), ((0:Int), ([], ())))), ()))).1.2.2.2.1), ())))), ((List.getD a1 j2 (((0:Int), ((0:Int), ((0:Int), ([], ())))), (((0:Int), ((0:Int), ((0:Int), ([], ())))), ()))).2.1.1, ((List.getD a1 j2 (((0:Int), ((0:Int), ((0:Int), ([], ())))), (((0:Int), ((0:Int), ((0:Int), ([], ())))), ()))).2.1.2.1, ((List.getD a1 j2 (((0:Int), ((0:Int), ((0:Int), ([], ())))), (((0:Int), ((0:Int), ((0:Int), ([], ())))), ()))).2.1.2.2.1, ((List.take (List.length (List.getD a1 j2 (((0:Int), ((0:Int), ((0:Int), ([], ())))), (((0:Int), ((0:Int), ((0:Int), ([], ())))), ()))).2.1.2.2.2.1) (List.getD a1 j2 (((0:Int), ((0:Int), ((0:Int), ([], ())))), (((0:Int), ((0:Int), ((0:Int), ([], ())))), ()))).2.1.2.2.2.1), ()))))])), ((((List.length a1) : Nat) : Int), ((0:Int), ()))), ((x0, a0.2), ())))).bind fun r3 =>
 els (fun l4 =>
 (some true)) (fun r5 =>
 (some r5.1.1)) r3
 else
 none
noncomputable def G_915 : T fa_915 → TH hN0 → Option (Bool) := fun x y => F_915 x.1 x.2.1
noncomputable def c_915 : Orc := ent i_915 [] 0 (sp fa_915 hN0 fr_915 hN0 G_915 (outN fr_915))
theorem ok_915 : OrcOk PR c_915 := fnT okO_915 mixed p_915 (by kernel_rfl) (by kernel_rfl) (L := L_915) (kp := false) (by kernel_rfl) (inn := (innN fr_915)) (out := (outN fr_915)) (fun _ _ => rfl) (loopsL (l := [((lpN f_915 0), ls_915_0)]) (by kernel_rfl) ⟨lp_915_0, trivial⟩) (fun x y => by kernel_rfl)
noncomputable def O_91f : Orc := (orm c_92e c_920)
theorem okO_91f : OrcOk PR O_91f := (orm_ok ok_92e ok_920)
abbrev fa_91f : Fm := (.pair (.agg (.pair (.si .i64) (.pair (.i .i64) (.pair (.i .i64) (.pair (.i .i64) (.pair (.i .i64) (.pair (.i .i64) (.pair (.i .u32) (.pair (.i .u32) (.pair (.i .u32) (.pair (.i .u32) (.pair (.i .u32) (.pair (.i .u32) (.pair (.i .i64) (.pair (.i .i64) (.pair (.i .i64) (.pair (.i .i64) (.pair (.i .u64) (.pair (.i .u32) (.pair .b (.pair (.i .i64) (.pair (.i .i64) (.pair (.i .i64) (.pair (.i .i64) (.pair (.i .i64) (.pair (.i .i64) (.pair (.i .i64) .unit))))))))))))))))))))))))))) (.pair (.sr (.pair (.i .i64) (.pair (.i .i64) (.pair (.i .i64) (.pair (.si .u32) .unit)))) 4) .unit))
abbrev fr_91f : Fm := .b
abbrev ff_91f_0 : Fm := (.us 2 (.cst (.ref 0 1 0) (.us 9 (.pair (.sr (.pair (.i .i64) (.pair (.i .i64) (.pair (.i .i64) (.pair (.si .u32) .unit)))) 4) (.pair (.i .i64) (.pair (.i .i64) (.us 21 .unit)))))))
abbrev hf_91f_0 : List BF := [(.list 1 y_95 true (.pair (.si .i64) (.pair (.i .i64) (.pair (.i .i64) (.pair (.i .i64) (.pair (.i .i64) (.pair (.i .i64) (.pair (.i .u32) (.pair (.i .u32) (.pair (.i .u32) (.pair (.i .u32) (.pair (.i .u32) (.pair (.i .u32) (.pair (.i .i64) (.pair (.i .i64) (.pair (.i .i64) (.pair (.i .i64) (.pair (.i .u64) (.pair (.i .u32) (.pair .b (.pair (.i .i64) (.pair (.i .i64) (.pair (.i .i64) (.pair (.i .i64) (.pair (.i .i64) (.pair (.i .i64) (.pair (.i .i64) .unit)))))))))))))))))))))))))))]
abbrev X_91f_0 : Xs := (.alt (.exit 0) [] (.us 36 .unit) [] (.one .ret [4] (.us 4 (.pair .b (.us 31 .unit))) []))
abbrev S_91f_0 : Type := T ff_91f_0 × TH hf_91f_0
abbrev E_91f_0 : Type := TX X_91f_0
noncomputable def LB_91f_0 : Lps := L0
noncomputable def st_91f_0 : StepT S_91f_0 E_91f_0 := fun R v kn ko =>
 let x0 : List (T ((Fm.i IntKind.i64).pair ((Fm.i IntKind.i64).pair ((Fm.i IntKind.i64).pair ((Fm.si IntKind.u32).pair Fm.unit))))) := v.1.1
 let x1 : Int := v.1.2.2.1
 let x2 : Nat := (Int.toNat x1)
 let x3 : List Int := (List.getD x0 x2 ((0:Int), ((0:Int), ((0:Int), ([], ()))))).2.2.2.1
 let x4 : List Int := v.2.1.1
 let x5 : Int := (IntKind.wrap .i64 (x1 + (1:Int)))
 let x6 : Nat := (List.length x0)
 bif (decide (x1 < v.1.2.1)) then
 bif (decide (((0:Int) ≤ x1) ∧ (x1 < ((x6 : Nat) : Int)))) then
 bif (decide (((0:Int) ≤ x5) ∧ (x5 < (((List.length x4) : Nat) : Int)))) then
 bif (decide (((0:Int) ≤ x1) ∧ (x1 < (((List.length x4) : Nat) : Int)))) then
 ((F_920 ((List.getD x0 x2 ((0:Int), ((0:Int), ((0:Int), ([], ()))))).1, ((List.getD x0 x2 ((0:Int), ((0:Int), ((0:Int), ([], ()))))).2.1, ((List.getD x0 x2 ((0:Int), ((0:Int), ((0:Int), ([], ()))))).2.2.1, ((List.take (List.length x3) x3), ())))) (List.getD x4 (Int.toNat x5) (0:Int)) (List.getD x4 x2 (0:Int)) v.2.1.2.1)).bind fun r7 =>
 bif (!r7) then
 (ko (Sum.inr ((false, ()), ())))
 else
 bif (((allR x6 (fun j8 => true)) && true) && true) then
 (kn (((rowsOf x6 (fun j9 => ((List.getD x0 j9 ((0:Int), ((0:Int), ((0:Int), ([], ()))))).1, ((List.getD x0 j9 ((0:Int), ((0:Int), ((0:Int), ([], ()))))).2.1, ((List.getD x0 j9 ((0:Int), ((0:Int), ((0:Int), ([], ()))))).2.2.1, ((List.take (List.length (List.getD x0 j9 ((0:Int), ((0:Int), ((0:Int), ([], ()))))).2.2.2.1) (List.getD x0 j9 ((0:Int), ((0:Int), ((0:Int), ([], ()))))).2.2.2.1), ())))))), (v.1.2.1, (x5, ()))), (((List.take (List.length x4) x4), v.2.1.2), ())))
 else
 none
 else
 none
 else
 none
 else
 none
 else
 (ko (Sum.inl ((), ())))
noncomputable def ls_91f_0 : St → LTr := (lsum ff_91f_0 hf_91f_0 X_91f_0 Prod.mk id st_91f_0 (hd [] [] [2, 12, 13, 14] 0))
theorem lp_91f_0 : LoopOk PR 0 (lpN f_91f 0) ls_91f_0 := loopT okO_91f mixed (L := LB_91f_0) (d := 1) (bs := []) (ks := [2, 12, 13, 14]) (loopsL (l := []) (by kernel_rfl) trivial) (by kernel_rfl) (inS := Prod.mk) (outS := id) (fun _ _ => rfl) (inX := id) (outX := id) (fun _ => rfl) (fun v R kn ko => by kernel_rfl) (hd_wk [] [] [2, 12, 13, 14] 0)
noncomputable def L_91f : Lps := (lpB 5 (.by_ ls_91f_0) L0)
noncomputable def F_91f (a0 : List Int × Int × Int × Int × Int × Int × Int × Int × Int × Int × Int × Int × Int × Int × Int × Int × Int × Int × Bool × Int × Int × Int × Int × Int × Int × Int × Unit) (a1 : List (Int × Int × Int × List Int × Unit)) : Option (Bool) :=
 let x0 : List Int := (List.take (List.length a0.1) a0.1)
 bif ((((List.length a1) : Nat) : Int) != (IntKind.wrap .i64 ((((List.length x0) : Nat) : Int) - (1:Int)))) then
 (some false)
 else
 bif (((allR (List.length a1) (fun j1 => true)) && true) && true) then
 ((lim st_91f_0 (((rowsOf (List.length a1) (fun j2 => ((List.getD a1 j2 ((0:Int), ((0:Int), ((0:Int), ([], ()))))).1, ((List.getD a1 j2 ((0:Int), ((0:Int), ((0:Int), ([], ()))))).2.1, ((List.getD a1 j2 ((0:Int), ((0:Int), ((0:Int), ([], ()))))).2.2.1, ((List.take (List.length (List.getD a1 j2 ((0:Int), ((0:Int), ((0:Int), ([], ()))))).2.2.2.1) (List.getD a1 j2 ((0:Int), ((0:Int), ((0:Int), ([], ()))))).2.2.2.1), ())))))), ((((List.length a1) : Nat) : Int), ((0:Int), ()))), ((x0, a0.2), ())))).bind fun r3 =>
 els (fun l4 =>
 (some true)) (fun r5 =>
 (some r5.1.1)) r3
 else
 none
noncomputable def G_91f : T fa_91f → TH hN0 → Option (Bool) := fun x y => F_91f x.1 x.2.1
noncomputable def c_91f : Orc := ent i_91f [] 0 (sp fa_91f hN0 fr_91f hN0 G_91f (outN fr_91f))
theorem ok_91f : OrcOk PR c_91f := fnT okO_91f mixed p_91f (by kernel_rfl) (by kernel_rfl) (L := L_91f) (kp := false) (by kernel_rfl) (inn := (innN fr_91f)) (out := (outN fr_91f)) (fun _ _ => rfl) (loopsL (l := [((lpN f_91f 0), ls_91f_0)]) (by kernel_rfl) ⟨lp_91f_0, trivial⟩) (fun x y => by kernel_rfl)
noncomputable def O_921 : Orc := orn
theorem okO_921 : OrcOk PR O_921 := (orn_ok _)
abbrev fa_921 : Fm := (.pair (.agg (.pair (.si .i64) (.pair (.i .i64) (.pair (.i .i64) (.pair (.i .i64) (.pair (.i .i64) (.pair (.i .i64) (.pair (.i .u32) (.pair (.i .u32) (.pair (.i .u32) (.pair (.i .u32) (.pair (.i .u32) (.pair (.i .u32) (.pair (.i .i64) (.pair (.i .i64) (.pair (.i .i64) (.pair (.i .i64) (.pair (.i .u64) (.pair (.i .u32) (.pair .b (.pair (.i .i64) (.pair (.i .i64) (.pair (.i .i64) (.pair (.i .i64) (.pair (.i .i64) (.pair (.i .i64) (.pair (.i .i64) .unit))))))))))))))))))))))))))) (.pair (.i .i64) .unit))
abbrev fr_921 : Fm := .b
abbrev ff_921_0 : Fm := (.us 1 (.pair (.i .i64) (.us 6 (.pair (.si .i64) (.pair (.i .i64) (.pair (.i .i64) (.us 8 .unit)))))))
abbrev hf_921_0 : List BF := []
abbrev X_921_0 : Xs := (.alt (.exit 0) [] (.us 19 .unit) [] (.one .ret [4] (.us 4 (.pair .b (.us 14 .unit))) []))
abbrev S_921_0 : Type := T ff_921_0 × TH hf_921_0
abbrev E_921_0 : Type := TX X_921_0
noncomputable def LB_921_0 : Lps := L0
noncomputable def st_921_0 : StepT S_921_0 E_921_0 := fun R v kn ko =>
 let x0 : List Int := v.1.2.1
 bif (decide (v.1.2.2.2.1 < v.1.2.2.1)) then
 bif (decide (((0:Int) ≤ v.1.2.2.2.1) ∧ (v.1.2.2.2.1 < (((List.length x0) : Nat) : Int)))) then
 bif (decide ((IntKind.wrap .i64 (v.1.1 * (List.getD x0 (Int.toNat v.1.2.2.2.1) (0:Int)))) > (262144:Int))) then
 (ko (Sum.inr ((false, ()), ())))
 else
 (kn ((v.1.1, ((List.take (List.length x0) x0), (v.1.2.2.1, ((IntKind.wrap .i64 (v.1.2.2.2.1 + (1:Int))), ())))), ()))
 else
 none
 else
 (ko (Sum.inl ((), ())))
noncomputable def ls_921_0 : St → LTr := (lsum ff_921_0 hf_921_0 X_921_0 Prod.mk id st_921_0 (hd [] [] [1, 8, 9, 10] 0))
theorem lp_921_0 : LoopOk PR 0 (lpN f_921 0) ls_921_0 := loopT okO_921 mixed (L := LB_921_0) (d := 1) (bs := []) (ks := [1, 8, 9, 10]) (loopsL (l := []) (by kernel_rfl) trivial) (by kernel_rfl) (inS := Prod.mk) (outS := id) (fun _ _ => rfl) (inX := id) (outX := id) (fun _ => rfl) (fun v R kn ko => by kernel_rfl) (hd_wk [] [] [1, 8, 9, 10] 0)
noncomputable def L_921 : Lps := (lpB 3 (.by_ ls_921_0) L0)
noncomputable def F_921 (a0 : List Int × Int × Int × Int × Int × Int × Int × Int × Int × Int × Int × Int × Int × Int × Int × Int × Int × Int × Bool × Int × Int × Int × Int × Int × Int × Int × Unit) (a1 : Int) : Option (Bool) :=
 ((lim st_921_0 ((a1, ((List.take (List.length a0.1) a0.1), ((((List.length a0.1) : Nat) : Int), ((0:Int), ())))), ()))).bind fun r0 =>
 els (fun l1 =>
 (some true)) (fun r2 =>
 (some r2.1.1)) r0
noncomputable def G_921 : T fa_921 → TH hN0 → Option (Bool) := fun x y => F_921 x.1 x.2.1
noncomputable def c_921 : Orc := ent i_921 [] 0 (sp fa_921 hN0 fr_921 hN0 G_921 (outN fr_921))
theorem ok_921 : OrcOk PR c_921 := fnT okO_921 mixed p_921 (by kernel_rfl) (by kernel_rfl) (L := L_921) (kp := false) (by kernel_rfl) (inn := (innN fr_921)) (out := (outN fr_921)) (fun _ _ => rfl) (loopsL (l := [((lpN f_921 0), ls_921_0)]) (by kernel_rfl) ⟨lp_921_0, trivial⟩) (fun x y => by kernel_rfl)
noncomputable def O_911 : Orc := (orm c_915 (orm c_91f (orm c_920 (orm c_921 (orm c_922 (orm c_923 c_924))))))
theorem okO_911 : OrcOk PR O_911 := (orm_ok ok_915 (orm_ok ok_91f (orm_ok ok_920 (orm_ok ok_921 (orm_ok ok_922 (orm_ok ok_923 ok_924))))))
abbrev fa_911 : Fm := (.pair (.agg (.pair (.si .i64) (.pair (.i .i64) (.pair (.i .i64) (.pair (.i .i64) (.pair (.i .i64) (.pair (.i .i64) (.pair (.i .u32) (.pair (.i .u32) (.pair (.i .u32) (.pair (.i .u32) (.pair (.i .u32) (.pair (.i .u32) (.pair (.i .i64) (.pair (.i .i64) (.pair (.i .i64) (.pair (.i .i64) (.pair (.i .u64) (.pair (.i .u32) (.pair .b (.pair (.i .i64) (.pair (.i .i64) (.pair (.i .i64) (.pair (.i .i64) (.pair (.i .i64) (.pair (.i .i64) (.pair (.i .i64) .unit))))))))))))))))))))))))))) (.pair (.sr (.pair (.pair (.i .i64) (.pair (.i .i64) (.pair (.i .i64) (.pair (.si .u32) .unit)))) (.pair (.pair (.i .i64) (.pair (.i .i64) (.pair (.i .i64) (.pair (.si .u32) .unit)))) .unit)) 8) (.pair (.sr (.pair (.i .i64) (.pair (.i .i64) (.pair (.i .i64) (.pair (.si .u32) .unit)))) 4) (.pair (.agg (.pair (.i .i64) (.pair (.i .i64) (.pair (.i .i64) (.pair (.si .u32) .unit))))) (.pair (.i .i64) .unit)))))
abbrev fr_911 : Fm := (.tup (.pair (.agg (.pair (.i .i64) (.pair (.i .i64) (.pair (.i .i64) (.pair (.si .u32) .unit))))) (.pair (.agg (.pair (.sr (.pair (.i .i64) (.pair (.i .i64) (.pair (.i .i64) (.pair (.si .u32) .unit)))) 4) (.pair (.sr (.pair (.i .i64) (.pair (.i .i64) (.pair (.i .i64) (.pair (.si .u32) .unit)))) 4) (.pair (.sr (.pair (.i .i64) (.pair (.i .i64) (.pair (.i .i64) (.pair (.si .u32) .unit)))) 4) .unit)))) (.pair (.i .i64) .unit))))
abbrev ff_911_0 : Fm := (.us 1 (.pair (.sr (.pair (.pair (.i .i64) (.pair (.i .i64) (.pair (.i .i64) (.pair (.si .u32) .unit)))) (.pair (.pair (.i .i64) (.pair (.i .i64) (.pair (.i .i64) (.pair (.si .u32) .unit)))) .unit)) 8) (.pair (.sr (.pair (.i .i64) (.pair (.i .i64) (.pair (.i .i64) (.pair (.si .u32) .unit)))) 4) (.us 1 (.pair (.i .i64) (.cst (.ref 0 1 0) (.us 2 (.cst (.ref 1 1 0) (.us 1 (.cst (.ref 2 1 0) (.cst (.ref 3 1 0) (.us 1 (.cst (.ref 4 1 0) (.us 37 (.pair (.i .i64) (.pair (.i .i64) (.us 69 .unit)))))))))))))))))
abbrev hf_911_0 : List BF := [(.list 1 y_95 true (.pair (.si .i64) (.pair (.i .i64) (.pair (.i .i64) (.pair (.i .i64) (.pair (.i .i64) (.pair (.i .i64) (.pair (.i .u32) (.pair (.i .u32) (.pair (.i .u32) (.pair (.i .u32) (.pair (.i .u32) (.pair (.i .u32) (.pair (.i .i64) (.pair (.i .i64) (.pair (.i .i64) (.pair (.i .i64) (.pair (.i .u64) (.pair (.i .u32) (.pair .b (.pair (.i .i64) (.pair (.i .i64) (.pair (.i .i64) (.pair (.i .i64) (.pair (.i .i64) (.pair (.i .i64) (.pair (.i .i64) .unit))))))))))))))))))))))))))), (.list 1 y_92 true (.pair (.i .i64) (.pair (.i .i64) (.pair (.i .i64) (.pair (.si .u32) .unit))))), (.list 1 y_92 true (.pair (.i .i64) (.pair (.i .i64) (.pair (.i .i64) (.cst .nils .unit))))), (.list 1 y_96 true (.cst .nils (.cst .nils (.cst .nils .unit)))), (.list 1 y_96 true (.pair (.own 5 1 0 4) (.pair (.own 6 1 0 4) (.pair (.own 7 1 0 4) .unit)))), (.recs 1 y_92 true (.pair (.i .i64) (.pair (.i .i64) (.pair (.i .i64) (.pair (.si .u32) .unit)))) 4), (.recs 1 y_92 true (.pair (.i .i64) (.pair (.i .i64) (.pair (.i .i64) (.pair (.si .u32) .unit)))) 4), (.recs 1 y_92 true (.pair (.i .i64) (.pair (.i .i64) (.pair (.i .i64) (.pair (.si .u32) .unit)))) 4)]
abbrev X_911_0 : Xs := (.alt (.exit 0) [1, 10, 11, 13] (.us 1 (.pair (.sr (.pair (.pair (.i .i64) (.pair (.i .i64) (.pair (.i .i64) (.pair (.si .u32) .unit)))) (.pair (.pair (.i .i64) (.pair (.i .i64) (.pair (.i .i64) (.pair (.si .u32) .unit)))) .unit)) 8) (.us 8 (.cst (.ref 0 1 0) (.cst (.ref 1 1 0) (.us 1 (.cst (.ref 2 1 0) (.us 108 .unit)))))))) [(.list 1 y_92 true (.pair (.i .i64) (.pair (.i .i64) (.pair (.i .i64) (.cst .nils .unit))))), (.list 1 y_96 true (.cst .nils (.cst .nils (.cst .nils .unit)))), (.list 1 y_96 true (.pair (.own 3 1 0 4) (.pair (.own 4 1 0 4) (.pair (.own 5 1 0 4) .unit)))), (.recs 1 y_92 true (.pair (.i .i64) (.pair (.i .i64) (.pair (.i .i64) (.pair (.si .u32) .unit)))) 4), (.recs 1 y_92 true (.pair (.i .i64) (.pair (.i .i64) (.pair (.i .i64) (.pair (.si .u32) .unit)))) 4), (.recs 1 y_92 true (.pair (.i .i64) (.pair (.i .i64) (.pair (.i .i64) (.pair (.si .u32) .unit)))) 4)] (.one .ret [10, 11, 12] (.us 10 (.cst (.ref 0 1 0) (.cst (.ref 1 1 0) (.pair (.i .i64) (.us 109 .unit))))) [(.list 1 y_92 true (.pair (.i .i64) (.pair (.i .i64) (.pair (.i .i64) (.cst .nils .unit))))), (.list 1 y_96 true (.cst .nils (.cst .nils (.cst .nils .unit))))]))
abbrev S_911_0 : Type := T ff_911_0 × TH hf_911_0
abbrev E_911_0 : Type := TX X_911_0
noncomputable def LB_911_0 : Lps := L0
noncomputable def st_911_0 : StepT S_911_0 E_911_0 := fun R v kn ko =>
 let x0 : List Int := v.2.1.1
 let x1 : List Int := v.2.2.1.2.2.2.1
 let x2 : List (T ((Fm.i IntKind.i64).pair ((Fm.i IntKind.i64).pair ((Fm.i IntKind.i64).pair ((Fm.si IntKind.u32).pair Fm.unit))))) := v.1.2.1
 let x3 : Int := v.1.2.2.2.2.1
 let x4 : Nat := (Int.toNat x3)
 let x5 : List Int := (List.getD x2 x4 ((0:Int), ((0:Int), ((0:Int), ([], ()))))).2.2.2.1
 let x6 : List (T (((Fm.i IntKind.i64).pair ((Fm.i IntKind.i64).pair ((Fm.i IntKind.i64).pair ((Fm.si IntKind.u32).pair Fm.unit)))).pair (((Fm.i IntKind.i64).pair ((Fm.i IntKind.i64).pair ((Fm.i IntKind.i64).pair ((Fm.si IntKind.u32).pair Fm.unit)))).pair Fm.unit))) := v.1.1
 let x7 : List Int := (List.getD x6 x4 (((0:Int), ((0:Int), ((0:Int), ([], ())))), (((0:Int), ((0:Int), ((0:Int), ([], ())))), ()))).2.1.2.2.2.1
 let x8 : Int := v.1.2.2.1
 let x9 : Nat := (List.length x6)
 let x11 : Bool := (allR x9 (fun j10 => true))
 let x12 : Nat := (List.length x2)
 let x13 : Nat := (v.2.2.2.2.2.1.1 + (1:Nat))
 let x14 : Nat := (v.2.2.2.2.2.1.2.1 + (1:Nat))
 let x15 : Nat := (v.2.2.2.2.2.1.2.2.1 + (1:Nat))
 let x20 : Bool := ((x11 && ((allR x12 (fun j16 => true)) && true)) && ((allR x13 (fun j17 => true)) && ((allR x14 (fun j18 => true)) && ((allR x15 (fun j19 => true)) && true))))
 let x22 : List (T (((Fm.i IntKind.i64).pair ((Fm.i IntKind.i64).pair ((Fm.i IntKind.i64).pair ((Fm.si IntKind.u32).pair Fm.unit)))).pair (((Fm.i IntKind.i64).pair ((Fm.i IntKind.i64).pair ((Fm.i IntKind.i64).pair ((Fm.si IntKind.u32).pair Fm.unit)))).pair Fm.unit))) := (rowsOf x9 (fun j21 => (((List.getD x6 j21 (((0:Int), ((0:Int), ((0:Int), ([], ())))), (((0:Int), ((0:Int), ((0:Int), ([], ())))), ()))).1.1, ((List.getD x6 j21 (((0:Int), ((0:Int), ((0:Int), ([], ())))), (((0:Int), ((0:Int), ((0:Int), ([], ())))), ()))).1.2.1, ((List.getD x6 j21 (((0:Int), ((0:Int), ((0:Int), ([], ())))), (((0:Int), ((0:Int), ((0:Int), ([], ())))), ()))).1.2.2.1, ((List.take (List.length (List.getD x6 j21 (((0:Int), ((0:Int), ((0:Int), ([], ())))), (((0:Int), ((0:Int), ((0:Int), ([], ())))), ()))).1.2.2.2.1) (List.getD x6 j21 (((0:Int), ((0:Int), ((0:Int), ([], ())))), (((0:Int), ((0:Int), ((0:Int), ([], ())))), ()))).1.2.2.2.1), ())))), (((List.getD x6 j21 (((0:Int), ((0:Int), ((0:Int), ([], ())))), (((0:Int), ((0:Int), ((0:Int), ([], ())))), ()))).2.1.1, ((List.getD x6 j21 (((0:Int), ((0:Int), ((0:Int), ([], ())))), (((0:Int), ((0:Int), ((0:Int), ([], ())))), ()))).2.1.2.1, ((List.getD x6 j21 (((0:Int), ((0:Int), ((0:Int), ([], ())))), (((0:Int), ((0:Int), ((0:Int), ([], ())))), ()))).2.1.2.2.1, ((List.take (List.length (List.getD x6 j21 (((0:Int), ((0:Int), ((0:Int), ([], ())))), (((0:Int), ((0:Int), ((0:Int), ([], ())))), ()))).2.1.2.2.2.1) (List.getD x6 j21 (((0:Int), ((0:Int), ((0:Int), ([], ())))), (((0:Int), ((0:Int), ((0:Int), ([], ())))), ()))).2.1.2.2.2.1), ())))), ()))))
 let x24 : List (T ((Fm.i IntKind.i64).pair ((Fm.i IntKind.i64).pair ((Fm.i IntKind.i64).pair ((Fm.si IntKind.u32).pair Fm.unit))))) := (rowsOf x13 (fun j23 => ((bif (Nat.beq j23 (v.2.2.2.2.2.1.1 + (0:Nat))) then v.2.2.1.1 else (List.getD v.2.2.2.2.2.2.1 j23 ((0:Int), ((0:Int), ((0:Int), ([], ()))))).1), ((bif (Nat.beq j23 (v.2.2.2.2.2.1.1 + (0:Nat))) then v.2.2.1.2.1 else (List.getD v.2.2.2.2.2.2.1 j23 ((0:Int), ((0:Int), ((0:Int), ([], ()))))).2.1), ((bif (Nat.beq j23 (v.2.2.2.2.2.1.1 + (0:Nat))) then v.2.2.1.2.2.1 else (List.getD v.2.2.2.2.2.2.1 j23 ((0:Int), ((0:Int), ((0:Int), ([], ()))))).2.2.1), ((List.take (bif (Nat.beq j23 (v.2.2.2.2.2.1.1 + (0:Nat))) then (List.length x1) else (List.length (List.getD v.2.2.2.2.2.2.1 j23 ((0:Int), ((0:Int), ((0:Int), ([], ()))))).2.2.2.1)) (bif (Nat.beq j23 (v.2.2.2.2.2.1.1 + (0:Nat))) then x1 else (List.getD v.2.2.2.2.2.2.1 j23 ((0:Int), ((0:Int), ((0:Int), ([], ()))))).2.2.2.1)), ()))))))
 let x25 : Nat := (List.length v.2.2.2.2.2.2.1)
 let x26 : Nat := (List.length v.2.2.2.2.2.2.2.1)
 let x27 : Nat := (List.length v.2.2.2.2.2.2.2.2.1)
 bif (decide (x3 < v.1.2.2.2.1)) then
 bif (decide (((0:Int) ≤ x3) ∧ (x3 < ((x12 : Nat) : Int)))) then
 bif (decide (((0:Int) ≤ x3) ∧ (x3 < ((x9 : Nat) : Int)))) then
 ((F_922 ((List.take (List.length x0) x0), v.2.1.2) (v.2.2.1.1, (v.2.2.1.2.1, (v.2.2.1.2.2.1, ((List.take (List.length x1) x1), ())))) ((List.getD x2 x4 ((0:Int), ((0:Int), ((0:Int), ([], ()))))).1, ((List.getD x2 x4 ((0:Int), ((0:Int), ((0:Int), ([], ()))))).2.1, ((List.getD x2 x4 ((0:Int), ((0:Int), ((0:Int), ([], ()))))).2.2.1, ((List.take (List.length x5) x5), ())))) ((List.getD x6 x4 (((0:Int), ((0:Int), ((0:Int), ([], ())))), (((0:Int), ((0:Int), ((0:Int), ([], ())))), ()))).2.1.1, ((List.getD x6 x4 (((0:Int), ((0:Int), ((0:Int), ([], ())))), (((0:Int), ((0:Int), ((0:Int), ([], ())))), ()))).2.1.2.1, ((List.getD x6 x4 (((0:Int), ((0:Int), ((0:Int), ([], ())))), (((0:Int), ((0:Int), ((0:Int), ([], ())))), ()))).2.1.2.2.1, ((List.take (List.length x7) x7), ())))))).bind fun r28 =>
 let x29 : Int := r28.1.2.1
 let x30 : Int := r28.1.2.2.1
 let x31 : List Int := r28.1.2.2.2.1
 let x33 : List (T ((Fm.i IntKind.i64).pair ((Fm.i IntKind.i64).pair ((Fm.i IntKind.i64).pair ((Fm.si IntKind.u32).pair Fm.unit))))) := (rowsOf x14 (fun j32 => ((bif (Nat.beq j32 (v.2.2.2.2.2.1.2.1 + (0:Nat))) then r28.1.1 else (List.getD v.2.2.2.2.2.2.2.1 j32 ((0:Int), ((0:Int), ((0:Int), ([], ()))))).1), ((bif (Nat.beq j32 (v.2.2.2.2.2.1.2.1 + (0:Nat))) then x29 else (List.getD v.2.2.2.2.2.2.2.1 j32 ((0:Int), ((0:Int), ((0:Int), ([], ()))))).2.1), ((bif (Nat.beq j32 (v.2.2.2.2.2.1.2.1 + (0:Nat))) then x30 else (List.getD v.2.2.2.2.2.2.2.1 j32 ((0:Int), ((0:Int), ((0:Int), ([], ()))))).2.2.1), ((List.take (bif (Nat.beq j32 (v.2.2.2.2.2.1.2.1 + (0:Nat))) then (List.length x31) else (List.length (List.getD v.2.2.2.2.2.2.2.1 j32 ((0:Int), ((0:Int), ((0:Int), ([], ()))))).2.2.2.1)) (bif (Nat.beq j32 (v.2.2.2.2.2.1.2.1 + (0:Nat))) then x31 else (List.getD v.2.2.2.2.2.2.2.1 j32 ((0:Int), ((0:Int), ((0:Int), ([], ()))))).2.2.2.1)), ()))))))
 let x34 : Bool := (r28.2.1 != (0:Int))
 bif (decide (x13 ≤ (1073741824:Nat))) then
 bif (decide (x14 ≤ (1073741824:Nat))) then
 bif (r28.2.1 == (0:Int)) then
 bif (decide (x3 < (IntKind.wrap .i64 (((x9 : Nat) : Int) - (1:Int))))) then
 ((F_923 ((List.take (List.length x0) x0), v.2.1.2) (r28.1.1, (x29, (x30, ((List.take (List.length x31) x31), ())))) x8 x3)).bind fun r35 =>
 let x36 : Int := r35.2.2.1
 let x37 : Int := r35.1.2.1
 let x38 : Int := r35.1.2.2.1
 let x39 : List Int := r35.1.2.2.2.1
 bif (x36 != (0:Int)) then
 (ko (Sum.inr (r35.2.2, (((0:Int), ((0:Int), ((0:Int), ()))), ((), ())))))
 else
 bif (decide (x15 ≤ (1073741824:Nat))) then
 bif x20 then
 (kn ((x22, ((rowsOf x12 (fun j40 => ((List.getD x2 j40 ((0:Int), ((0:Int), ((0:Int), ([], ()))))).1, ((List.getD x2 j40 ((0:Int), ((0:Int), ((0:Int), ([], ()))))).2.1, ((List.getD x2 j40 ((0:Int), ((0:Int), ((0:Int), ([], ()))))).2.2.1, ((List.take (List.length (List.getD x2 j40 ((0:Int), ((0:Int), ((0:Int), ([], ()))))).2.2.2.1) (List.getD x2 j40 ((0:Int), ((0:Int), ((0:Int), ([], ()))))).2.2.2.1), ())))))), (x8, (v.1.2.2.2.1, ((IntKind.wrap .i64 (x3 + (1:Int))), ()))))), (((List.take (List.length x0) x0), v.2.1.2), ((r35.1.1, (x37, (x38, ((List.take (List.length x39) x39), ())))), (v.2.2.2.1, ((), ((x13, (x14, (x15, ()))), (x24, (x33, ((rowsOf x15 (fun j41 => ((bif (Nat.beq j41 (v.2.2.2.2.2.1.2.2.1 + (0:Nat))) then r35.2.1.1 else (List.getD v.2.2.2.2.2.2.2.2.1 j41 ((0:Int), ((0:Int), ((0:Int), ([], ()))))).1), ((bif (Nat.beq j41 (v.2.2.2.2.2.1.2.2.1 + (0:Nat))) then r35.2.1.2.1 else (List.getD v.2.2.2.2.2.2.2.2.1 j41 ((0:Int), ((0:Int), ((0:Int), ([], ()))))).2.1), ((bif (Nat.beq j41 (v.2.2.2.2.2.1.2.2.1 + (0:Nat))) then r35.2.1.2.2.1 else (List.getD v.2.2.2.2.2.2.2.2.1 j41 ((0:Int), ((0:Int), ((0:Int), ([], ()))))).2.2.1), ((List.take (bif (Nat.beq j41 (v.2.2.2.2.2.1.2.2.1 + (0:Nat))) then (List.length r35.2.1.2.2.2.1) else (List.length (List.getD v.2.2.2.2.2.2.2.2.1 j41 ((0:Int), ((0:Int), ((0:Int), ([], ()))))).2.2.2.1)) (bif (Nat.beq j41 (v.2.2.2.2.2.1.2.2.1 + (0:Nat))) then r35.2.1.2.2.2.1 else (List.getD v.2.2.2.2.2.2.2.2.1 j41 ((0:Int), ((0:Int), ((0:Int), ([], ()))))).2.2.2.1)), ())))))), ()))))))))))
 else
 none
 else
 none
 else
 bif x34 then
 (ko (Sum.inr (r28.2, (((0:Int), ((0:Int), ((0:Int), ()))), ((), ())))))
 else
 bif (decide (x15 ≤ (1073741824:Nat))) then
 bif x20 then
 (kn ((x22, ((rowsOf x12 (fun j42 => ((List.getD x2 j42 ((0:Int), ((0:Int), ((0:Int), ([], ()))))).1, ((List.getD x2 j42 ((0:Int), ((0:Int), ((0:Int), ([], ()))))).2.1, ((List.getD x2 j42 ((0:Int), ((0:Int), ((0:Int), ([], ()))))).2.2.1, ((List.take (List.length (List.getD x2 j42 ((0:Int), ((0:Int), ((0:Int), ([], ()))))).2.2.2.1) (List.getD x2 j42 ((0:Int), ((0:Int), ((0:Int), ([], ()))))).2.2.2.1), ())))))), (x8, (v.1.2.2.2.1, ((IntKind.wrap .i64 (x3 + (1:Int))), ()))))), (((List.take (List.length x0) x0), v.2.1.2), ((v.2.2.1.1, (v.2.2.1.2.1, (v.2.2.1.2.2.1, ((List.take (List.length x1) x1), ())))), (v.2.2.2.1, ((), ((x13, (x14, (x15, ()))), (x24, (x33, ((rowsOf x15 (fun j43 => ((bif (Nat.beq j43 (v.2.2.2.2.2.1.2.2.1 + (0:Nat))) then (0:Int) else (List.getD v.2.2.2.2.2.2.2.2.1 j43 ((0:Int), ((0:Int), ((0:Int), ([], ()))))).1), ((bif (Nat.beq j43 (v.2.2.2.2.2.1.2.2.1 + (0:Nat))) then (0:Int) else (List.getD v.2.2.2.2.2.2.2.2.1 j43 ((0:Int), ((0:Int), ((0:Int), ([], ()))))).2.1), ((bif (Nat.beq j43 (v.2.2.2.2.2.1.2.2.1 + (0:Nat))) then (0:Int) else (List.getD v.2.2.2.2.2.2.2.2.1 j43 ((0:Int), ((0:Int), ((0:Int), ([], ()))))).2.2.1), ((List.take (bif (Nat.beq j43 (v.2.2.2.2.2.1.2.2.1 + (0:Nat))) then (0:Nat) else (List.length (List.getD v.2.2.2.2.2.2.2.2.1 j43 ((0:Int), ((0:Int), ((0:Int), ([], ()))))).2.2.2.1)) (bif (Nat.beq j43 (v.2.2.2.2.2.1.2.2.1 + (0:Nat))) then [] else (List.getD v.2.2.2.2.2.2.2.2.1 j43 ((0:Int), ((0:Int), ((0:Int), ([], ()))))).2.2.2.1)), ())))))), ()))))))))))
 else
 none
 else
 none
 else
 bif x34 then
 (ko (Sum.inr (r28.2, (((0:Int), ((0:Int), ((0:Int), ()))), ((), ())))))
 else
 bif (decide (x15 ≤ (1073741824:Nat))) then
 bif x20 then
 (kn ((x22, ((rowsOf x12 (fun j44 => ((List.getD x2 j44 ((0:Int), ((0:Int), ((0:Int), ([], ()))))).1, ((List.getD x2 j44 ((0:Int), ((0:Int), ((0:Int), ([], ()))))).2.1, ((List.getD x2 j44 ((0:Int), ((0:Int), ((0:Int), ([], ()))))).2.2.1, ((List.take (List.length (List.getD x2 j44 ((0:Int), ((0:Int), ((0:Int), ([], ()))))).2.2.2.1) (List.getD x2 j44 ((0:Int), ((0:Int), ((0:Int), ([], ()))))).2.2.2.1), ())))))), (x8, (v.1.2.2.2.1, ((IntKind.wrap .i64 (x3 + (1:Int))), ()))))), (((List.take (List.length x0) x0), v.2.1.2), ((v.2.2.1.1, (v.2.2.1.2.1, (v.2.2.1.2.2.1, ((List.take (List.length x1) x1), ())))), (v.2.2.2.1, ((), ((x13, (x14, (x15, ()))), (x24, (x33, ((rowsOf x15 (fun j45 => ((bif (Nat.beq j45 (v.2.2.2.2.2.1.2.2.1 + (0:Nat))) then (0:Int) else (List.getD v.2.2.2.2.2.2.2.2.1 j45 ((0:Int), ((0:Int), ((0:Int), ([], ()))))).1), ((bif (Nat.beq j45 (v.2.2.2.2.2.1.2.2.1 + (0:Nat))) then (0:Int) else (List.getD v.2.2.2.2.2.2.2.2.1 j45 ((0:Int), ((0:Int), ((0:Int), ([], ()))))).2.1), ((bif (Nat.beq j45 (v.2.2.2.2.2.1.2.2.1 + (0:Nat))) then (0:Int) else (List.getD v.2.2.2.2.2.2.2.2.1 j45 ((0:Int), ((0:Int), ((0:Int), ([], ()))))).2.2.1), ((List.take (bif (Nat.beq j45 (v.2.2.2.2.2.1.2.2.1 + (0:Nat))) then (0:Nat) else (List.length (List.getD v.2.2.2.2.2.2.2.2.1 j45 ((0:Int), ((0:Int), ((0:Int), ([], ()))))).2.2.2.1)) (bif (Nat.beq j45 (v.2.2.2.2.2.1.2.2.1 + (0:Nat))) then [] else (List.getD v.2.2.2.2.2.2.2.2.1 j45 ((0:Int), ((0:Int), ((0:Int), ([], ()))))).2.2.2.1)), ())))))), ()))))))))))
 else
 none
 else
 none
 else
 none
 else
 none
 else
 none
 else
 none
 else
 bif ((x11 && true) && ((allR x25 (fun j46 => true)) && ((allR x26 (fun j47 => true)) && ((allR x27 (fun j48 => true)) && true)))) then
 (ko (Sum.inl ((x22, ()), (v.2.2.2.1, ((), (v.2.2.2.2.2.1, ((rowsOf x25 (fun j49 => ((List.getD v.2.2.2.2.2.2.1 j49 ((0:Int), ((0:Int), ((0:Int), ([], ()))))).1, ((List.getD v.2.2.2.2.2.2.1 j49 ((0:Int), ((0:Int), ((0:Int), ([], ()))))).2.1, ((List.getD v.2.2.2.2.2.2.1 j49 ((0:Int), ((0:Int), ((0:Int), ([], ()))))).2.2.1, ((List.take (List.length (List.getD v.2.2.2.2.2.2.1 j49 ((0:Int), ((0:Int), ((0:Int), ([], ()))))).2.2.2.1) (List.getD v.2.2.2.2.2.2.1 j49 ((0:Int), ((0:Int), ((0:Int), ([], ()))))).2.2.2.1), ())))))), ((rowsOf x26 (fun j50 => ((List.getD v.2.2.2.2.2.2.2.1 j50 ((0:Int), ((0:Int), ((0:Int), ([], ()))))).1, ((List.getD v.2.2.2.2.2.2.2.1 j50 ((0:Int), ((0:Int), ((0:Int), ([], ()))))).2.1, ((List.getD v.2.2.2.2.2.2.2.1 j50 ((0:Int), ((0:Int), ((0:Int), ([], ()))))).2.2.1, ((List.take (List.length (List.getD v.2.2.2.2.2.2.2.1 j50 ((0:Int), ((0:Int), ((0:Int), ([], ()))))).2.2.2.1) (List.getD v.2.2.2.2.2.2.2.1 j50 ((0:Int), ((0:Int), ((0:Int), ([], ()))))).2.2.2.1), ())))))), ((rowsOf x27 (fun j51 => ((List.getD v.2.2.2.2.2.2.2.2.1 j51 ((0:Int), ((0:Int), ((0:Int), ([], ()))))).1, ((List.getD v.2.2.2.2.2.2.2.2.1 j51 ((0:Int), ((0:Int), ((0:Int), ([], ()))))).2.1, ((List.getD v.2.2.2.2.2.2.2.2.1 j51 ((0:Int), ((0:Int), ((0:Int), ([], ()))))).2.2.1, ((List.take (List.length (List.getD v.2.2.2.2.2.2.2.2.1 j51 ((0:Int), ((0:Int), ((0:Int), ([], ()))))).2.2.2.1) (List.getD v.2.2.2.2.2.2.2.2.1 j51 ((0:Int), ((0:Int), ((0:Int), ([], ()))))).2.2.2.1), ())))))), ())))))))))
 else
 none
noncomputable def ls_911_0 : St → LTr := (lsum ff_911_0 hf_911_0 X_911_0 Prod.mk id st_911_0 (hd [(.via 13 0, y_92, 3, .recs), (.via 13 1, y_92, 3, .recs), (.via 13 2, y_92, 3, .recs)] [] [1, 2, 4, 5, 8, 10, 11, 13, 51, 52] 0))
theorem lp_911_0 : LoopOk PR 0 (lpN f_911 0) ls_911_0 := loopT okO_911 mixed (L := LB_911_0) (d := 1) (bs := []) (ks := [1, 2, 4, 5, 8, 10, 11, 13, 51, 52]) (loopsL (l := []) (by kernel_rfl) trivial) (by kernel_rfl) (inS := Prod.mk) (outS := id) (fun _ _ => rfl) (inX := id) (outX := id) (fun _ => rfl) (fun v R kn ko => by kernel_rfl) (hd_wk [(.via 13 0, y_92, 3, .recs), (.via 13 1, y_92, 3, .recs), (.via 13 2, y_92, 3, .recs)] [] [1, 2, 4, 5, 8, 10, 11, 13, 51, 52] 0)
noncomputable def L_911 : Lps := (lpB 6 (.by_ ls_911_0) L0)
noncomputable def F_911 (a0 : List Int × Int × Int × Int × Int × Int × Int × Int × Int × Int × Int × Int × Int × Int × Int × Int × Int × Int × Bool × Int × Int × Int × Int × Int × Int × Int × Unit) (a1 : List ((Int × Int × Int × List Int × Unit) × (Int × Int × Int × List Int × Unit) × Unit)) (a2 : List (Int × Int × Int × List Int × Unit)) (a3 : Int × Int × Int × List Int × Unit) (a4 : Int) : Option ((Int × Int × Int × List Int × Unit) × ((List (Int × Int × Int × List Int × Unit)) × (List (Int × Int × Int × List Int × Unit)) × (List (Int × Int × Int × List Int × Unit)) × Unit) × Int × Unit) :=
 let x1 : Bool := (allR (List.length a1) (fun j0 => true))
 let x3 : List (T (((Fm.i IntKind.i64).pair ((Fm.i IntKind.i64).pair ((Fm.i IntKind.i64).pair ((Fm.si IntKind.u32).pair Fm.unit)))).pair (((Fm.i IntKind.i64).pair ((Fm.i IntKind.i64).pair ((Fm.i IntKind.i64).pair ((Fm.si IntKind.u32).pair Fm.unit)))).pair Fm.unit))) := (rowsOf (List.length a1) (fun j2 => (((List.getD a1 j2 (((0:Int), ((0:Int), ((0:Int), ([], ())))), (((0:Int), ((0:Int), ((0:Int), ([], ())))), ()))).1.1, ((List.getD a1 j2 (((0:Int), ((0:Int), ((0:Int), ([], ())))), (((0:Int), ((0:Int), ((0:Int), ([], ())))), ()))).1.2.1, ((List.getD a1 j2 (((0:Int), ((0:Int), ((0:Int), ([], ())))), (((0:Int), ((0:Int), ((0:Int), ([], ())))), ()))).1.2.2.1, ((List.take (List.length (List.getD a1 j2 (((0:Int), ((0:Int), ((0:Int), ([], ())))), (((0:Int), ((0:Int), ((0:Int), ([], ())))), ()))).1.2.2.2.1) (List.getD a1 j2 (((0:Int), ((0:Int), ((0:Int), ([], ())))), (((0:Int), ((0:Int), ((0:Int), ([], ())))), ()))).1.2.2.2.1), ())))), (((List.getD a1 j2 (((0:Int), ((0:Int), ((0:Int), ([], ())))), (((0:Int), ((0:Int), ((0:Int), ([], ())))), ()))).2.1.1, ((List.getD a1 j2 (((0:Int), ((0:Int), ((0:Int), ([], ())))), (((0:Int), ((0:Int), ((0:Int), ([], ())))), ()))).2.1.2.1, ((List.getD a1 j2 (((0:Int), ((0:Int), ((0:Int), ([], ())))), (((0:Int), ((0:Int), ((0:Int), ([], ())))), ()))).2.1.2.2.1, ((List.take (List.length (List.getD a1 j2 (((0:Int), ((0:Int), ((0:Int), ([], ())))), (((0:Int), ((0:Int), ((0:Int), ([], ())))), ()))).2.1.2.2.2.1) (List.getD a1 j2 (((0:Int), ((0:Int), ((0:Int), ([], ())))), (((0:Int), ((0:Int), ((0:Int), ([], ())))), ()))).2.1.2.2.2.1), ())))), ()))))
 let x5 : Bool := ((allR (List.length a2) (fun j4 => true)) && true)
 let x7 : List (T ((Fm.i IntKind.i64).pair ((Fm.i IntKind.i64).pair ((Fm.i IntKind.i64).pair ((Fm.si IntKind.u32).pair Fm.unit))))) := (rowsOf (List.length a2) (fun j6 => ((List.getD a2 j6 ((0:Int), ((0:Int), ((0:Int), ([], ()))))).1, ((List.getD a2 j6 ((0:Int), ((0:Int), ((0:Int), ([], ()))))).2.1, ((List.getD a2 j6 ((0:Int), ((0:Int), ((0:Int), ([], ()))))).2.2.1, ((List.take (List.length (List.getD a2 j6 ((0:Int), ((0:Int), ((0:Int), ([], ()))))).2.2.2.1) (List.getD a2 j6 ((0:Int), ((0:Int), ((0:Int), ([], ()))))).2.2.2.1), ()))))))
 let x8 : Int := a3.2.2.1
 let x9 : List Int := a3.2.2.2.1
 bif ((x1 && true) && true) then
 ((F_915 ((List.take (List.length a0.1) a0.1), a0.2) x3)).bind fun r10 =>
 bif (!r10) then
 (some (((0:Int), ((0:Int), ((0:Int), ([], ())))), (([], ([], ([], ()))), ((21:Int), ()))))
 else
 bif (x5 && true) then
 ((F_91f ((List.take (List.length a0.1) a0.1), a0.2) x7)).bind fun r11 =>
 bif (!r11) then
 (some (((0:Int), ((0:Int), ((0:Int), ([], ())))), (([], ([], ([], ()))), ((21:Int), ()))))
 else
 bif (decide (((0:Int) ≤ (0:Int)) ∧ ((0:Int) < (((List.length a0.1) : Nat) : Int)))) then
 ((F_920 (a3.1, (a3.2.1, (x8, ((List.take (List.length x9) x9), ())))) a3.1 (List.getD a0.1 (0:Nat) (0:Int)) a0.2.1)).bind fun r12 =>
 bif (!r12) then
 (some (((0:Int), ((0:Int), ((0:Int), ([], ())))), (([], ([], ([], ()))), ((21:Int), ()))))
 else
 ((F_921 ((List.take (List.length a0.1) a0.1), a0.2) a3.1)).bind fun r13 =>
 bif (!r13) then
 (some (((0:Int), ((0:Int), ((0:Int), ([], ())))), (([], ([], ([], ()))), ((21:Int), ()))))
 else
 bif ((x1 && x5) && true) then
 ((lim st_911_0 ((x3, (x7, (a4, ((((List.length a1) : Nat) : Int), ((0:Int), ()))))), (((List.take (List.length a0.1) a0.1), a0.2), ((a3.1, (a3.2.1, (x8, ((List.take (List.length x9) x9), ())))), (((0:Int), ((0:Int), ((0:Int), ()))), ((), (((0:Nat), ((0:Nat), ((0:Nat), ()))), ([], ([], ([], ()))))))))))).bind fun r14 =>
 els (fun l15 =>
 let x17 : List (T ((Fm.i IntKind.i64).pair ((Fm.i IntKind.i64).pair ((Fm.i IntKind.i64).pair ((Fm.si IntKind.u32).pair Fm.unit))))) := l15.2.2.2.2.2.1
 let x18 : List Int := (List.getD x17 ((0:Nat) + (Int.toNat (IntKind.wrap .i64 ((((List.length l15.1.1) : Nat) : Int) - (1:Int))))) ((0:Int), ((0:Int), ((0:Int), ([], ()))))).2.2.2.1
 let x19 : Nat := l15.2.2.2.1.1
 let x20 : Nat := l15.2.2.2.1.2.1
 let x21 : Nat := l15.2.2.2.1.2.2.1
 bif (decide (((0:Int) ≤ (IntKind.wrap .i64 ((((List.length l15.1.1) : Nat) : Int) - (1:Int)))) ∧ ((IntKind.wrap .i64 ((((List.length l15.1.1) : Nat) : Int) - (1:Int))) < ((x20 : Nat) : Int)))) then
 bif (decide (((0:Nat) + (Int.toNat (IntKind.wrap .i64 ((((List.length l15.1.1) : Nat) : Int) - (1:Int))))) < (List.length x17))) then
 ((F_924 ((List.getD x17 ((0:Nat) + (Int.toNat (IntKind.wrap .i64 ((((List.length l15.1.1) : Nat) : Int) - (1:Int))))) ((0:Int), ((0:Int), ((0:Int), ([], ()))))).1, ((List.getD x17 ((0:Nat) + (Int.toNat (IntKind.wrap .i64 ((((List.length l15.1.1) : Nat) : Int) - (1:Int))))) ((0:Int), ((0:Int), ((0:Int), ([], ()))))).2.1, ((List.getD x17 ((0:Nat) + (Int.toNat (IntKind.wrap .i64 ((((List.length l15.1.1) : Nat) : Int) - (1:Int))))) ((0:Int), ((0:Int), ((0:Int), ([], ()))))).2.2.1, ((List.take (List.length x18) x18), ())))))).bind fun r22 =>
 let x23 : Int := r22.2.2.1
 let x24 : List Int := r22.2.2.2.1
 bif ((((((allR x19 (fun j25 => true)) && ((allR x20 (fun j26 => true)) && ((allR x21 (fun j27 => true)) && true))) && true) && true) && true) && true) then
 (some ((r22.1, (r22.2.1, (x23, ((List.take (List.length x24) x24), ())))), (((rowsOf x19 (fun j28 => ((List.getD l15.2.2.2.2.1 j28 ((0:Int), ((0:Int), ((0:Int), ([], ()))))).1, ((List.getD l15.2.2.2.2.1 j28 ((0:Int), ((0:Int), ((0:Int), ([], ()))))).2.1, ((List.getD l15.2.2.2.2.1 j28 ((0:Int), ((0:Int), ((0:Int), ([], ()))))).2.2.1, ((List.take (List.length (List.getD l15.2.2.2.2.1 j28 ((0:Int), ((0:Int), ((0:Int), ([], ()))))).2.2.2.1) (List.getD l15.2.2.2.2.1 j28 ((0:Int), ((0:Int), ((0:Int), ([], ()))))).2.2.2.1), ())))))), ((rowsOf x20 (fun j29 => ((List.getD x17 j29 ((0:Int), ((0:Int), ((0:Int), ([], ()))))).1, ((List.getD x17 j29 ((0:Int), ((0:Int), ((0:Int), ([], ()))))).2.1, ((List.getD x17 j29 ((0:Int), ((0:Int), ((0:Int), ([], ()))))).2.2.1, ((List.take (List.length (List.getD x17 j29 ((0:Int), ((0:Int), ((0:Int), ([], ()))))).2.2.2.1) (List.getD x17 j29 ((0:Int), ((0:Int), ((0:Int), ([], ()))))).2.2.2.1), ())))))), ((rowsOf x21 (fun j30 => ((List.getD l15.2.2.2.2.2.2.1 j30 ((0:Int), ((0:Int), ((0:Int), ([], ()))))).1, ((List.getD l15.2.2.2.2.2.2.1 j30 ((0:Int), ((0:Int), ((0:Int), ([], ()))))).2.1, ((List.getD l15.2.2.2.2.2.2.1 j30 ((0:Int), ((0:Int), ((0:Int), ([], ()))))).2.2.1, ((List.take (List.length (List.getD l15.2.2.2.2.2.2.1 j30 ((0:Int), ((0:Int), ((0:Int), ([], ()))))).2.2.2.1) (List.getD l15.2.2.2.2.2.2.1 j30 ((0:Int), ((0:Int), ((0:Int), ([], ()))))).2.2.2.1), ())))))), ()))), ((0:Int), ()))))
 else
 none
 else
 none
 else
 none) (fun r16 =>
 let x31 : Int := r16.2.1.1
 let x32 : Int := r16.2.1.2.1
 let x33 : Int := r16.2.1.2.2.1
 (some ((x31, (x32, (x33, ([], ())))), (([], ([], ([], ()))), r16.1)))) r14
 else
 none
 else
 none
 else
 none
 else
 none
noncomputable def G_911 : T fa_911 → TH hN0 → Option ((Int × Int × Int × List Int × Unit) × ((List (Int × Int × Int × List Int × Unit)) × (List (Int × Int × Int × List Int × Unit)) × (List (Int × Int × Int × List Int × Unit)) × Unit) × Int × Unit) := fun x y => F_911 x.1 x.2.1 x.2.2.1 x.2.2.2.1 x.2.2.2.2.1
noncomputable def c_911 : Orc := ent i_911 [] 0 (sp fa_911 hN0 fr_911 hN0 G_911 (outN fr_911))
theorem ok_911 : OrcOk PR c_911 := fnT okO_911 mixed p_911 (by kernel_rfl) (by kernel_rfl) (L := L_911) (kp := false) (by kernel_rfl) (inn := (innN fr_911)) (out := (outN fr_911)) (fun _ _ => rfl) (loopsL (l := [((lpN f_911 0), ls_911_0)]) (by kernel_rfl) ⟨lp_911_0, trivial⟩) (fun x y => by kernel_rfl)
end Go.Proofs.YtkmkhcmfpbffjaaGreat.VI
