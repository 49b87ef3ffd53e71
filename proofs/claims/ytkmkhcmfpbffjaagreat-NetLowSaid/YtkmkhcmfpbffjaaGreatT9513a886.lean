import Derived.Test.YtkmkhcmfpbffjaaGreatTd950fe8c
namespace Go.Proofs.YtkmkhcmfpbffjaaGreat.VI
set_option linter.unusedVariables false
set_option linter.unusedSimpArgs false
set_option maxRecDepth 100000
noncomputable def O_987 : Orc := c_976
theorem okO_987 : OrcOk PR O_987 := ok_976
abbrev fa_987 : Fm := (.pair (.i .u64) (.pair (.i .i64) .unit))
abbrev fr_987 : Fm := (.i .u64)
noncomputable def F_987 (a0 : Int) (a1 : Int) : Option (Int) :=
 ((F_976 a0 (IntKind.wrap .i64 (a1 - (32:Int))))).bind fun r0 =>
 (some r0.1)
noncomputable def G_987 : T fa_987 → TH hN0 → Option (Int) := fun x y => F_987 x.1 x.2.1
noncomputable def c_987 : Orc := ent i_987 [] 0 (sp fa_987 hN0 fr_987 hN0 G_987 (outN fr_987))
theorem ok_987 : OrcOk PR c_987 := fnT okO_987 mixed p_987 (by kernel_rfl) (by kernel_rfl) (L := L0) (kp := false) (by kernel_rfl) (inn := (innN fr_987)) (out := (outN fr_987)) (fun _ _ => rfl) (loopsL (l := []) (by kernel_rfl) trivial) (fun x y => by kernel_rfl)
noncomputable def O_952 : Orc := (orm c_985 (orm c_939 (orm c_980 (orm c_964 (orm c_986 (orm c_976 (orm c_988 (orm c_987 (orm c_95d c_93a)))))))))
theorem okO_952 : OrcOk PR O_952 := (orm_ok ok_985 (orm_ok ok_939 (orm_ok ok_980 (orm_ok ok_964 (orm_ok ok_986 (orm_ok ok_976 (orm_ok ok_988 (orm_ok ok_987 (orm_ok ok_95d ok_93a)))))))))
abbrev fa_952 : Fm := (.pair (.i .i64) (.pair (.i .u32) (.pair (.i .u32) .unit)))
abbrev fr_952 : Fm := (.i .u32)
noncomputable def F_952 (a0 : Int) (a1 : Int) (a2 : Int) : Option (Int) :=
 bif (!(decide ((IntKind.wrap .i64 (bits .and .u32 (a1 / (8388608:Int)) (255:Int))) < (255:Int)))) then
 ((F_980 a0 a1)).bind fun r0 =>
 (some r0)
 else
 ((F_939 (2:Int) a1)).bind fun r1 =>
 bif r1 then
 ((F_980 a0 a1)).bind fun r2 =>
 (some r2)
 else
 ((F_964 (2:Int) a1)).bind fun r3 =>
 let x4 : Int := r3.2.2.1
 ((F_986 a0 r3.2.1 x4)).bind fun r5 =>
 let x6 : Int := (IntKind.wrap .i64 (r5 - r3.2.1))
 ((F_976 x4 x6)).bind fun r7 =>
 bif (decide (x6 ≤ (0:Int))) then
 ((F_980 a0 a1)).bind fun r8 =>
 (some r8)
 else
 bif (!r7.2.1) then
 ((F_980 a0 a1)).bind fun r9 =>
 (some r9)
 else
 ((F_988 x4 x6)).bind fun r10 =>
 ((F_987 r10 x6)).bind fun r11 =>
 ((F_95d a0 (0:Int) r3.1 r5 (bif (decide (r11 > (IntKind.wrap .u64 a2))) then (IntKind.wrap .u64 (r7.1 + (1:Int))) else r7.1) false)).bind fun r12 =>
 let x13 : Bool := r12.2.1.2.2.1
 bif x13 then
 ((F_93a a0 r3.1)).bind fun r14 =>
 (some r14)
 else
 (some r12.1)
noncomputable def G_952 : T fa_952 → TH hN0 → Option (Int) := fun x y => F_952 x.1 x.2.1 x.2.2.1
noncomputable def c_952 : Orc := ent i_952 [] 0 (sp fa_952 hN0 fr_952 hN0 G_952 (outN fr_952))
theorem ok_952 : OrcOk PR c_952 := fnT okO_952 mixed p_952 (by kernel_rfl) (by kernel_rfl) (L := L0) (kp := false) (by kernel_rfl) (inn := (innN fr_952)) (out := (outN fr_952)) (fun _ _ => rfl) (loopsL (l := []) (by kernel_rfl) trivial) (fun x y => by kernel_rfl)
noncomputable def O_951 : Orc := (orm c_953 (orm c_954 c_952))
theorem okO_951 : OrcOk PR O_951 := (orm_ok ok_953 (orm_ok ok_954 ok_952))
abbrev fa_951 : Fm := (.pair (.i .i64) (.pair (.i .u32) (.cst (.ref 0 1 0) (.cst (.ref 1 1 0) (.cst (.ref 2 1 0) (.cst (.ref 3 1 0) .unit))))))
abbrev ha_951 : List BF := [(.ints 1 y_90 true .i64), (.list 1 y_92 true (.pair (.i .i64) (.pair (.i .i64) (.pair (.i .i64) (.pair (.si .u32) .unit))))), (.ints 1 y_94 true .u64), (.ints 1 y_91 true .u32)]
abbrev fr_951 : Fm := (.i .u32)
abbrev hr_951 : List BF := [(.ints 1 y_90 true .i64), (.list 1 y_92 true (.pair (.i .i64) (.pair (.i .i64) (.pair (.i .i64) (.pair (.si .u32) .unit))))), (.ints 1 y_94 true .u64), (.ints 1 y_91 true .u32)]
def inn_951 : T fr_951 → TH hr_951 → (Int) × (List Int × (Int × Int × Int × List Int × Unit) × List Int × List Int × Unit) := Prod.mk
def out_951 : (Int) × (List Int × (Int × Int × Int × List Int × Unit) × List Int × List Int × Unit) → T fr_951 × TH hr_951 := id
noncomputable def F_951 (a0 : Int) (a1 : Int) (a2 : List Int) (a3 : Int × Int × Int × List Int × Unit) (a4 : List Int) (a5 : List Int) : Option ((Int) × (List Int × (Int × Int × Int × List Int × Unit) × List Int × List Int × Unit)) :=
 let x0 : Int := a3.2.2.1
 let x1 : List Int := a3.2.2.2.1
 bif (decide ((0:Nat) < (List.length a2))) then
 ((F_953 x0 a1)).bind fun r2 =>
 bif (decide ((0:Nat) < (List.length a4))) then
 bif (decide ((0:Nat) < (List.length a5))) then
 ((F_954 (List.getD a4 (0:Nat) (0:Int)) (List.getD a5 (0:Nat) (0:Int)) (IntKind.wrap .u64 a0))).bind fun r3 =>
 ((F_952 (List.getD a2 (0:Nat) (0:Int)) r2 r3)).bind fun r4 =>
 (some (r4, (a2, ((a3.1, (a3.2.1, (x0, ((List.take (List.length x1) x1), ())))), (a4, (a5, ()))))))
 else
 none
 else
 none
 else
 none
noncomputable def G_951 : T fa_951 → TH ha_951 → Option ((Int) × (List Int × (Int × Int × Int × List Int × Unit) × List Int × List Int × Unit)) := fun x y => F_951 x.1 x.2.1 y.1 y.2.1 y.2.2.1 y.2.2.2.1
noncomputable def c_951 : Orc := ent i_951 [false, false, true, true, true, true] 0 (sp fa_951 ha_951 fr_951 hr_951 G_951 out_951)
theorem ok_951 : OrcOk PR c_951 := fnT okO_951 mixed p_951 (by kernel_rfl) (by kernel_rfl) (L := L0) (kp := false) (by kernel_rfl) (inn := inn_951) (out := out_951) (fun _ _ => rfl) (loopsL (l := []) (by kernel_rfl) trivial) (fun x y => by kernel_rfl)
noncomputable def O_9ab : Orc := c_951
theorem okO_9ab : OrcOk PR O_9ab := ok_951
abbrev fa_9ab : Fm := (.pair (.agg (.pair (.i .i64) (.pair (.i .i64) (.pair (.i .i64) (.pair (.si .u32) .unit))))) (.pair (.i .i64) (.pair (.fn i_951 (.pair (.ref 0 1 0) (.pair (.ref 1 1 0) (.pair (.ref 2 1 0) (.pair (.ref 3 1 0) .unit))))) .unit)))
abbrev ha_9ab : List BF := [(.ints 1 y_90 true .i64), (.list 1 y_92 true (.pair (.i .i64) (.pair (.i .i64) (.pair (.i .i64) (.pair (.si .u32) .unit))))), (.ints 1 y_94 true .u64), (.ints 1 y_91 true .u32)]
abbrev fr_9ab : Fm := (.agg (.pair (.i .i64) (.pair (.i .i64) (.pair (.i .i64) (.pair (.si .u32) .unit)))))
abbrev hr_9ab : List BF := [(.ints 1 y_90 true .i64), (.list 1 y_92 true (.pair (.i .i64) (.pair (.i .i64) (.pair (.i .i64) (.pair (.si .u32) .unit))))), (.ints 1 y_94 true .u64), (.ints 1 y_91 true .u32)]
abbrev ff_9ab_0 : Fm := (.us 2 (.cst (.fn i_951 (.cst (.ref 0 1 0) (.cst (.ref 1 1 0) (.cst (.ref 2 1 0) (.cst (.ref 3 1 0) .unit))))) (.us 3 (.cst (.ref 4 1 0) (.cst (.ref 5 1 0) (.us 13 (.pair (.si .u32) (.pair (.i .i64) (.pair (.i .i64) (.us 14 .unit))))))))))
abbrev hf_9ab_0 : List BF := [(.ints 1 y_90 true .i64), (.list 1 y_92 true (.pair (.i .i64) (.pair (.i .i64) (.pair (.i .i64) (.pair (.si .u32) .unit))))), (.ints 1 y_94 true .u64), (.ints 1 y_91 true .u32), (.list 1 y_92 true (.pair (.i .i64) (.pair (.i .i64) (.pair (.i .i64) (.cst .nils .unit))))), (.list 1 y_92 true (.pair (.i .i64) (.pair (.i .i64) (.pair (.i .i64) (.pair (.own 6 1 0 1) .unit))))), (.ints 1 y_91 true .u32)]
abbrev X_9ab_0 : Xs := (.one (.exit 0) [6, 7] (.us 6 (.cst (.ref 4 1 0) (.cst (.ref 5 1 0) (.us 30 .unit)))) [(.ints 1 y_90 true .i64), (.list 1 y_92 true (.pair (.i .i64) (.pair (.i .i64) (.pair (.i .i64) (.pair (.si .u32) .unit))))), (.ints 1 y_94 true .u64), (.ints 1 y_91 true .u32), (.list 1 y_92 true (.pair (.i .i64) (.pair (.i .i64) (.pair (.i .i64) (.cst .nils .unit))))), (.list 1 y_92 true (.pair (.i .i64) (.pair (.i .i64) (.pair (.i .i64) (.pair (.own 6 1 0 1) .unit))))), (.ints 1 y_91 true .u32)])
abbrev S_9ab_0 : Type := T ff_9ab_0 × TH hf_9ab_0
abbrev E_9ab_0 : Type := TX X_9ab_0
noncomputable def LB_9ab_0 : Lps := L0
noncomputable def st_9ab_0 : StepT S_9ab_0 E_9ab_0 := fun R v kn ko =>
 let x0 : Int := v.1.2.2.1
 let x1 : List Int := v.1.1
 let x2 : Nat := (Int.toNat x0)
 let x3 : List Int := v.2.1
 let x4 : List Int := v.2.2.1.2.2.2.1
 bif (decide (x0 < v.1.2.1)) then
 bif (decide (((0:Int) ≤ x0) ∧ (x0 < (((List.length x1) : Nat) : Int)))) then
 ((F_951 x0 (List.getD x1 x2 (0:Int)) x3 (v.2.2.1.1, (v.2.2.1.2.1, (v.2.2.1.2.2.1, ((List.take (List.length x4) x4), ())))) v.2.2.2.1 v.2.2.2.2.1)).bind fun r5 =>
 let x6 : List Int := r5.2.2.1.2.2.2.1
 bif (decide (((0:Int) ≤ x0) ∧ (x0 < ((v.2.2.2.2.2.2.1.2.2.2.1 : Nat) : Int)))) then
 bif (decide (((0:Nat) + (x2 * (1:Nat))) < (List.length v.2.2.2.2.2.2.2.1))) then
 (kn (((List.take (List.length x1) x1), (v.1.2.1, ((IntKind.wrap .i64 (x0 + (1:Int))), ()))), (r5.2.1, ((r5.2.2.1.1, (r5.2.2.1.2.1, (r5.2.2.1.2.2.1, ((List.take (List.length x6) x6), ())))), (r5.2.2.2.1, (r5.2.2.2.2.1, (v.2.2.2.2.2.1, (v.2.2.2.2.2.2.1, ((List.set v.2.2.2.2.2.2.2.1 ((0:Nat) + (x2 * (1:Nat))) r5.1), ())))))))))
 else
 none
 else
 none
 else
 none
 else
 (ko ((), (x3, ((v.2.2.1.1, (v.2.2.1.2.1, (v.2.2.1.2.2.1, ((List.take (List.length x4) x4), ())))), v.2.2.2))))
noncomputable def ls_9ab_0 : St → LTr := (lsum ff_9ab_0 hf_9ab_0 X_9ab_0 Prod.mk id st_9ab_0 (hd [] [] [2, 6, 7, 21, 22, 23] 4))
theorem lp_9ab_0 : LoopOk PR 4 (lpN f_95a 0) ls_9ab_0 := loopT okO_9ab mixed (L := LB_9ab_0) (d := 1) (bs := []) (ks := [2, 6, 7, 21, 22, 23]) (loopsL (l := []) (by kernel_rfl) trivial) (by kernel_rfl) (inS := Prod.mk) (outS := id) (fun _ _ => rfl) (inX := id) (outX := id) (fun _ => rfl) (fun v R kn ko => by kernel_rfl) (hd_wk [] [] [2, 6, 7, 21, 22, 23] 4)
noncomputable def L_9ab : Lps := (lpB 4 (.by_ ls_9ab_0) L0)
def inn_9ab : T fr_9ab → TH hr_9ab → (Int × Int × Int × List Int × Unit) × (List Int × (Int × Int × Int × List Int × Unit) × List Int × List Int × Unit) := Prod.mk
def out_9ab : (Int × Int × Int × List Int × Unit) × (List Int × (Int × Int × Int × List Int × Unit) × List Int × List Int × Unit) → T fr_9ab × TH hr_9ab := id
noncomputable def F_9ab (a0 : Int × Int × Int × List Int × Unit) (a1 : Int) (a2 : List Int) (a3 : Int × Int × Int × List Int × Unit) (a4 : List Int) (a5 : List Int) : Option ((Int × Int × Int × List Int × Unit) × (List Int × (Int × Int × Int × List Int × Unit) × List Int × List Int × Unit)) :=
 let x0 : List Int := a0.2.2.2.1
 let x1 : Nat := (List.length x0)
 let x2 : Int := ((x1 : Nat) : Int)
 let x3 : Int := a3.2.2.1
 let x4 : List Int := a3.2.2.2.1
 let x5 : Nat := (Int.toNat x2)
 bif (decide (((0:Int) ≤ x2) ∧ (x2 ≤ (1073741824:Int)))) then
 ((lim st_9ab_0 (((List.take x1 x0), (x2, ((0:Int), ()))), (a2, ((a3.1, (a3.2.1, (x3, ((List.take (List.length x4) x4), ())))), (a4, (a5, (((0:Int), ((0:Int), ((0:Int), ()))), ((a0.1, (a0.2.1, (a1, (x5, ())))), ((List.replicate x5 (0:Int)), ())))))))))).bind fun r6 =>
 let x7 : List Int := r6.2.2.1.2.2.2.1
 (some ((r6.2.2.2.2.2.2.1.1, (r6.2.2.2.2.2.2.1.2.1, (r6.2.2.2.2.2.2.1.2.2.1, ((List.take r6.2.2.2.2.2.2.1.2.2.2.1 (List.drop (0:Nat) r6.2.2.2.2.2.2.2.1)), ())))), (r6.2.1, ((r6.2.2.1.1, (r6.2.2.1.2.1, (r6.2.2.1.2.2.1, ((List.take (List.length x7) x7), ())))), (r6.2.2.2.1, (r6.2.2.2.2.1, ()))))))
 else
 none
noncomputable def G_9ab : T fa_9ab → TH ha_9ab → Option ((Int × Int × Int × List Int × Unit) × (List Int × (Int × Int × Int × List Int × Unit) × List Int × List Int × Unit)) := fun x y => F_9ab x.1 x.2.1 y.1 y.2.1 y.2.2.1 y.2.2.2.1
noncomputable def c_9ab : Orc := ent i_95a [false, false, true] 0 (sp fa_9ab ha_9ab fr_9ab hr_9ab G_9ab out_9ab)
theorem ok_9ab : OrcOk PR c_9ab := fnT okO_9ab mixed p_95a (by kernel_rfl) (by kernel_rfl) (L := L_9ab) (kp := false) (by kernel_rfl) (inn := inn_9ab) (out := out_9ab) (fun _ _ => rfl) (loopsL (l := [((lpN f_95a 0), ls_9ab_0)]) (by kernel_rfl) ⟨lp_9ab_0, trivial⟩) (fun x y => by kernel_rfl)
noncomputable def O_9ac : Orc := (orm c_947 (orm c_978 c_9ab))
theorem okO_9ac : OrcOk PR O_9ac := (orm_ok ok_947 (orm_ok ok_978 ok_9ab))
abbrev fa_9ac : Fm := (.pair (.agg (.pair (.i .i64) (.pair (.i .i64) (.pair (.i .i64) (.pair (.si .u32) .unit))))) (.pair (.i .i64) (.pair (.fn i_951 (.pair (.ref 0 1 0) (.pair (.ref 1 1 0) (.pair (.ref 2 1 0) (.pair (.ref 3 1 0) .unit))))) .unit)))
abbrev ha_9ac : List BF := [(.ints 1 y_90 true .i64), (.list 1 y_92 true (.pair (.i .i64) (.pair (.i .i64) (.pair (.i .i64) (.pair (.si .u32) .unit))))), (.ints 1 y_94 true .u64), (.ints 1 y_91 true .u32)]
abbrev fr_9ac : Fm := (.tup (.pair (.agg (.pair (.i .i64) (.pair (.i .i64) (.pair (.i .i64) (.pair (.si .u32) .unit))))) (.pair (.i .i64) .unit)))
abbrev hr_9ac : List BF := [(.ints 1 y_90 true .i64), (.list 1 y_92 true (.pair (.i .i64) (.pair (.i .i64) (.pair (.i .i64) (.pair (.si .u32) .unit))))), (.ints 1 y_94 true .u64), (.ints 1 y_91 true .u32)]
def inn_9ac : T fr_9ac → TH hr_9ac → ((Int × Int × Int × List Int × Unit) × Int × Unit) × (List Int × (Int × Int × Int × List Int × Unit) × List Int × List Int × Unit) := Prod.mk
def out_9ac : ((Int × Int × Int × List Int × Unit) × Int × Unit) × (List Int × (Int × Int × Int × List Int × Unit) × List Int × List Int × Unit) → T fr_9ac × TH hr_9ac := id
noncomputable def F_9ac (a0 : Int × Int × Int × List Int × Unit) (a1 : Int) (a2 : List Int) (a3 : Int × Int × Int × List Int × Unit) (a4 : List Int) (a5 : List Int) : Option (((Int × Int × Int × List Int × Unit) × Int × Unit) × (List Int × (Int × Int × Int × List Int × Unit) × List Int × List Int × Unit)) :=
 let x0 : Int := a0.2.2.1
 let x1 : List Int := a0.2.2.2.1
 let x2 : Int := a3.2.2.1
 let x3 : List Int := a3.2.2.2.1
 ((F_947 (a0.1, (a0.2.1, (x0, ((List.take (List.length x1) x1), ())))))).bind fun r4 =>
 bif (!r4) then
 (some ((((0:Int), ((0:Int), ((0:Int), ([], ())))), ((21:Int), ())), (a2, ((a3.1, (a3.2.1, (x2, ((List.take (List.length x3) x3), ())))), (a4, (a5, ()))))))
 else
 ((F_978 a1)).bind fun r5 =>
 bif (!r5) then
 (some ((((0:Int), ((0:Int), ((0:Int), ([], ())))), ((22:Int), ())), (a2, ((a3.1, (a3.2.1, (x2, ((List.take (List.length x3) x3), ())))), (a4, (a5, ()))))))
 else
 ((F_9ab (a0.1, (a0.2.1, (x0, ((List.take (List.length x1) x1), ())))) a1 a2 (a3.1, (a3.2.1, (x2, ((List.take (List.length x3) x3), ())))) a4 a5)).bind fun r6 =>
 let x7 : List Int := r6.1.2.2.2.1
 let x8 : List Int := r6.2.2.1.2.2.2.1
 (some (((r6.1.1, (r6.1.2.1, (r6.1.2.2.1, ((List.take (List.length x7) x7), ())))), ((0:Int), ())), (r6.2.1, ((r6.2.2.1.1, (r6.2.2.1.2.1, (r6.2.2.1.2.2.1, ((List.take (List.length x8) x8), ())))), r6.2.2.2))))
noncomputable def G_9ac : T fa_9ac → TH ha_9ac → Option (((Int × Int × Int × List Int × Unit) × Int × Unit) × (List Int × (Int × Int × Int × List Int × Unit) × List Int × List Int × Unit)) := fun x y => F_9ac x.1 x.2.1 y.1 y.2.1 y.2.2.1 y.2.2.2.1
noncomputable def c_9ac : Orc := ent i_94e [false, false, true] 0 (sp fa_9ac ha_9ac fr_9ac hr_9ac G_9ac out_9ac)
theorem ok_9ac : OrcOk PR c_9ac := fnT okO_9ac mixed p_94e (by kernel_rfl) (by kernel_rfl) (L := L0) (kp := false) (by kernel_rfl) (inn := inn_9ac) (out := out_9ac) (fun _ _ => rfl) (loopsL (l := []) (by kernel_rfl) trivial) (fun x y => by kernel_rfl)
noncomputable def O_926 : Orc := (orm c_9ac c_951)
theorem okO_926 : OrcOk PR O_926 := (orm_ok ok_9ac ok_951)
abbrev fa_926 : Fm := (.pair (.agg (.pair (.i .i64) (.pair (.i .i64) (.pair (.i .i64) (.pair (.si .u32) .unit))))) (.pair (.i .i64) (.pair (.i .u64) (.pair (.i .u32) .unit))))
abbrev fr_926 : Fm := (.tup (.pair (.agg (.pair (.i .i64) (.pair (.i .i64) (.pair (.i .i64) (.pair (.si .u32) .unit))))) (.pair (.i .i64) .unit)))
noncomputable def F_926 (a0 : Int × Int × Int × List Int × Unit) (a1 : Int) (a2 : Int) (a3 : Int) : Option ((Int × Int × Int × List Int × Unit) × Int × Unit) :=
 let x0 : Int := a0.2.2.1
 let x1 : List Int := a0.2.2.2.1
 ((F_9ac (a0.1, (a0.2.1, (x0, ((List.take (List.length x1) x1), ())))) (List.getD [a1] (0:Nat) (0:Int)) [a1] (a0.1, (a0.2.1, (x0, ((List.take (List.length x1) x1), ())))) [a2] [a3])).bind fun r2 =>
 let x3 : List Int := r2.1.1.2.2.2.1
 (some ((r2.1.1.1, (r2.1.1.2.1, (r2.1.1.2.2.1, ((List.take (List.length x3) x3), ())))), r2.1.2))
noncomputable def G_926 : T fa_926 → TH hN0 → Option ((Int × Int × Int × List Int × Unit) × Int × Unit) := fun x y => F_926 x.1 x.2.1 x.2.2.1 x.2.2.2.1
noncomputable def c_926 : Orc := ent i_926 [] 0 (sp fa_926 hN0 fr_926 hN0 G_926 (outN fr_926))
theorem ok_926 : OrcOk PR c_926 := fnT okO_926 mixed p_926 (by kernel_rfl) (by kernel_rfl) (L := L0) (kp := false) (by kernel_rfl) (inn := (innN fr_926)) (out := (outN fr_926)) (fun _ _ => rfl) (loopsL (l := []) (by kernel_rfl) trivial) (fun x y => by kernel_rfl)
noncomputable def O_912 : Orc := (orm c_915 (orm c_925 (orm c_927 c_926)))
theorem okO_912 : OrcOk PR O_912 := (orm_ok ok_915 (orm_ok ok_925 (orm_ok ok_927 ok_926)))
abbrev fa_912 : Fm := (.pair (.agg (.pair (.si .i64) (.pair (.i .i64) (.pair (.i .i64) (.pair (.i .i64) (.pair (.i .i64) (.pair (.i .i64) (.pair (.i .u32) (.pair (.i .u32) (.pair (.i .u32) (.pair (.i .u32) (.pair (.i .u32) (.pair (.i .u32) (.pair (.i .i64) (.pair (.i .i64) (.pair (.i .i64) (.pair (.i .i64) (.pair (.i .u64) (.pair (.i .u32) (.pair .b (.pair (.i .i64) (.pair (.i .i64) (.pair (.i .i64) (.pair (.i .i64) (.pair (.i .i64) (.pair (.i .i64) (.pair (.i .i64) .unit))))))))))))))))))))))))))) (.pair (.sr (.pair (.pair (.i .i64) (.pair (.i .i64) (.pair (.i .i64) (.pair (.si .u32) .unit)))) (.pair (.pair (.i .i64) (.pair (.i .i64) (.pair (.i .i64) (.pair (.si .u32) .unit)))) .unit)) 8) (.pair (.i .i64) .unit)))
abbrev fr_912 : Fm := (.tup (.pair (.sr (.pair (.i .i64) (.pair (.i .i64) (.pair (.i .i64) (.pair (.si .u32) .unit)))) 4) (.pair (.i .i64) .unit)))
abbrev ff_912_0 : Fm := (.us 2 (.pair (.i .i64) (.cst (.ref 0 1 0) (.us 4 (.pair (.own 1 1 0 4) (.us 8 (.pair (.sr (.pair (.pair (.i .i64) (.pair (.i .i64) (.pair (.i .i64) (.pair (.si .u32) .unit)))) (.pair (.pair (.i .i64) (.pair (.i .i64) (.pair (.i .i64) (.pair (.si .u32) .unit)))) .unit)) 8) (.pair (.i .i64) (.pair (.i .i64) (.us 36 .unit))))))))))
abbrev hf_912_0 : List BF := [(.list 1 y_95 true (.pair (.si .i64) (.pair (.i .i64) (.pair (.i .i64) (.pair (.i .i64) (.pair (.i .i64) (.pair (.i .i64) (.pair (.i .u32) (.pair (.i .u32) (.pair (.i .u32) (.pair (.i .u32) (.pair (.i .u32) (.pair (.i .u32) (.pair (.i .i64) (.pair (.i .i64) (.pair (.i .i64) (.pair (.i .i64) (.pair (.i .u64) (.pair (.i .u32) (.pair .b (.pair (.i .i64) (.pair (.i .i64) (.pair (.i .i64) (.pair (.i .i64) (.pair (.i .i64) (.pair (.i .i64) (.pair (.i .i64) .unit))))))))))))))))))))))))))), (.recs 1 y_92 true (.pair (.i .i64) (.pair (.i .i64) (.pair (.i .i64) (.pair (.si .u32) .unit)))) 4)]
abbrev X_912_0 : Xs := (.alt (.exit 0) [8] (.us 8 (.pair (.own 0 1 0 4) (.us 47 .unit))) [(.recs 1 y_92 true (.pair (.i .i64) (.pair (.i .i64) (.pair (.i .i64) (.pair (.si .u32) .unit)))) 4)] (.one .ret [6, 7] (.us 6 (.cst .nils (.pair (.i .i64) (.us 48 .unit)))) []))
abbrev S_912_0 : Type := T ff_912_0 × TH hf_912_0
abbrev E_912_0 : Type := TX X_912_0
noncomputable def LB_912_0 : Lps := L0
noncomputable def st_912_0 : StepT S_912_0 E_912_0 := fun R v kn ko =>
 let x0 : List (T (((Fm.i IntKind.i64).pair ((Fm.i IntKind.i64).pair ((Fm.i IntKind.i64).pair ((Fm.si IntKind.u32).pair Fm.unit)))).pair (((Fm.i IntKind.i64).pair ((Fm.i IntKind.i64).pair ((Fm.i IntKind.i64).pair ((Fm.si IntKind.u32).pair Fm.unit)))).pair Fm.unit))) := v.1.2.2.1
 let x1 : Int := v.1.2.2.2.2.1
 let x2 : List Int := (List.getD x0 (Int.toNat x1) (((0:Int), ((0:Int), ((0:Int), ([], ())))), (((0:Int), ((0:Int), ((0:Int), ([], ())))), ()))).1.2.2.2.1
 let x3 : Int := v.2.1.2.1
 let x4 : Int := v.1.1
 let x5 : Nat := (List.length x0)
 let x6 : Nat := v.1.2.1
 let x7 : Nat := (x6 + (1:Nat))
 let x10 : Bool := (((allR x5 (fun j8 => true)) && true) && ((allR x7 (fun j9 => true)) && true))
 let x11 : List Int := v.2.1.1
 let x12 : Nat := (List.length v.2.2.1)
 bif (decide (x1 < v.1.2.2.2.1)) then
 bif (decide (((0:Int) ≤ x1) ∧ (x1 < ((x5 : Nat) : Int)))) then
 ((F_925 ((List.getD x0 (Int.toNat x1) (((0:Int), ((0:Int), ((0:Int), ([], ())))), (((0:Int), ((0:Int), ((0:Int), ([], ())))), ()))).1.1, ((List.getD x0 (Int.toNat x1) (((0:Int), ((0:Int), ((0:Int), ([], ())))), (((0:Int), ((0:Int), ((0:Int), ([], ())))), ()))).1.2.1, ((List.getD x0 (Int.toNat x1) (((0:Int), ((0:Int), ((0:Int), ([], ())))), (((0:Int), ((0:Int), ((0:Int), ([], ())))), ()))).1.2.2.1, ((List.take (List.length x2) x2), ())))) x3)).bind fun r13 =>
 bif v.2.1.2.2.2.2.2.2.2.2.2.2.2.2.2.2.2.2.2.2.1 then
 ((F_926 ((List.getD x0 (Int.toNat x1) (((0:Int), ((0:Int), ((0:Int), ([], ())))), (((0:Int), ((0:Int), ((0:Int), ([], ())))), ()))).1.1, ((List.getD x0 (Int.toNat x1) (((0:Int), ((0:Int), ((0:Int), ([], ())))), (((0:Int), ((0:Int), ((0:Int), ([], ())))), ()))).1.2.1, ((List.getD x0 (Int.toNat x1) (((0:Int), ((0:Int), ((0:Int), ([], ())))), (((0:Int), ((0:Int), ((0:Int), ([], ())))), ()))).1.2.2.1, ((List.take (List.length x2) x2), ())))) x3 v.2.1.2.2.2.2.2.2.2.2.2.2.2.2.2.2.2.2.1 (IntKind.wrap .u32 ((IntKind.wrap .u32 ((1073741824:Int) + (IntKind.wrap .u32 ((IntKind.wrap .u32 x4) * (64:Int))))) + (IntKind.wrap .u32 x1))))).bind fun r14 =>
 bif (r14.2.1 != (0:Int)) then
 (ko (Sum.inr (r14.2, ())))
 else
 bif (decide (x7 ≤ (1073741824:Nat))) then
 bif x10 then
 (kn ((x4, (x7, ((rowsOf x5 (fun j15 => (((List.getD x0 j15 (((0:Int), ((0:Int), ((0:Int), ([], ())))), (((0:Int), ((0:Int), ((0:Int), ([], ())))), ()))).1.1, ((List.getD x0 j15 (((0:Int), ((0:Int), ((0:Int), ([], ())))), (((0:Int), ((0:Int), ((0:Int), ([], ())))), ()))).1.2.1, ((List.getD x0 j15 (((0:Int), ((0:Int), ((0:Int), ([], ())))), (((0:Int), ((0:Int), ((0:Int), ([], ())))), ()))).1.2.2.1, ((List.take (List.length (List.getD x0 j15 (((0:Int), ((0:Int), ((0:Int), ([], ())))), (((0:Int), ((0:Int), ((0:Int), ([], ())))), ()))).1.2.2.2.1) (List.getD x0 j15 (((0:Int), ((0:Int), ((0:Int), ([], ())))), (((0:Int), ((0:Int), ((0:Int), ([], ())))), ()))).1.2.2.2.1), ())))), (((List.getD x0 j15 (((0:Int), ((0:Int), ((0:Int), ([], ())))), (((0:Int), ((0:Int), ((0:Int), ([], ())))), ()))).2.1.1, ((List.getD x0 j15 (((0:Int), ((0:Int), ((0:Int), ([], ())))), (((0:Int), ((0:Int), ((0:Int), ([], ())))), ()))).2.1.2.1, ((List.getD x0 j15 (((0:Int), ((0:Int), ((0:Int), ([], ())))), (((0:Int), ((0:Int), ((0:Int), ([], ())))), ()))).2.1.2.2.1, ((List.take (List.length (List.getD x0 j15 (((0:Int), ((0:Int), ((0:Int), ([], ())))), (((0:Int), ((0:Int), ((0:Int), ([], ())))), ()))).2.1.2.2.2.1) (List.getD x0 j15 (((0:Int), ((0:Int), ((0:Int), ([], ())))), (((0:Int), ((0:Int), ((0:Int), ([], ())))), ()))).2.1.2.2.2.1), ())))), ())))), (v.1.2.2.2.1, ((IntKind.wrap .i64 (x1 + (1:Int))), ()))))), (((List.take (List.length x11) x11), v.2.1.2), ((rowsOf x7 (fun j16 => ((bif (Nat.beq j16 (x6 + (0:Nat))) then r14.1.1 else (List.getD v.2.2.1 j16 ((0:Int), ((0:Int), ((0:Int), ([], ()))))).1), ((bif (Nat.beq j16 (x6 + (0:Nat))) then r14.1.2.1 else (List.getD v.2.2.1 j16 ((0:Int), ((0:Int), ((0:Int), ([], ()))))).2.1), ((bif (Nat.beq j16 (x6 + (0:Nat))) then r14.1.2.2.1 else (List.getD v.2.2.1 j16 ((0:Int), ((0:Int), ((0:Int), ([], ()))))).2.2.1), ((List.take (bif (Nat.beq j16 (x6 + (0:Nat))) then (List.length r14.1.2.2.2.1) else (List.length (List.getD v.2.2.1 j16 ((0:Int), ((0:Int), ((0:Int), ([], ()))))).2.2.2.1)) (bif (Nat.beq j16 (x6 + (0:Nat))) then r14.1.2.2.2.1 else (List.getD v.2.2.1 j16 ((0:Int), ((0:Int), ((0:Int), ([], ()))))).2.2.2.1)), ())))))), ()))))
 else
 none
 else
 none
 else
 bif (r13.2.1 != (0:Int)) then
 (ko (Sum.inr (r13.2, ())))
 else
 bif (decide (x7 ≤ (1073741824:Nat))) then
 bif x10 then
 (kn ((x4, (x7, ((rowsOf x5 (fun j17 => (((List.getD x0 j17 (((0:Int), ((0:Int), ((0:Int), ([], ())))), (((0:Int), ((0:Int), ((0:Int), ([], ())))), ()))).1.1, ((List.getD x0 j17 (((0:Int), ((0:Int), ((0:Int), ([], ())))), (((0:Int), ((0:Int), ((0:Int), ([], ())))), ()))).1.2.1, ((List.getD x0 j17 (((0:Int), ((0:Int), ((0:Int), ([], ())))), (((0:Int), ((0:Int), ((0:Int), ([], ())))), ()))).1.2.2.1, ((List.take (List.length (List.getD x0 j17 (((0:Int), ((0:Int), ((0:Int), ([], ())))), (((0:Int), ((0:Int), ((0:Int), ([], ())))), ()))).1.2.2.2.1) (List.getD x0 j17 (((0:Int), ((0:Int), ((0:Int), ([], ())))), (((0:Int), ((0:Int), ((0:Int), ([], ())))), ()))).1.2.2.2.1), ())))), (((List.getD x0 j17 (((0:Int), ((0:Int), ((0:Int), ([], ())))), (((0:Int), ((0:Int), ((0:Int), ([], ())))), ()))).2.1.1, ((List.getD x0 j17 (((0:Int), ((0:Int), ((0:Int), ([], ())))), (((0:Int), ((0:Int), ((0:Int), ([], ())))), ()))).2.1.2.1, ((List.getD x0 j17 (((0:Int), ((0:Int), ((0:Int), ([], ())))), (((0:Int), ((0:Int), ((0:Int), ([], ())))), ()))).2.1.2.2.1, ((List.take (List.length (List.getD x0 j17 (((0:Int), ((0:Int), ((0:Int), ([], ())))), (((0:Int), ((0:Int), ((0:Int), ([], ())))), ()))).2.1.2.2.2.1) (List.getD x0 j17 (((0:Int), ((0:Int), ((0:Int), ([], ())))), (((0:Int), ((0:Int), ((0:Int), ([], ())))), ()))).2.1.2.2.2.1), ())))), ())))), (v.1.2.2.2.1, ((IntKind.wrap .i64 (x1 + (1:Int))), ()))))), (((List.take (List.length x11) x11), v.2.1.2), ((rowsOf x7 (fun j18 => ((bif (Nat.beq j18 (x6 + (0:Nat))) then r13.1.1 else (List.getD v.2.2.1 j18 ((0:Int), ((0:Int), ((0:Int), ([], ()))))).1), ((bif (Nat.beq j18 (x6 + (0:Nat))) then r13.1.2.1 else (List.getD v.2.2.1 j18 ((0:Int), ((0:Int), ((0:Int), ([], ()))))).2.1), ((bif (Nat.beq j18 (x6 + (0:Nat))) then r13.1.2.2.1 else (List.getD v.2.2.1 j18 ((0:Int), ((0:Int), ((0:Int), ([], ()))))).2.2.1), ((List.take (bif (Nat.beq j18 (x6 + (0:Nat))) then (List.length r13.1.2.2.2.1) else (List.length (List.getD v.2.2.1 j18 ((0:Int), ((0:Int), ((0:Int), ([], ()))))).2.2.2.1)) (bif (Nat.beq j18 (x6 + (0:Nat))) then r13.1.2.2.2.1 else (List.getD v.2.2.1 j18 ((0:Int), ((0:Int), ((0:Int), ([], ()))))).2.2.2.1)), ())))))), ()))))
 else
 none
 else
 none
 else
 none
 else
 bif ((allR x12 (fun j19 => true)) && true) then
 (ko (Sum.inl ((x6, ()), ((rowsOf x12 (fun j20 => ((List.getD v.2.2.1 j20 ((0:Int), ((0:Int), ((0:Int), ([], ()))))).1, ((List.getD v.2.2.1 j20 ((0:Int), ((0:Int), ((0:Int), ([], ()))))).2.1, ((List.getD v.2.2.1 j20 ((0:Int), ((0:Int), ((0:Int), ([], ()))))).2.2.1, ((List.take (List.length (List.getD v.2.2.1 j20 ((0:Int), ((0:Int), ((0:Int), ([], ()))))).2.2.2.1) (List.getD v.2.2.1 j20 ((0:Int), ((0:Int), ((0:Int), ([], ()))))).2.2.2.1), ())))))), ()))))
 else
 none
noncomputable def ls_912_0 : St → LTr := (lsum ff_912_0 hf_912_0 X_912_0 Prod.mk id st_912_0 (hd [(.pl 8, y_92, 3, .recs)] [] [2, 3, 8, 17, 18, 19] 0))
theorem lp_912_0 : LoopOk PR 0 (lpN f_912 0) ls_912_0 := loopT okO_912 mixed (L := LB_912_0) (d := 1) (bs := []) (ks := [2, 3, 8, 17, 18, 19]) (loopsL (l := []) (by kernel_rfl) trivial) (by kernel_rfl) (inS := Prod.mk) (outS := id) (fun _ _ => rfl) (inX := id) (outX := id) (fun _ => rfl) (fun v R kn ko => by kernel_rfl) (hd_wk [(.pl 8, y_92, 3, .recs)] [] [2, 3, 8, 17, 18, 19] 0)
noncomputable def L_912 : Lps := (lpB 6 (.by_ ls_912_0) L0)
noncomputable def F_912 (a0 : List Int × Int × Int × Int × Int × Int × Int × Int × Int × Int × Int × Int × Int × Int × Int × Int × Int × Int × Bool × Int × Int × Int × Int × Int × Int × Int × Unit) (a1 : List ((Int × Int × Int × List Int × Unit) × (Int × Int × Int × List Int × Unit) × Unit)) (a2 : Int) : Option ((List (Int × Int × Int × List Int × Unit)) × Int × Unit) :=
 let x1 : Bool := (((allR (List.length a1) (fun j0 => true)) && true) && true)
 let x3 : List (T (((Fm.i IntKind.i64).pair ((Fm.i IntKind.i64).pair ((Fm.i IntKind.i64).pair ((Fm.si IntKind.u32).pair Fm.unit)))).pair (((Fm.i IntKind.i64).pair ((Fm.i IntKind.i64).pair ((Fm.i IntKind.i64).pair ((Fm.si IntKind.u32).pair Fm.unit)))).pair Fm.unit))) := (rowsOf (List.length a1) (fun j2 => (((List.getD a1 j2 (((0:Int), ((0:Int), ((0:Int), ([], ())))), (((0:Int), ((0:Int), ((0:Int), ([], ())))), ()))).1.1, ((List.getD a1 j2 (((0:Int), ((0:Int), ((0:Int), ([], ())))), (((0:Int), ((0:Int), ((0:Int), ([], ())))), ()))).1.2.1, ((List.getD a1 j2 (((0:Int), ((0:Int), ((0:Int), ([], ())))), (((0:Int), ((0:Int), ((0:Int), ([], ())))), ()))).1.2.2.1, ((List.take (List.length (List.getD a1 j2 (((0:Int), ((0:Int), ((0:Int), ([], ())))), (((0:Int), ((0:Int), ((0:Int), ([], ())))), ()))).1.2.2.2.1) (List.getD a1 j2 (((0:Int), ((0:Int), ((0:Int), ([], ())))), (((0:Int), ((0:Int), ((0:Int), ([], ())))), ()))).1.2.2.2.1), ())))), (((List.getD a1 j2 (((0:Int), ((0:Int), ((0:Int), ([], ())))), (((0:Int), ((0:Int), ((0:Int), ([], ())))), ()))).2.1.1, ((List.getD a1 j2 (((0:Int), ((0:Int), ((0:Int), ([], ())))), (((0:Int), ((0:Int), ((0:Int), ([], ())))), ()))).2.1.2.1, ((List.getD a1 j2 (((0:Int), ((0:Int), ((0:Int), ([], ())))), (((0:Int), ((0:Int), ((0:Int), ([], ())))), ()))).2.1.2.2.1, ((List.take (List.length (List.getD a1 j2 (((0:Int), ((0:Int), ((0:Int), ([], ())))), (((0:Int), ((0:Int), ((0:Int), ([], ())))), ()))).2.1.2.2.2.1) (List.getD a1 j2 (((0:Int), ((0:Int), ((0:Int), ([], ())))), (((0:Int), ((0:Int), ((0:Int), ([], ())))), ()))).2.1.2.2.2.1), ())))), ()))))
 bif x1 then
 ((F_915 ((List.take (List.length a0.1) a0.1), a0.2) x3)).bind fun r4 =>
 bif (!r4) then
 (some ([], ((21:Int), ())))
 else
 bif x1 then
 ((lim st_912_0 ((a2, ((0:Nat), (x3, ((((List.length a1) : Nat) : Int), ((0:Int), ()))))), (((List.take (List.length a0.1) a0.1), a0.2), ([], ()))))).bind fun r5 =>
 els (fun l6 =>
 bif ((((allR l6.1.1 (fun j8 => true)) && true) && true) && true) then
 (some ((rowsOf l6.1.1 (fun j9 => ((List.getD l6.2.1 j9 ((0:Int), ((0:Int), ((0:Int), ([], ()))))).1, ((List.getD l6.2.1 j9 ((0:Int), ((0:Int), ((0:Int), ([], ()))))).2.1, ((List.getD l6.2.1 j9 ((0:Int), ((0:Int), ((0:Int), ([], ()))))).2.2.1, ((List.take (List.length (List.getD l6.2.1 j9 ((0:Int), ((0:Int), ((0:Int), ([], ()))))).2.2.2.1) (List.getD l6.2.1 j9 ((0:Int), ((0:Int), ((0:Int), ([], ()))))).2.2.2.1), ())))))), ((0:Int), ())))
 else
 none) (fun r7 =>
 (some ([], r7.1))) r5
 else
 none
 else
 none
noncomputable def G_912 : T fa_912 → TH hN0 → Option ((List (Int × Int × Int × List Int × Unit)) × Int × Unit) := fun x y => F_912 x.1 x.2.1 x.2.2.1
noncomputable def c_912 : Orc := ent i_912 [] 0 (sp fa_912 hN0 fr_912 hN0 G_912 (outN fr_912))
theorem ok_912 : OrcOk PR c_912 := fnT okO_912 mixed p_912 (by kernel_rfl) (by kernel_rfl) (L := L_912) (kp := false) (by kernel_rfl) (inn := (innN fr_912)) (out := (outN fr_912)) (fun _ _ => rfl) (loopsL (l := [((lpN f_912 0), ls_912_0)]) (by kernel_rfl) ⟨lp_912_0, trivial⟩) (fun x y => by kernel_rfl)
set_option maxHeartbeats 4000000
theorem least_eq (f : Int) : F_96f f = some (le f) := by
  unfold F_96f le
  rw [← wid_nf f, ← nf_RR f]
  rcases nf_cases f with h | h | h <;> rw [h] <;> rfl
theorem bias_eq (f : Int) : F_946 f = some (1 - le f) := by
  unfold F_946 le
  rw [← widr_nf f, ← nf_RR f]
  rcases nf_cases f with h | h | h <;> rw [h] <;> rfl
theorem TT_RB (f : Int) : TT f = RR f * BB f := by rcases tri f with rfl | rfl | ⟨h, h'⟩ <;> simp [TT, RR, BB, *]
theorem fmt_bd (f : Int) : (RR f = 32 ∨ RR f = 256) ∧ (BB f = 1024 ∨ BB f = 128 ∨ BB f = 8388608) ∧ (TT f = 32768 ∨ TT f = 2147483648) ∧ (MM f = 10 ∨ MM f = 7 ∨ MM f = 23) := by
  rcases tri f with rfl | rfl | ⟨h, h'⟩ <;> simp [TT, RR, BB, MM, *]
theorem join_eq (f : Int) (neg : Bool) {x m : Int} (hx : 0 ≤ x ∧ x < RR f) (hm : 0 ≤ m ∧ m < BB f) : F_96b f neg x m = some (sgn f neg + x * BB f + m) := by
  have hb : 0 ≤ x * BB f ∧ x * BB f + BB f ≤ TT f := by
    rw [TT_RB]
    have h1 : (x + 1) * BB f ≤ RR f * BB f := Int.mul_le_mul_of_nonneg_right (by omega) (by have := fmt_bd f; omega)
    rw [Int.add_mul] at h1
    exact ⟨Int.mul_nonneg hx.1 (by have := fmt_bd f; omega), by omega⟩
  have fb := fmt_bd f
  obtain ⟨k, hk, hbk, hk3⟩ := MM_pow f
  have o1 : bits .or .u32 (x * BB f) m = x * BB f + m := by
    refine or_join32 _ _ k hb.1 (by omega) hm.1 (by omega) (by omega) ?_
    rw [hbk]; exact Int.mul_emod_left _ _
  have o2 : bits .or .u32 (x * BB f + m) (TT f) = TT f + (x * BB f + m) := by
    rw [or_comm32]
    rcases fb.2.2.1 with h | h <;> rw [h] at hb ⊢
    · exact or_join32 _ _ 15 (by omega) (by omega) (by omega) (by omega) (by omega) (by omega)
    · exact or_join32 _ _ 31 (by omega) (by omega) (by omega) (by omega) (by omega) (by omega)
  have e1 : (2:Int) ^ (Min.min (Int.toNat (IntKind.wrap .u64 (MM f))) 32) = BB f := by
    rw [← nf_MM, ← nf_BB]; rcases nf_cases f with h | h | h <;> rw [h] <;> rfl
  have e2 : IntKind.wrap .u32 (1 * (2:Int) ^ (Min.min (Int.toNat (IntKind.wrap .u64 (IntKind.wrap .i64 (EE f + MM f)))) 32)) = TT f := by
    rw [← nf_MM, ← nf_EE, ← nf_TT]; rcases nf_cases f with h | h | h <;> rw [h] <;> rfl
  unfold F_96b sgn
  rw [wid_eq]
  simp only [Option.bind_some, e1, e2, wu64_nn, decide_true, cond_true]
  rw [wu32 (n := x) (by omega), wu32 (n := x * BB f) (by omega), o1, o2]
  cases neg
  · simp
  · simp [Int.add_assoc]
theorem inf_eq (f : Int) (neg : Bool) : F_93a f neg = some (sgn f neg + IN f) := by
  have fb := fmt_bd f
  unfold F_93a
  rw [top_eq]
  simp only [Option.bind_some]
  rw [join_eq f neg (by omega) (by omega)]
  unfold IN; simp
theorem zero_eq (f : Int) (neg : Bool) : F_975 f neg = some (sgn f neg) := by
  have fb := fmt_bd f
  unfold F_975
  rw [join_eq f neg (by omega) (by omega)]
  simp
theorem great_eq (f : Int) (neg : Bool) : F_99e f neg = some (sgn f neg + (IN f - 1)) := by
  have fb := fmt_bd f
  have e1 : IntKind.wrap .u32 (IntKind.wrap .u32 (1 * (2:Int) ^ (Min.min (Int.toNat (IntKind.wrap .u64 (MM f))) 32)) - 1) = BB f - 1 := by
    rw [← nf_MM, ← nf_BB]; rcases nf_cases f with h | h | h <;> rw [h] <;> rfl
  unfold F_99e
  rw [wid_eq, top_eq]
  simp only [Option.bind_some, e1, wu64_nn, decide_true, cond_true]
  rw [wi64 (by omega), join_eq f neg (by omega) (by omega)]
  unfold IN
  rw [show RR f - 1 - 1 = RR f - 1 + -1 by omega, Int.add_mul (RR f - 1)]
  simp only [Option.bind_some]
  congr 1; omega
theorem beyond_eq (f mode : Int) (neg : Bool) : F_991 f mode neg = some (overS f mode neg, (false, false, true, false, true, ()), ()) := by
  unfold F_991 overS
  rw [great_eq, inf_eq]
  simp only [bif_eq, Option.bind_some]
  by_cases h1 : mode = 1
  · rw [if_pos h1, if_pos (Or.inl h1)]
  by_cases h2 : mode = 2
  · subst h2; cases neg <;> simp
  by_cases h3 : mode = 3
  · subst h3; cases neg <;> simp
  · simp [h1, h2, h3]
theorem up_eq (mode : Int) (neg : Bool) {q : Int} (hq : w64 q) (half rest : Bool) (left : Int) (hl : left = (if half then (if rest then 3 else 2) else if rest then 1 else 0)) : F_990 mode neg q left = some (upS mode neg (decide (q % 2 = 1)) half rest) := by
  unfold F_990 upS
  rw [and1_64 hq]
  simp only [bif_eq]
  by_cases h1 : mode = 1
  · rw [if_pos h1, if_pos h1]
  rw [if_neg h1, if_neg h1]
  by_cases h2 : mode = 2
  · rw [if_pos h2, if_pos h2, hl]; cases neg <;> cases half <;> cases rest <;> rfl
  rw [if_neg h2, if_neg h2]
  by_cases h3 : mode = 3
  · rw [if_pos h3, if_pos h3, hl]; cases neg <;> cases half <;> cases rest <;> rfl
  rw [if_neg h3, if_neg h3]
  by_cases h4 : mode = 4
  · rw [if_pos h4, if_pos h4, hl]; cases half <;> cases rest <;> rfl
  rw [if_neg h4, if_neg h4, hl]
  cases half <;> cases rest <;> rfl
theorem upr_eq (mode : Int) (neg odd half rest : Bool) : F_957 mode neg odd half rest = some (upS mode neg odd half rest) := by
  unfold F_957 upS
  simp only [bif_eq]
  by_cases h1 : mode = 1
  · rw [if_pos h1, if_pos h1]
  rw [if_neg h1, if_neg h1]
  by_cases h2 : mode = 2
  · rw [if_pos h2, if_pos h2]; cases neg <;> cases half <;> cases rest <;> rfl
  rw [if_neg h2, if_neg h2]
  by_cases h3 : mode = 3
  · rw [if_pos h3, if_pos h3]; cases neg <;> cases half <;> cases rest <;> rfl
  rw [if_neg h3, if_neg h3]
  by_cases h4 : mode = 4
  · rw [if_pos h4, if_pos h4]
  rw [if_neg h4, if_neg h4]
  cases half <;> cases rest <;> cases odd <;> rfl
theorem unit_eq (f : Int) {e N : Int} (he : -20000 ≤ e ∧ e ≤ 20000) (hN : w64 N) : F_986 f e N = some (unitS f e N) := by
  have fb := fmt_bd f
  have lb := le_bd f
  have hl := ln_bd (k := 64) hN.1 (by have : (2 : Int) ^ 64 = 18446744073709551616 := rfl; omega)
  unfold F_986 unitS
  rw [wid_eq, least_eq, len_eq hN]
  simp only [Option.bind_some, bif_dec, mx_eq]
  by_cases h : N = 0
  · rw [if_neg (by omega), if_pos h, wi64 (by omega)]
  · rw [if_pos (by omega), if_neg h, wi64 (n := e + ln N) (by omega), wi64 (n := e + ln N - 1) (by omega), wi64 (by omega)]
def leftS (half rest : Bool) : Int := if half then (if rest then 3 else 2) else if rest then 1 else 0
theorem half_mod (N : Int) (b : Nat) (hN : 0 ≤ N) : N % 2 ^ (b + 1) = N % 2 ^ b + 2 ^ b * (N / 2 ^ b % 2) := by
  have := mod_p2 N b 1
  rwa [show (2 : Int) ^ 1 = 2 from rfl] at this
theorem units_eq {N b : Int} (hN : w64 N) (hb : -1000000 < b ∧ b < 1000000) (hq : qS N b < 18446744073709551616) (more : Bool) :
    F_98f N b more = some (qS N b, leftS (halfS N b) (restS N b more), ()) := by
  unfold F_98f qS halfS restS leftS
  unfold qS at hq
  rw [bif_dec]
  by_cases h : b ≤ 0
  · rw [if_pos h] at hq
    simp only [if_pos h]
    by_cases h0 : b = 0
    · subst h0
      rw [shr_eq hN (by omega)]
      cases more <;> simp
    · have := shl_eq hN (n := -b) (by omega) hq
      rw [Int.neg_neg] at this
      rw [this]
      cases more <;> simp
  · simp only [if_neg h]
    rw [shr_eq hN (by omega), wi64 (by omega), shr_eq hN (by omega)]
    have hd : w64 (N / 2 ^ (b - 1).toNat) := ⟨Int.ediv_nonneg hN.1 (by have := p2_pos (b - 1).toNat; omega), by
      have := Int.ediv_le_self (b := 2 ^ (b - 1).toNat) hN.1; have := hN.2; omega⟩
    simp only [Option.bind_some]
    rw [and1_64 hd]
    have e := half_mod N (b - 1).toNat hN.1
    rw [show (b - 1).toNat + 1 = b.toNat by omega] at e
    have hm := Int.emod_nonneg N (show (2 : Int) ^ (b - 1).toNat ≠ 0 by have := p2_pos (b - 1).toNat; omega)
    have hp := p2_pos (b - 1).toNat
    rw [e]
    generalize N % 2 ^ (b - 1).toNat = r at *
    generalize N / 2 ^ (b - 1).toNat = d at *
    generalize (2 : Int) ^ (b - 1).toNat = P at *
    rcases (show d % 2 = 0 ∨ d % 2 = 1 by omega) with g | g
    · rw [g]
      by_cases hr : r = 0
      · subst hr; cases more <;> simp
      · cases more <;> simp [hr]
    · rw [g]
      have : ¬ (r + P = 0) := by omega
      have t : ¬ (P = 0) := by omega
      by_cases hr : r = 0
      · subst hr; cases more <;> simp [t]
      · cases more <;> simp [this, hr]
theorem cut_eq (f : Int) {q : Int} (hq : w64 q) : F_988 q (MM f) = some (q % BB f) := by
  obtain ⟨k, hk, hb, hk3⟩ := MM_pow f
  unfold F_988
  have e1 : IntKind.wrap .u64 (IntKind.wrap .u64 (1 * (2:Int) ^ (Min.min (Int.toNat (IntKind.wrap .u64 (MM f))) 64)) - 1) = BB f - 1 := by
    rw [← nf_MM, ← nf_BB]; rcases nf_cases f with h | h | h <;> rw [h] <;> rfl
  rw [e1]
  simp only [wu64_nn, decide_true, cond_true, bif_dec]
  rw [if_neg (by omega), if_neg (by omega)]
  have e2 : bits .and .u64 q (BB f - 1) = q % BB f := by
    have fb := fmt_bd f
    rw [Go.u64_and q _ hq.1 hq.2 (by omega) (by omega)]
    have h5 : (BB f - 1).toNat = 2 ^ k - 1 := by
      have := pow_toNat k; rw [hb]; omega
    rw [h5, Nat.and_two_pow_sub_one_eq_mod, hb]
    have : q = ((q.toNat : Nat) : Int) := by have := hq.1; omega
    rw [this]; simp
  rw [e2]
theorem pack_eq (f mode : Int) (neg : Bool) (e0 : Int) {N : Int} (hN : w64 N) (more : Bool) :
    F_95d f mode neg e0 N more = some (pk f mode neg (min (max e0 (-10000)) 10000) N more) := by
  have fb := fmt_bd f
  have lb := le_bd f
  have he : -10000 ≤ min (max e0 (-10000)) 10000 ∧ min (max e0 (-10000)) 10000 ≤ 10000 := by omega
  unfold F_95d
  rw [mn_eq, mx_eq]
  generalize min (max e0 (-10000)) 10000 = e at *
  have hl := ln_bd (k := 64) hN.1 (by have : (2 : Int) ^ 64 = 18446744073709551616 := rfl; have := hN.2; omega)
  have hqb := q_bd f e N hN.1
  have hub : -20000 ≤ unitS f e N ∧ unitS f e N ≤ 20000 := by unfold unitS; split <;> omega
  have p1 : (2:Int) ^ (Min.min (Int.toNat (IntKind.wrap .u64 (MM f))) 64) = BB f := by
    rw [← nf_MM, ← nf_BB]; rcases nf_cases f with h | h | h <;> rw [h] <;> rfl
  have p2 : (2:Int) ^ (Min.min (Int.toNat (IntKind.wrap .u64 (IntKind.wrap .i64 (MM f + 1)))) 64) = 2 * BB f := by
    rw [← nf_MM, ← nf_BB]; rcases nf_cases f with h | h | h <;> rw [h] <;> rfl
  have hun := units_eq (N := N) (b := unitS f e N - e) hN (by omega) (by omega) more
  by_cases h0 : N = 0 ∧ more = false
  · unfold pk; rw [if_pos h0, h0.1, h0.2, zero_eq]; rfl
  have hpk : pk f mode neg e N more = fin2 f mode neg (unitS f e N) (fin1 mode neg (qS N (unitS f e N - e)) (halfS N (unitS f e N - e)) (restS N (unitS f e N - e) more)) (halfS N (unitS f e N - e)) (restS N (unitS f e N - e) more) (smallS f e N) := by
    unfold pk; rw [if_neg h0]
  rw [hpk]
  simp only [wid_eq, unit_eq f (show -20000 ≤ e ∧ e ≤ 20000 by omega) hN, Option.bind_some, wi64 (n := unitS f e N - e) (by omega), hun, zero_eq, least_eq, len_eq hN, top_eq, p1, p2, wu64_nn, decide_true, cond_true]
  have hul : le f - MM f ≤ unitS f e N := by unfold unitS; split <;> omega
  have hup := up_eq mode neg (q := qS N (unitS f e N - e)) ⟨hqb.1, by omega⟩ (halfS N (unitS f e N - e)) (restS N (unitS f e N - e) more) (leftS (halfS N (unitS f e N - e)) (restS N (unitS f e N - e) more)) rfl
  unfold fin1
  generalize qS N (unitS f e N - e) = q at *
  generalize halfS N (unitS f e N - e) = half at *
  generalize restS N (unitS f e N - e) more = rest at *
  have hsm : smallS f e N = (if N = 0 then true else decide (e + ln N - 1 < le f)) := by
    unfold smallS
    by_cases hN0 : N = 0
    · simp [hN0]
    · simp [hN0]
  rw [hsm]
  generalize unitS f e N = u at *
  simp only [hup, Option.bind_some, wu64 (n := q + 1) (show 0 ≤ q + 1 ∧ q + 1 ≤ 18446744073709551615 by omega), beyond_eq]
  generalize upS mode neg (decide (q % 2 = 1)) half rest = b
  have hx : (bif b then q + 1 else q) = (if b = true then q + 1 else q) := by cases b <;> rfl
  simp only [hx]
  have hq1b : 0 ≤ (if b = true then q + 1 else q) ∧ (if b = true then q + 1 else q) ≤ 2 * BB f := by split <;> omega
  generalize (if b = true then q + 1 else q) = q1 at *
  have hc : (bif q1 / (2 * BB f) != 0 then q1 / 2 else q1) = (if q1 / (2 * BB f) = 0 then q1 else q1 / 2) := bif_ne
  have hc2 : (bif q1 / (2 * BB f) != 0 then IntKind.i64.wrap (u + 1) else u) = (if q1 / (2 * BB f) = 0 then u else u + 1) := by rw [wi64 (by omega)]; exact bif_ne
  simp only [hc, hc2]
  unfold fin2
  have hq2 : 0 ≤ (if q1 / (2 * BB f) = 0 then q1 else q1 / 2) ∧ (if q1 / (2 * BB f) = 0 then q1 else q1 / 2) < 2 * BB f := by
    rcases fb.2.1 with h | h | h <;> rw [h] at hq1b ⊢ <;> split <;> omega
  have hu2 : le f - MM f ≤ (if q1 / (2 * BB f) = 0 then u else u + 1) ∧ (if q1 / (2 * BB f) = 0 then u else u + 1) ≤ 20001 := by split <;> omega
  generalize (if q1 / (2 * BB f) = 0 then q1 else q1 / 2) = q2 at *
  generalize (if q1 / (2 * BB f) = 0 then u else u + 1) = u2 at *
  have hat : (bif q2 / BB f == 0 then (0 : Int) else IntKind.i64.wrap (IntKind.i64.wrap (IntKind.i64.wrap (u2 + MM f) - le f) + 1)) = (if q2 / BB f = 0 then 0 else u2 + MM f - le f + 1) := by
    rw [wi64 (n := u2 + MM f) (by omega), wi64 (n := u2 + MM f - le f) (by omega), wi64 (by omega)]; exact bif_eq
  simp only [hat]
  have hab : 0 ≤ (if q2 / BB f = 0 then 0 else u2 + MM f - le f + 1) := by split <;> omega
  generalize (if q2 / BB f = 0 then 0 else u2 + MM f - le f + 1) = a at *
  have hr : 0 ≤ q2 % BB f ∧ q2 % BB f < BB f := by
    rcases fb.2.1 with h | h | h <;> rw [h] <;> omega
  have hls : (leftS half rest != 0) = (half || rest) := by cases half <;> cases rest <;> rfl
  simp only [cut_eq f (show w64 q2 from ⟨hq2.1, by omega⟩), Option.bind_some, wu32 (n := q2 % BB f) (show 0 ≤ q2 % BB f ∧ q2 % BB f ≤ 4294967295 by omega), hls, bif_dec, bif_eq]
  rw [wi64 (n := e + ln N) (by omega), wi64 (by omega)]
  by_cases ho : a ≥ RR f - 1
  · rw [if_pos ho, if_pos ho]
    by_cases hN0 : N = 0
    · have : more = true := by cases more; exact absurd ⟨hN0, rfl⟩ h0; rfl
      rw [if_pos hN0, this]; rfl
    · rw [if_neg hN0]
  · rw [if_neg ho, if_neg ho, join_eq f neg ⟨hab, by omega⟩ hr]
    simp only [Option.bind_some]
    by_cases hN0 : N = 0
    · have : more = true := by cases more; exact absurd ⟨hN0, rfl⟩ h0; rfl
      rw [if_pos hN0, if_pos hN0, if_pos hN0, this]
      cases half <;> cases rest <;> rfl
    · simp only [if_neg hN0]
      cases half <;> cases rest <;> simp
theorem signr_eq' (f : Int) (neg : Bool) : F_932 f neg = some (sgn f neg) := signr_eq f neg
theorem zeror_w (f : Int) (neg : Bool) : F_917 f neg = some (sgn f neg) := by
  unfold F_917; rw [signr_eq']; rfl
theorem IN_bd (f : Int) : 0 < IN f ∧ IN f + BB f = TT f ∧ IN f % BB f = 0 := by
  unfold IN; rcases tri f with rfl | rfl | ⟨h, h'⟩ <;> simp [TT, RR, BB, *]
theorem sgn_or (f : Int) (neg : Bool) {x : Int} (hx : 0 ≤ x ∧ x < TT f) : bits .or .u32 (sgn f neg) x = sgn f neg + x := by
  have fb := fmt_bd f
  unfold sgn
  cases neg
  · rw [if_neg (by simp), or_comm32, or_zero32 _ hx.1 (by omega)]; omega
  · rw [if_pos rfl]
    rcases fb.2.2.1 with h | h <;> rw [h] at hx ⊢
    · exact or_join32 _ _ 15 (by omega) (by omega) (by omega) (by omega) (by omega) (by omega)
    · exact or_join32 _ _ 31 (by omega) (by omega) (by omega) (by omega) (by omega) (by omega)
theorem infr_eq (f : Int) (neg : Bool) : F_92b f neg = some (sgn f neg + IN f) := by
  have fb := fmt_bd f
  have ib := IN_bd f
  unfold F_92b
  rw [signr_eq', widr_eq]
  have e1 : IntKind.wrap .u32 (IntKind.wrap .u32 (IntKind.wrap .u32 (1 * (2:Int) ^ (Min.min (Int.toNat (EE f)) 32)) - 1) * (2:Int) ^ (Min.min (Int.toNat (MM f)) 32)) = IN f := by
    unfold IN
    rw [← nf_EE, ← nf_MM, ← nf_RR, ← nf_BB]; rcases nf_cases f with h | h | h <;> rw [h] <;> rfl
  have e2 : 0 ≤ EE f := by unfold EE; split <;> omega
  simp only [Option.bind_some, e1]
  rw [bif_dec, if_pos e2, bif_dec, if_pos (by omega), sgn_or f neg (by omega)]
theorem sgn_bd (f : Int) (neg : Bool) : sgn f neg = 0 ∨ sgn f neg = TT f := by unfold sgn; cases neg <;> simp
theorem greatr_eq (f : Int) (neg : Bool) : F_98a f neg = some (sgn f neg + (IN f - 1)) := by
  have fb := fmt_bd f
  have ib := IN_bd f
  have sb := sgn_bd f neg
  unfold F_98a
  rw [infr_eq]
  simp only [Option.bind_some]
  rw [wu32 (by omega)]
  congr 1; omega
theorem overr_eq (f mode : Int) (neg : Bool) : F_958 f mode neg = some (overS f mode neg) := by
  unfold F_958 overS
  rw [greatr_eq, infr_eq]
  simp only [bif_eq, Option.bind_some]
  by_cases h1 : mode = 1
  · rw [if_pos h1, if_pos (Or.inl h1)]
  by_cases h2 : mode = 2
  · subst h2; cases neg <;> simp
  by_cases h3 : mode = 3
  · subst h3; cases neg <;> simp
  · simp [h1, h2, h3]
theorem divide_eq {N b : Int} (hN : w64 N) (hb : -1000000 < b ∧ b < 1000000) (hq : qS N b < 18446744073709551616) :
    F_956 N b = some (qS N b, halfS N b, restS N b false, ()) := by
  unfold F_956 qS halfS restS
  unfold qS at hq
  rw [bif_dec, mn_eq, wi64 (by omega)]
  by_cases h : b ≤ 0
  · rw [if_pos h] at hq
    simp only [if_pos h]
    rw [bif_dec, if_pos (by omega), Nat.min_eq_left (by omega)]
    by_cases h63 : -b ≤ 63
    · rw [show min (0 - b) 63 = -b by omega, wu64 ⟨Int.mul_nonneg hN.1 (by have := p2_pos (-b).toNat; omega), by omega⟩]; rfl
    · have : N = 0 := by
        apply Int.le_antisymm ?_ hN.1
        apply Int.not_lt.1; intro hp
        have := p2_le (show 64 ≤ (-b).toNat by omega)
        rw [show (2 : Int) ^ 64 = 18446744073709551616 from rfl] at this
        have : 1 * 2 ^ (-b).toNat ≤ N * 2 ^ (-b).toNat := Int.mul_le_mul_of_nonneg_right (by omega) (by omega)
        omega
      subst this; simp; rfl
  · simp only [if_neg h]
    rw [bif_dec]
    by_cases h64 : b > 64
    · have b1 := p2_big hN.1 hN.2 (show 64 ≤ b.toNat by omega)
      have b2 := p2_big hN.1 hN.2 (show 64 ≤ (b - 1).toNat by omega)
      rw [if_pos h64, b1.1, b2.1, b2.2]
      have : (N != 0) = decide (N ≠ 0) := by rw [Bool.eq_iff_iff]; simp
      rw [this]; simp
    · rw [if_neg h64, shrr_eq hN (by omega), wi64 (by omega), shrr_eq hN (by omega)]
      have hd : w64 (N / 2 ^ (b - 1).toNat) := ⟨Int.ediv_nonneg hN.1 (by have := p2_pos (b - 1).toNat; omega), by
        have := Int.ediv_le_self (b := 2 ^ (b - 1).toNat) hN.1; have := hN.2; omega⟩
      simp only [Option.bind_some]
      rw [and1_64 hd]
      rfl
noncomputable def TR (f mode : Int) (neg half rest inex small : Bool) (u q n b : Int) : Option (Int × ExcT × Unit) :=
  (F_957 mode neg (bits .and .u64 q 1 == 1) half rest).bind fun r =>
  let k0 : Int := bif r then IntKind.wrap .u64 (q + 1) else q
  let c : Bool := k0 == IntKind.wrap .u64 ((1:Int) * ((2:Int) ^ (Min.min (Int.toNat (IntKind.wrap .i64 (n + 1))) 64)))
  let k : Int := bif c then k0 / 2 else k0
  bif decide (0 ≤ IntKind.wrap .i64 (n + 1)) then
    bif decide (0 ≤ n) then
      bif decide (k < IntKind.wrap .u64 ((1:Int) * ((2:Int) ^ (Min.min (Int.toNat n) 64)))) then
        (F_932 f neg).bind fun s =>
        some (bits .or .u32 s (IntKind.wrap .u32 k), (false, false, false, inex && small, inex, ()), ())
      else
        (F_946 f).bind fun b =>
        (F_916 f).bind fun w =>
        bif decide (0 ≤ w.1) then
          bif decide (IntKind.wrap .i64 (IntKind.wrap .i64 ((bif c then IntKind.wrap .i64 (u + 1) else u) + n) + b) ≥ IntKind.wrap .i64 (IntKind.wrap .i64 ((1:Int) * ((2:Int) ^ (Min.min (Int.toNat w.1) 64))) - 1)) then
            (F_958 f mode neg).bind fun r => some (r, (false, false, true, false, true, ()), ())
          else
            (F_932 f neg).bind fun s =>
            bif decide (0 ≤ n) then
              bif decide (0 ≤ n) then
                some (bits .or .u32 (bits .or .u32 s (IntKind.wrap .u32 (IntKind.wrap .u32 (IntKind.wrap .i64 (IntKind.wrap .i64 ((bif c then IntKind.wrap .i64 (u + 1) else u) + n) + b)) * ((2:Int) ^ (Min.min (Int.toNat n) 32))))) (IntKind.wrap .u32 (bits .and .u64 k (IntKind.wrap .u64 (IntKind.wrap .u64 ((1:Int) * ((2:Int) ^ (Min.min (Int.toNat n) 64))) - 1)))), (false, false, false, inex && small, inex, ()), ())
              else none
            else none
        else none
    else none
  else none
theorem packr_un (f mode : Int) (neg : Bool) (e0 : Int) {N : Int} (hN : w64 N) (more : Bool) (h0 : ¬ (N = 0 ∧ more = false)) (e u least : Int) (he : mn (mx e0 (-(10000:Int))) 10000 = e) (hl : IntKind.wrap .i64 (1 - (1 - le f)) = least)
    (hu : IntKind.wrap .i64 (mx (bif N == 0 then -(20000:Int) else IntKind.wrap .i64 (IntKind.wrap .i64 (e + ln N) - 1)) least - MM f) = u)
    (q : Int) (half rest0 : Bool) (hd : F_956 N (IntKind.wrap .i64 (u - e)) = some (q, half, rest0, ())) :
    F_92d f mode neg e0 N more = TR f mode neg half (rest0 || more) (half || (rest0 || more)) (decide ((bif N == 0 then -(20000:Int) else IntKind.wrap .i64 (IntKind.wrap .i64 (e + ln N) - 1)) < least)) u q (MM f) (1 - le f) := by
  unfold F_92d
  simp only [he, widr_eq, bias_eq, lenr_eq hN, Option.bind_some, hl, hu, hd]
  unfold TR
  simp only [widr_eq, bias_eq, Option.bind_some]
  cases more
  · cases hz : N == 0
    · cases half <;> cases rest0 <;> rfl
    · exact absurd ⟨by simpa using hz, rfl⟩ h0
  · cases hz : N == 0
    · cases half <;> cases rest0 <;> rfl
    · cases half <;> cases rest0 <;> rfl
theorem tr_eq (f mode : Int) (neg half rest inex small : Bool) {u q : Int} (hq : 0 ≤ q ∧ q < 2 * BB f) (hu : le f - MM f ≤ u ∧ u ≤ 20000) (hi : inex = (half || rest)) :
    TR f mode neg half rest inex small u q (MM f) (1 - le f) = some (fin2 f mode neg u (fin1 mode neg q half rest) half rest small) := by
  have fb := fmt_bd f
  have lb := le_bd f
  unfold TR
  have q64 : w64 q := ⟨hq.1, by omega⟩
  have e1 : IntKind.wrap .u64 ((1:Int) * ((2:Int) ^ (Min.min (Int.toNat (IntKind.wrap .i64 (MM f + 1))) 64))) = 2 * BB f := by
    rw [← nf_MM, ← nf_BB]; rcases nf_cases f with h | h | h <;> rw [h] <;> rfl
  have e2 : IntKind.wrap .u64 ((1:Int) * ((2:Int) ^ (Min.min (Int.toNat (MM f)) 64))) = BB f := by
    rw [← nf_MM, ← nf_BB]; rcases nf_cases f with h | h | h <;> rw [h] <;> rfl
  have e3 : (2:Int) ^ (Min.min (Int.toNat (MM f)) 32) = BB f := by
    rw [← nf_MM, ← nf_BB]; rcases nf_cases f with h | h | h <;> rw [h] <;> rfl
  have e4 : IntKind.wrap .i64 (IntKind.wrap .i64 ((1:Int) * ((2:Int) ^ (Min.min (Int.toNat (EE f)) 64))) - 1) = RR f - 1 := by
    rw [← nf_EE, ← nf_RR]; rcases nf_cases f with h | h | h <;> rw [h] <;> rfl
  have e5 : IntKind.wrap .u64 (BB f - 1) = BB f - 1 := wu64 (by omega)
  have e6 : 0 ≤ EE f := by unfold EE; split <;> omega
  have hodd : (bits .and .u64 q 1 == 1) = decide (q % 2 = 1) := by rw [and1_64 q64]; rfl
  simp only [hodd, upr_eq, Option.bind_some, e1, e2, e3, e5, widr_eq, bias_eq, e4, signr_eq', overr_eq, wu64 (n := q + 1) (show 0 ≤ q + 1 ∧ q + 1 ≤ 18446744073709551615 by omega)]
  simp only [wi64 (n := MM f + 1) (show -9223372036854775808 ≤ MM f + 1 ∧ MM f + 1 ≤ 9223372036854775807 by omega), bif_dec]
  rw [if_pos (show 0 ≤ MM f + 1 by omega), if_pos (show 0 ≤ MM f by omega)]
  simp only [if_pos (show 0 ≤ MM f by omega), if_pos e6]
  unfold fin1
  generalize upS mode neg (decide (q % 2 = 1)) half rest = b
  have hx : (bif b then q + 1 else q) = (if b = true then q + 1 else q) := by cases b <;> rfl
  simp only [hx]
  have hq1b : 0 ≤ (if b = true then q + 1 else q) ∧ (if b = true then q + 1 else q) ≤ 2 * BB f := by split <;> omega
  generalize (if b = true then q + 1 else q) = q1 at *
  unfold fin2
  have hcar : (q1 == 2 * BB f) = decide (¬ q1 / (2 * BB f) = 0) := by
    rw [Bool.eq_iff_iff]; simp
    rcases fb.2.1 with h | h | h <;> rw [h] at hq1b ⊢ <;> omega
  simp only [hcar]
  have hk : (bif decide (¬ q1 / (2 * BB f) = 0) then q1 / 2 else q1) = (if q1 / (2 * BB f) = 0 then q1 else q1 / 2) := by
    rw [bif_dec]; by_cases c : q1 / (2 * BB f) = 0 <;> simp [c]
  have hu2 : (bif decide (¬ q1 / (2 * BB f) = 0) then IntKind.i64.wrap (u + 1) else u) = (if q1 / (2 * BB f) = 0 then u else u + 1) := by
    rw [bif_dec, wi64 (by omega)]; by_cases c : q1 / (2 * BB f) = 0 <;> simp [c]
  simp only [hk, hu2]
  have hq2 : 0 ≤ (if q1 / (2 * BB f) = 0 then q1 else q1 / 2) ∧ (if q1 / (2 * BB f) = 0 then q1 else q1 / 2) < 2 * BB f := by
    rcases fb.2.1 with h | h | h <;> rw [h] at hq1b ⊢ <;> split <;> omega
  have hub : le f - MM f ≤ (if q1 / (2 * BB f) = 0 then u else u + 1) ∧ (if q1 / (2 * BB f) = 0 then u else u + 1) ≤ 20001 := by split <;> omega
  generalize (if q1 / (2 * BB f) = 0 then q1 else q1 / 2) = q2 at *
  generalize (if q1 / (2 * BB f) = 0 then u else u + 1) = u2 at *
  have sb := sgn_bd f neg
  have ex : (inex && small) = ((half || rest) && small) := by rw [hi]
  rw [ex, hi]
  have hlt : q2 < BB f ↔ q2 / BB f = 0 := by
    rcases fb.2.1 with h | h | h <;> rw [h] at hq2 ⊢ <;> omega
  have hm : 0 ≤ q2 % BB f ∧ q2 % BB f < BB f ∧ (q2 < BB f → q2 % BB f = q2) := by
    rcases fb.2.1 with h | h | h <;> rw [h] at hq2 ⊢ <;> omega
  have hTB : BB f < TT f := by have := IN_bd f; omega
  by_cases c : q2 < BB f
  · rw [if_pos c, if_pos (hlt.1 c), if_neg (by omega), wu32 (by omega), sgn_or f neg ⟨hq2.1, by omega⟩, hm.2.2 c]
    simp
  · rw [if_neg c, if_neg (fun k => c (hlt.2 k)), wi64 (n := u2 + MM f) (by omega), wi64 (by omega)]
    by_cases o : u2 + MM f + (1 - le f) ≥ RR f - 1
    · rw [if_pos o, if_pos (by omega)]
    · rw [if_neg o, if_neg (by omega)]
      have eq2 : bits .and .u64 q2 (BB f - 1) = q2 % BB f := by
        obtain ⟨k, hk, hb, hk3⟩ := MM_pow f
        rw [Go.u64_and q2 _ hq2.1 (by omega) (by omega) (by omega)]
        have h5 : (BB f - 1).toNat = 2 ^ k - 1 := by
          have := pow_toNat k; rw [hb]; omega
        rw [h5, Nat.and_two_pow_sub_one_eq_mod, hb]
        have : q2 = ((q2.toNat : Nat) : Int) := by have := hq2.1; omega
        rw [this]; simp
      have ha : u2 + MM f + (1 - le f) = u2 + MM f - le f + 1 := by omega
      rw [ha]
      have hab : 0 ≤ u2 + MM f - le f + 1 ∧ u2 + MM f - le f + 1 < RR f := by omega
      rw [ha] at o
      generalize u2 + MM f - le f + 1 = a at *
      have hb : 0 ≤ a * BB f ∧ a * BB f + BB f ≤ TT f := by
        rw [TT_RB]
        have h1 : (a + 1) * BB f ≤ RR f * BB f := Int.mul_le_mul_of_nonneg_right (by omega) (by omega)
        rw [Int.add_mul] at h1
        exact ⟨Int.mul_nonneg hab.1 (by omega), by omega⟩
      rw [wu32 (n := a) (by omega), wu32 (n := a * BB f) (by omega), eq2, wu32 (by omega), sgn_or f neg ⟨hb.1, by omega⟩]
      have o1 : bits .or .u32 (sgn f neg + a * BB f) (q2 % BB f) = sgn f neg + a * BB f + q2 % BB f := by
        obtain ⟨k, hk, hbk, hk3⟩ := MM_pow f
        refine or_join32 _ _ k (by omega) (by omega) hm.1 (by omega) (by omega) ?_
        rw [← hbk]
        have t1 : sgn f neg % BB f = 0 := by rcases sb with h | h <;> rw [h]; · simp
                                             · rw [TT_RB]; exact Int.mul_emod_left _ _
        rw [Int.add_emod, t1, Int.mul_emod_left]; simp
      rw [o1]
theorem packr_eq (f mode : Int) (neg : Bool) (e0 : Int) {N : Int} (hN : w64 N) (more : Bool) :
    F_92d f mode neg e0 N more = some (pk f mode neg (min (max e0 (-10000)) 10000) N more) := by
  have fb := fmt_bd f
  have lb := le_bd f
  have he : -10000 ≤ min (max e0 (-10000)) 10000 ∧ min (max e0 (-10000)) 10000 ≤ 10000 := by omega
  have hen : mn (mx e0 (-(10000:Int))) 10000 = min (max e0 (-10000)) 10000 := by rw [mn_eq, mx_eq]
  generalize min (max e0 (-10000)) 10000 = e at *
  by_cases h0 : N = 0 ∧ more = false
  · unfold pk; rw [if_pos h0]; rw [h0.1, h0.2]; unfold F_92d; rw [zeror_w]; rfl
  have hl := ln_bd (k := 64) hN.1 (by have : (2 : Int) ^ 64 = 18446744073709551616 := rfl; have := hN.2; omega)
  have hqb := q_bd f e N hN.1
  have hul : le f - MM f ≤ unitS f e N ∧ unitS f e N ≤ 20000 := by unfold unitS; split <;> omega
  have w1 : IntKind.wrap .i64 (e + ln N) = e + ln N := wi64 (by omega)
  have w2 : IntKind.wrap .i64 (e + ln N - 1) = e + ln N - 1 := wi64 (by omega)
  rw [packr_un f mode neg e0 hN more h0 e (unitS f e N) (le f) hen (by rw [wi64 (by omega)]; omega) (by
      rw [w1, w2, bif_eq, mx_eq]
      unfold unitS
      by_cases hz : N = 0
      · rw [if_pos hz, if_pos hz, wi64 (by omega)]; omega
      · rw [if_neg hz, if_neg hz, wi64 (by omega)]; omega)
    (qS N (unitS f e N - e)) (halfS N (unitS f e N - e)) (restS N (unitS f e N - e) false)
    (by rw [wi64 (by omega)]; exact divide_eq hN (by omega) (by omega))]
  have hr : (restS N (unitS f e N - e) false || more) = restS N (unitS f e N - e) more := by unfold restS; cases more <;> simp
  rw [hr, tr_eq f mode neg _ _ _ _ hqb hul rfl]
  have hsm : decide ((bif N == 0 then -(20000:Int) else IntKind.wrap .i64 (IntKind.wrap .i64 (e + ln N) - 1)) < le f) = smallS f e N := by
    rw [w1, w2, bif_eq]; unfold smallS
    rw [Bool.eq_iff_iff]; simp
    split <;> omega
  rw [hsm]
  unfold pk; rw [if_neg h0]
theorem mul_p2_div (N : Int) (a b : Nat) (h : b ≤ a) : N * 2 ^ a / 2 ^ b = N * 2 ^ (a - b) := by
  have e : (2 : Int) ^ a = 2 ^ (a - b) * 2 ^ b := by rw [← p2_add]; congr 1; omega
  have := p2_pos b
  rw [e, ← Int.mul_assoc, Int.mul_ediv_cancel _ (by omega)]
theorem mul_p2_div' (N : Int) (a b : Nat) (h : a ≤ b) : N * 2 ^ a / 2 ^ b = N / 2 ^ (b - a) := by
  have e : (2 : Int) ^ b = 2 ^ (b - a) * 2 ^ a := by rw [← p2_add]; congr 1; omega
  have := p2_pos a
  rw [e, Int.mul_comm N, Int.mul_comm (2 ^ (b - a)), Int.mul_ediv_mul_of_pos _ _ this]
theorem mul_p2_mod (N : Int) (a b : Nat) (h : b ≤ a) : N * 2 ^ a % 2 ^ b = 0 := by
  have e : (2 : Int) ^ a = 2 ^ (a - b) * 2 ^ b := by rw [← p2_add]; congr 1; omega
  rw [e, ← Int.mul_assoc, Int.mul_emod_left]
theorem mul_p2_mod' (N : Int) (a b : Nat) (h : a ≤ b) : N * 2 ^ a % 2 ^ b = 2 ^ a * (N % 2 ^ (b - a)) := by
  have e : (2 : Int) ^ b = 2 ^ (b - a) * 2 ^ a := by rw [← p2_add]; congr 1; omega
  have := p2_pos a
  rw [e, Int.mul_comm N, Int.mul_comm (2 ^ (b - a)), Int.mul_emod_mul_of_pos _ _ this]
theorem p2_even (N : Int) (k : Nat) (h : 1 ≤ k) : N * 2 ^ k % 2 = 0 := by
  have e : (2 : Int) ^ k = 2 ^ (k - 1) * 2 := by
    have := p2_succ (k - 1); rw [show k - 1 + 1 = k by omega] at this; omega
  rw [e, ← Int.mul_assoc, Int.mul_emod_left]
theorem qS_sh (N b : Int) (k : Nat) : qS (N * 2 ^ k) b = qS N (b - k) := by
  unfold qS
  by_cases h : b ≤ 0
  · rw [if_pos h, if_pos (by omega), Int.mul_assoc, ← p2_add]; congr 2; omega
  · rw [if_neg h]
    by_cases h2 : b ≤ k
    · rw [if_pos (by omega), mul_p2_div _ _ _ (by omega)]; congr 2; omega
    · rw [if_neg (by omega), mul_p2_div' _ _ _ (by omega)]; congr 2; omega
theorem halfS_sh (N b : Int) (k : Nat) : halfS (N * 2 ^ k) b = halfS N (b - k) := by
  unfold halfS
  by_cases h : b ≤ 0
  · rw [if_pos h, if_pos (by omega)]
  · rw [if_neg h]
    by_cases h2 : b ≤ k
    · rw [if_pos (by omega), mul_p2_div _ _ _ (by omega), p2_even _ _ (by omega)]; rfl
    · rw [if_neg (by omega), mul_p2_div' _ _ _ (by omega)]
      rw [show (b - 1).toNat - k = (b - k - 1).toNat by omega]
theorem restS_sh (N b : Int) (k : Nat) : restS (N * 2 ^ k) b false = restS N (b - k) false := by
  unfold restS
  by_cases h : b ≤ 0
  · rw [if_pos h, if_pos (by omega)]
  · rw [if_neg h]
    by_cases h2 : b ≤ k
    · rw [if_pos (by omega), mul_p2_mod _ _ _ (by omega)]; rfl
    · rw [if_neg (by omega), mul_p2_mod' _ _ _ (by omega)]
      rw [show (b - 1).toNat - k = (b - k - 1).toNat by omega]
      have := p2_pos k
      congr 1
      rw [Bool.eq_iff_iff]; simp
      intro _; omega
theorem unitS_sh (f e N : Int) (k : Nat) (hN : 0 < N) : unitS f e (N * 2 ^ k) = unitS f (e + k) N := by
  have p := p2_pos k
  have hp : 0 < N * 2 ^ k := Int.mul_pos hN p
  unfold unitS
  rw [if_neg (by omega), if_neg (by omega), ln_pos hp, ln_pos hN, lg_mul hN]
  congr 2; omega
theorem smallS_sh (f e N : Int) (k : Nat) (hN : 0 < N) : smallS f e (N * 2 ^ k) = smallS f (e + k) N := by
  have p := p2_pos k
  have hp : 0 < N * 2 ^ k := Int.mul_pos hN p
  unfold smallS
  rw [ln_pos hp, ln_pos hN, lg_mul hN]
  rw [Bool.eq_iff_iff]; simp; omega
theorem pk_shift (f mode : Int) (neg : Bool) (e N : Int) (k : Nat) (hN : 0 ≤ N) : pk f mode neg e (N * 2 ^ k) false = pk f mode neg (e + k) N false := by
  by_cases h0 : N = 0
  · subst h0; rw [Int.zero_mul]; unfold pk; rw [if_pos ⟨rfl, rfl⟩, if_pos ⟨rfl, rfl⟩]
  have hp : 0 < N := by omega
  have p := p2_pos k
  have hp2 : 0 < N * 2 ^ k := Int.mul_pos hp p
  unfold pk
  rw [if_neg (by omega), if_neg (by omega), unitS_sh _ _ _ _ hp, smallS_sh _ _ _ _ hp, qS_sh, halfS_sh, restS_sh]
  rw [show unitS f (e + k) N - e - k = unitS f (e + k) N - (e + k) by omega]
theorem pk_coarse (f mode : Int) (neg : Bool) (e N : Int) (k : Nat) (more : Bool) (h : 2 * BB f ≤ N / 2 ^ k) :
    pk f mode neg (e + k) (N / 2 ^ k) (more || decide (N % 2 ^ k ≠ 0)) = pk f mode neg e N more := by
  obtain ⟨m, hm, hb, hm3⟩ := MM_pow f
  have p := p2_pos k
  have pm := p2_pos m
  have hq : 0 < N / 2 ^ k := by omega
  have hk : 2 ^ k ≤ N := by
    have := (Int.le_ediv_iff_mul_le p).1 (show 1 ≤ N / 2 ^ k by omega); omega
  have hp : 0 < N := by omega
  have l := lg_div hk
  have lb : m + 1 ≤ lg (N / 2 ^ k) := lg_ge (by rw [p2_succ, ← hb]; exact h)
  have hu : unitS f (e + k) (N / 2 ^ k) = unitS f e N := by
    unfold unitS
    rw [if_neg (by omega), if_neg (by omega), ln_pos hp, ln_pos hq, l.1]; congr 2; omega
  have hs : smallS f (e + k) (N / 2 ^ k) = smallS f e N := by
    unfold smallS
    rw [ln_pos hp, ln_pos hq, l.1]
    rw [Bool.eq_iff_iff]; simp; omega
  have hub : unitS f e N - e - k ≥ 1 := by
    unfold unitS
    rw [if_neg (by omega), ln_pos hp, hm]; omega
  unfold pk
  rw [if_neg (by omega), if_neg (by omega), hu, hs, show unitS f e N - (e + k) = unitS f e N - e - k by omega]
  generalize unitS f e N - e = b at *
  have q1 : qS (N / 2 ^ k) (b - k) = qS N b := by
    unfold qS; rw [if_neg (by omega), if_neg (by omega), div_p2]; congr 2; omega
  have h1 : halfS (N / 2 ^ k) (b - k) = halfS N b := by
    unfold halfS; rw [if_neg (by omega), if_neg (by omega), div_p2]
    rw [show k + (b - k - 1).toNat = (b - 1).toNat by omega]
  have r1 : restS (N / 2 ^ k) (b - k) (more || decide (N % 2 ^ k ≠ 0)) = restS N b more := by
    unfold restS; rw [if_neg (by omega), if_neg (by omega)]
    have e := mod_p2 N k (b - k - 1).toNat
    rw [show k + (b - k - 1).toNat = (b - 1).toNat by omega] at e
    rw [e]
    have n1 := Int.emod_nonneg N (show (2 : Int) ^ k ≠ 0 by omega)
    have n2 := Int.emod_nonneg (N / 2 ^ k) (show (2 : Int) ^ (b - k - 1).toNat ≠ 0 by have := p2_pos (b - k - 1).toNat; omega)
    generalize N / 2 ^ k % 2 ^ (b - k - 1).toNat = y at *
    generalize N % 2 ^ k = x at *
    generalize (2 : Int) ^ k = P at *
    have hy : 0 ≤ P * y := Int.mul_nonneg (by omega) n2
    by_cases hx : x = 0
    · by_cases hy0 : y = 0
      · subst hx; subst hy0; cases more <;> simp
      · have : 0 < P * y := Int.mul_pos p (by omega)
        have t : decide (x + P * y ≠ 0) = true := by simp; omega
        rw [t]; cases more <;> simp [hy0]
    · have t : decide (x + P * y ≠ 0) = true := by simp; omega
      rw [t]; cases more <;> simp [hx]
  rw [q1, h1, r1]
theorem pk_coarse' (f mode : Int) (neg : Bool) (e N : Int) (k : Nat) (h : 2 * BB f ≤ N / 2 ^ k) :
    pk f mode neg (e + k) (N / 2 ^ k) (decide (N % 2 ^ k ≠ 0)) = pk f mode neg e N false := by
  have := pk_coarse f mode neg e N k false h
  simpa using this
end Go.Proofs.YtkmkhcmfpbffjaaGreat.VI
