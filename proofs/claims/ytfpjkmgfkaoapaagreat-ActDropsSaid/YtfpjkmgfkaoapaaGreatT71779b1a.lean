import Derived.Test.YtfpjkmgfkaoapaaGreatT5fe94e7e
namespace Go.Proofs.YtfpjkmgfkaoapaaGreat.VI
set_option linter.unusedVariables false
set_option linter.unusedSimpArgs false
set_option maxRecDepth 100000
noncomputable def O_95a : Orc := orn
theorem okO_95a : OrcOk PR O_95a := (orn_ok _)
abbrev fa_95a : Fm := (.pair (.i .i64) .unit)
abbrev ha_95a : List BF := []
abbrev fr_95a : Fm := .b
abbrev hr_95a : List BF := []
noncomputable def L_95a : Lps := L0
def inn_95a : T fr_95a → TH hr_95a → Bool := (fun z w => z)
def out_95a : Bool → T fr_95a × TH hr_95a := fun r => (r, ())
noncomputable def F_95a (a0 : Int) : Option (Bool) :=
 bif (a0 == (0:Int)) then
 (some true)
 else
 bif (a0 == (1:Int)) then
 (some true)
 else
 (some (a0 == (2:Int)))
noncomputable def G_95a : T fa_95a → TH ha_95a → Option (Bool) := fun x y => F_95a x.1
noncomputable def c_95a : Orc := ent i_95a [] 0 (sp fa_95a ha_95a fr_95a hr_95a G_95a out_95a)
theorem ok_95a : OrcOk PR c_95a := fnT okO_95a mixed p_95a (by kernel_rfl) (by kernel_rfl) (L := L_95a) (kp := false) (by kernel_rfl) (inn := inn_95a) (out := out_95a) (fun _ _ => rfl) (loopsL (l := []) (by kernel_rfl) trivial) (fun x y => by kernel_rfl)
noncomputable def O_95c : Orc := c_95d
theorem okO_95c : OrcOk PR O_95c := ok_95d
abbrev fa_95c : Fm := (.pair (.i .u32) (.cst (.ref 0 1 0) .unit))
abbrev ha_95c : List BF := [(.list 1 y_91 true (.pair (.i .i64) (.pair (.i .i64) (.pair (.i .i64) (.pair (.si .u32) .unit)))))]
abbrev fr_95c : Fm := .b
abbrev hr_95c : List BF := [(.list 1 y_91 true (.pair (.i .i64) (.pair (.i .i64) (.pair (.i .i64) (.pair (.si .u32) .unit)))))]
noncomputable def L_95c : Lps := L0
def inn_95c : T fr_95c → TH hr_95c → (Bool) × ((Int × Int × Int × List Int × Unit) × Unit) := Prod.mk
def out_95c : (Bool) × ((Int × Int × Int × List Int × Unit) × Unit) → T fr_95c × TH hr_95c := id
noncomputable def F_95c (a0 : Int) (a1 : Int × Int × Int × List Int × Unit) : Option ((Bool) × ((Int × Int × Int × List Int × Unit) × Unit)) :=
 let x0 : Int := a1.2.2.1
 let x1 : List Int := a1.2.2.2.1
 ((F_95d x0)).bind fun r2 =>
 (some (((bits .andNot .u32 a0 r2) != (0:Int)), ((a1.1, (a1.2.1, (x0, ((List.take (List.length x1) x1), ())))), ())))
noncomputable def G_95c : T fa_95c → TH ha_95c → Option ((Bool) × ((Int × Int × Int × List Int × Unit) × Unit)) := fun x y => F_95c x.1 y.1
noncomputable def c_95c : Orc := ent i_95c [false, true] 0 (sp fa_95c ha_95c fr_95c hr_95c G_95c out_95c)
theorem ok_95c : OrcOk PR c_95c := fnT okO_95c mixed p_95c (by kernel_rfl) (by kernel_rfl) (L := L_95c) (kp := false) (by kernel_rfl) (inn := inn_95c) (out := out_95c) (fun _ _ => rfl) (loopsL (l := []) (by kernel_rfl) trivial) (fun x y => by kernel_rfl)
noncomputable def O_9b6 : Orc := c_95c
theorem okO_9b6 : OrcOk PR O_9b6 := ok_95c
abbrev fa_9b6 : Fm := (.pair (.si .u32) (.pair (.fn i_95c (.pair (.ref 0 1 0) .unit)) .unit))
abbrev ha_9b6 : List BF := [(.list 1 y_91 true (.pair (.i .i64) (.pair (.i .i64) (.pair (.i .i64) (.pair (.si .u32) .unit)))))]
abbrev fr_9b6 : Fm := (.i .i64)
abbrev hr_9b6 : List BF := [(.list 1 y_91 true (.pair (.i .i64) (.pair (.i .i64) (.pair (.i .i64) (.pair (.si .u32) .unit)))))]
abbrev ff_9b6_0 : Fm := (.pair (.si .u32) (.cst (.fn i_95c (.cst (.ref 0 1 0) .unit)) (.us 5 (.pair (.i .i64) (.pair (.i .i64) (.us 10 .unit))))))
abbrev hf_9b6_0 : List BF := [(.list 1 y_91 true (.pair (.i .i64) (.pair (.i .i64) (.pair (.i .i64) (.pair (.si .u32) .unit)))))]
abbrev X_9b6_0 : Xs := (.alt (.exit 0) [] (.us 19 .unit) [(.list 1 y_91 true (.pair (.i .i64) (.pair (.i .i64) (.pair (.i .i64) (.pair (.si .u32) .unit)))))] (.one .ret [4] (.us 4 (.pair (.i .i64) (.us 14 .unit))) [(.list 1 y_91 true (.pair (.i .i64) (.pair (.i .i64) (.pair (.i .i64) (.pair (.si .u32) .unit)))))]))
abbrev S_9b6_0 : Type := T ff_9b6_0 × TH hf_9b6_0
abbrev E_9b6_0 : Type := TX X_9b6_0
noncomputable def LB_9b6_0 : Lps := L0
noncomputable def st_9b6_0 : StepT S_9b6_0 E_9b6_0 := fun R v kn ko =>
 let x0 : List Int := v.1.1
 let x1 : Int := v.1.2.2.1
 let x2 : List Int := v.2.1.2.2.2.1
 bif (decide (x1 < v.1.2.1)) then
 bif (decide (((0:Int) ≤ x1) ∧ (x1 < (((List.length x0) : Nat) : Int)))) then
 ((F_95c (List.getD x0 (Int.toNat x1) (0:Int)) (v.2.1.1, (v.2.1.2.1, (v.2.1.2.2.1, ((List.take (List.length x2) x2), ())))))).bind fun r3 =>
 let x4 : List Int := r3.2.1.2.2.2.1
 bif r3.1 then
 (ko (Sum.inr (v.1.2.2, ((r3.2.1.1, (r3.2.1.2.1, (r3.2.1.2.2.1, ((List.take (List.length x4) x4), ())))), ()))))
 else
 (kn (((List.take (List.length x0) x0), (v.1.2.1, ((IntKind.wrap .i64 (x1 + (1:Int))), ()))), ((r3.2.1.1, (r3.2.1.2.1, (r3.2.1.2.2.1, ((List.take (List.length x4) x4), ())))), ())))
 else
 none
 else
 (ko (Sum.inl ((), ((v.2.1.1, (v.2.1.2.1, (v.2.1.2.2.1, ((List.take (List.length x2) x2), ())))), ()))))
noncomputable def ls_9b6_0 : St → LTr := (lsum ff_9b6_0 hf_9b6_0 X_9b6_0 Prod.mk id st_9b6_0 (hd [] [] [0, 1, 7, 8] 1))
theorem lp_9b6_0 : LoopOk PR 1 (lpN f_988 0) ls_9b6_0 := loopT okO_9b6 mixed (L := LB_9b6_0) (d := 1) (bs := []) (ks := [0, 1, 7, 8]) (loopsL (l := []) (by kernel_rfl) trivial) (by kernel_rfl) (inS := Prod.mk) (outS := id) (fun _ _ => rfl) (inX := id) (outX := id) (fun _ => rfl) (fun v R kn ko => by kernel_rfl) (hd_wk [] [] [0, 1, 7, 8] 1)
noncomputable def L_9b6 : Lps := (lpB 3 (.by_ ls_9b6_0) L0)
def inn_9b6 : T fr_9b6 → TH hr_9b6 → (Int) × ((Int × Int × Int × List Int × Unit) × Unit) := Prod.mk
def out_9b6 : (Int) × ((Int × Int × Int × List Int × Unit) × Unit) → T fr_9b6 × TH hr_9b6 := id
noncomputable def F_9b6 (a0 : List Int) (a1 : Int × Int × Int × List Int × Unit) : Option ((Int) × ((Int × Int × Int × List Int × Unit) × Unit)) :=
 let x0 : Int := a1.2.2.1
 let x1 : List Int := a1.2.2.2.1
 ((lim st_9b6_0 (((List.take (List.length a0) a0), ((((List.length a0) : Nat) : Int), ((0:Int), ()))), ((a1.1, (a1.2.1, (x0, ((List.take (List.length x1) x1), ())))), ())))).bind fun r2 =>
 els (fun l3 =>
 let x5 : Int := l3.2.1.1
 let x6 : Int := l3.2.1.2.1
 let x7 : Int := l3.2.1.2.2.1
 let x8 : List Int := l3.2.1.2.2.2.1
 (some ((-(1:Int)), ((x5, (x6, (x7, ((List.take (List.length x8) x8), ())))), ())))) (fun r4 =>
 let x9 : Int := r4.2.1.1
 let x10 : Int := r4.2.1.2.1
 let x11 : Int := r4.2.1.2.2.1
 let x12 : List Int := r4.2.1.2.2.2.1
 (some (r4.1.1, ((x9, (x10, (x11, ((List.take (List.length x12) x12), ())))), ())))) r2
noncomputable def G_9b6 : T fa_9b6 → TH ha_9b6 → Option ((Int) × ((Int × Int × Int × List Int × Unit) × Unit)) := fun x y => F_9b6 x.1 y.1
noncomputable def c_9b6 : Orc := ent i_988 [false, true] 0 (sp fa_9b6 ha_9b6 fr_9b6 hr_9b6 G_9b6 out_9b6)
theorem ok_9b6 : OrcOk PR c_9b6 := fnT okO_9b6 mixed p_988 (by kernel_rfl) (by kernel_rfl) (L := L_9b6) (kp := false) (by kernel_rfl) (inn := inn_9b6) (out := out_9b6) (fun _ _ => rfl) (loopsL (l := [((lpN f_988 0), ls_9b6_0)]) (by kernel_rfl) ⟨lp_9b6_0, trivial⟩) (fun x y => by kernel_rfl)
noncomputable def O_9b7 : Orc := c_9b6
theorem okO_9b7 : OrcOk PR O_9b7 := ok_9b6
abbrev fa_9b7 : Fm := (.pair (.si .u32) (.pair (.fn i_95c (.pair (.ref 0 1 0) .unit)) .unit))
abbrev ha_9b7 : List BF := [(.list 1 y_91 true (.pair (.i .i64) (.pair (.i .i64) (.pair (.i .i64) (.pair (.si .u32) .unit)))))]
abbrev fr_9b7 : Fm := .b
abbrev hr_9b7 : List BF := [(.list 1 y_91 true (.pair (.i .i64) (.pair (.i .i64) (.pair (.i .i64) (.pair (.si .u32) .unit)))))]
noncomputable def L_9b7 : Lps := L0
def inn_9b7 : T fr_9b7 → TH hr_9b7 → (Bool) × ((Int × Int × Int × List Int × Unit) × Unit) := Prod.mk
def out_9b7 : (Bool) × ((Int × Int × Int × List Int × Unit) × Unit) → T fr_9b7 × TH hr_9b7 := id
noncomputable def F_9b7 (a0 : List Int) (a1 : Int × Int × Int × List Int × Unit) : Option ((Bool) × ((Int × Int × Int × List Int × Unit) × Unit)) :=
 let x0 : Int := a1.2.2.1
 let x1 : List Int := a1.2.2.2.1
 ((F_9b6 (List.take (List.length a0) a0) (a1.1, (a1.2.1, (x0, ((List.take (List.length x1) x1), ())))))).bind fun r2 =>
 let x3 : List Int := r2.2.1.2.2.2.1
 (some ((decide (r2.1 ≥ (0:Int))), ((r2.2.1.1, (r2.2.1.2.1, (r2.2.1.2.2.1, ((List.take (List.length x3) x3), ())))), ())))
noncomputable def G_9b7 : T fa_9b7 → TH ha_9b7 → Option ((Bool) × ((Int × Int × Int × List Int × Unit) × Unit)) := fun x y => F_9b7 x.1 y.1
noncomputable def c_9b7 : Orc := ent i_95b [false, true] 0 (sp fa_9b7 ha_9b7 fr_9b7 hr_9b7 G_9b7 out_9b7)
theorem ok_9b7 : OrcOk PR c_9b7 := fnT okO_9b7 mixed p_95b (by kernel_rfl) (by kernel_rfl) (L := L_9b7) (kp := false) (by kernel_rfl) (inn := inn_9b7) (out := out_9b7) (fun _ _ => rfl) (loopsL (l := []) (by kernel_rfl) trivial) (fun x y => by kernel_rfl)
noncomputable def O_927 : Orc := (orm c_95a (orm c_9b7 c_95c))
theorem okO_927 : OrcOk PR O_927 := (orm_ok ok_95a (orm_ok ok_9b7 ok_95c))
abbrev fa_927 : Fm := (.pair (.agg (.pair (.i .i64) (.pair (.i .i64) (.pair (.i .i64) (.pair (.si .u32) .unit))))) .unit)
abbrev ha_927 : List BF := []
abbrev fr_927 : Fm := .b
abbrev hr_927 : List BF := []
noncomputable def L_927 : Lps := L0
def inn_927 : T fr_927 → TH hr_927 → Bool := (fun z w => z)
def out_927 : Bool → T fr_927 × TH hr_927 := fun r => (r, ())
noncomputable def F_927 (a0 : Int × Int × Int × List Int × Unit) : Option (Bool) :=
 let x0 : Int := a0.2.2.1
 let x1 : List Int := a0.2.2.2.1
 let x2 : Nat := (List.length x1)
 let x3 : List Int := (List.take x2 x1)
 bif (decide (a0.1 < (0:Int))) then
 (some false)
 else
 bif (decide (a0.1 > (4096:Int))) then
 (some false)
 else
 bif (decide (a0.2.1 < (0:Int))) then
 (some false)
 else
 bif (decide (a0.2.1 > (4096:Int))) then
 (some false)
 else
 ((F_95a x0)).bind fun r4 =>
 bif (!r4) then
 (some false)
 else
 bif (((x2 : Nat) : Int) != (IntKind.wrap .i64 (a0.1 * a0.2.1))) then
 (some false)
 else
 ((F_9b7 x3 (a0.1, (a0.2.1, (x0, (x3, ())))))).bind fun r5 =>
 (some (!r5.1))
noncomputable def G_927 : T fa_927 → TH ha_927 → Option (Bool) := fun x y => F_927 x.1
noncomputable def c_927 : Orc := ent i_927 [] 0 (sp fa_927 ha_927 fr_927 hr_927 G_927 out_927)
theorem ok_927 : OrcOk PR c_927 := fnT okO_927 mixed p_927 (by kernel_rfl) (by kernel_rfl) (L := L_927) (kp := false) (by kernel_rfl) (inn := inn_927) (out := out_927) (fun _ _ => rfl) (loopsL (l := []) (by kernel_rfl) trivial) (fun x y => by kernel_rfl)
noncomputable def O_924 : Orc := orn
theorem okO_924 : OrcOk PR O_924 := (orn_ok _)
abbrev fa_924 : Fm := (.pair (.si .u32) (.pair (.si .u32) .unit))
abbrev ha_924 : List BF := []
abbrev fr_924 : Fm := .b
abbrev hr_924 : List BF := []
abbrev ff_924_0 : Fm := (.pair (.si .u32) (.pair (.si .u32) (.us 3 (.pair (.i .i64) (.us 20 .unit)))))
abbrev hf_924_0 : List BF := []
abbrev X_924_0 : Xs := (.alt (.exit 0) [] (.us 26 .unit) [] (.one .ret [4] (.us 4 (.pair .b (.us 21 .unit))) []))
abbrev S_924_0 : Type := T ff_924_0 × TH hf_924_0
abbrev E_924_0 : Type := TX X_924_0
noncomputable def LB_924_0 : Lps := L0
noncomputable def st_924_0 : StepT S_924_0 E_924_0 := fun R v kn ko =>
 let x0 : List Int := v.1.1
 let x1 : Int := v.1.2.2.1
 let x2 : Nat := (Int.toNat x1)
 let x3 : List Int := v.1.2.1
 bif (decide (x1 < (((List.length x0) : Nat) : Int))) then
 bif (decide (((0:Int) ≤ x1) ∧ (x1 < (((List.length x0) : Nat) : Int)))) then
 bif (decide (((0:Int) ≤ x1) ∧ (x1 < (((List.length x3) : Nat) : Int)))) then
 bif ((List.getD x0 x2 (0:Int)) != (List.getD x3 x2 (0:Int))) then
 (ko (Sum.inr ((false, ()), ())))
 else
 (kn (((List.take (List.length x0) x0), ((List.take (List.length x3) x3), ((IntKind.wrap .i64 (x1 + (1:Int))), ()))), ()))
 else
 none
 else
 none
 else
 (ko (Sum.inl ((), ())))
noncomputable def ls_924_0 : St → LTr := (lsum ff_924_0 hf_924_0 X_924_0 Prod.mk id st_924_0 (hd [] [] [0, 1, 5] 0))
theorem lp_924_0 : LoopOk PR 0 (lpN f_924 0) ls_924_0 := loopT okO_924 mixed (L := LB_924_0) (d := 1) (bs := []) (ks := [0, 1, 5]) (loopsL (l := []) (by kernel_rfl) trivial) (by kernel_rfl) (inS := Prod.mk) (outS := id) (fun _ _ => rfl) (inX := id) (outX := id) (fun _ => rfl) (fun v R kn ko => by kernel_rfl) (hd_wk [] [] [0, 1, 5] 0)
noncomputable def L_924 : Lps := (lpB 5 (.by_ ls_924_0) L0)
def inn_924 : T fr_924 → TH hr_924 → Bool := (fun z w => z)
def out_924 : Bool → T fr_924 × TH hr_924 := fun r => (r, ())
noncomputable def F_924 (a0 : List Int) (a1 : List Int) : Option (Bool) :=
 bif ((((List.length a0) : Nat) : Int) != (((List.length a1) : Nat) : Int)) then
 (some false)
 else
 ((lim st_924_0 (((List.take (List.length a0) a0), ((List.take (List.length a1) a1), ((0:Int), ()))), ()))).bind fun r0 =>
 els (fun l1 =>
 (some true)) (fun r2 =>
 (some r2.1.1)) r0
noncomputable def G_924 : T fa_924 → TH ha_924 → Option (Bool) := fun x y => F_924 x.1 x.2.1
noncomputable def c_924 : Orc := ent i_924 [] 0 (sp fa_924 ha_924 fr_924 hr_924 G_924 out_924)
theorem ok_924 : OrcOk PR c_924 := fnT okO_924 mixed p_924 (by kernel_rfl) (by kernel_rfl) (L := L_924) (kp := false) (by kernel_rfl) (inn := inn_924) (out := out_924) (fun _ _ => rfl) (loopsL (l := [((lpN f_924 0), ls_924_0)]) (by kernel_rfl) ⟨lp_924_0, trivial⟩) (fun x y => by kernel_rfl)
noncomputable def O_91b : Orc := c_924
theorem okO_91b : OrcOk PR O_91b := ok_924
abbrev fa_91b : Fm := (.pair (.agg (.pair (.i .i64) (.pair (.i .i64) (.pair (.i .i64) (.pair (.si .u32) .unit))))) (.pair (.agg (.pair (.i .i64) (.pair (.i .i64) (.pair (.i .i64) (.pair (.si .u32) .unit))))) .unit))
abbrev ha_91b : List BF := []
abbrev fr_91b : Fm := .b
abbrev hr_91b : List BF := []
noncomputable def L_91b : Lps := L0
def inn_91b : T fr_91b → TH hr_91b → Bool := (fun z w => z)
def out_91b : Bool → T fr_91b × TH hr_91b := fun r => (r, ())
noncomputable def F_91b (a0 : Int × Int × Int × List Int × Unit) (a1 : Int × Int × Int × List Int × Unit) : Option (Bool) :=
 let x0 : Int := a0.2.2.1
 let x1 : Int := a1.2.2.1
 let x2 : List Int := a0.2.2.2.1
 let x3 : List Int := a1.2.2.2.1
 bif (a0.1 == a1.1) then
 bif (a0.2.1 == a1.2.1) then
 bif (x0 == x1) then
 ((F_924 (List.take (List.length x2) x2) (List.take (List.length x3) x3))).bind fun r4 =>
 (some r4)
 else
 (some false)
 else
 (some false)
 else
 (some false)
noncomputable def G_91b : T fa_91b → TH ha_91b → Option (Bool) := fun x y => F_91b x.1 x.2.1
noncomputable def c_91b : Orc := ent i_91b [] 0 (sp fa_91b ha_91b fr_91b hr_91b G_91b out_91b)
theorem ok_91b : OrcOk PR c_91b := fnT okO_91b mixed p_91b (by kernel_rfl) (by kernel_rfl) (L := L_91b) (kp := false) (by kernel_rfl) (inn := inn_91b) (out := out_91b) (fun _ _ => rfl) (loopsL (l := []) (by kernel_rfl) trivial) (fun x y => by kernel_rfl)
noncomputable def O_9d : Orc := (orm c_914 c_913)
theorem okO_9d : OrcOk PR O_9d := (orm_ok ok_914 ok_913)
abbrev fa_9d : Fm := (.pair (.i .i64) (.pair (.i .i64) (.pair (.i .i64) (.pair (.si .u32) (.pair .b .unit)))))
abbrev ha_9d : List BF := []
abbrev fr_9d : Fm := (.agg (.pair (.i .i64) (.pair (.i .i64) (.pair (.i .i64) (.pair (.si .u32) .unit)))))
abbrev hr_9d : List BF := []
abbrev ff_9d_0 : Fm := (.pair (.i .i64) (.pair (.i .i64) (.pair (.i .i64) (.pair (.si .u32) (.pair .b (.us 5 (.cst (.ref 0 1 0) (.cst (.ref 1 1 0) (.pair (.i .i64) (.us 50 .unit))))))))))
abbrev hf_9d_0 : List BF := [(.list 1 y_91 true (.pair (.i .i64) (.pair (.i .i64) (.pair (.i .i64) (.cst .nils .unit))))), (.list 1 y_91 true (.pair (.i .i64) (.pair (.i .i64) (.pair (.i .i64) (.pair (.own 2 1 0 1) .unit))))), (.ints 1 y_92 true .u32)]
abbrev X_9d_0 : Xs := (.one (.exit 0) [10, 11] (.us 10 (.cst (.ref 0 1 0) (.cst (.ref 1 1 0) (.us 51 .unit)))) [(.list 1 y_91 true (.pair (.i .i64) (.pair (.i .i64) (.pair (.i .i64) (.cst .nils .unit))))), (.list 1 y_91 true (.pair (.i .i64) (.pair (.i .i64) (.pair (.i .i64) (.pair (.own 2 1 0 1) .unit))))), (.ints 1 y_92 true .u32)])
abbrev S_9d_0 : Type := T ff_9d_0 × TH hf_9d_0
abbrev E_9d_0 : Type := TX X_9d_0
noncomputable def LB_9d_0 : Lps := L0
noncomputable def st_9d_0 : StepT S_9d_0 E_9d_0 := fun R v kn ko =>
 let x0 : List Int := v.1.2.2.2.1
 let x1 : Nat := (List.length x0)
 let x2 : Int := ((x1 : Nat) : Int)
 let x3 : Bool := (x2 == (0:Int))
 let x4 : Bool := v.1.2.2.2.2.1
 let x5 : Int := v.1.2.2.1
 let x6 : Int := v.1.2.2.2.2.2.1
 let x7 : Int := (IntKind.wrap .u32 ((List.getD x0 (Int.toNat (Int.tmod x6 x2)) (0:Int)) + (IntKind.wrap .u32 ((IntKind.wrap .u32 (IntKind.wrap .i64 (Int.tdiv x6 x2))) * (40503:Int)))))
 let x8 : Nat := v.2.2.1.2.2.2.1
 let x9 : List Int := (List.take x8 v.2.2.2.1)
 let x10 : Int := (IntKind.wrap .u32 ((IntKind.wrap .u32 x6) * (2654435761:Int)))
 bif (decide (x6 < (IntKind.wrap .i64 (v.1.1 * v.1.2.1)))) then
 bif (decide (x2 > (0:Int))) then
 bif x3 then
 none
 else
 bif (decide (((0:Int) ≤ (Int.tmod x6 x2)) ∧ ((Int.tmod x6 x2) < x2))) then
 bif x3 then
 none
 else
 bif x4 then
 ((F_914 x5 x7)).bind fun r11 =>
 bif (decide ((x8 + (1:Nat)) ≤ (1073741824:Nat))) then
 (kn ((v.1.1, (v.1.2.1, (x5, ((List.take x1 x0), (x4, ((IntKind.wrap .i64 (x6 + (1:Int))), ())))))), (v.2.1, ((v.2.2.1.1, (v.2.2.1.2.1, (v.2.2.1.2.2.1, ((x8 + (1:Nat)), ())))), ((x9 ++ [r11]), ())))))
 else
 none
 else
 ((F_913 x5 x7)).bind fun r12 =>
 bif (decide ((x8 + (1:Nat)) ≤ (1073741824:Nat))) then
 (kn ((v.1.1, (v.1.2.1, (x5, ((List.take x1 x0), (x4, ((IntKind.wrap .i64 (x6 + (1:Int))), ())))))), (v.2.1, ((v.2.2.1.1, (v.2.2.1.2.1, (v.2.2.1.2.2.1, ((x8 + (1:Nat)), ())))), ((x9 ++ [r12]), ())))))
 else
 none
 else
 none
 else
 bif x4 then
 ((F_914 x5 x10)).bind fun r13 =>
 bif (decide ((x8 + (1:Nat)) ≤ (1073741824:Nat))) then
 (kn ((v.1.1, (v.1.2.1, (x5, ((List.take x1 x0), (x4, ((IntKind.wrap .i64 (x6 + (1:Int))), ())))))), (v.2.1, ((v.2.2.1.1, (v.2.2.1.2.1, (v.2.2.1.2.2.1, ((x8 + (1:Nat)), ())))), ((x9 ++ [r13]), ())))))
 else
 none
 else
 ((F_913 x5 x10)).bind fun r14 =>
 bif (decide ((x8 + (1:Nat)) ≤ (1073741824:Nat))) then
 (kn ((v.1.1, (v.1.2.1, (x5, ((List.take x1 x0), (x4, ((IntKind.wrap .i64 (x6 + (1:Int))), ())))))), (v.2.1, ((v.2.2.1.1, (v.2.2.1.2.1, (v.2.2.1.2.2.1, ((x8 + (1:Nat)), ())))), ((x9 ++ [r14]), ())))))
 else
 none
 else
 (ko ((), v.2))
noncomputable def ls_9d_0 : St → LTr := (lsum ff_9d_0 hf_9d_0 X_9d_0 Prod.mk id st_9d_0 (hd [(.via 11 3, y_92, 0, .ints .u32)] [] [0, 1, 2, 3, 4, 10, 11, 12] 0))
theorem lp_9d_0 : LoopOk PR 0 (lpN f_9d 0) ls_9d_0 := loopT okO_9d mixed (L := LB_9d_0) (d := 1) (bs := []) (ks := [0, 1, 2, 3, 4, 10, 11, 12]) (loopsL (l := []) (by kernel_rfl) trivial) (by kernel_rfl) (inS := Prod.mk) (outS := id) (fun _ _ => rfl) (inX := id) (outX := id) (fun _ => rfl) (fun v R kn ko => by kernel_rfl) (hd_wk [(.via 11 3, y_92, 0, .ints .u32)] [] [0, 1, 2, 3, 4, 10, 11, 12] 0)
noncomputable def L_9d : Lps := (lpB 4 (.by_ ls_9d_0) L0)
def inn_9d : T fr_9d → TH hr_9d → Int × Int × Int × List Int × Unit := (fun z w => z)
def out_9d : Int × Int × Int × List Int × Unit → T fr_9d × TH hr_9d := fun r => (r, ())
noncomputable def F_9d (a0 : Int) (a1 : Int) (a2 : Int) (a3 : List Int) (a4 : Bool) : Option (Int × Int × Int × List Int × Unit) :=
 ((lim st_9d_0 ((a0, (a1, (a2, ((List.take (List.length a3) a3), (a4, ((0:Int), ())))))), (((0:Int), ((0:Int), ((0:Int), ()))), ((a0, (a1, (a2, ((0:Nat), ())))), ([], ())))))).bind fun r0 =>
 (some (r0.2.2.1.1, (r0.2.2.1.2.1, (r0.2.2.1.2.2.1, ((List.take r0.2.2.1.2.2.2.1 (List.drop (0:Nat) r0.2.2.2.1)), ())))))
noncomputable def G_9d : T fa_9d → TH ha_9d → Option (Int × Int × Int × List Int × Unit) := fun x y => F_9d x.1 x.2.1 x.2.2.1 x.2.2.2.1 x.2.2.2.2.1
noncomputable def c_9d : Orc := ent i_9d [] 0 (sp fa_9d ha_9d fr_9d hr_9d G_9d out_9d)
theorem ok_9d : OrcOk PR c_9d := fnT okO_9d mixed p_9d (by kernel_rfl) (by kernel_rfl) (L := L_9d) (kp := false) (by kernel_rfl) (inn := inn_9d) (out := out_9d) (fun _ _ => rfl) (loopsL (l := [((lpN f_9d 0), ls_9d_0)]) (by kernel_rfl) ⟨lp_9d_0, trivial⟩) (fun x y => by kernel_rfl)
end Go.Proofs.YtfpjkmgfkaoapaaGreat.VI
