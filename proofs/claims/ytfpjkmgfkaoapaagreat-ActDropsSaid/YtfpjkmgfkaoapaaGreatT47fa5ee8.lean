import Derived.Test.YtfpjkmgfkaoapaaGreatT34219485
namespace Go.Proofs.YtfpjkmgfkaoapaaGreat.VI
set_option linter.unusedVariables false
set_option linter.unusedSimpArgs false
set_option maxRecDepth 100000
noncomputable def O_993 : Orc := (orm c_98a c_960)
theorem okO_993 : OrcOk PR O_993 := (orm_ok ok_98a ok_960)
abbrev fa_993 : Fm := (.pair (.i .i64) (.pair (.si .u32) .unit))
abbrev ha_993 : List BF := []
abbrev fr_993 : Fm := (.tup (.pair (.i .u32) (.pair (.agg (.pair .b (.pair .b (.pair .b (.pair .b (.pair .b .unit)))))) (.pair .b .unit))))
abbrev hr_993 : List BF := []
abbrev ff_993_0 : Fm := (.pair (.i .i64) (.us 4 (.cst (.ref 0 1 0) (.us 1 (.pair .b (.cst (.ref 1 1 0) (.us 3 (.pair (.si .u32) (.pair (.i .i64) (.pair (.i .i64) (.us 23 .unit)))))))))))
abbrev hf_993_0 : List BF := [(.list 1 y_94 true (.pair .b (.pair .b (.pair .b (.pair .b (.pair .b .unit)))))), (.list 1 y_94 true (.pair .b (.pair .b (.pair .b (.pair .b (.pair .b .unit))))))]
abbrev X_993_0 : Xs := (.one (.exit 0) [0, 5, 7, 8] (.pair (.i .i64) (.us 4 (.cst (.ref 0 1 0) (.us 1 (.pair .b (.cst (.ref 1 1 0) (.us 29 .unit))))))) [(.list 1 y_94 true (.pair .b (.pair .b (.pair .b (.pair .b (.pair .b .unit)))))), (.list 1 y_94 true (.pair .b (.pair .b (.pair .b (.pair .b (.pair .b .unit))))))])
abbrev S_993_0 : Type := T ff_993_0 × TH hf_993_0
abbrev E_993_0 : Type := TX X_993_0
noncomputable def LB_993_0 : Lps := L0
noncomputable def st_993_0 : StepT S_993_0 E_993_0 := fun R v kn ko =>
 let x0 : Int := v.1.1
 let x1 : List Int := v.1.2.2.1
 let x2 : Int := v.1.2.2.2.2.1
 let x3 : Bool := v.1.2.1
 let x4 : Bool := v.2.2.1.1
 bif (decide (x2 < v.1.2.2.2.1)) then
 bif (decide (((0:Int) ≤ x2) ∧ (x2 < (((List.length x1) : Nat) : Int)))) then
 ((F_98a x0 (List.getD x1 (Int.toNat x2) (0:Int)))).bind fun r5 =>
 bif x3 then
 bif x4 then
 (kn ((x0, (true, ((List.take (List.length x1) x1), (v.1.2.2.2.1, ((IntKind.wrap .i64 (x2 + (1:Int))), ()))))), (v.2.1, ((true, v.2.2.1.2), ()))))
 else
 (kn ((x0, (true, ((List.take (List.length x1) x1), (v.1.2.2.2.1, ((IntKind.wrap .i64 (x2 + (1:Int))), ()))))), (v.2.1, (((r5 == (5:Int)), v.2.2.1.2), ()))))
 else
 bif x4 then
 (kn ((x0, ((decide (r5 ≥ (4:Int))), ((List.take (List.length x1) x1), (v.1.2.2.2.1, ((IntKind.wrap .i64 (x2 + (1:Int))), ()))))), (v.2.1, ((true, v.2.2.1.2), ()))))
 else
 (kn ((x0, ((decide (r5 ≥ (4:Int))), ((List.take (List.length x1) x1), (v.1.2.2.2.1, ((IntKind.wrap .i64 (x2 + (1:Int))), ()))))), (v.2.1, (((r5 == (5:Int)), v.2.2.1.2), ()))))
 else
 none
 else
 (ko ((x0, (x3, ())), v.2))
noncomputable def ls_993_0 : St → LTr := (lsum ff_993_0 hf_993_0 X_993_0 Prod.mk id st_993_0 (hd [] [] [0, 5, 7, 8, 12, 13, 14] 0))
theorem lp_993_0 : LoopOk PR 0 (lpN f_993 0) ls_993_0 := loopT okO_993 mixed (L := LB_993_0) (d := 1) (bs := []) (ks := [0, 5, 7, 8, 12, 13, 14]) (loopsL (l := []) (by kernel_rfl) trivial) (by kernel_rfl) (inS := Prod.mk) (outS := id) (fun _ _ => rfl) (inX := id) (outX := id) (fun _ => rfl) (fun v R kn ko => by kernel_rfl) (hd_wk [] [] [0, 5, 7, 8, 12, 13, 14] 0)
noncomputable def L_993 : Lps := (lpB 5 (.by_ ls_993_0) L0)
def inn_993 : T fr_993 → TH hr_993 → Int × (Bool × Bool × Bool × Bool × Bool × Unit) × Bool × Unit := (fun z w => z)
def out_993 : Int × (Bool × Bool × Bool × Bool × Bool × Unit) × Bool × Unit → T fr_993 × TH hr_993 := fun r => (r, ())
noncomputable def F_993 (a0 : Int) (a1 : List Int) : Option (Int × (Bool × Bool × Bool × Bool × Bool × Unit) × Bool × Unit) :=
 ((lim st_993_0 ((a0, (false, ((List.take (List.length a1) a1), ((((List.length a1) : Nat) : Int), ((0:Int), ()))))), ((false, (false, (false, (false, (false, ()))))), ((false, (false, (false, (false, (false, ()))))), ()))))).bind fun r0 =>
 ((F_960 r0.1.1)).bind fun r1 =>
 (some (r1, (r0.2.2.1, r0.1.2)))
noncomputable def G_993 : T fa_993 → TH ha_993 → Option (Int × (Bool × Bool × Bool × Bool × Bool × Unit) × Bool × Unit) := fun x y => F_993 x.1 x.2.1
noncomputable def c_993 : Orc := ent i_993 [] 0 (sp fa_993 ha_993 fr_993 hr_993 G_993 out_993)
theorem ok_993 : OrcOk PR c_993 := fnT okO_993 mixed p_993 (by kernel_rfl) (by kernel_rfl) (L := L_993) (kp := false) (by kernel_rfl) (inn := inn_993) (out := out_993) (fun _ _ => rfl) (loopsL (l := [((lpN f_993 0), ls_993_0)]) (by kernel_rfl) ⟨lp_993_0, trivial⟩) (fun x y => by kernel_rfl)
noncomputable def O_98b : Orc := c_960
theorem okO_98b : OrcOk PR O_98b := ok_960
abbrev fa_98b : Fm := (.pair (.i .i64) .unit)
abbrev ha_98b : List BF := []
abbrev fr_98b : Fm := (.tup (.pair (.i .u32) (.pair (.agg (.pair .b (.pair .b (.pair .b (.pair .b (.pair .b .unit)))))) .unit)))
abbrev hr_98b : List BF := []
noncomputable def L_98b : Lps := L0
def inn_98b : T fr_98b → TH hr_98b → Int × (Bool × Bool × Bool × Bool × Bool × Unit) × Unit := (fun z w => z)
def out_98b : Int × (Bool × Bool × Bool × Bool × Bool × Unit) × Unit → T fr_98b × TH hr_98b := fun r => (r, ())
noncomputable def F_98b (a0 : Int) : Option (Int × (Bool × Bool × Bool × Bool × Bool × Unit) × Unit) :=
 ((F_960 a0)).bind fun r0 =>
 (some (r0, ((true, (false, (false, (false, (false, ()))))), ())))
noncomputable def G_98b : T fa_98b → TH ha_98b → Option (Int × (Bool × Bool × Bool × Bool × Bool × Unit) × Unit) := fun x y => F_98b x.1
noncomputable def c_98b : Orc := ent i_98b [] 0 (sp fa_98b ha_98b fr_98b hr_98b G_98b out_98b)
theorem ok_98b : OrcOk PR c_98b := fnT okO_98b mixed p_98b (by kernel_rfl) (by kernel_rfl) (L := L_98b) (kp := false) (by kernel_rfl) (inn := inn_98b) (out := out_98b) (fun _ _ => rfl) (loopsL (l := []) (by kernel_rfl) trivial) (fun x y => by kernel_rfl)
noncomputable def O_994 : Orc := (orm c_963 c_974)
theorem okO_994 : OrcOk PR O_994 := (orm_ok ok_963 ok_974)
abbrev fa_994 : Fm := (.pair (.i .i64) (.pair (.i .u32) (.pair (.i .u32) .unit)))
abbrev ha_994 : List BF := []
abbrev fr_994 : Fm := .b
abbrev hr_994 : List BF := []
noncomputable def L_994 : Lps := L0
def inn_994 : T fr_994 → TH hr_994 → Bool := (fun z w => z)
def out_994 : Bool → T fr_994 × TH hr_994 := fun r => (r, ())
noncomputable def F_994 (a0 : Int) (a1 : Int) (a2 : Int) : Option (Bool) :=
 ((F_963 a0 a1)).bind fun r0 =>
 bif r0 then
 ((F_974 a0 a2)).bind fun r1 =>
 bif r1 then
 (some true)
 else
 ((F_974 a0 a1)).bind fun r2 =>
 bif r2 then
 ((F_963 a0 a2)).bind fun r3 =>
 (some r3)
 else
 (some false)
 else
 ((F_974 a0 a1)).bind fun r4 =>
 bif r4 then
 ((F_963 a0 a2)).bind fun r5 =>
 (some r5)
 else
 (some false)
noncomputable def G_994 : T fa_994 → TH ha_994 → Option (Bool) := fun x y => F_994 x.1 x.2.1 x.2.2.1
noncomputable def c_994 : Orc := ent i_994 [] 0 (sp fa_994 ha_994 fr_994 hr_994 G_994 out_994)
theorem ok_994 : OrcOk PR c_994 := fnT okO_994 mixed p_994 (by kernel_rfl) (by kernel_rfl) (L := L_994) (kp := false) (by kernel_rfl) (inn := inn_994) (out := out_994) (fun _ _ => rfl) (loopsL (l := []) (by kernel_rfl) trivial) (fun x y => by kernel_rfl)
noncomputable def O_98c : Orc := c_975
theorem okO_98c : OrcOk PR O_98c := ok_975
abbrev fa_98c : Fm := (.pair (.i .i64) (.pair (.i .u32) .unit))
abbrev ha_98c : List BF := []
abbrev fr_98c : Fm := (.agg (.pair .b (.pair (.i .i64) (.pair (.i .u64) (.pair .b .unit)))))
abbrev hr_98c : List BF := []
noncomputable def L_98c : Lps := L0
def inn_98c : T fr_98c → TH hr_98c → Bool × Int × Int × Bool × Unit := (fun z w => z)
def out_98c : Bool × Int × Int × Bool × Unit → T fr_98c × TH hr_98c := fun r => (r, ())
noncomputable def F_98c (a0 : Int) (a1 : Int) : Option (Bool × Int × Int × Bool × Unit) :=
 ((F_975 a0 a1)).bind fun r0 =>
 let x1 : Int := r0.2.2.1
 (some (r0.1, (r0.2.1, (x1, (false, ())))))
noncomputable def G_98c : T fa_98c → TH ha_98c → Option (Bool × Int × Int × Bool × Unit) := fun x y => F_98c x.1 x.2.1
noncomputable def c_98c : Orc := ent i_98c [] 0 (sp fa_98c ha_98c fr_98c hr_98c G_98c out_98c)
theorem ok_98c : OrcOk PR c_98c := fnT okO_98c mixed p_98c (by kernel_rfl) (by kernel_rfl) (L := L_98c) (kp := false) (by kernel_rfl) (inn := inn_98c) (out := out_98c) (fun _ _ => rfl) (loopsL (l := []) (by kernel_rfl) trivial) (fun x y => by kernel_rfl)
noncomputable def O_995 : Orc := c_98c
theorem okO_995 : OrcOk PR O_995 := ok_98c
abbrev fa_995 : Fm := (.pair (.i .i64) (.pair (.i .u32) (.pair (.i .u32) .unit)))
abbrev ha_995 : List BF := []
abbrev fr_995 : Fm := (.agg (.pair .b (.pair (.i .i64) (.pair (.i .u64) (.pair .b .unit)))))
abbrev hr_995 : List BF := []
noncomputable def L_995 : Lps := L0
def inn_995 : T fr_995 → TH hr_995 → Bool × Int × Int × Bool × Unit := (fun z w => z)
def out_995 : Bool × Int × Int × Bool × Unit → T fr_995 × TH hr_995 := fun r => (r, ())
noncomputable def F_995 (a0 : Int) (a1 : Int) (a2 : Int) : Option (Bool × Int × Int × Bool × Unit) :=
 ((F_98c a0 a1)).bind fun r0 =>
 let x1 : Int := r0.2.2.1
 ((F_98c a0 a2)).bind fun r2 =>
 let x3 : Int := r2.2.2.1
 (some ((!(r0.1 == r2.1)), ((IntKind.wrap .i64 (r0.2.1 + r2.2.1)), ((IntKind.wrap .u64 (x1 * x3)), (false, ())))))
noncomputable def G_995 : T fa_995 → TH ha_995 → Option (Bool × Int × Int × Bool × Unit) := fun x y => F_995 x.1 x.2.1 x.2.2.1
noncomputable def c_995 : Orc := ent i_995 [] 0 (sp fa_995 ha_995 fr_995 hr_995 G_995 out_995)
theorem ok_995 : OrcOk PR c_995 := fnT okO_995 mixed p_995 (by kernel_rfl) (by kernel_rfl) (L := L_995) (kp := false) (by kernel_rfl) (inn := inn_995) (out := out_995) (fun _ _ => rfl) (loopsL (l := []) (by kernel_rfl) trivial) (fun x y => by kernel_rfl)
noncomputable def O_96c : Orc := (orm c_993 (orm c_994 (orm c_98b (orm c_964 (orm c_974 (orm c_973 (orm c_995 c_98d)))))))
theorem okO_96c : OrcOk PR O_96c := (orm_ok ok_993 (orm_ok ok_994 (orm_ok ok_98b (orm_ok ok_964 (orm_ok ok_974 (orm_ok ok_973 (orm_ok ok_995 ok_98d)))))))
abbrev fa_96c : Fm := (.pair (.i .i64) (.pair (.i .i64) (.pair (.i .u32) (.pair (.i .u32) .unit))))
abbrev ha_96c : List BF := []
abbrev fr_96c : Fm := (.tup (.pair (.i .u32) (.pair (.agg (.pair .b (.pair .b (.pair .b (.pair .b (.pair .b .unit)))))) .unit)))
abbrev hr_96c : List BF := []
noncomputable def L_96c : Lps := L0
def inn_96c : T fr_96c → TH hr_96c → Int × (Bool × Bool × Bool × Bool × Bool × Unit) × Unit := (fun z w => z)
def out_96c : Int × (Bool × Bool × Bool × Bool × Bool × Unit) × Unit → T fr_96c × TH hr_96c := fun r => (r, ())
noncomputable def F_96c (a0 : Int) (a1 : Int) (a2 : Int) (a3 : Int) : Option (Int × (Bool × Bool × Bool × Bool × Bool × Unit) × Unit) :=
 ((F_993 a0 [a2, a3])).bind fun r0 =>
 let x1 : Bool := r0.2.2.1
 bif x1 then
 (some (r0.1, (r0.2.1, ())))
 else
 ((F_994 a0 a2 a3)).bind fun r2 =>
 bif r2 then
 ((F_98b a0)).bind fun r3 =>
 (some r3)
 else
 ((F_964 a0 a2)).bind fun r4 =>
 ((F_964 a0 a3)).bind fun r5 =>
 let x6 : Bool := (!(r4 == r5))
 ((F_974 a0 a2)).bind fun r7 =>
 bif r7 then
 ((F_973 a0 x6)).bind fun r8 =>
 (some (r8, ((false, (false, (false, (false, (false, ()))))), ())))
 else
 ((F_974 a0 a3)).bind fun r9 =>
 bif r9 then
 ((F_973 a0 x6)).bind fun r10 =>
 (some (r10, ((false, (false, (false, (false, (false, ()))))), ())))
 else
 ((F_995 a0 a2 a3)).bind fun r11 =>
 let x12 : Int := r11.2.2.1
 ((F_98d a0 a1 x6 r11.2.1 x12 false)).bind fun r13 =>
 (some r13)
noncomputable def G_96c : T fa_96c → TH ha_96c → Option (Int × (Bool × Bool × Bool × Bool × Bool × Unit) × Unit) := fun x y => F_96c x.1 x.2.1 x.2.2.1 x.2.2.2.1
noncomputable def c_96c : Orc := ent i_96c [] 0 (sp fa_96c ha_96c fr_96c hr_96c G_96c out_96c)
theorem ok_96c : OrcOk PR c_96c := fnT okO_96c mixed p_96c (by kernel_rfl) (by kernel_rfl) (L := L_96c) (kp := false) (by kernel_rfl) (inn := inn_96c) (out := out_96c) (fun _ _ => rfl) (loopsL (l := []) (by kernel_rfl) trivial) (fun x y => by kernel_rfl)
noncomputable def O_93a : Orc := c_96c
theorem okO_93a : OrcOk PR O_93a := ok_96c
abbrev fa_93a : Fm := (.pair (.i .u32) (.pair (.i .u32) .unit))
abbrev ha_93a : List BF := []
abbrev fr_93a : Fm := (.i .u32)
abbrev hr_93a : List BF := []
noncomputable def L_93a : Lps := L0
def inn_93a : T fr_93a → TH hr_93a → Int := (fun z w => z)
def out_93a : Int → T fr_93a × TH hr_93a := fun r => (r, ())
noncomputable def F_93a (a0 : Int) (a1 : Int) : Option (Int) :=
 ((F_96c (2:Int) (0:Int) a0 a1)).bind fun r0 =>
 (some r0.1)
noncomputable def G_93a : T fa_93a → TH ha_93a → Option (Int) := fun x y => F_93a x.1 x.2.1
noncomputable def c_93a : Orc := ent i_93a [] 0 (sp fa_93a ha_93a fr_93a hr_93a G_93a out_93a)
theorem ok_93a : OrcOk PR c_93a := fnT okO_93a mixed p_93a (by kernel_rfl) (by kernel_rfl) (L := L_93a) (kp := false) (by kernel_rfl) (inn := inn_93a) (out := out_93a) (fun _ _ => rfl) (loopsL (l := []) (by kernel_rfl) trivial) (fun x y => by kernel_rfl)
noncomputable def O_99b : Orc := (orm c_98b c_973)
theorem okO_99b : OrcOk PR O_99b := (orm_ok ok_98b ok_973)
abbrev fa_99b : Fm := (.pair (.i .i64) (.pair .b (.pair .b (.pair .b (.pair .b .unit)))))
abbrev ha_99b : List BF := []
abbrev fr_99b : Fm := (.tup (.pair (.i .u32) (.pair (.agg (.pair .b (.pair .b (.pair .b (.pair .b (.pair .b .unit)))))) .unit)))
abbrev hr_99b : List BF := []
noncomputable def L_99b : Lps := L0
def inn_99b : T fr_99b → TH hr_99b → Int × (Bool × Bool × Bool × Bool × Bool × Unit) × Unit := (fun z w => z)
def out_99b : Int × (Bool × Bool × Bool × Bool × Bool × Unit) × Unit → T fr_99b × TH hr_99b := fun r => (r, ())
noncomputable def F_99b (a0 : Int) (a1 : Bool) (a2 : Bool) (a3 : Bool) (a4 : Bool) : Option (Int × (Bool × Bool × Bool × Bool × Bool × Unit) × Unit) :=
 bif a3 then
 bif a4 then
 bif (!(a1 == a2)) then
 ((F_98b a0)).bind fun r0 =>
 (some r0)
 else
 bif a3 then
 ((F_973 a0 a1)).bind fun r1 =>
 (some (r1, ((false, (false, (false, (false, (false, ()))))), ())))
 else
 ((F_973 a0 a2)).bind fun r2 =>
 (some (r2, ((false, (false, (false, (false, (false, ()))))), ())))
 else
 bif a3 then
 ((F_973 a0 a1)).bind fun r3 =>
 (some (r3, ((false, (false, (false, (false, (false, ()))))), ())))
 else
 ((F_973 a0 a2)).bind fun r4 =>
 (some (r4, ((false, (false, (false, (false, (false, ()))))), ())))
 else
 bif a3 then
 ((F_973 a0 a1)).bind fun r5 =>
 (some (r5, ((false, (false, (false, (false, (false, ()))))), ())))
 else
 ((F_973 a0 a2)).bind fun r6 =>
 (some (r6, ((false, (false, (false, (false, (false, ()))))), ())))
noncomputable def G_99b : T fa_99b → TH ha_99b → Option (Int × (Bool × Bool × Bool × Bool × Bool × Unit) × Unit) := fun x y => F_99b x.1 x.2.1 x.2.2.1 x.2.2.2.1 x.2.2.2.2.1
noncomputable def c_99b : Orc := ent i_99b [] 0 (sp fa_99b ha_99b fr_99b hr_99b G_99b out_99b)
theorem ok_99b : OrcOk PR c_99b := fnT okO_99b mixed p_99b (by kernel_rfl) (by kernel_rfl) (L := L_99b) (kp := false) (by kernel_rfl) (inn := inn_99b) (out := out_99b) (fun _ _ => rfl) (loopsL (l := []) (by kernel_rfl) trivial) (fun x y => by kernel_rfl)
noncomputable def O_9ae : Orc := (orm c_976 c_997)
theorem okO_9ae : OrcOk PR O_9ae := (orm_ok ok_976 ok_997)
abbrev fa_9ae : Fm := (.pair (.agg (.pair .b (.pair (.i .i64) (.pair (.i .u64) (.pair .b .unit))))) .unit)
abbrev ha_9ae : List BF := []
abbrev fr_9ae : Fm := (.agg (.pair .b (.pair (.i .i64) (.pair (.i .u64) (.pair .b .unit)))))
abbrev hr_9ae : List BF := []
noncomputable def L_9ae : Lps := L0
def inn_9ae : T fr_9ae → TH hr_9ae → Bool × Int × Int × Bool × Unit := (fun z w => z)
def out_9ae : Bool × Int × Int × Bool × Unit → T fr_9ae × TH hr_9ae := fun r => (r, ())
noncomputable def F_9ae (a0 : Bool × Int × Int × Bool × Unit) : Option (Bool × Int × Int × Bool × Unit) :=
 let x0 : Int := a0.2.2.1
 ((F_976 x0)).bind fun r1 =>
 let x2 : Int := (IntKind.wrap .i64 ((62:Int) - r1))
 ((F_997 x0 (IntKind.wrap .i64 ((0:Int) - x2)))).bind fun r3 =>
 (some (a0.1, ((IntKind.wrap .i64 (a0.2.1 - x2)), (r3.1, a0.2.2.2))))
noncomputable def G_9ae : T fa_9ae → TH ha_9ae → Option (Bool × Int × Int × Bool × Unit) := fun x y => F_9ae x.1
noncomputable def c_9ae : Orc := ent i_9ae [] 0 (sp fa_9ae ha_9ae fr_9ae hr_9ae G_9ae out_9ae)
theorem ok_9ae : OrcOk PR c_9ae := fnT okO_9ae mixed p_9ae (by kernel_rfl) (by kernel_rfl) (L := L_9ae) (kp := false) (by kernel_rfl) (inn := inn_9ae) (out := out_9ae) (fun _ _ => rfl) (loopsL (l := []) (by kernel_rfl) trivial) (fun x y => by kernel_rfl)
noncomputable def O_99c : Orc := (orm c_9ae c_997)
theorem okO_99c : OrcOk PR O_99c := (orm_ok ok_9ae ok_997)
abbrev fa_99c : Fm := (.pair (.agg (.pair .b (.pair (.i .i64) (.pair (.i .u64) (.pair .b .unit))))) (.pair (.agg (.pair .b (.pair (.i .i64) (.pair (.i .u64) (.pair .b .unit))))) .unit))
abbrev ha_99c : List BF := []
abbrev fr_99c : Fm := (.agg (.pair .b (.pair (.i .i64) (.pair (.i .u64) (.pair .b .unit)))))
abbrev hr_99c : List BF := []
noncomputable def L_99c : Lps := L0
def inn_99c : T fr_99c → TH hr_99c → Bool × Int × Int × Bool × Unit := (fun z w => z)
def out_99c : Bool × Int × Int × Bool × Unit → T fr_99c × TH hr_99c := fun r => (r, ())
noncomputable def F_99c (a0 : Bool × Int × Int × Bool × Unit) (a1 : Bool × Int × Int × Bool × Unit) : Option (Bool × Int × Int × Bool × Unit) :=
 let x0 : Int := a0.2.2.1
 let x1 : Int := a1.2.2.1
 bif (x0 == (0:Int)) then
 (some a1)
 else
 bif (x1 == (0:Int)) then
 (some a0)
 else
 ((F_9ae a0)).bind fun r2 =>
 let x3 : Int := r2.2.2.1
 ((F_9ae a1)).bind fun r4 =>
 let x5 : Bool := (r4.1 == r2.1)
 let x6 : Int := r4.2.2.1
 let x7 : Bool := (r2.1 == r4.1)
 bif (decide (r2.2.1 < r4.2.1)) then
 ((F_997 x3 (IntKind.wrap .i64 (r4.2.1 - r2.2.1)))).bind fun r8 =>
 let x9 : Int := (IntKind.wrap .u64 (x6 - r8.1))
 bif x5 then
 (some (r4.1, (r4.2.1, ((IntKind.wrap .u64 (x6 + r8.1)), r8.2))))
 else
 bif r8.2.1 then
 (some (r4.1, (r4.2.1, ((IntKind.wrap .u64 (x9 - (1:Int))), r8.2))))
 else
 (some (r4.1, (r4.2.1, (x9, r8.2))))
 else
 bif (r2.2.1 == r4.2.1) then
 bif (decide (x3 < x6)) then
 ((F_997 x3 (IntKind.wrap .i64 (r4.2.1 - r2.2.1)))).bind fun r10 =>
 let x11 : Int := (IntKind.wrap .u64 (x6 - r10.1))
 bif x5 then
 (some (r4.1, (r4.2.1, ((IntKind.wrap .u64 (x6 + r10.1)), r10.2))))
 else
 bif r10.2.1 then
 (some (r4.1, (r4.2.1, ((IntKind.wrap .u64 (x11 - (1:Int))), r10.2))))
 else
 (some (r4.1, (r4.2.1, (x11, r10.2))))
 else
 ((F_997 x6 (IntKind.wrap .i64 (r2.2.1 - r4.2.1)))).bind fun r12 =>
 let x13 : Int := (IntKind.wrap .u64 (x3 - r12.1))
 bif x7 then
 (some (r2.1, (r2.2.1, ((IntKind.wrap .u64 (x3 + r12.1)), r12.2))))
 else
 bif r12.2.1 then
 (some (r2.1, (r2.2.1, ((IntKind.wrap .u64 (x13 - (1:Int))), r12.2))))
 else
 (some (r2.1, (r2.2.1, (x13, r12.2))))
 else
 ((F_997 x6 (IntKind.wrap .i64 (r2.2.1 - r4.2.1)))).bind fun r14 =>
 let x15 : Int := (IntKind.wrap .u64 (x3 - r14.1))
 bif x7 then
 (some (r2.1, (r2.2.1, ((IntKind.wrap .u64 (x3 + r14.1)), r14.2))))
 else
 bif r14.2.1 then
 (some (r2.1, (r2.2.1, ((IntKind.wrap .u64 (x15 - (1:Int))), r14.2))))
 else
 (some (r2.1, (r2.2.1, (x15, r14.2))))
noncomputable def G_99c : T fa_99c → TH ha_99c → Option (Bool × Int × Int × Bool × Unit) := fun x y => F_99c x.1 x.2.1
noncomputable def c_99c : Orc := ent i_99c [] 0 (sp fa_99c ha_99c fr_99c hr_99c G_99c out_99c)
theorem ok_99c : OrcOk PR c_99c := fnT okO_99c mixed p_99c (by kernel_rfl) (by kernel_rfl) (L := L_99c) (kp := false) (by kernel_rfl) (inn := inn_99c) (out := out_99c) (fun _ _ => rfl) (loopsL (l := []) (by kernel_rfl) trivial) (fun x y => by kernel_rfl)
noncomputable def O_99d : Orc := c_996
theorem okO_99d : OrcOk PR O_99d := ok_996
abbrev fa_99d : Fm := (.pair (.i .i64) (.pair (.i .i64) (.pair .b (.pair .b .unit))))
abbrev ha_99d : List BF := []
abbrev fr_99d : Fm := (.i .u32)
abbrev hr_99d : List BF := []
noncomputable def L_99d : Lps := L0
def inn_99d : T fr_99d → TH hr_99d → Int := (fun z w => z)
def out_99d : Int → T fr_99d × TH hr_99d := fun r => (r, ())
noncomputable def F_99d (a0 : Int) (a1 : Int) (a2 : Bool) (a3 : Bool) : Option (Int) :=
 bif (a2 == a3) then
 ((F_996 a0 a2)).bind fun r0 =>
 (some r0)
 else
 ((F_996 a0 (a1 == (3:Int)))).bind fun r1 =>
 (some r1)
noncomputable def G_99d : T fa_99d → TH ha_99d → Option (Int) := fun x y => F_99d x.1 x.2.1 x.2.2.1 x.2.2.2.1
noncomputable def c_99d : Orc := ent i_99d [] 0 (sp fa_99d ha_99d fr_99d hr_99d G_99d out_99d)
theorem ok_99d : OrcOk PR c_99d := fnT okO_99d mixed p_99d (by kernel_rfl) (by kernel_rfl) (L := L_99d) (kp := false) (by kernel_rfl) (inn := inn_99d) (out := out_99d) (fun _ _ => rfl) (loopsL (l := []) (by kernel_rfl) trivial) (fun x y => by kernel_rfl)
noncomputable def O_97e : Orc := (orm c_994 (orm c_993 (orm c_98b (orm c_964 (orm c_974 (orm c_99b (orm c_995 (orm c_98c (orm c_99c (orm c_99d c_98d))))))))))
theorem okO_97e : OrcOk PR O_97e := (orm_ok ok_994 (orm_ok ok_993 (orm_ok ok_98b (orm_ok ok_964 (orm_ok ok_974 (orm_ok ok_99b (orm_ok ok_995 (orm_ok ok_98c (orm_ok ok_99c (orm_ok ok_99d ok_98d))))))))))
abbrev fa_97e : Fm := (.pair (.i .i64) (.pair (.i .i64) (.pair (.i .u32) (.pair (.i .u32) (.pair (.i .u32) .unit)))))
abbrev ha_97e : List BF := []
abbrev fr_97e : Fm := (.tup (.pair (.i .u32) (.pair (.agg (.pair .b (.pair .b (.pair .b (.pair .b (.pair .b .unit)))))) .unit)))
abbrev hr_97e : List BF := []
noncomputable def L_97e : Lps := L0
def inn_97e : T fr_97e → TH hr_97e → Int × (Bool × Bool × Bool × Bool × Bool × Unit) × Unit := (fun z w => z)
def out_97e : Int × (Bool × Bool × Bool × Bool × Bool × Unit) × Unit → T fr_97e × TH hr_97e := fun r => (r, ())
noncomputable def F_97e (a0 : Int) (a1 : Int) (a2 : Int) (a3 : Int) (a4 : Int) : Option (Int × (Bool × Bool × Bool × Bool × Bool × Unit) × Unit) :=
 ((F_994 a0 a2 a3)).bind fun r0 =>
 ((F_993 a0 [a2, a3, a4])).bind fun r1 =>
 let x2 : Bool := r1.2.2.1
 let x3 : Bool := r1.2.1.1
 bif x2 then
 bif x3 then
 (some (r1.1, ((true, r1.2.1.2), ())))
 else
 (some (r1.1, ((r0, r1.2.1.2), ())))
 else
 bif r0 then
 ((F_98b a0)).bind fun r4 =>
 (some r4)
 else
 ((F_964 a0 a2)).bind fun r5 =>
 ((F_964 a0 a3)).bind fun r6 =>
 let x7 : Bool := (!(r5 == r6))
 ((F_974 a0 a2)).bind fun r8 =>
 bif r8 then
 ((F_974 a0 a4)).bind fun r9 =>
 ((F_964 a0 a4)).bind fun r10 =>
 ((F_99b a0 x7 r10 true r9)).bind fun r11 =>
 (some r11)
 else
 ((F_974 a0 a3)).bind fun r12 =>
 ((F_974 a0 a4)).bind fun r13 =>
 bif r12 then
 ((F_964 a0 a4)).bind fun r14 =>
 ((F_99b a0 x7 r14 r12 r13)).bind fun r15 =>
 (some r15)
 else
 bif r13 then
 ((F_964 a0 a4)).bind fun r16 =>
 ((F_99b a0 x7 r16 r12 r13)).bind fun r17 =>
 (some r17)
 else
 ((F_995 a0 a2 a3)).bind fun r18 =>
 ((F_98c a0 a4)).bind fun r19 =>
 ((F_99c r18 r19)).bind fun r20 =>
 let x21 : Int := r20.2.2.1
 let x22 : Bool := r20.2.2.2.1
 bif (x21 == (0:Int)) then
 bif (!x22) then
 ((F_99d a0 a1 x7 r19.1)).bind fun r23 =>
 (some (r23, ((false, (false, (false, (false, (false, ()))))), ())))
 else
 ((F_98d a0 a1 r20.1 r20.2.1 x21 x22)).bind fun r24 =>
 (some r24)
 else
 ((F_98d a0 a1 r20.1 r20.2.1 x21 x22)).bind fun r25 =>
 (some r25)
noncomputable def G_97e : T fa_97e → TH ha_97e → Option (Int × (Bool × Bool × Bool × Bool × Bool × Unit) × Unit) := fun x y => F_97e x.1 x.2.1 x.2.2.1 x.2.2.2.1 x.2.2.2.2.1
noncomputable def c_97e : Orc := ent i_97e [] 0 (sp fa_97e ha_97e fr_97e hr_97e G_97e out_97e)
theorem ok_97e : OrcOk PR c_97e := fnT okO_97e mixed p_97e (by kernel_rfl) (by kernel_rfl) (L := L_97e) (kp := false) (by kernel_rfl) (inn := inn_97e) (out := out_97e) (fun _ _ => rfl) (loopsL (l := []) (by kernel_rfl) trivial) (fun x y => by kernel_rfl)
noncomputable def O_94c : Orc := c_97e
theorem okO_94c : OrcOk PR O_94c := ok_97e
abbrev fa_94c : Fm := (.pair (.i .u32) (.pair (.i .u32) (.pair (.i .u32) .unit)))
abbrev ha_94c : List BF := []
abbrev fr_94c : Fm := (.i .u32)
abbrev hr_94c : List BF := []
noncomputable def L_94c : Lps := L0
def inn_94c : T fr_94c → TH hr_94c → Int := (fun z w => z)
def out_94c : Int → T fr_94c × TH hr_94c := fun r => (r, ())
noncomputable def F_94c (a0 : Int) (a1 : Int) (a2 : Int) : Option (Int) :=
 ((F_97e (2:Int) (0:Int) a0 a1 a2)).bind fun r0 =>
 (some r0.1)
noncomputable def G_94c : T fa_94c → TH ha_94c → Option (Int) := fun x y => F_94c x.1 x.2.1 x.2.2.1
noncomputable def c_94c : Orc := ent i_94c [] 0 (sp fa_94c ha_94c fr_94c hr_94c G_94c out_94c)
theorem ok_94c : OrcOk PR c_94c := fnT okO_94c mixed p_94c (by kernel_rfl) (by kernel_rfl) (L := L_94c) (kp := false) (by kernel_rfl) (inn := inn_94c) (out := out_94c) (fun _ _ => rfl) (loopsL (l := []) (by kernel_rfl) trivial) (fun x y => by kernel_rfl)
noncomputable def O_972 : Orc := (orm c_993 (orm c_974 (orm c_964 (orm c_99b (orm c_98c (orm c_99c (orm c_99d c_98d)))))))
theorem okO_972 : OrcOk PR O_972 := (orm_ok ok_993 (orm_ok ok_974 (orm_ok ok_964 (orm_ok ok_99b (orm_ok ok_98c (orm_ok ok_99c (orm_ok ok_99d ok_98d)))))))
abbrev fa_972 : Fm := (.pair (.i .i64) (.pair (.i .i64) (.pair (.i .u32) (.pair (.i .u32) .unit))))
abbrev ha_972 : List BF := []
abbrev fr_972 : Fm := (.tup (.pair (.i .u32) (.pair (.agg (.pair .b (.pair .b (.pair .b (.pair .b (.pair .b .unit)))))) .unit)))
abbrev hr_972 : List BF := []
noncomputable def L_972 : Lps := L0
def inn_972 : T fr_972 → TH hr_972 → Int × (Bool × Bool × Bool × Bool × Bool × Unit) × Unit := (fun z w => z)
def out_972 : Int × (Bool × Bool × Bool × Bool × Bool × Unit) × Unit → T fr_972 × TH hr_972 := fun r => (r, ())
noncomputable def F_972 (a0 : Int) (a1 : Int) (a2 : Int) (a3 : Int) : Option (Int × (Bool × Bool × Bool × Bool × Bool × Unit) × Unit) :=
 ((F_993 a0 [a2, a3])).bind fun r0 =>
 let x1 : Bool := r0.2.2.1
 bif x1 then
 (some (r0.1, (r0.2.1, ())))
 else
 ((F_974 a0 a2)).bind fun r2 =>
 ((F_974 a0 a3)).bind fun r3 =>
 bif r2 then
 ((F_964 a0 a2)).bind fun r4 =>
 ((F_964 a0 a3)).bind fun r5 =>
 ((F_99b a0 r4 r5 r2 r3)).bind fun r6 =>
 (some r6)
 else
 bif r3 then
 ((F_964 a0 a2)).bind fun r7 =>
 ((F_964 a0 a3)).bind fun r8 =>
 ((F_99b a0 r7 r8 r2 r3)).bind fun r9 =>
 (some r9)
 else
 ((F_98c a0 a2)).bind fun r10 =>
 ((F_98c a0 a3)).bind fun r11 =>
 ((F_99c r10 r11)).bind fun r12 =>
 let x13 : Int := r12.2.2.1
 let x14 : Bool := r12.2.2.2.1
 bif (x13 == (0:Int)) then
 bif (!x14) then
 ((F_99d a0 a1 r10.1 r11.1)).bind fun r15 =>
 (some (r15, ((false, (false, (false, (false, (false, ()))))), ())))
 else
 ((F_98d a0 a1 r12.1 r12.2.1 x13 x14)).bind fun r16 =>
 (some r16)
 else
 ((F_98d a0 a1 r12.1 r12.2.1 x13 x14)).bind fun r17 =>
 (some r17)
noncomputable def G_972 : T fa_972 → TH ha_972 → Option (Int × (Bool × Bool × Bool × Bool × Bool × Unit) × Unit) := fun x y => F_972 x.1 x.2.1 x.2.2.1 x.2.2.2.1
noncomputable def c_972 : Orc := ent i_972 [] 0 (sp fa_972 ha_972 fr_972 hr_972 G_972 out_972)
theorem ok_972 : OrcOk PR c_972 := fnT okO_972 mixed p_972 (by kernel_rfl) (by kernel_rfl) (L := L_972) (kp := false) (by kernel_rfl) (inn := inn_972) (out := out_972) (fun _ _ => rfl) (loopsL (l := []) (by kernel_rfl) trivial) (fun x y => by kernel_rfl)
noncomputable def O_96b : Orc := (orm c_993 (orm c_991 c_972))
theorem okO_96b : OrcOk PR O_96b := (orm_ok ok_993 (orm_ok ok_991 ok_972))
abbrev fa_96b : Fm := (.pair (.i .i64) (.pair (.i .i64) (.pair (.i .u32) (.pair (.i .u32) .unit))))
abbrev ha_96b : List BF := []
abbrev fr_96b : Fm := (.tup (.pair (.i .u32) (.pair (.agg (.pair .b (.pair .b (.pair .b (.pair .b (.pair .b .unit)))))) .unit)))
abbrev hr_96b : List BF := []
noncomputable def L_96b : Lps := L0
def inn_96b : T fr_96b → TH hr_96b → Int × (Bool × Bool × Bool × Bool × Bool × Unit) × Unit := (fun z w => z)
def out_96b : Int × (Bool × Bool × Bool × Bool × Bool × Unit) × Unit → T fr_96b × TH hr_96b := fun r => (r, ())
noncomputable def F_96b (a0 : Int) (a1 : Int) (a2 : Int) (a3 : Int) : Option (Int × (Bool × Bool × Bool × Bool × Bool × Unit) × Unit) :=
 ((F_993 a0 [a2, a3])).bind fun r0 =>
 let x1 : Bool := r0.2.2.1
 bif x1 then
 (some (r0.1, (r0.2.1, ())))
 else
 ((F_991 a0 a3)).bind fun r2 =>
 ((F_972 a0 a1 a2 r2)).bind fun r3 =>
 (some r3)
noncomputable def G_96b : T fa_96b → TH ha_96b → Option (Int × (Bool × Bool × Bool × Bool × Bool × Unit) × Unit) := fun x y => F_96b x.1 x.2.1 x.2.2.1 x.2.2.2.1
noncomputable def c_96b : Orc := ent i_96b [] 0 (sp fa_96b ha_96b fr_96b hr_96b G_96b out_96b)
theorem ok_96b : OrcOk PR c_96b := fnT okO_96b mixed p_96b (by kernel_rfl) (by kernel_rfl) (L := L_96b) (kp := false) (by kernel_rfl) (inn := inn_96b) (out := out_96b) (fun _ _ => rfl) (loopsL (l := []) (by kernel_rfl) trivial) (fun x y => by kernel_rfl)
noncomputable def O_949 : Orc := c_972
theorem okO_949 : OrcOk PR O_949 := ok_972
abbrev fa_949 : Fm := (.pair (.i .u32) (.pair (.i .u32) .unit))
abbrev ha_949 : List BF := []
abbrev fr_949 : Fm := (.i .u32)
abbrev hr_949 : List BF := []
noncomputable def L_949 : Lps := L0
def inn_949 : T fr_949 → TH hr_949 → Int := (fun z w => z)
def out_949 : Int → T fr_949 × TH hr_949 := fun r => (r, ())
noncomputable def F_949 (a0 : Int) (a1 : Int) : Option (Int) :=
 ((F_972 (2:Int) (0:Int) a0 a1)).bind fun r0 =>
 (some r0.1)
noncomputable def G_949 : T fa_949 → TH ha_949 → Option (Int) := fun x y => F_949 x.1 x.2.1
noncomputable def c_949 : Orc := ent i_949 [] 0 (sp fa_949 ha_949 fr_949 hr_949 G_949 out_949)
theorem ok_949 : OrcOk PR c_949 := fnT okO_949 mixed p_949 (by kernel_rfl) (by kernel_rfl) (L := L_949) (kp := false) (by kernel_rfl) (inn := inn_949) (out := out_949) (fun _ _ => rfl) (loopsL (l := []) (by kernel_rfl) trivial) (fun x y => by kernel_rfl)
noncomputable def O_939 : Orc := c_96b
theorem okO_939 : OrcOk PR O_939 := ok_96b
abbrev fa_939 : Fm := (.pair (.i .u32) (.pair (.i .u32) .unit))
abbrev ha_939 : List BF := []
abbrev fr_939 : Fm := (.i .u32)
abbrev hr_939 : List BF := []
noncomputable def L_939 : Lps := L0
def inn_939 : T fr_939 → TH hr_939 → Int := (fun z w => z)
def out_939 : Int → T fr_939 × TH hr_939 := fun r => (r, ())
noncomputable def F_939 (a0 : Int) (a1 : Int) : Option (Int) :=
 ((F_96b (2:Int) (0:Int) a0 a1)).bind fun r0 =>
 (some r0.1)
noncomputable def G_939 : T fa_939 → TH ha_939 → Option (Int) := fun x y => F_939 x.1 x.2.1
noncomputable def c_939 : Orc := ent i_939 [] 0 (sp fa_939 ha_939 fr_939 hr_939 G_939 out_939)
theorem ok_939 : OrcOk PR c_939 := fnT okO_939 mixed p_939 (by kernel_rfl) (by kernel_rfl) (L := L_939) (kp := false) (by kernel_rfl) (inn := inn_939) (out := out_939) (fun _ _ => rfl) (loopsL (l := []) (by kernel_rfl) trivial) (fun x y => by kernel_rfl)
noncomputable def O_9ad : Orc := (orm c_976 (orm c_9aa c_9ab))
theorem okO_9ad : OrcOk PR O_9ad := (orm_ok ok_976 (orm_ok ok_9aa ok_9ab))
abbrev fa_9ad : Fm := (.pair (.agg (.pair .b (.pair (.i .i64) (.pair (.i .u64) (.pair .b .unit))))) (.pair (.i .i64) .unit))
abbrev ha_9ad : List BF := []
abbrev fr_9ad : Fm := (.tup (.pair (.i .u64) (.pair .b .unit)))
abbrev hr_9ad : List BF := []
noncomputable def L_9ad : Lps := L0
def inn_9ad : T fr_9ad → TH hr_9ad → Int × Bool × Unit := (fun z w => z)
def out_9ad : Int × Bool × Unit → T fr_9ad × TH hr_9ad := fun r => (r, ())
noncomputable def F_9ad (a0 : Bool × Int × Int × Bool × Unit) (a1 : Int) : Option (Int × Bool × Unit) :=
 let x0 : Int := a0.2.2.1
 ((F_976 x0)).bind fun r1 =>
 bif (decide ((IntKind.wrap .i64 (a0.2.1 + r1)) > (40:Int))) then
 (some ((1099511627776:Int), (false, ())))
 else
 ((F_9aa x0 (IntKind.wrap .i64 ((0:Int) - a0.2.1)) false)).bind fun r2 =>
 ((F_9ab a1 a0.1 r2.1 r2.2.1)).bind fun r3 =>
 (some ((bif r3 then (IntKind.wrap .u64 (r2.1 + (1:Int))) else r2.1), ((r2.2.1 != (0:Int)), ())))
noncomputable def G_9ad : T fa_9ad → TH ha_9ad → Option (Int × Bool × Unit) := fun x y => F_9ad x.1 x.2.1
noncomputable def c_9ad : Orc := ent i_9ad [] 0 (sp fa_9ad ha_9ad fr_9ad hr_9ad G_9ad out_9ad)
theorem ok_9ad : OrcOk PR c_9ad := fnT okO_9ad mixed p_9ad (by kernel_rfl) (by kernel_rfl) (L := L_9ad) (kp := false) (by kernel_rfl) (inn := inn_9ad) (out := out_9ad) (fun _ _ => rfl) (loopsL (l := []) (by kernel_rfl) trivial) (fun x y => by kernel_rfl)
noncomputable def O_992 : Orc := (orm c_9a6 (orm c_98c c_9ad))
theorem okO_992 : OrcOk PR O_992 := (orm_ok ok_9a6 (orm_ok ok_98c ok_9ad))
abbrev fa_992 : Fm := (.pair (.i .i64) (.pair (.i .i64) (.pair (.i .u32) .unit)))
abbrev ha_992 : List BF := []
abbrev fr_992 : Fm := (.tup (.pair (.i .i32) (.pair (.agg (.pair .b (.pair .b (.pair .b (.pair .b (.pair .b .unit)))))) .unit)))
abbrev hr_992 : List BF := []
noncomputable def L_992 : Lps := L0
def inn_992 : T fr_992 → TH hr_992 → Int × (Bool × Bool × Bool × Bool × Bool × Unit) × Unit := (fun z w => z)
def out_992 : Int × (Bool × Bool × Bool × Bool × Bool × Unit) × Unit → T fr_992 × TH hr_992 := fun r => (r, ())
noncomputable def F_992 (a0 : Int) (a1 : Int) (a2 : Int) : Option (Int × (Bool × Bool × Bool × Bool × Bool × Unit) × Unit) :=
 ((F_9a6 a0 a2)).bind fun r0 =>
 bif r0 then
 ((F_98c a0 a2)).bind fun r1 =>
 ((F_9ad r1 a1)).bind fun r2 =>
 let x3 : Int := (IntKind.wrap .i64 r2.1)
 let x4 : Int := (bif r1.1 then (IntKind.wrap .i64 ((0:Int) - x3)) else x3)
 let x5 : Int := (IntKind.wrap .i32 x4)
 bif (x4 == (IntKind.wrap .i64 x5)) then
 (some (x5, ((false, (false, (false, (false, r2.2)))), ())))
 else
 (some ((-(2147483648:Int)), ((true, (false, (false, (false, (false, ()))))), ())))
 else
 (some ((-(2147483648:Int)), ((true, (false, (false, (false, (false, ()))))), ())))
noncomputable def G_992 : T fa_992 → TH ha_992 → Option (Int × (Bool × Bool × Bool × Bool × Bool × Unit) × Unit) := fun x y => F_992 x.1 x.2.1 x.2.2.1
noncomputable def c_992 : Orc := ent i_992 [] 0 (sp fa_992 ha_992 fr_992 hr_992 G_992 out_992)
theorem ok_992 : OrcOk PR c_992 := fnT okO_992 mixed p_992 (by kernel_rfl) (by kernel_rfl) (L := L_992) (kp := false) (by kernel_rfl) (inn := inn_992) (out := out_992) (fun _ _ => rfl) (loopsL (l := []) (by kernel_rfl) trivial) (fun x y => by kernel_rfl)
noncomputable def O_998 : Orc := orn
theorem okO_998 : OrcOk PR O_998 := (orn_ok _)
abbrev fa_998 : Fm := (.pair (.i .i64) .unit)
abbrev ha_998 : List BF := []
abbrev fr_998 : Fm := (.i .u64)
abbrev hr_998 : List BF := []
noncomputable def L_998 : Lps := L0
def inn_998 : T fr_998 → TH hr_998 → Int := (fun z w => z)
def out_998 : Int → T fr_998 × TH hr_998 := fun r => (r, ())
noncomputable def F_998 (a0 : Int) : Option (Int) :=
 bif (decide (a0 < (0:Int))) then
 (some (IntKind.wrap .u64 ((0:Int) - (IntKind.wrap .u64 a0))))
 else
 (some (IntKind.wrap .u64 a0))
noncomputable def G_998 : T fa_998 → TH ha_998 → Option (Int) := fun x y => F_998 x.1
noncomputable def c_998 : Orc := ent i_998 [] 0 (sp fa_998 ha_998 fr_998 hr_998 G_998 out_998)
theorem ok_998 : OrcOk PR c_998 := fnT okO_998 mixed p_998 (by kernel_rfl) (by kernel_rfl) (L := L_998) (kp := false) (by kernel_rfl) (inn := inn_998) (out := out_998) (fun _ _ => rfl) (loopsL (l := []) (by kernel_rfl) trivial) (fun x y => by kernel_rfl)
noncomputable def O_96f : Orc := (orm c_998 c_98d)
theorem okO_96f : OrcOk PR O_96f := (orm_ok ok_998 ok_98d)
abbrev fa_96f : Fm := (.pair (.i .i64) (.pair (.i .i64) (.pair (.i .i64) .unit)))
abbrev ha_96f : List BF := []
abbrev fr_96f : Fm := (.tup (.pair (.i .u32) (.pair (.agg (.pair .b (.pair .b (.pair .b (.pair .b (.pair .b .unit)))))) .unit)))
abbrev hr_96f : List BF := []
noncomputable def L_96f : Lps := L0
def inn_96f : T fr_96f → TH hr_96f → Int × (Bool × Bool × Bool × Bool × Bool × Unit) × Unit := (fun z w => z)
def out_96f : Int × (Bool × Bool × Bool × Bool × Bool × Unit) × Unit → T fr_96f × TH hr_96f := fun r => (r, ())
noncomputable def F_96f (a0 : Int) (a1 : Int) (a2 : Int) : Option (Int × (Bool × Bool × Bool × Bool × Bool × Unit) × Unit) :=
 ((F_998 a2)).bind fun r0 =>
 ((F_98d a0 a1 (decide (a2 < (0:Int))) (0:Int) r0 false)).bind fun r1 =>
 (some r1)
noncomputable def G_96f : T fa_96f → TH ha_96f → Option (Int × (Bool × Bool × Bool × Bool × Bool × Unit) × Unit) := fun x y => F_96f x.1 x.2.1 x.2.2.1
noncomputable def c_96f : Orc := ent i_96f [] 0 (sp fa_96f ha_96f fr_96f hr_96f G_96f out_96f)
theorem ok_96f : OrcOk PR c_96f := fnT okO_96f mixed p_96f (by kernel_rfl) (by kernel_rfl) (L := L_96f) (kp := false) (by kernel_rfl) (inn := inn_96f) (out := out_96f) (fun _ _ => rfl) (loopsL (l := []) (by kernel_rfl) trivial) (fun x y => by kernel_rfl)
noncomputable def O_942 : Orc := c_96f
theorem okO_942 : OrcOk PR O_942 := ok_96f
abbrev fa_942 : Fm := (.pair (.i .i64) .unit)
abbrev ha_942 : List BF := []
abbrev fr_942 : Fm := (.i .u32)
abbrev hr_942 : List BF := []
noncomputable def L_942 : Lps := L0
def inn_942 : T fr_942 → TH hr_942 → Int := (fun z w => z)
def out_942 : Int → T fr_942 × TH hr_942 := fun r => (r, ())
noncomputable def F_942 (a0 : Int) : Option (Int) :=
 ((F_96f (2:Int) (0:Int) a0)).bind fun r0 =>
 (some r0.1)
noncomputable def G_942 : T fa_942 → TH ha_942 → Option (Int) := fun x y => F_942 x.1
noncomputable def c_942 : Orc := ent i_942 [] 0 (sp fa_942 ha_942 fr_942 hr_942 G_942 out_942)
theorem ok_942 : OrcOk PR c_942 := fnT okO_942 mixed p_942 (by kernel_rfl) (by kernel_rfl) (L := L_942) (kp := false) (by kernel_rfl) (inn := inn_942) (out := out_942) (fun _ _ => rfl) (loopsL (l := []) (by kernel_rfl) trivial) (fun x y => by kernel_rfl)
noncomputable def O_9af : Orc := (orm c_993 (orm c_95d (orm c_974 c_963)))
theorem okO_9af : OrcOk PR O_9af := (orm_ok ok_993 (orm_ok ok_95d (orm_ok ok_974 ok_963)))
abbrev fa_9af : Fm := (.pair (.i .i64) (.pair (.i .u32) .unit))
abbrev ha_9af : List BF := []
abbrev fr_9af : Fm := (.tup (.pair (.i .u32) (.pair (.agg (.pair .b (.pair .b (.pair .b (.pair .b (.pair .b .unit)))))) (.pair .b .unit))))
abbrev hr_9af : List BF := []
noncomputable def L_9af : Lps := L0
def inn_9af : T fr_9af → TH hr_9af → Int × (Bool × Bool × Bool × Bool × Bool × Unit) × Bool × Unit := (fun z w => z)
def out_9af : Int × (Bool × Bool × Bool × Bool × Bool × Unit) × Bool × Unit → T fr_9af × TH hr_9af := fun r => (r, ())
noncomputable def F_9af (a0 : Int) (a1 : Int) : Option (Int × (Bool × Bool × Bool × Bool × Bool × Unit) × Bool × Unit) :=
 ((F_993 a0 [a1])).bind fun r0 =>
 let x1 : Bool := r0.2.2.1
 bif x1 then
 (some (r0.1, (r0.2.1, (true, ()))))
 else
 ((F_95d a0)).bind fun r2 =>
 let x3 : Int := (bits .and .u32 a1 r2)
 ((F_974 a0 a1)).bind fun r4 =>
 bif r4 then
 (some (x3, ((false, (false, (false, (false, (false, ()))))), (true, ()))))
 else
 ((F_963 a0 a1)).bind fun r5 =>
 (some (x3, ((false, (false, (false, (false, (false, ()))))), (r5, ()))))
noncomputable def G_9af : T fa_9af → TH ha_9af → Option (Int × (Bool × Bool × Bool × Bool × Bool × Unit) × Bool × Unit) := fun x y => F_9af x.1 x.2.1
noncomputable def c_9af : Orc := ent i_9af [] 0 (sp fa_9af ha_9af fr_9af hr_9af G_9af out_9af)
theorem ok_9af : OrcOk PR c_9af := fnT okO_9af mixed p_9af (by kernel_rfl) (by kernel_rfl) (L := L_9af) (kp := false) (by kernel_rfl) (inn := inn_9af) (out := out_9af) (fun _ _ => rfl) (loopsL (l := []) (by kernel_rfl) trivial) (fun x y => by kernel_rfl)
noncomputable def O_9a0 : Orc := (orm c_9af (orm c_98c c_98d))
theorem okO_9a0 : OrcOk PR O_9a0 := (orm_ok ok_9af (orm_ok ok_98c ok_98d))
abbrev fa_9a0 : Fm := (.pair (.i .i64) (.pair (.i .i64) (.pair (.i .u32) (.pair (.i .i64) .unit))))
abbrev ha_9a0 : List BF := []
abbrev fr_9a0 : Fm := (.tup (.pair (.i .u32) (.pair (.agg (.pair .b (.pair .b (.pair .b (.pair .b (.pair .b .unit)))))) .unit)))
abbrev hr_9a0 : List BF := []
noncomputable def L_9a0 : Lps := L0
def inn_9a0 : T fr_9a0 → TH hr_9a0 → Int × (Bool × Bool × Bool × Bool × Bool × Unit) × Unit := (fun z w => z)
def out_9a0 : Int × (Bool × Bool × Bool × Bool × Bool × Unit) × Unit → T fr_9a0 × TH hr_9a0 := fun r => (r, ())
noncomputable def F_9a0 (a0 : Int) (a1 : Int) (a2 : Int) (a3 : Int) : Option (Int × (Bool × Bool × Bool × Bool × Bool × Unit) × Unit) :=
 ((F_9af a0 a2)).bind fun r0 =>
 let x1 : Bool := r0.2.2.1
 bif x1 then
 (some (r0.1, (r0.2.1, ())))
 else
 ((F_98c a0 a2)).bind fun r2 =>
 let x3 : Int := r2.2.2.1
 ((F_98d a0 a1 r2.1 (IntKind.wrap .i64 (r2.2.1 + (mn (mx a3 (-(5000:Int))) (5000:Int)))) x3 false)).bind fun r4 =>
 (some r4)
noncomputable def G_9a0 : T fa_9a0 → TH ha_9a0 → Option (Int × (Bool × Bool × Bool × Bool × Bool × Unit) × Unit) := fun x y => F_9a0 x.1 x.2.1 x.2.2.1 x.2.2.2.1
noncomputable def c_9a0 : Orc := ent i_9a0 [] 0 (sp fa_9a0 ha_9a0 fr_9a0 hr_9a0 G_9a0 out_9a0)
theorem ok_9a0 : OrcOk PR c_9a0 := fnT okO_9a0 mixed p_9a0 (by kernel_rfl) (by kernel_rfl) (L := L_9a0) (kp := false) (by kernel_rfl) (inn := inn_9a0) (out := out_9a0) (fun _ _ => rfl) (loopsL (l := []) (by kernel_rfl) trivial) (fun x y => by kernel_rfl)
noncomputable def O_977 : Orc := c_9a0
theorem okO_977 : OrcOk PR O_977 := ok_9a0
abbrev fa_977 : Fm := (.pair (.i .u32) (.pair (.i .i64) .unit))
abbrev ha_977 : List BF := []
abbrev fr_977 : Fm := (.i .u32)
abbrev hr_977 : List BF := []
noncomputable def L_977 : Lps := L0
def inn_977 : T fr_977 → TH hr_977 → Int := (fun z w => z)
def out_977 : Int → T fr_977 × TH hr_977 := fun r => (r, ())
noncomputable def F_977 (a0 : Int) (a1 : Int) : Option (Int) :=
 ((F_9a0 (2:Int) (0:Int) a0 a1)).bind fun r0 =>
 (some r0.1)
noncomputable def G_977 : T fa_977 → TH ha_977 → Option (Int) := fun x y => F_977 x.1 x.2.1
noncomputable def c_977 : Orc := ent i_977 [] 0 (sp fa_977 ha_977 fr_977 hr_977 G_977 out_977)
theorem ok_977 : OrcOk PR c_977 := fnT okO_977 mixed p_977 (by kernel_rfl) (by kernel_rfl) (L := L_977) (kp := false) (by kernel_rfl) (inn := inn_977) (out := out_977) (fun _ _ => rfl) (loopsL (l := []) (by kernel_rfl) trivial) (fun x y => by kernel_rfl)
noncomputable def O_96e : Orc := (orm c_993 (orm c_964 (orm c_98a (orm c_98b (orm c_973 (orm c_996 (orm c_98c (orm c_976 (orm c_997 c_98d)))))))))
theorem okO_96e : OrcOk PR O_96e := (orm_ok ok_993 (orm_ok ok_964 (orm_ok ok_98a (orm_ok ok_98b (orm_ok ok_973 (orm_ok ok_996 (orm_ok ok_98c (orm_ok ok_976 (orm_ok ok_997 ok_98d)))))))))
abbrev fa_96e : Fm := (.pair (.i .i64) (.pair (.i .i64) (.pair (.i .u32) (.pair (.i .u32) .unit))))
abbrev ha_96e : List BF := []
abbrev fr_96e : Fm := (.tup (.pair (.i .u32) (.pair (.agg (.pair .b (.pair .b (.pair .b (.pair .b (.pair .b .unit)))))) .unit)))
abbrev hr_96e : List BF := []
noncomputable def L_96e : Lps := L0
def inn_96e : T fr_96e → TH hr_96e → Int × (Bool × Bool × Bool × Bool × Bool × Unit) × Unit := (fun z w => z)
def out_96e : Int × (Bool × Bool × Bool × Bool × Bool × Unit) × Unit → T fr_96e × TH hr_96e := fun r => (r, ())
noncomputable def F_96e (a0 : Int) (a1 : Int) (a2 : Int) (a3 : Int) : Option (Int × (Bool × Bool × Bool × Bool × Bool × Unit) × Unit) :=
 ((F_993 a0 [a2, a3])).bind fun r0 =>
 let x1 : Bool := r0.2.2.1
 bif x1 then
 (some (r0.1, (r0.2.1, ())))
 else
 ((F_964 a0 a2)).bind fun r2 =>
 ((F_964 a0 a3)).bind fun r3 =>
 let x4 : Bool := (!(r2 == r3))
 ((F_98a a0 a2)).bind fun r5 =>
 ((F_98a a0 a3)).bind fun r6 =>
 bif (r5 == r6) then
 bif (r5 == (0:Int)) then
 ((F_98b a0)).bind fun r7 =>
 (some r7)
 else
 bif (r5 == (3:Int)) then
 ((F_98b a0)).bind fun r8 =>
 (some r8)
 else
 bif (r5 == (3:Int)) then
 ((F_973 a0 x4)).bind fun r9 =>
 (some (r9, ((false, (false, (false, (false, (false, ()))))), ())))
 else
 bif (r6 == (3:Int)) then
 ((F_996 a0 x4)).bind fun r10 =>
 (some (r10, ((false, (false, (false, (false, (false, ()))))), ())))
 else
 bif (r5 == (0:Int)) then
 ((F_996 a0 x4)).bind fun r11 =>
 (some (r11, ((false, (false, (false, (false, (false, ()))))), ())))
 else
 bif (r6 == (0:Int)) then
 ((F_973 a0 x4)).bind fun r12 =>
 (some (r12, ((false, (true, (false, (false, (false, ()))))), ())))
 else
 ((F_98c a0 a2)).bind fun r13 =>
 let x14 : Int := r13.2.2.1
 ((F_98c a0 a3)).bind fun r15 =>
 let x16 : Int := r15.2.2.1
 let x17 : Bool := (x16 == (0:Int))
 ((F_976 x14)).bind fun r18 =>
 let x19 : Int := (IntKind.wrap .i64 ((62:Int) - r18))
 ((F_997 x14 (IntKind.wrap .i64 ((0:Int) - x19)))).bind fun r20 =>
 bif x17 then
 none
 else
 bif x17 then
 none
 else
 ((F_98d a0 a1 x4 (IntKind.wrap .i64 ((IntKind.wrap .i64 (r13.2.1 - x19)) - r15.2.1)) (IntKind.wrap .u64 (Int.tdiv r20.1 x16)) ((Int.tmod r20.1 x16) != (0:Int)))).bind fun r21 =>
 (some r21)
 else
 bif (r5 == (3:Int)) then
 ((F_973 a0 x4)).bind fun r22 =>
 (some (r22, ((false, (false, (false, (false, (false, ()))))), ())))
 else
 bif (r6 == (3:Int)) then
 ((F_996 a0 x4)).bind fun r23 =>
 (some (r23, ((false, (false, (false, (false, (false, ()))))), ())))
 else
 bif (r5 == (0:Int)) then
 ((F_996 a0 x4)).bind fun r24 =>
 (some (r24, ((false, (false, (false, (false, (false, ()))))), ())))
 else
 bif (r6 == (0:Int)) then
 ((F_973 a0 x4)).bind fun r25 =>
 (some (r25, ((false, (true, (false, (false, (false, ()))))), ())))
 else
 ((F_98c a0 a2)).bind fun r26 =>
 let x27 : Int := r26.2.2.1
 ((F_98c a0 a3)).bind fun r28 =>
 let x29 : Int := r28.2.2.1
 let x30 : Bool := (x29 == (0:Int))
 ((F_976 x27)).bind fun r31 =>
 let x32 : Int := (IntKind.wrap .i64 ((62:Int) - r31))
 ((F_997 x27 (IntKind.wrap .i64 ((0:Int) - x32)))).bind fun r33 =>
 bif x30 then
 none
 else
 bif x30 then
 none
 else
 ((F_98d a0 a1 x4 (IntKind.wrap .i64 ((IntKind.wrap .i64 (r26.2.1 - x32)) - r28.2.1)) (IntKind.wrap .u64 (Int.tdiv r33.1 x29)) ((Int.tmod r33.1 x29) != (0:Int)))).bind fun r34 =>
 (some r34)
noncomputable def G_96e : T fa_96e → TH ha_96e → Option (Int × (Bool × Bool × Bool × Bool × Bool × Unit) × Unit) := fun x y => F_96e x.1 x.2.1 x.2.2.1 x.2.2.2.1
noncomputable def c_96e : Orc := ent i_96e [] 0 (sp fa_96e ha_96e fr_96e hr_96e G_96e out_96e)
theorem ok_96e : OrcOk PR c_96e := fnT okO_96e mixed p_96e (by kernel_rfl) (by kernel_rfl) (L := L_96e) (kp := false) (by kernel_rfl) (inn := inn_96e) (out := out_96e) (fun _ _ => rfl) (loopsL (l := []) (by kernel_rfl) trivial) (fun x y => by kernel_rfl)
noncomputable def O_941 : Orc := c_96e
theorem okO_941 : OrcOk PR O_941 := ok_96e
abbrev fa_941 : Fm := (.pair (.i .u32) (.pair (.i .u32) .unit))
abbrev ha_941 : List BF := []
abbrev fr_941 : Fm := (.i .u32)
abbrev hr_941 : List BF := []
noncomputable def L_941 : Lps := L0
def inn_941 : T fr_941 → TH hr_941 → Int := (fun z w => z)
def out_941 : Int → T fr_941 × TH hr_941 := fun r => (r, ())
noncomputable def F_941 (a0 : Int) (a1 : Int) : Option (Int) :=
 ((F_96e (2:Int) (0:Int) a0 a1)).bind fun r0 =>
 (some r0.1)
noncomputable def G_941 : T fa_941 → TH ha_941 → Option (Int) := fun x y => F_941 x.1 x.2.1
noncomputable def c_941 : Orc := ent i_941 [] 0 (sp fa_941 ha_941 fr_941 hr_941 G_941 out_941)
theorem ok_941 : OrcOk PR c_941 := fnT okO_941 mixed p_941 (by kernel_rfl) (by kernel_rfl) (L := L_941) (kp := false) (by kernel_rfl) (inn := inn_941) (out := out_941) (fun _ _ => rfl) (loopsL (l := []) (by kernel_rfl) trivial) (fun x y => by kernel_rfl)
noncomputable def O_95e : Orc := (orm c_98a (orm c_960 (orm c_98b (orm c_964 (orm c_973 (orm c_98c c_98d))))))
theorem okO_95e : OrcOk PR O_95e := (orm_ok ok_98a (orm_ok ok_960 (orm_ok ok_98b (orm_ok ok_964 (orm_ok ok_973 (orm_ok ok_98c ok_98d))))))
abbrev fa_95e : Fm := (.pair (.i .i64) (.pair (.i .i64) (.pair (.i .i64) (.pair (.i .u32) .unit))))
abbrev ha_95e : List BF := []
abbrev fr_95e : Fm := (.tup (.pair (.i .u32) (.pair (.agg (.pair .b (.pair .b (.pair .b (.pair .b (.pair .b .unit)))))) .unit)))
abbrev hr_95e : List BF := []
noncomputable def L_95e : Lps := L0
def inn_95e : T fr_95e → TH hr_95e → Int × (Bool × Bool × Bool × Bool × Bool × Unit) × Unit := (fun z w => z)
def out_95e : Int × (Bool × Bool × Bool × Bool × Bool × Unit) × Unit → T fr_95e × TH hr_95e := fun r => (r, ())
noncomputable def F_95e (a0 : Int) (a1 : Int) (a2 : Int) (a3 : Int) : Option (Int × (Bool × Bool × Bool × Bool × Bool × Unit) × Unit) :=
 ((F_98a a0 a3)).bind fun r0 =>
 bif (r0 == (4:Int)) then
 ((F_960 a1)).bind fun r1 =>
 (some (r1, ((false, (false, (false, (false, (false, ()))))), ())))
 else
 bif (r0 == (5:Int)) then
 ((F_98b a1)).bind fun r2 =>
 (some r2)
 else
 bif (r0 == (3:Int)) then
 ((F_964 a0 a3)).bind fun r3 =>
 ((F_973 a1 r3)).bind fun r4 =>
 (some (r4, ((false, (false, (false, (false, (false, ()))))), ())))
 else
 ((F_98c a0 a3)).bind fun r5 =>
 let x6 : Int := r5.2.2.1
 ((F_98d a1 a2 r5.1 r5.2.1 x6 false)).bind fun r7 =>
 (some r7)
noncomputable def G_95e : T fa_95e → TH ha_95e → Option (Int × (Bool × Bool × Bool × Bool × Bool × Unit) × Unit) := fun x y => F_95e x.1 x.2.1 x.2.2.1 x.2.2.2.1
noncomputable def c_95e : Orc := ent i_95e [] 0 (sp fa_95e ha_95e fr_95e hr_95e G_95e out_95e)
theorem ok_95e : OrcOk PR c_95e := fnT okO_95e mixed p_95e (by kernel_rfl) (by kernel_rfl) (L := L_95e) (kp := false) (by kernel_rfl) (inn := inn_95e) (out := out_95e) (fun _ _ => rfl) (loopsL (l := []) (by kernel_rfl) trivial) (fun x y => by kernel_rfl)
noncomputable def O_92b : Orc := c_95e
theorem okO_92b : OrcOk PR O_92b := ok_95e
abbrev fa_92b : Fm := (.pair (.i .i64) (.pair (.i .u32) .unit))
abbrev ha_92b : List BF := []
abbrev fr_92b : Fm := (.i .u32)
abbrev hr_92b : List BF := []
noncomputable def L_92b : Lps := L0
def inn_92b : T fr_92b → TH hr_92b → Int := (fun z w => z)
def out_92b : Int → T fr_92b × TH hr_92b := fun r => (r, ())
noncomputable def F_92b (a0 : Int) (a1 : Int) : Option (Int) :=
 ((F_95e (2:Int) a0 (0:Int) a1)).bind fun r0 =>
 (some r0.1)
noncomputable def G_92b : T fa_92b → TH ha_92b → Option (Int) := fun x y => F_92b x.1 x.2.1
noncomputable def c_92b : Orc := ent i_92b [] 0 (sp fa_92b ha_92b fr_92b hr_92b G_92b out_92b)
theorem ok_92b : OrcOk PR c_92b := fnT okO_92b mixed p_92b (by kernel_rfl) (by kernel_rfl) (L := L_92b) (kp := false) (by kernel_rfl) (inn := inn_92b) (out := out_92b) (fun _ _ => rfl) (loopsL (l := []) (by kernel_rfl) trivial) (fun x y => by kernel_rfl)
noncomputable def O_92c : Orc := c_95e
theorem okO_92c : OrcOk PR O_92c := ok_95e
abbrev fa_92c : Fm := (.pair (.i .i64) (.pair (.i .u32) .unit))
abbrev ha_92c : List BF := []
abbrev fr_92c : Fm := (.i .u32)
abbrev hr_92c : List BF := []
noncomputable def L_92c : Lps := L0
def inn_92c : T fr_92c → TH hr_92c → Int := (fun z w => z)
def out_92c : Int → T fr_92c × TH hr_92c := fun r => (r, ())
noncomputable def F_92c (a0 : Int) (a1 : Int) : Option (Int) :=
 ((F_95e a0 (2:Int) (0:Int) a1)).bind fun r0 =>
 (some r0.1)
noncomputable def G_92c : T fa_92c → TH ha_92c → Option (Int) := fun x y => F_92c x.1 x.2.1
noncomputable def c_92c : Orc := ent i_92c [] 0 (sp fa_92c ha_92c fr_92c hr_92c G_92c out_92c)
theorem ok_92c : OrcOk PR c_92c := fnT okO_92c mixed p_92c (by kernel_rfl) (by kernel_rfl) (L := L_92c) (kp := false) (by kernel_rfl) (inn := inn_92c) (out := out_92c) (fun _ _ => rfl) (loopsL (l := []) (by kernel_rfl) trivial) (fun x y => by kernel_rfl)
noncomputable def O_92d : Orc := c_95f
theorem okO_92d : OrcOk PR O_92d := ok_95f
abbrev fa_92d : Fm := (.pair (.i .u32) .unit)
abbrev ha_92d : List BF := []
abbrev fr_92d : Fm := .b
abbrev hr_92d : List BF := []
noncomputable def L_92d : Lps := L0
def inn_92d : T fr_92d → TH hr_92d → Bool := (fun z w => z)
def out_92d : Bool → T fr_92d × TH hr_92d := fun r => (r, ())
noncomputable def F_92d (a0 : Int) : Option (Bool) :=
 ((F_95f (2:Int) a0)).bind fun r0 =>
 (some r0)
noncomputable def G_92d : T fa_92d → TH ha_92d → Option (Bool) := fun x y => F_92d x.1
noncomputable def c_92d : Orc := ent i_92d [] 0 (sp fa_92d ha_92d fr_92d hr_92d G_92d out_92d)
theorem ok_92d : OrcOk PR c_92d := fnT okO_92d mixed p_92d (by kernel_rfl) (by kernel_rfl) (L := L_92d) (kp := false) (by kernel_rfl) (inn := inn_92d) (out := out_92d) (fun _ _ => rfl) (loopsL (l := []) (by kernel_rfl) trivial) (fun x y => by kernel_rfl)
noncomputable def O_962 : Orc := c_960
theorem okO_962 : OrcOk PR O_962 := ok_960
abbrev fa_962 : Fm := .unit
abbrev ha_962 : List BF := []
abbrev fr_962 : Fm := (.i .u32)
abbrev hr_962 : List BF := []
noncomputable def L_962 : Lps := L0
def inn_962 : T fr_962 → TH hr_962 → Int := (fun z w => z)
def out_962 : Int → T fr_962 × TH hr_962 := fun r => (r, ())
noncomputable def F_962  : Option (Int) :=
 (some (2143289344:Int))
noncomputable def G_962 : T fa_962 → TH ha_962 → Option (Int) := fun x y => F_962
noncomputable def c_962 : Orc := ent i_962 [] 0 (sp fa_962 ha_962 fr_962 hr_962 G_962 out_962)
theorem ok_962 : OrcOk PR c_962 := fnT okO_962 mixed p_962 (by kernel_rfl) (by kernel_rfl) (L := L_962) (kp := false) (by kernel_rfl) (inn := inn_962) (out := out_962) (fun _ _ => rfl) (loopsL (l := []) (by kernel_rfl) trivial) (fun x y => by kernel_rfl)
noncomputable def O_965 : Orc := c_991
theorem okO_965 : OrcOk PR O_965 := ok_991
abbrev fa_965 : Fm := (.pair (.i .u32) .unit)
abbrev ha_965 : List BF := []
abbrev fr_965 : Fm := (.i .u32)
abbrev hr_965 : List BF := []
noncomputable def L_965 : Lps := L0
def inn_965 : T fr_965 → TH hr_965 → Int := (fun z w => z)
def out_965 : Int → T fr_965 × TH hr_965 := fun r => (r, ())
noncomputable def F_965 (a0 : Int) : Option (Int) :=
 (some (bits .xor .u32 (bits .and .u32 a0 (4294967295:Int)) (2147483648:Int)))
noncomputable def G_965 : T fa_965 → TH ha_965 → Option (Int) := fun x y => F_965 x.1
noncomputable def c_965 : Orc := ent i_965 [] 0 (sp fa_965 ha_965 fr_965 hr_965 G_965 out_965)
theorem ok_965 : OrcOk PR c_965 := fnT okO_965 mixed p_965 (by kernel_rfl) (by kernel_rfl) (L := L_965) (kp := false) (by kernel_rfl) (inn := inn_965) (out := out_965) (fun _ _ => rfl) (loopsL (l := []) (by kernel_rfl) trivial) (fun x y => by kernel_rfl)
noncomputable def O_92f : Orc := c_961
theorem okO_92f : OrcOk PR O_92f := ok_961
abbrev fa_92f : Fm := (.pair (.i .u32) (.pair (.i .u32) .unit))
abbrev ha_92f : List BF := []
abbrev fr_92f : Fm := .b
abbrev hr_92f : List BF := []
noncomputable def L_92f : Lps := L0
def inn_92f : T fr_92f → TH hr_92f → Bool := (fun z w => z)
def out_92f : Bool → T fr_92f × TH hr_92f := fun r => (r, ())
noncomputable def F_92f (a0 : Int) (a1 : Int) : Option (Bool) :=
 ((F_961 (2:Int) a1 a0)).bind fun r0 =>
 (some r0)
noncomputable def G_92f : T fa_92f → TH ha_92f → Option (Bool) := fun x y => F_92f x.1 x.2.1
noncomputable def c_92f : Orc := ent i_92f [] 0 (sp fa_92f ha_92f fr_92f hr_92f G_92f out_92f)
theorem ok_92f : OrcOk PR c_92f := fnT okO_92f mixed p_92f (by kernel_rfl) (by kernel_rfl) (L := L_92f) (kp := false) (by kernel_rfl) (inn := inn_92f) (out := out_92f) (fun _ _ => rfl) (loopsL (l := []) (by kernel_rfl) trivial) (fun x y => by kernel_rfl)
end Go.Proofs.YtfpjkmgfkaoapaaGreat.VI
