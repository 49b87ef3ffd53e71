import Derived.Test.YtkknnloamidaiaaTe4ab8e0f
namespace Go.Proofs.Ytkknnloamidaiaa.VI
set_option linter.unusedVariables false
set_option linter.unusedSimpArgs false
set_option maxRecDepth 100000
noncomputable def O_941 : Orc := (orm c_92b c_92a)
theorem okO_941 : OrcOk PR O_941 := (orm_ok ok_92b ok_92a)
abbrev fa_941 : Fm := (.pair (.i .i64) (.pair (.si .u32) .unit))
abbrev ha_941 : List BF := []
abbrev fr_941 : Fm := (.tup (.pair (.i .u32) (.pair (.agg (.pair .b (.pair .b (.pair .b (.pair .b (.pair .b .unit)))))) (.pair .b .unit))))
abbrev hr_941 : List BF := []
abbrev ff_941_0 : Fm := (.pair (.i .i64) (.us 4 (.cst (.ref 0 1 0) (.us 1 (.pair .b (.cst (.ref 1 1 0) (.us 3 (.pair (.si .u32) (.pair (.i .i64) (.pair (.i .i64) (.us 23 .unit)))))))))))
abbrev hf_941_0 : List BF := [(.list 1 y_90 true (.pair .b (.pair .b (.pair .b (.pair .b (.pair .b .unit)))))), (.list 1 y_90 true (.pair .b (.pair .b (.pair .b (.pair .b (.pair .b .unit))))))]
abbrev X_941_0 : Xs := (.one (.exit 0) [0, 5, 7, 8] (.pair (.i .i64) (.us 4 (.cst (.ref 0 1 0) (.us 1 (.pair .b (.cst (.ref 1 1 0) (.us 29 .unit))))))) [(.list 1 y_90 true (.pair .b (.pair .b (.pair .b (.pair .b (.pair .b .unit)))))), (.list 1 y_90 true (.pair .b (.pair .b (.pair .b (.pair .b (.pair .b .unit))))))])
abbrev S_941_0 : Type := T ff_941_0 × TH hf_941_0
abbrev E_941_0 : Type := TX X_941_0
noncomputable def LB_941_0 : Lps := L0
noncomputable def st_941_0 : StepT S_941_0 E_941_0 := fun R v kn ko =>
 let x0 : Int := v.1.1
 let x1 : List Int := v.1.2.2.1
 let x2 : Int := v.1.2.2.2.2.1
 let x3 : Bool := v.1.2.1
 let x4 : Bool := v.2.2.1.1
 bif (decide (x2 < v.1.2.2.2.1)) then
 bif (decide (((0:Int) ≤ x2) ∧ (x2 < (((List.length x1) : Nat) : Int)))) then
 ((F_92b x0 (List.getD x1 (Int.toNat x2) (0:Int)))).bind fun r5 =>
 bif x3 then
 bif x4 then
 (kn ((x0, (true, ((List.take (List.length x1) x1), (v.1.2.2.2.1, ((IntKind.wrap .i64 (x2 + (1:Int))), ()))))), (v.2.1, ((true, v.2.2.1.2), ()))))
 else
 (kn ((x0, (true, ((List.take (List.length x1) x1), (v.1.2.2.2.1, ((IntKind.wrap .i64 (x2 + (1:Int))), ()))))), (v.2.1, (((r5 == (5:Int)), v.2.2.1.2), ()))))
 else
 bif x4 then
 (kn ((x0, ((decide (r5 ≥ (4:Int))), ((List.take (List.length x1) x1), (v.1.2.2.2.1, ((IntKind.wrap .i64 (x2 + (1:Int))), ()))))), (v.2.1, ((true, v.2.2.1.2), ()))))
 else
 (kn ((x0, ((decide (r5 ≥ (4:Int))), ((List.take (List.length x1) x1), (v.1.2.2.2.1, ((IntKind.wrap .i64 (x2 + (1:Int))), ()))))), (v.2.1, (((r5 == (5:Int)), v.2.2.1.2), ()))))
 else
 none
 else
 (ko ((x0, (x3, ())), v.2))
noncomputable def ls_941_0 : St → LTr := (lsum ff_941_0 hf_941_0 X_941_0 Prod.mk id st_941_0 (hd [] [] [0, 5, 7, 8, 12, 13, 14] 0))
theorem lp_941_0 : LoopOk PR 0 (lpN f_941 0) ls_941_0 := loopT okO_941 mixed (L := LB_941_0) (d := 1) (bs := []) (ks := [0, 5, 7, 8, 12, 13, 14]) (loopsL (l := []) (by kernel_rfl) trivial) (by kernel_rfl) (inS := Prod.mk) (outS := id) (fun _ _ => rfl) (inX := id) (outX := id) (fun _ => rfl) (fun v R kn ko => by kernel_rfl) (hd_wk [] [] [0, 5, 7, 8, 12, 13, 14] 0)
noncomputable def L_941 : Lps := (lpB 5 (.by_ ls_941_0) L0)
def inn_941 : T fr_941 → TH hr_941 → Int × (Bool × Bool × Bool × Bool × Bool × Unit) × Bool × Unit := (fun z w => z)
def out_941 : Int × (Bool × Bool × Bool × Bool × Bool × Unit) × Bool × Unit → T fr_941 × TH hr_941 := fun r => (r, ())
noncomputable def F_941 (a0 : Int) (a1 : List Int) : Option (Int × (Bool × Bool × Bool × Bool × Bool × Unit) × Bool × Unit) :=
 ((lim st_941_0 ((a0, (false, ((List.take (List.length a1) a1), ((((List.length a1) : Nat) : Int), ((0:Int), ()))))), ((false, (false, (false, (false, (false, ()))))), ((false, (false, (false, (false, (false, ()))))), ()))))).bind fun r0 =>
 ((F_92a r0.1.1)).bind fun r1 =>
 (some (r1, (r0.2.2.1, r0.1.2)))
noncomputable def G_941 : T fa_941 → TH ha_941 → Option (Int × (Bool × Bool × Bool × Bool × Bool × Unit) × Bool × Unit) := fun x y => F_941 x.1 x.2.1
noncomputable def c_941 : Orc := ent i_941 [] 0 (sp fa_941 ha_941 fr_941 hr_941 G_941 out_941)
theorem ok_941 : OrcOk PR c_941 := fnT okO_941 mixed p_941 (by kernel_rfl) (by kernel_rfl) (L := L_941) (kp := false) (by kernel_rfl) (inn := inn_941) (out := out_941) (fun _ _ => rfl) (loopsL (l := [((lpN f_941 0), ls_941_0)]) (by kernel_rfl) ⟨lp_941_0, trivial⟩) (fun x y => by kernel_rfl)
noncomputable def O_942 : Orc := c_92a
theorem okO_942 : OrcOk PR O_942 := ok_92a
abbrev fa_942 : Fm := (.pair (.i .i64) .unit)
abbrev ha_942 : List BF := []
abbrev fr_942 : Fm := (.tup (.pair (.i .u32) (.pair (.agg (.pair .b (.pair .b (.pair .b (.pair .b (.pair .b .unit)))))) .unit)))
abbrev hr_942 : List BF := []
noncomputable def L_942 : Lps := L0
def inn_942 : T fr_942 → TH hr_942 → Int × (Bool × Bool × Bool × Bool × Bool × Unit) × Unit := (fun z w => z)
def out_942 : Int × (Bool × Bool × Bool × Bool × Bool × Unit) × Unit → T fr_942 × TH hr_942 := fun r => (r, ())
noncomputable def F_942 (a0 : Int) : Option (Int × (Bool × Bool × Bool × Bool × Bool × Unit) × Unit) :=
 ((F_92a a0)).bind fun r0 =>
 (some (r0, ((true, (false, (false, (false, (false, ()))))), ())))
noncomputable def G_942 : T fa_942 → TH ha_942 → Option (Int × (Bool × Bool × Bool × Bool × Bool × Unit) × Unit) := fun x y => F_942 x.1
noncomputable def c_942 : Orc := ent i_942 [] 0 (sp fa_942 ha_942 fr_942 hr_942 G_942 out_942)
theorem ok_942 : OrcOk PR c_942 := fnT okO_942 mixed p_942 (by kernel_rfl) (by kernel_rfl) (L := L_942) (kp := false) (by kernel_rfl) (inn := inn_942) (out := out_942) (fun _ _ => rfl) (loopsL (l := []) (by kernel_rfl) trivial) (fun x y => by kernel_rfl)
noncomputable def O_94b : Orc := (orm c_9f c_920)
theorem okO_94b : OrcOk PR O_94b := (orm_ok ok_9f ok_920)
abbrev fa_94b : Fm := (.pair (.i .i64) (.pair (.i .u32) (.pair (.i .u32) .unit)))
abbrev ha_94b : List BF := []
abbrev fr_94b : Fm := .b
abbrev hr_94b : List BF := []
noncomputable def L_94b : Lps := L0
def inn_94b : T fr_94b → TH hr_94b → Bool := (fun z w => z)
def out_94b : Bool → T fr_94b × TH hr_94b := fun r => (r, ())
noncomputable def F_94b (a0 : Int) (a1 : Int) (a2 : Int) : Option (Bool) :=
 ((F_9f a0 a1)).bind fun r0 =>
 bif r0 then
 ((F_920 a0 a2)).bind fun r1 =>
 bif r1 then
 (some true)
 else
 ((F_920 a0 a1)).bind fun r2 =>
 bif r2 then
 ((F_9f a0 a2)).bind fun r3 =>
 (some r3)
 else
 (some false)
 else
 ((F_920 a0 a1)).bind fun r4 =>
 bif r4 then
 ((F_9f a0 a2)).bind fun r5 =>
 (some r5)
 else
 (some false)
noncomputable def G_94b : T fa_94b → TH ha_94b → Option (Bool) := fun x y => F_94b x.1 x.2.1 x.2.2.1
noncomputable def c_94b : Orc := ent i_94b [] 0 (sp fa_94b ha_94b fr_94b hr_94b G_94b out_94b)
theorem ok_94b : OrcOk PR c_94b := fnT okO_94b mixed p_94b (by kernel_rfl) (by kernel_rfl) (L := L_94b) (kp := false) (by kernel_rfl) (inn := inn_94b) (out := out_94b) (fun _ _ => rfl) (loopsL (l := []) (by kernel_rfl) trivial) (fun x y => by kernel_rfl)
noncomputable def O_935 : Orc := c_921
theorem okO_935 : OrcOk PR O_935 := ok_921
abbrev fa_935 : Fm := (.pair (.i .i64) (.pair (.i .u32) .unit))
abbrev ha_935 : List BF := []
abbrev fr_935 : Fm := (.agg (.pair .b (.pair (.i .i64) (.pair (.i .u64) (.pair .b .unit)))))
abbrev hr_935 : List BF := []
noncomputable def L_935 : Lps := L0
def inn_935 : T fr_935 → TH hr_935 → Bool × Int × Int × Bool × Unit := (fun z w => z)
def out_935 : Bool × Int × Int × Bool × Unit → T fr_935 × TH hr_935 := fun r => (r, ())
noncomputable def F_935 (a0 : Int) (a1 : Int) : Option (Bool × Int × Int × Bool × Unit) :=
 ((F_921 a0 a1)).bind fun r0 =>
 let x1 : Int := r0.2.2.1
 (some (r0.1, (r0.2.1, (x1, (false, ())))))
noncomputable def G_935 : T fa_935 → TH ha_935 → Option (Bool × Int × Int × Bool × Unit) := fun x y => F_935 x.1 x.2.1
noncomputable def c_935 : Orc := ent i_935 [] 0 (sp fa_935 ha_935 fr_935 hr_935 G_935 out_935)
theorem ok_935 : OrcOk PR c_935 := fnT okO_935 mixed p_935 (by kernel_rfl) (by kernel_rfl) (L := L_935) (kp := false) (by kernel_rfl) (inn := inn_935) (out := out_935) (fun _ _ => rfl) (loopsL (l := []) (by kernel_rfl) trivial) (fun x y => by kernel_rfl)
noncomputable def O_94c : Orc := c_935
theorem okO_94c : OrcOk PR O_94c := ok_935
abbrev fa_94c : Fm := (.pair (.i .i64) (.pair (.i .u32) (.pair (.i .u32) .unit)))
abbrev ha_94c : List BF := []
abbrev fr_94c : Fm := (.agg (.pair .b (.pair (.i .i64) (.pair (.i .u64) (.pair .b .unit)))))
abbrev hr_94c : List BF := []
noncomputable def L_94c : Lps := L0
def inn_94c : T fr_94c → TH hr_94c → Bool × Int × Int × Bool × Unit := (fun z w => z)
def out_94c : Bool × Int × Int × Bool × Unit → T fr_94c × TH hr_94c := fun r => (r, ())
noncomputable def F_94c (a0 : Int) (a1 : Int) (a2 : Int) : Option (Bool × Int × Int × Bool × Unit) :=
 ((F_935 a0 a1)).bind fun r0 =>
 let x1 : Int := r0.2.2.1
 ((F_935 a0 a2)).bind fun r2 =>
 let x3 : Int := r2.2.2.1
 (some ((!(r0.1 == r2.1)), ((IntKind.wrap .i64 (r0.2.1 + r2.2.1)), ((IntKind.wrap .u64 (x1 * x3)), (false, ())))))
noncomputable def G_94c : T fa_94c → TH ha_94c → Option (Bool × Int × Int × Bool × Unit) := fun x y => F_94c x.1 x.2.1 x.2.2.1
noncomputable def c_94c : Orc := ent i_94c [] 0 (sp fa_94c ha_94c fr_94c hr_94c G_94c out_94c)
theorem ok_94c : OrcOk PR c_94c := fnT okO_94c mixed p_94c (by kernel_rfl) (by kernel_rfl) (L := L_94c) (kp := false) (by kernel_rfl) (inn := inn_94c) (out := out_94c) (fun _ _ => rfl) (loopsL (l := []) (by kernel_rfl) trivial) (fun x y => by kernel_rfl)
noncomputable def O_937 : Orc := (orm c_941 (orm c_94b (orm c_942 (orm c_910 (orm c_920 (orm c_916 (orm c_94c c_945)))))))
theorem okO_937 : OrcOk PR O_937 := (orm_ok ok_941 (orm_ok ok_94b (orm_ok ok_942 (orm_ok ok_910 (orm_ok ok_920 (orm_ok ok_916 (orm_ok ok_94c ok_945)))))))
abbrev fa_937 : Fm := (.pair (.i .i64) (.pair (.i .i64) (.pair (.i .u32) (.pair (.i .u32) .unit))))
abbrev ha_937 : List BF := []
abbrev fr_937 : Fm := (.tup (.pair (.i .u32) (.pair (.agg (.pair .b (.pair .b (.pair .b (.pair .b (.pair .b .unit)))))) .unit)))
abbrev hr_937 : List BF := []
noncomputable def L_937 : Lps := L0
def inn_937 : T fr_937 → TH hr_937 → Int × (Bool × Bool × Bool × Bool × Bool × Unit) × Unit := (fun z w => z)
def out_937 : Int × (Bool × Bool × Bool × Bool × Bool × Unit) × Unit → T fr_937 × TH hr_937 := fun r => (r, ())
noncomputable def F_937 (a0 : Int) (a1 : Int) (a2 : Int) (a3 : Int) : Option (Int × (Bool × Bool × Bool × Bool × Bool × Unit) × Unit) :=
 ((F_941 a0 [a2, a3])).bind fun r0 =>
 let x1 : Bool := r0.2.2.1
 bif x1 then
 (some (r0.1, (r0.2.1, ())))
 else
 ((F_94b a0 a2 a3)).bind fun r2 =>
 bif r2 then
 ((F_942 a0)).bind fun r3 =>
 (some r3)
 else
 ((F_910 a0 a2)).bind fun r4 =>
 ((F_910 a0 a3)).bind fun r5 =>
 let x6 : Bool := (!(r4 == r5))
 ((F_920 a0 a2)).bind fun r7 =>
 bif r7 then
 ((F_916 a0 x6)).bind fun r8 =>
 (some (r8, ((false, (false, (false, (false, (false, ()))))), ())))
 else
 ((F_920 a0 a3)).bind fun r9 =>
 bif r9 then
 ((F_916 a0 x6)).bind fun r10 =>
 (some (r10, ((false, (false, (false, (false, (false, ()))))), ())))
 else
 ((F_94c a0 a2 a3)).bind fun r11 =>
 let x12 : Int := r11.2.2.1
 ((F_945 a0 a1 x6 r11.2.1 x12 false)).bind fun r13 =>
 (some r13)
noncomputable def G_937 : T fa_937 → TH ha_937 → Option (Int × (Bool × Bool × Bool × Bool × Bool × Unit) × Unit) := fun x y => F_937 x.1 x.2.1 x.2.2.1 x.2.2.2.1
noncomputable def c_937 : Orc := ent i_937 [] 0 (sp fa_937 ha_937 fr_937 hr_937 G_937 out_937)
theorem ok_937 : OrcOk PR c_937 := fnT okO_937 mixed p_937 (by kernel_rfl) (by kernel_rfl) (L := L_937) (kp := false) (by kernel_rfl) (inn := inn_937) (out := out_937) (fun _ _ => rfl) (loopsL (l := []) (by kernel_rfl) trivial) (fun x y => by kernel_rfl)
noncomputable def O_918 : Orc := c_937
theorem okO_918 : OrcOk PR O_918 := ok_937
abbrev fa_918 : Fm := (.pair (.i .u32) (.pair (.i .u32) .unit))
abbrev ha_918 : List BF := []
abbrev fr_918 : Fm := (.i .u32)
abbrev hr_918 : List BF := []
noncomputable def L_918 : Lps := L0
def inn_918 : T fr_918 → TH hr_918 → Int := (fun z w => z)
def out_918 : Int → T fr_918 × TH hr_918 := fun r => (r, ())
noncomputable def F_918 (a0 : Int) (a1 : Int) : Option (Int) :=
 ((F_937 (2:Int) (0:Int) a0 a1)).bind fun r0 =>
 (some r0.1)
noncomputable def G_918 : T fa_918 → TH ha_918 → Option (Int) := fun x y => F_918 x.1 x.2.1
noncomputable def c_918 : Orc := ent i_918 [] 0 (sp fa_918 ha_918 fr_918 hr_918 G_918 out_918)
theorem ok_918 : OrcOk PR c_918 := fnT okO_918 mixed p_918 (by kernel_rfl) (by kernel_rfl) (L := L_918) (kp := false) (by kernel_rfl) (inn := inn_918) (out := out_918) (fun _ _ => rfl) (loopsL (l := []) (by kernel_rfl) trivial) (fun x y => by kernel_rfl)
noncomputable def O_946 : Orc := (orm c_942 c_916)
theorem okO_946 : OrcOk PR O_946 := (orm_ok ok_942 ok_916)
abbrev fa_946 : Fm := (.pair (.i .i64) (.pair .b (.pair .b (.pair .b (.pair .b .unit)))))
abbrev ha_946 : List BF := []
abbrev fr_946 : Fm := (.tup (.pair (.i .u32) (.pair (.agg (.pair .b (.pair .b (.pair .b (.pair .b (.pair .b .unit)))))) .unit)))
abbrev hr_946 : List BF := []
noncomputable def L_946 : Lps := L0
def inn_946 : T fr_946 → TH hr_946 → Int × (Bool × Bool × Bool × Bool × Bool × Unit) × Unit := (fun z w => z)
def out_946 : Int × (Bool × Bool × Bool × Bool × Bool × Unit) × Unit → T fr_946 × TH hr_946 := fun r => (r, ())
noncomputable def F_946 (a0 : Int) (a1 : Bool) (a2 : Bool) (a3 : Bool) (a4 : Bool) : Option (Int × (Bool × Bool × Bool × Bool × Bool × Unit) × Unit) :=
 bif a3 then
 bif a4 then
 bif (!(a1 == a2)) then
 ((F_942 a0)).bind fun r0 =>
 (some r0)
 else
 bif a3 then
 ((F_916 a0 a1)).bind fun r1 =>
 (some (r1, ((false, (false, (false, (false, (false, ()))))), ())))
 else
 ((F_916 a0 a2)).bind fun r2 =>
 (some (r2, ((false, (false, (false, (false, (false, ()))))), ())))
 else
 bif a3 then
 ((F_916 a0 a1)).bind fun r3 =>
 (some (r3, ((false, (false, (false, (false, (false, ()))))), ())))
 else
 ((F_916 a0 a2)).bind fun r4 =>
 (some (r4, ((false, (false, (false, (false, (false, ()))))), ())))
 else
 bif a3 then
 ((F_916 a0 a1)).bind fun r5 =>
 (some (r5, ((false, (false, (false, (false, (false, ()))))), ())))
 else
 ((F_916 a0 a2)).bind fun r6 =>
 (some (r6, ((false, (false, (false, (false, (false, ()))))), ())))
noncomputable def G_946 : T fa_946 → TH ha_946 → Option (Int × (Bool × Bool × Bool × Bool × Bool × Unit) × Unit) := fun x y => F_946 x.1 x.2.1 x.2.2.1 x.2.2.2.1 x.2.2.2.2.1
noncomputable def c_946 : Orc := ent i_946 [] 0 (sp fa_946 ha_946 fr_946 hr_946 G_946 out_946)
theorem ok_946 : OrcOk PR c_946 := fnT okO_946 mixed p_946 (by kernel_rfl) (by kernel_rfl) (L := L_946) (kp := false) (by kernel_rfl) (inn := inn_946) (out := out_946) (fun _ _ => rfl) (loopsL (l := []) (by kernel_rfl) trivial) (fun x y => by kernel_rfl)
noncomputable def O_953 : Orc := (orm c_922 c_944)
theorem okO_953 : OrcOk PR O_953 := (orm_ok ok_922 ok_944)
abbrev fa_953 : Fm := (.pair (.agg (.pair .b (.pair (.i .i64) (.pair (.i .u64) (.pair .b .unit))))) .unit)
abbrev ha_953 : List BF := []
abbrev fr_953 : Fm := (.agg (.pair .b (.pair (.i .i64) (.pair (.i .u64) (.pair .b .unit)))))
abbrev hr_953 : List BF := []
noncomputable def L_953 : Lps := L0
def inn_953 : T fr_953 → TH hr_953 → Bool × Int × Int × Bool × Unit := (fun z w => z)
def out_953 : Bool × Int × Int × Bool × Unit → T fr_953 × TH hr_953 := fun r => (r, ())
noncomputable def F_953 (a0 : Bool × Int × Int × Bool × Unit) : Option (Bool × Int × Int × Bool × Unit) :=
 let x0 : Int := a0.2.2.1
 ((F_922 x0)).bind fun r1 =>
 let x2 : Int := (IntKind.wrap .i64 ((62:Int) - r1))
 ((F_944 x0 (IntKind.wrap .i64 ((0:Int) - x2)))).bind fun r3 =>
 (some (a0.1, ((IntKind.wrap .i64 (a0.2.1 - x2)), (r3.1, a0.2.2.2))))
noncomputable def G_953 : T fa_953 → TH ha_953 → Option (Bool × Int × Int × Bool × Unit) := fun x y => F_953 x.1
noncomputable def c_953 : Orc := ent i_953 [] 0 (sp fa_953 ha_953 fr_953 hr_953 G_953 out_953)
theorem ok_953 : OrcOk PR c_953 := fnT okO_953 mixed p_953 (by kernel_rfl) (by kernel_rfl) (L := L_953) (kp := false) (by kernel_rfl) (inn := inn_953) (out := out_953) (fun _ _ => rfl) (loopsL (l := []) (by kernel_rfl) trivial) (fun x y => by kernel_rfl)
noncomputable def O_947 : Orc := (orm c_953 c_944)
theorem okO_947 : OrcOk PR O_947 := (orm_ok ok_953 ok_944)
abbrev fa_947 : Fm := (.pair (.agg (.pair .b (.pair (.i .i64) (.pair (.i .u64) (.pair .b .unit))))) (.pair (.agg (.pair .b (.pair (.i .i64) (.pair (.i .u64) (.pair .b .unit))))) .unit))
abbrev ha_947 : List BF := []
abbrev fr_947 : Fm := (.agg (.pair .b (.pair (.i .i64) (.pair (.i .u64) (.pair .b .unit)))))
abbrev hr_947 : List BF := []
noncomputable def L_947 : Lps := L0
def inn_947 : T fr_947 → TH hr_947 → Bool × Int × Int × Bool × Unit := (fun z w => z)
def out_947 : Bool × Int × Int × Bool × Unit → T fr_947 × TH hr_947 := fun r => (r, ())
noncomputable def F_947 (a0 : Bool × Int × Int × Bool × Unit) (a1 : Bool × Int × Int × Bool × Unit) : Option (Bool × Int × Int × Bool × Unit) :=
 let x0 : Int := a0.2.2.1
 let x1 : Int := a1.2.2.1
 bif (x0 == (0:Int)) then
 (some a1)
 else
 bif (x1 == (0:Int)) then
 (some a0)
 else
 ((F_953 a0)).bind fun r2 =>
 let x3 : Int := r2.2.2.1
 ((F_953 a1)).bind fun r4 =>
 let x5 : Bool := (r4.1 == r2.1)
 let x6 : Int := r4.2.2.1
 let x7 : Bool := (r2.1 == r4.1)
 bif (decide (r2.2.1 < r4.2.1)) then
 ((F_944 x3 (IntKind.wrap .i64 (r4.2.1 - r2.2.1)))).bind fun r8 =>
 let x9 : Int := (IntKind.wrap .u64 (x6 - r8.1))
 bif x5 then
 (some (r4.1, (r4.2.1, ((IntKind.wrap .u64 (x6 + r8.1)), r8.2))))
 else
 bif r8.2.1 then
 (some (r4.1, (r4.2.1, ((IntKind.wrap .u64 (x9 - (1:Int))), r8.2))))
 else
 (some (r4.1, (r4.2.1, (x9, r8.2))))
 else
 bif (r2.2.1 == r4.2.1) then
 bif (decide (x3 < x6)) then
 ((F_944 x3 (IntKind.wrap .i64 (r4.2.1 - r2.2.1)))).bind fun r10 =>
 let x11 : Int := (IntKind.wrap .u64 (x6 - r10.1))
 bif x5 then
 (some (r4.1, (r4.2.1, ((IntKind.wrap .u64 (x6 + r10.1)), r10.2))))
 else
 bif r10.2.1 then
 (some (r4.1, (r4.2.1, ((IntKind.wrap .u64 (x11 - (1:Int))), r10.2))))
 else
 (some (r4.1, (r4.2.1, (x11, r10.2))))
 else
 ((F_944 x6 (IntKind.wrap .i64 (r2.2.1 - r4.2.1)))).bind fun r12 =>
 let x13 : Int := (IntKind.wrap .u64 (x3 - r12.1))
 bif x7 then
 (some (r2.1, (r2.2.1, ((IntKind.wrap .u64 (x3 + r12.1)), r12.2))))
 else
 bif r12.2.1 then
 (some (r2.1, (r2.2.1, ((IntKind.wrap .u64 (x13 - (1:Int))), r12.2))))
 else
 (some (r2.1, (r2.2.1, (x13, r12.2))))
 else
 ((F_944 x6 (IntKind.wrap .i64 (r2.2.1 - r4.2.1)))).bind fun r14 =>
 let x15 : Int := (IntKind.wrap .u64 (x3 - r14.1))
 bif x7 then
 (some (r2.1, (r2.2.1, ((IntKind.wrap .u64 (x3 + r14.1)), r14.2))))
 else
 bif r14.2.1 then
 (some (r2.1, (r2.2.1, ((IntKind.wrap .u64 (x15 - (1:Int))), r14.2))))
 else
 (some (r2.1, (r2.2.1, (x15, r14.2))))
noncomputable def G_947 : T fa_947 → TH ha_947 → Option (Bool × Int × Int × Bool × Unit) := fun x y => F_947 x.1 x.2.1
noncomputable def c_947 : Orc := ent i_947 [] 0 (sp fa_947 ha_947 fr_947 hr_947 G_947 out_947)
theorem ok_947 : OrcOk PR c_947 := fnT okO_947 mixed p_947 (by kernel_rfl) (by kernel_rfl) (L := L_947) (kp := false) (by kernel_rfl) (inn := inn_947) (out := out_947) (fun _ _ => rfl) (loopsL (l := []) (by kernel_rfl) trivial) (fun x y => by kernel_rfl)
noncomputable def O_948 : Orc := c_943
theorem okO_948 : OrcOk PR O_948 := ok_943
abbrev fa_948 : Fm := (.pair (.i .i64) (.pair (.i .i64) (.pair .b (.pair .b .unit))))
abbrev ha_948 : List BF := []
abbrev fr_948 : Fm := (.i .u32)
abbrev hr_948 : List BF := []
noncomputable def L_948 : Lps := L0
def inn_948 : T fr_948 → TH hr_948 → Int := (fun z w => z)
def out_948 : Int → T fr_948 × TH hr_948 := fun r => (r, ())
noncomputable def F_948 (a0 : Int) (a1 : Int) (a2 : Bool) (a3 : Bool) : Option (Int) :=
 bif (a2 == a3) then
 ((F_943 a0 a2)).bind fun r0 =>
 (some r0)
 else
 ((F_943 a0 (a1 == (3:Int)))).bind fun r1 =>
 (some r1)
noncomputable def G_948 : T fa_948 → TH ha_948 → Option (Int) := fun x y => F_948 x.1 x.2.1 x.2.2.1 x.2.2.2.1
noncomputable def c_948 : Orc := ent i_948 [] 0 (sp fa_948 ha_948 fr_948 hr_948 G_948 out_948)
theorem ok_948 : OrcOk PR c_948 := fnT okO_948 mixed p_948 (by kernel_rfl) (by kernel_rfl) (L := L_948) (kp := false) (by kernel_rfl) (inn := inn_948) (out := out_948) (fun _ _ => rfl) (loopsL (l := []) (by kernel_rfl) trivial) (fun x y => by kernel_rfl)
noncomputable def O_939 : Orc := (orm c_94b (orm c_941 (orm c_942 (orm c_910 (orm c_920 (orm c_946 (orm c_94c (orm c_935 (orm c_947 (orm c_948 c_945))))))))))
theorem okO_939 : OrcOk PR O_939 := (orm_ok ok_94b (orm_ok ok_941 (orm_ok ok_942 (orm_ok ok_910 (orm_ok ok_920 (orm_ok ok_946 (orm_ok ok_94c (orm_ok ok_935 (orm_ok ok_947 (orm_ok ok_948 ok_945))))))))))
abbrev fa_939 : Fm := (.pair (.i .i64) (.pair (.i .i64) (.pair (.i .u32) (.pair (.i .u32) (.pair (.i .u32) .unit)))))
abbrev ha_939 : List BF := []
abbrev fr_939 : Fm := (.tup (.pair (.i .u32) (.pair (.agg (.pair .b (.pair .b (.pair .b (.pair .b (.pair .b .unit)))))) .unit)))
abbrev hr_939 : List BF := []
noncomputable def L_939 : Lps := L0
def inn_939 : T fr_939 → TH hr_939 → Int × (Bool × Bool × Bool × Bool × Bool × Unit) × Unit := (fun z w => z)
def out_939 : Int × (Bool × Bool × Bool × Bool × Bool × Unit) × Unit → T fr_939 × TH hr_939 := fun r => (r, ())
noncomputable def F_939 (a0 : Int) (a1 : Int) (a2 : Int) (a3 : Int) (a4 : Int) : Option (Int × (Bool × Bool × Bool × Bool × Bool × Unit) × Unit) :=
 ((F_94b a0 a2 a3)).bind fun r0 =>
 ((F_941 a0 [a2, a3, a4])).bind fun r1 =>
 let x2 : Bool := r1.2.2.1
 let x3 : Bool := r1.2.1.1
 bif x2 then
 bif x3 then
 (some (r1.1, ((true, r1.2.1.2), ())))
 else
 (some (r1.1, ((r0, r1.2.1.2), ())))
 else
 bif r0 then
 ((F_942 a0)).bind fun r4 =>
 (some r4)
 else
 ((F_910 a0 a2)).bind fun r5 =>
 ((F_910 a0 a3)).bind fun r6 =>
 let x7 : Bool := (!(r5 == r6))
 ((F_920 a0 a2)).bind fun r8 =>
 bif r8 then
 ((F_920 a0 a4)).bind fun r9 =>
 ((F_910 a0 a4)).bind fun r10 =>
 ((F_946 a0 x7 r10 true r9)).bind fun r11 =>
 (some r11)
 else
 ((F_920 a0 a3)).bind fun r12 =>
 ((F_920 a0 a4)).bind fun r13 =>
 bif r12 then
 ((F_910 a0 a4)).bind fun r14 =>
 ((F_946 a0 x7 r14 r12 r13)).bind fun r15 =>
 (some r15)
 else
 bif r13 then
 ((F_910 a0 a4)).bind fun r16 =>
 ((F_946 a0 x7 r16 r12 r13)).bind fun r17 =>
 (some r17)
 else
 ((F_94c a0 a2 a3)).bind fun r18 =>
 ((F_935 a0 a4)).bind fun r19 =>
 ((F_947 r18 r19)).bind fun r20 =>
 let x21 : Int := r20.2.2.1
 let x22 : Bool := r20.2.2.2.1
 bif (x21 == (0:Int)) then
 bif (!x22) then
 ((F_948 a0 a1 x7 r19.1)).bind fun r23 =>
 (some (r23, ((false, (false, (false, (false, (false, ()))))), ())))
 else
 ((F_945 a0 a1 r20.1 r20.2.1 x21 x22)).bind fun r24 =>
 (some r24)
 else
 ((F_945 a0 a1 r20.1 r20.2.1 x21 x22)).bind fun r25 =>
 (some r25)
noncomputable def G_939 : T fa_939 → TH ha_939 → Option (Int × (Bool × Bool × Bool × Bool × Bool × Unit) × Unit) := fun x y => F_939 x.1 x.2.1 x.2.2.1 x.2.2.2.1 x.2.2.2.2.1
noncomputable def c_939 : Orc := ent i_939 [] 0 (sp fa_939 ha_939 fr_939 hr_939 G_939 out_939)
theorem ok_939 : OrcOk PR c_939 := fnT okO_939 mixed p_939 (by kernel_rfl) (by kernel_rfl) (L := L_939) (kp := false) (by kernel_rfl) (inn := inn_939) (out := out_939) (fun _ _ => rfl) (loopsL (l := []) (by kernel_rfl) trivial) (fun x y => by kernel_rfl)
noncomputable def O_91a : Orc := c_939
theorem okO_91a : OrcOk PR O_91a := ok_939
abbrev fa_91a : Fm := (.pair (.i .u32) (.pair (.i .u32) (.pair (.i .u32) .unit)))
abbrev ha_91a : List BF := []
abbrev fr_91a : Fm := (.i .u32)
abbrev hr_91a : List BF := []
noncomputable def L_91a : Lps := L0
def inn_91a : T fr_91a → TH hr_91a → Int := (fun z w => z)
def out_91a : Int → T fr_91a × TH hr_91a := fun r => (r, ())
noncomputable def F_91a (a0 : Int) (a1 : Int) (a2 : Int) : Option (Int) :=
 ((F_939 (2:Int) (0:Int) a0 a1 a2)).bind fun r0 =>
 (some r0.1)
noncomputable def G_91a : T fa_91a → TH ha_91a → Option (Int) := fun x y => F_91a x.1 x.2.1 x.2.2.1
noncomputable def c_91a : Orc := ent i_91a [] 0 (sp fa_91a ha_91a fr_91a hr_91a G_91a out_91a)
theorem ok_91a : OrcOk PR c_91a := fnT okO_91a mixed p_91a (by kernel_rfl) (by kernel_rfl) (L := L_91a) (kp := false) (by kernel_rfl) (inn := inn_91a) (out := out_91a) (fun _ _ => rfl) (loopsL (l := []) (by kernel_rfl) trivial) (fun x y => by kernel_rfl)
noncomputable def O_931 : Orc := (orm c_941 (orm c_920 (orm c_910 (orm c_946 (orm c_935 (orm c_947 (orm c_948 c_945)))))))
theorem okO_931 : OrcOk PR O_931 := (orm_ok ok_941 (orm_ok ok_920 (orm_ok ok_910 (orm_ok ok_946 (orm_ok ok_935 (orm_ok ok_947 (orm_ok ok_948 ok_945)))))))
abbrev fa_931 : Fm := (.pair (.i .i64) (.pair (.i .i64) (.pair (.i .u32) (.pair (.i .u32) .unit))))
abbrev ha_931 : List BF := []
abbrev fr_931 : Fm := (.tup (.pair (.i .u32) (.pair (.agg (.pair .b (.pair .b (.pair .b (.pair .b (.pair .b .unit)))))) .unit)))
abbrev hr_931 : List BF := []
noncomputable def L_931 : Lps := L0
def inn_931 : T fr_931 → TH hr_931 → Int × (Bool × Bool × Bool × Bool × Bool × Unit) × Unit := (fun z w => z)
def out_931 : Int × (Bool × Bool × Bool × Bool × Bool × Unit) × Unit → T fr_931 × TH hr_931 := fun r => (r, ())
noncomputable def F_931 (a0 : Int) (a1 : Int) (a2 : Int) (a3 : Int) : Option (Int × (Bool × Bool × Bool × Bool × Bool × Unit) × Unit) :=
 ((F_941 a0 [a2, a3])).bind fun r0 =>
 let x1 : Bool := r0.2.2.1
 bif x1 then
 (some (r0.1, (r0.2.1, ())))
 else
 ((F_920 a0 a2)).bind fun r2 =>
 ((F_920 a0 a3)).bind fun r3 =>
 bif r2 then
 ((F_910 a0 a2)).bind fun r4 =>
 ((F_910 a0 a3)).bind fun r5 =>
 ((F_946 a0 r4 r5 r2 r3)).bind fun r6 =>
 (some r6)
 else
 bif r3 then
 ((F_910 a0 a2)).bind fun r7 =>
 ((F_910 a0 a3)).bind fun r8 =>
 ((F_946 a0 r7 r8 r2 r3)).bind fun r9 =>
 (some r9)
 else
 ((F_935 a0 a2)).bind fun r10 =>
 ((F_935 a0 a3)).bind fun r11 =>
 ((F_947 r10 r11)).bind fun r12 =>
 let x13 : Int := r12.2.2.1
 let x14 : Bool := r12.2.2.2.1
 bif (x13 == (0:Int)) then
 bif (!x14) then
 ((F_948 a0 a1 r10.1 r11.1)).bind fun r15 =>
 (some (r15, ((false, (false, (false, (false, (false, ()))))), ())))
 else
 ((F_945 a0 a1 r12.1 r12.2.1 x13 x14)).bind fun r16 =>
 (some r16)
 else
 ((F_945 a0 a1 r12.1 r12.2.1 x13 x14)).bind fun r17 =>
 (some r17)
noncomputable def G_931 : T fa_931 → TH ha_931 → Option (Int × (Bool × Bool × Bool × Bool × Bool × Unit) × Unit) := fun x y => F_931 x.1 x.2.1 x.2.2.1 x.2.2.2.1
noncomputable def c_931 : Orc := ent i_931 [] 0 (sp fa_931 ha_931 fr_931 hr_931 G_931 out_931)
theorem ok_931 : OrcOk PR c_931 := fnT okO_931 mixed p_931 (by kernel_rfl) (by kernel_rfl) (L := L_931) (kp := false) (by kernel_rfl) (inn := inn_931) (out := out_931) (fun _ _ => rfl) (loopsL (l := []) (by kernel_rfl) trivial) (fun x y => by kernel_rfl)
noncomputable def O_92f : Orc := (orm c_941 (orm c_92d c_931))
theorem okO_92f : OrcOk PR O_92f := (orm_ok ok_941 (orm_ok ok_92d ok_931))
abbrev fa_92f : Fm := (.pair (.i .i64) (.pair (.i .i64) (.pair (.i .u32) (.pair (.i .u32) .unit))))
abbrev ha_92f : List BF := []
abbrev fr_92f : Fm := (.tup (.pair (.i .u32) (.pair (.agg (.pair .b (.pair .b (.pair .b (.pair .b (.pair .b .unit)))))) .unit)))
abbrev hr_92f : List BF := []
noncomputable def L_92f : Lps := L0
def inn_92f : T fr_92f → TH hr_92f → Int × (Bool × Bool × Bool × Bool × Bool × Unit) × Unit := (fun z w => z)
def out_92f : Int × (Bool × Bool × Bool × Bool × Bool × Unit) × Unit → T fr_92f × TH hr_92f := fun r => (r, ())
noncomputable def F_92f (a0 : Int) (a1 : Int) (a2 : Int) (a3 : Int) : Option (Int × (Bool × Bool × Bool × Bool × Bool × Unit) × Unit) :=
 ((F_941 a0 [a2, a3])).bind fun r0 =>
 let x1 : Bool := r0.2.2.1
 bif x1 then
 (some (r0.1, (r0.2.1, ())))
 else
 ((F_92d a0 a3)).bind fun r2 =>
 ((F_931 a0 a1 a2 r2)).bind fun r3 =>
 (some r3)
noncomputable def G_92f : T fa_92f → TH ha_92f → Option (Int × (Bool × Bool × Bool × Bool × Bool × Unit) × Unit) := fun x y => F_92f x.1 x.2.1 x.2.2.1 x.2.2.2.1
noncomputable def c_92f : Orc := ent i_92f [] 0 (sp fa_92f ha_92f fr_92f hr_92f G_92f out_92f)
theorem ok_92f : OrcOk PR c_92f := fnT okO_92f mixed p_92f (by kernel_rfl) (by kernel_rfl) (L := L_92f) (kp := false) (by kernel_rfl) (inn := inn_92f) (out := out_92f) (fun _ _ => rfl) (loopsL (l := []) (by kernel_rfl) trivial) (fun x y => by kernel_rfl)
noncomputable def O_915 : Orc := c_931
theorem okO_915 : OrcOk PR O_915 := ok_931
abbrev fa_915 : Fm := (.pair (.i .u32) (.pair (.i .u32) .unit))
abbrev ha_915 : List BF := []
abbrev fr_915 : Fm := (.i .u32)
abbrev hr_915 : List BF := []
noncomputable def L_915 : Lps := L0
def inn_915 : T fr_915 → TH hr_915 → Int := (fun z w => z)
def out_915 : Int → T fr_915 × TH hr_915 := fun r => (r, ())
noncomputable def F_915 (a0 : Int) (a1 : Int) : Option (Int) :=
 ((F_931 (2:Int) (0:Int) a0 a1)).bind fun r0 =>
 (some r0.1)
noncomputable def G_915 : T fa_915 → TH ha_915 → Option (Int) := fun x y => F_915 x.1 x.2.1
noncomputable def c_915 : Orc := ent i_915 [] 0 (sp fa_915 ha_915 fr_915 hr_915 G_915 out_915)
theorem ok_915 : OrcOk PR c_915 := fnT okO_915 mixed p_915 (by kernel_rfl) (by kernel_rfl) (L := L_915) (kp := false) (by kernel_rfl) (inn := inn_915) (out := out_915) (fun _ _ => rfl) (loopsL (l := []) (by kernel_rfl) trivial) (fun x y => by kernel_rfl)
noncomputable def O_913 : Orc := c_92f
theorem okO_913 : OrcOk PR O_913 := ok_92f
abbrev fa_913 : Fm := (.pair (.i .u32) (.pair (.i .u32) .unit))
abbrev ha_913 : List BF := []
abbrev fr_913 : Fm := (.i .u32)
abbrev hr_913 : List BF := []
noncomputable def L_913 : Lps := L0
def inn_913 : T fr_913 → TH hr_913 → Int := (fun z w => z)
def out_913 : Int → T fr_913 × TH hr_913 := fun r => (r, ())
noncomputable def F_913 (a0 : Int) (a1 : Int) : Option (Int) :=
 ((F_92f (2:Int) (0:Int) a0 a1)).bind fun r0 =>
 (some r0.1)
noncomputable def G_913 : T fa_913 → TH ha_913 → Option (Int) := fun x y => F_913 x.1 x.2.1
noncomputable def c_913 : Orc := ent i_913 [] 0 (sp fa_913 ha_913 fr_913 hr_913 G_913 out_913)
theorem ok_913 : OrcOk PR c_913 := fnT okO_913 mixed p_913 (by kernel_rfl) (by kernel_rfl) (L := L_913) (kp := false) (by kernel_rfl) (inn := inn_913) (out := out_913) (fun _ _ => rfl) (loopsL (l := []) (by kernel_rfl) trivial) (fun x y => by kernel_rfl)
noncomputable def O_936 : Orc := (orm c_922 (orm c_949 c_94a))
theorem okO_936 : OrcOk PR O_936 := (orm_ok ok_922 (orm_ok ok_949 ok_94a))
abbrev fa_936 : Fm := (.pair (.agg (.pair .b (.pair (.i .i64) (.pair (.i .u64) (.pair .b .unit))))) (.pair (.i .i64) .unit))
abbrev ha_936 : List BF := []
abbrev fr_936 : Fm := (.tup (.pair (.i .u64) (.pair .b .unit)))
abbrev hr_936 : List BF := []
noncomputable def L_936 : Lps := L0
def inn_936 : T fr_936 → TH hr_936 → Int × Bool × Unit := (fun z w => z)
def out_936 : Int × Bool × Unit → T fr_936 × TH hr_936 := fun r => (r, ())
noncomputable def F_936 (a0 : Bool × Int × Int × Bool × Unit) (a1 : Int) : Option (Int × Bool × Unit) :=
 let x0 : Int := a0.2.2.1
 ((F_922 x0)).bind fun r1 =>
 bif (decide ((IntKind.wrap .i64 (a0.2.1 + r1)) > (40:Int))) then
 (some ((1099511627776:Int), (false, ())))
 else
 ((F_949 x0 (IntKind.wrap .i64 ((0:Int) - a0.2.1)) false)).bind fun r2 =>
 ((F_94a a1 a0.1 r2.1 r2.2.1)).bind fun r3 =>
 (some ((bif r3 then (IntKind.wrap .u64 (r2.1 + (1:Int))) else r2.1), ((r2.2.1 != (0:Int)), ())))
noncomputable def G_936 : T fa_936 → TH ha_936 → Option (Int × Bool × Unit) := fun x y => F_936 x.1 x.2.1
noncomputable def c_936 : Orc := ent i_936 [] 0 (sp fa_936 ha_936 fr_936 hr_936 G_936 out_936)
theorem ok_936 : OrcOk PR c_936 := fnT okO_936 mixed p_936 (by kernel_rfl) (by kernel_rfl) (L := L_936) (kp := false) (by kernel_rfl) (inn := inn_936) (out := out_936) (fun _ _ => rfl) (loopsL (l := []) (by kernel_rfl) trivial) (fun x y => by kernel_rfl)
noncomputable def O_917 : Orc := (orm c_934 (orm c_935 c_936))
theorem okO_917 : OrcOk PR O_917 := (orm_ok ok_934 (orm_ok ok_935 ok_936))
abbrev fa_917 : Fm := (.pair (.i .i64) (.pair (.i .i64) (.pair (.i .u32) .unit)))
abbrev ha_917 : List BF := []
abbrev fr_917 : Fm := (.tup (.pair (.i .i32) (.pair (.agg (.pair .b (.pair .b (.pair .b (.pair .b (.pair .b .unit)))))) .unit)))
abbrev hr_917 : List BF := []
noncomputable def L_917 : Lps := L0
def inn_917 : T fr_917 → TH hr_917 → Int × (Bool × Bool × Bool × Bool × Bool × Unit) × Unit := (fun z w => z)
def out_917 : Int × (Bool × Bool × Bool × Bool × Bool × Unit) × Unit → T fr_917 × TH hr_917 := fun r => (r, ())
noncomputable def F_917 (a0 : Int) (a1 : Int) (a2 : Int) : Option (Int × (Bool × Bool × Bool × Bool × Bool × Unit) × Unit) :=
 ((F_934 a0 a2)).bind fun r0 =>
 bif r0 then
 ((F_935 a0 a2)).bind fun r1 =>
 ((F_936 r1 a1)).bind fun r2 =>
 let x3 : Int := (IntKind.wrap .i64 r2.1)
 let x4 : Int := (bif r1.1 then (IntKind.wrap .i64 ((0:Int) - x3)) else x3)
 let x5 : Int := (IntKind.wrap .i32 x4)
 bif (x4 == (IntKind.wrap .i64 x5)) then
 (some (x5, ((false, (false, (false, (false, r2.2)))), ())))
 else
 (some ((-(2147483648:Int)), ((true, (false, (false, (false, (false, ()))))), ())))
 else
 (some ((-(2147483648:Int)), ((true, (false, (false, (false, (false, ()))))), ())))
noncomputable def G_917 : T fa_917 → TH ha_917 → Option (Int × (Bool × Bool × Bool × Bool × Bool × Unit) × Unit) := fun x y => F_917 x.1 x.2.1 x.2.2.1
noncomputable def c_917 : Orc := ent i_917 [] 0 (sp fa_917 ha_917 fr_917 hr_917 G_917 out_917)
theorem ok_917 : OrcOk PR c_917 := fnT okO_917 mixed p_917 (by kernel_rfl) (by kernel_rfl) (L := L_917) (kp := false) (by kernel_rfl) (inn := inn_917) (out := out_917) (fun _ _ => rfl) (loopsL (l := []) (by kernel_rfl) trivial) (fun x y => by kernel_rfl)
noncomputable def O_94d : Orc := orn
theorem okO_94d : OrcOk PR O_94d := (orn_ok _)
abbrev fa_94d : Fm := (.pair (.i .i64) .unit)
abbrev ha_94d : List BF := []
abbrev fr_94d : Fm := (.i .u64)
abbrev hr_94d : List BF := []
noncomputable def L_94d : Lps := L0
def inn_94d : T fr_94d → TH hr_94d → Int := (fun z w => z)
def out_94d : Int → T fr_94d × TH hr_94d := fun r => (r, ())
noncomputable def F_94d (a0 : Int) : Option (Int) :=
 bif (decide (a0 < (0:Int))) then
 (some (IntKind.wrap .u64 ((0:Int) - (IntKind.wrap .u64 a0))))
 else
 (some (IntKind.wrap .u64 a0))
noncomputable def G_94d : T fa_94d → TH ha_94d → Option (Int) := fun x y => F_94d x.1
noncomputable def c_94d : Orc := ent i_94d [] 0 (sp fa_94d ha_94d fr_94d hr_94d G_94d out_94d)
theorem ok_94d : OrcOk PR c_94d := fnT okO_94d mixed p_94d (by kernel_rfl) (by kernel_rfl) (L := L_94d) (kp := false) (by kernel_rfl) (inn := inn_94d) (out := out_94d) (fun _ _ => rfl) (loopsL (l := []) (by kernel_rfl) trivial) (fun x y => by kernel_rfl)
noncomputable def O_938 : Orc := (orm c_94d c_945)
theorem okO_938 : OrcOk PR O_938 := (orm_ok ok_94d ok_945)
abbrev fa_938 : Fm := (.pair (.i .i64) (.pair (.i .i64) (.pair (.i .i64) .unit)))
abbrev ha_938 : List BF := []
abbrev fr_938 : Fm := (.tup (.pair (.i .u32) (.pair (.agg (.pair .b (.pair .b (.pair .b (.pair .b (.pair .b .unit)))))) .unit)))
abbrev hr_938 : List BF := []
noncomputable def L_938 : Lps := L0
def inn_938 : T fr_938 → TH hr_938 → Int × (Bool × Bool × Bool × Bool × Bool × Unit) × Unit := (fun z w => z)
def out_938 : Int × (Bool × Bool × Bool × Bool × Bool × Unit) × Unit → T fr_938 × TH hr_938 := fun r => (r, ())
noncomputable def F_938 (a0 : Int) (a1 : Int) (a2 : Int) : Option (Int × (Bool × Bool × Bool × Bool × Bool × Unit) × Unit) :=
 ((F_94d a2)).bind fun r0 =>
 ((F_945 a0 a1 (decide (a2 < (0:Int))) (0:Int) r0 false)).bind fun r1 =>
 (some r1)
noncomputable def G_938 : T fa_938 → TH ha_938 → Option (Int × (Bool × Bool × Bool × Bool × Bool × Unit) × Unit) := fun x y => F_938 x.1 x.2.1 x.2.2.1
noncomputable def c_938 : Orc := ent i_938 [] 0 (sp fa_938 ha_938 fr_938 hr_938 G_938 out_938)
theorem ok_938 : OrcOk PR c_938 := fnT okO_938 mixed p_938 (by kernel_rfl) (by kernel_rfl) (L := L_938) (kp := false) (by kernel_rfl) (inn := inn_938) (out := out_938) (fun _ _ => rfl) (loopsL (l := []) (by kernel_rfl) trivial) (fun x y => by kernel_rfl)
noncomputable def O_919 : Orc := c_938
theorem okO_919 : OrcOk PR O_919 := ok_938
abbrev fa_919 : Fm := (.pair (.i .i64) .unit)
abbrev ha_919 : List BF := []
abbrev fr_919 : Fm := (.i .u32)
abbrev hr_919 : List BF := []
noncomputable def L_919 : Lps := L0
def inn_919 : T fr_919 → TH hr_919 → Int := (fun z w => z)
def out_919 : Int → T fr_919 × TH hr_919 := fun r => (r, ())
noncomputable def F_919 (a0 : Int) : Option (Int) :=
 ((F_938 (2:Int) (0:Int) a0)).bind fun r0 =>
 (some r0.1)
noncomputable def G_919 : T fa_919 → TH ha_919 → Option (Int) := fun x y => F_919 x.1
noncomputable def c_919 : Orc := ent i_919 [] 0 (sp fa_919 ha_919 fr_919 hr_919 G_919 out_919)
theorem ok_919 : OrcOk PR c_919 := fnT okO_919 mixed p_919 (by kernel_rfl) (by kernel_rfl) (L := L_919) (kp := false) (by kernel_rfl) (inn := inn_919) (out := out_919) (fun _ _ => rfl) (loopsL (l := []) (by kernel_rfl) trivial) (fun x y => by kernel_rfl)
noncomputable def O_94e : Orc := (orm c_941 (orm c_93f (orm c_920 c_9f)))
theorem okO_94e : OrcOk PR O_94e := (orm_ok ok_941 (orm_ok ok_93f (orm_ok ok_920 ok_9f)))
abbrev fa_94e : Fm := (.pair (.i .i64) (.pair (.i .u32) .unit))
abbrev ha_94e : List BF := []
abbrev fr_94e : Fm := (.tup (.pair (.i .u32) (.pair (.agg (.pair .b (.pair .b (.pair .b (.pair .b (.pair .b .unit)))))) (.pair .b .unit))))
abbrev hr_94e : List BF := []
noncomputable def L_94e : Lps := L0
def inn_94e : T fr_94e → TH hr_94e → Int × (Bool × Bool × Bool × Bool × Bool × Unit) × Bool × Unit := (fun z w => z)
def out_94e : Int × (Bool × Bool × Bool × Bool × Bool × Unit) × Bool × Unit → T fr_94e × TH hr_94e := fun r => (r, ())
noncomputable def F_94e (a0 : Int) (a1 : Int) : Option (Int × (Bool × Bool × Bool × Bool × Bool × Unit) × Bool × Unit) :=
 ((F_941 a0 [a1])).bind fun r0 =>
 let x1 : Bool := r0.2.2.1
 bif x1 then
 (some (r0.1, (r0.2.1, (true, ()))))
 else
 ((F_93f a0)).bind fun r2 =>
 let x3 : Int := (bits .and .u32 a1 r2)
 ((F_920 a0 a1)).bind fun r4 =>
 bif r4 then
 (some (x3, ((false, (false, (false, (false, (false, ()))))), (true, ()))))
 else
 ((F_9f a0 a1)).bind fun r5 =>
 (some (x3, ((false, (false, (false, (false, (false, ()))))), (r5, ()))))
noncomputable def G_94e : T fa_94e → TH ha_94e → Option (Int × (Bool × Bool × Bool × Bool × Bool × Unit) × Bool × Unit) := fun x y => F_94e x.1 x.2.1
noncomputable def c_94e : Orc := ent i_94e [] 0 (sp fa_94e ha_94e fr_94e hr_94e G_94e out_94e)
theorem ok_94e : OrcOk PR c_94e := fnT okO_94e mixed p_94e (by kernel_rfl) (by kernel_rfl) (L := L_94e) (kp := false) (by kernel_rfl) (inn := inn_94e) (out := out_94e) (fun _ _ => rfl) (loopsL (l := []) (by kernel_rfl) trivial) (fun x y => by kernel_rfl)
noncomputable def O_93a : Orc := (orm c_94e (orm c_935 c_945))
theorem okO_93a : OrcOk PR O_93a := (orm_ok ok_94e (orm_ok ok_935 ok_945))
abbrev fa_93a : Fm := (.pair (.i .i64) (.pair (.i .i64) (.pair (.i .u32) (.pair (.i .i64) .unit))))
abbrev ha_93a : List BF := []
abbrev fr_93a : Fm := (.tup (.pair (.i .u32) (.pair (.agg (.pair .b (.pair .b (.pair .b (.pair .b (.pair .b .unit)))))) .unit)))
abbrev hr_93a : List BF := []
noncomputable def L_93a : Lps := L0
def inn_93a : T fr_93a → TH hr_93a → Int × (Bool × Bool × Bool × Bool × Bool × Unit) × Unit := (fun z w => z)
def out_93a : Int × (Bool × Bool × Bool × Bool × Bool × Unit) × Unit → T fr_93a × TH hr_93a := fun r => (r, ())
noncomputable def F_93a (a0 : Int) (a1 : Int) (a2 : Int) (a3 : Int) : Option (Int × (Bool × Bool × Bool × Bool × Bool × Unit) × Unit) :=
 ((F_94e a0 a2)).bind fun r0 =>
 let x1 : Bool := r0.2.2.1
 bif x1 then
 (some (r0.1, (r0.2.1, ())))
 else
 ((F_935 a0 a2)).bind fun r2 =>
 let x3 : Int := r2.2.2.1
 ((F_945 a0 a1 r2.1 (IntKind.wrap .i64 (r2.2.1 + (mn (mx a3 (-(5000:Int))) (5000:Int)))) x3 false)).bind fun r4 =>
 (some r4)
noncomputable def G_93a : T fa_93a → TH ha_93a → Option (Int × (Bool × Bool × Bool × Bool × Bool × Unit) × Unit) := fun x y => F_93a x.1 x.2.1 x.2.2.1 x.2.2.2.1
noncomputable def c_93a : Orc := ent i_93a [] 0 (sp fa_93a ha_93a fr_93a hr_93a G_93a out_93a)
theorem ok_93a : OrcOk PR c_93a := fnT okO_93a mixed p_93a (by kernel_rfl) (by kernel_rfl) (L := L_93a) (kp := false) (by kernel_rfl) (inn := inn_93a) (out := out_93a) (fun _ _ => rfl) (loopsL (l := []) (by kernel_rfl) trivial) (fun x y => by kernel_rfl)
noncomputable def O_91c : Orc := c_93a
theorem okO_91c : OrcOk PR O_91c := ok_93a
abbrev fa_91c : Fm := (.pair (.i .u32) (.pair (.i .i64) .unit))
abbrev ha_91c : List BF := []
abbrev fr_91c : Fm := (.i .u32)
abbrev hr_91c : List BF := []
noncomputable def L_91c : Lps := L0
def inn_91c : T fr_91c → TH hr_91c → Int := (fun z w => z)
def out_91c : Int → T fr_91c × TH hr_91c := fun r => (r, ())
noncomputable def F_91c (a0 : Int) (a1 : Int) : Option (Int) :=
 ((F_93a (2:Int) (0:Int) a0 a1)).bind fun r0 =>
 (some r0.1)
noncomputable def G_91c : T fa_91c → TH ha_91c → Option (Int) := fun x y => F_91c x.1 x.2.1
noncomputable def c_91c : Orc := ent i_91c [] 0 (sp fa_91c ha_91c fr_91c hr_91c G_91c out_91c)
theorem ok_91c : OrcOk PR c_91c := fnT okO_91c mixed p_91c (by kernel_rfl) (by kernel_rfl) (L := L_91c) (kp := false) (by kernel_rfl) (inn := inn_91c) (out := out_91c) (fun _ _ => rfl) (loopsL (l := []) (by kernel_rfl) trivial) (fun x y => by kernel_rfl)
noncomputable def O_930 : Orc := (orm c_941 (orm c_910 (orm c_92b (orm c_942 (orm c_916 (orm c_943 (orm c_935 (orm c_922 (orm c_944 c_945)))))))))
theorem okO_930 : OrcOk PR O_930 := (orm_ok ok_941 (orm_ok ok_910 (orm_ok ok_92b (orm_ok ok_942 (orm_ok ok_916 (orm_ok ok_943 (orm_ok ok_935 (orm_ok ok_922 (orm_ok ok_944 ok_945)))))))))
abbrev fa_930 : Fm := (.pair (.i .i64) (.pair (.i .i64) (.pair (.i .u32) (.pair (.i .u32) .unit))))
abbrev ha_930 : List BF := []
abbrev fr_930 : Fm := (.tup (.pair (.i .u32) (.pair (.agg (.pair .b (.pair .b (.pair .b (.pair .b (.pair .b .unit)))))) .unit)))
abbrev hr_930 : List BF := []
noncomputable def L_930 : Lps := L0
def inn_930 : T fr_930 → TH hr_930 → Int × (Bool × Bool × Bool × Bool × Bool × Unit) × Unit := (fun z w => z)
def out_930 : Int × (Bool × Bool × Bool × Bool × Bool × Unit) × Unit → T fr_930 × TH hr_930 := fun r => (r, ())
noncomputable def F_930 (a0 : Int) (a1 : Int) (a2 : Int) (a3 : Int) : Option (Int × (Bool × Bool × Bool × Bool × Bool × Unit) × Unit) :=
 ((F_941 a0 [a2, a3])).bind fun r0 =>
 let x1 : Bool := r0.2.2.1
 bif x1 then
 (some (r0.1, (r0.2.1, ())))
 else
 ((F_910 a0 a2)).bind fun r2 =>
 ((F_910 a0 a3)).bind fun r3 =>
 let x4 : Bool := (!(r2 == r3))
 ((F_92b a0 a2)).bind fun r5 =>
 ((F_92b a0 a3)).bind fun r6 =>
 bif (r5 == r6) then
 bif (r5 == (0:Int)) then
 ((F_942 a0)).bind fun r7 =>
 (some r7)
 else
 bif (r5 == (3:Int)) then
 ((F_942 a0)).bind fun r8 =>
 (some r8)
 else
 bif (r5 == (3:Int)) then
 ((F_916 a0 x4)).bind fun r9 =>
 (some (r9, ((false, (false, (false, (false, (false, ()))))), ())))
 else
 bif (r6 == (3:Int)) then
 ((F_943 a0 x4)).bind fun r10 =>
 (some (r10, ((false, (false, (false, (false, (false, ()))))), ())))
 else
 bif (r5 == (0:Int)) then
 ((F_943 a0 x4)).bind fun r11 =>
 (some (r11, ((false, (false, (false, (false, (false, ()))))), ())))
 else
 bif (r6 == (0:Int)) then
 ((F_916 a0 x4)).bind fun r12 =>
 (some (r12, ((false, (true, (false, (false, (false, ()))))), ())))
 else
 ((F_935 a0 a2)).bind fun r13 =>
 let x14 : Int := r13.2.2.1
 ((F_935 a0 a3)).bind fun r15 =>
 let x16 : Int := r15.2.2.1
 let x17 : Bool := (x16 == (0:Int))
 ((F_922 x14)).bind fun r18 =>
 let x19 : Int := (IntKind.wrap .i64 ((62:Int) - r18))
 ((F_944 x14 (IntKind.wrap .i64 ((0:Int) - x19)))).bind fun r20 =>
 bif x17 then
 none
 else
 bif x17 then
 none
 else
 ((F_945 a0 a1 x4 (IntKind.wrap .i64 ((IntKind.wrap .i64 (r13.2.1 - x19)) - r15.2.1)) (IntKind.wrap .u64 (Int.tdiv r20.1 x16)) ((Int.tmod r20.1 x16) != (0:Int)))).bind fun r21 =>
 (some r21)
 else
 bif (r5 == (3:Int)) then
 ((F_916 a0 x4)).bind fun r22 =>
 (some (r22, ((false, (false, (false, (false, (false, ()))))), ())))
 else
 bif (r6 == (3:Int)) then
 ((F_943 a0 x4)).bind fun r23 =>
 (some (r23, ((false, (false, (false, (false, (false, ()))))), ())))
 else
 bif (r5 == (0:Int)) then
 ((F_943 a0 x4)).bind fun r24 =>
 (some (r24, ((false, (false, (false, (false, (false, ()))))), ())))
 else
 bif (r6 == (0:Int)) then
 ((F_916 a0 x4)).bind fun r25 =>
 (some (r25, ((false, (true, (false, (false, (false, ()))))), ())))
 else
 ((F_935 a0 a2)).bind fun r26 =>
 let x27 : Int := r26.2.2.1
 ((F_935 a0 a3)).bind fun r28 =>
 let x29 : Int := r28.2.2.1
 let x30 : Bool := (x29 == (0:Int))
 ((F_922 x27)).bind fun r31 =>
 let x32 : Int := (IntKind.wrap .i64 ((62:Int) - r31))
 ((F_944 x27 (IntKind.wrap .i64 ((0:Int) - x32)))).bind fun r33 =>
 bif x30 then
 none
 else
 bif x30 then
 none
 else
 ((F_945 a0 a1 x4 (IntKind.wrap .i64 ((IntKind.wrap .i64 (r26.2.1 - x32)) - r28.2.1)) (IntKind.wrap .u64 (Int.tdiv r33.1 x29)) ((Int.tmod r33.1 x29) != (0:Int)))).bind fun r34 =>
 (some r34)
noncomputable def G_930 : T fa_930 → TH ha_930 → Option (Int × (Bool × Bool × Bool × Bool × Bool × Unit) × Unit) := fun x y => F_930 x.1 x.2.1 x.2.2.1 x.2.2.2.1
noncomputable def c_930 : Orc := ent i_930 [] 0 (sp fa_930 ha_930 fr_930 hr_930 G_930 out_930)
theorem ok_930 : OrcOk PR c_930 := fnT okO_930 mixed p_930 (by kernel_rfl) (by kernel_rfl) (L := L_930) (kp := false) (by kernel_rfl) (inn := inn_930) (out := out_930) (fun _ _ => rfl) (loopsL (l := []) (by kernel_rfl) trivial) (fun x y => by kernel_rfl)
noncomputable def O_914 : Orc := c_930
theorem okO_914 : OrcOk PR O_914 := ok_930
abbrev fa_914 : Fm := (.pair (.i .u32) (.pair (.i .u32) .unit))
abbrev ha_914 : List BF := []
abbrev fr_914 : Fm := (.i .u32)
abbrev hr_914 : List BF := []
noncomputable def L_914 : Lps := L0
def inn_914 : T fr_914 → TH hr_914 → Int := (fun z w => z)
def out_914 : Int → T fr_914 × TH hr_914 := fun r => (r, ())
noncomputable def F_914 (a0 : Int) (a1 : Int) : Option (Int) :=
 ((F_930 (2:Int) (0:Int) a0 a1)).bind fun r0 =>
 (some r0.1)
noncomputable def G_914 : T fa_914 → TH ha_914 → Option (Int) := fun x y => F_914 x.1 x.2.1
noncomputable def c_914 : Orc := ent i_914 [] 0 (sp fa_914 ha_914 fr_914 hr_914 G_914 out_914)
theorem ok_914 : OrcOk PR c_914 := fnT okO_914 mixed p_914 (by kernel_rfl) (by kernel_rfl) (L := L_914) (kp := false) (by kernel_rfl) (inn := inn_914) (out := out_914) (fun _ _ => rfl) (loopsL (l := []) (by kernel_rfl) trivial) (fun x y => by kernel_rfl)
noncomputable def O_9d : Orc := c_929
theorem okO_9d : OrcOk PR O_9d := ok_929
abbrev fa_9d : Fm := (.pair (.i .u32) .unit)
abbrev ha_9d : List BF := []
abbrev fr_9d : Fm := .b
abbrev hr_9d : List BF := []
noncomputable def L_9d : Lps := L0
def inn_9d : T fr_9d → TH hr_9d → Bool := (fun z w => z)
def out_9d : Bool → T fr_9d × TH hr_9d := fun r => (r, ())
noncomputable def F_9d (a0 : Int) : Option (Bool) :=
 ((F_929 (2:Int) a0)).bind fun r0 =>
 (some r0)
noncomputable def G_9d : T fa_9d → TH ha_9d → Option (Bool) := fun x y => F_9d x.1
noncomputable def c_9d : Orc := ent i_9d [] 0 (sp fa_9d ha_9d fr_9d hr_9d G_9d out_9d)
theorem ok_9d : OrcOk PR c_9d := fnT okO_9d mixed p_9d (by kernel_rfl) (by kernel_rfl) (L := L_9d) (kp := false) (by kernel_rfl) (inn := inn_9d) (out := out_9d) (fun _ _ => rfl) (loopsL (l := []) (by kernel_rfl) trivial) (fun x y => by kernel_rfl)
noncomputable def O_9e : Orc := c_92a
theorem okO_9e : OrcOk PR O_9e := ok_92a
abbrev fa_9e : Fm := .unit
abbrev ha_9e : List BF := []
abbrev fr_9e : Fm := (.i .u32)
abbrev hr_9e : List BF := []
noncomputable def L_9e : Lps := L0
def inn_9e : T fr_9e → TH hr_9e → Int := (fun z w => z)
def out_9e : Int → T fr_9e × TH hr_9e := fun r => (r, ())
noncomputable def F_9e  : Option (Int) :=
 (some (2143289344:Int))
noncomputable def G_9e : T fa_9e → TH ha_9e → Option (Int) := fun x y => F_9e
noncomputable def c_9e : Orc := ent i_9e [] 0 (sp fa_9e ha_9e fr_9e hr_9e G_9e out_9e)
theorem ok_9e : OrcOk PR c_9e := fnT okO_9e mixed p_9e (by kernel_rfl) (by kernel_rfl) (L := L_9e) (kp := false) (by kernel_rfl) (inn := inn_9e) (out := out_9e) (fun _ _ => rfl) (loopsL (l := []) (by kernel_rfl) trivial) (fun x y => by kernel_rfl)
noncomputable def O_911 : Orc := c_92d
theorem okO_911 : OrcOk PR O_911 := ok_92d
abbrev fa_911 : Fm := (.pair (.i .u32) .unit)
abbrev ha_911 : List BF := []
abbrev fr_911 : Fm := (.i .u32)
abbrev hr_911 : List BF := []
noncomputable def L_911 : Lps := L0
def inn_911 : T fr_911 → TH hr_911 → Int := (fun z w => z)
def out_911 : Int → T fr_911 × TH hr_911 := fun r => (r, ())
noncomputable def F_911 (a0 : Int) : Option (Int) :=
 (some (bits .xor .u32 (bits .and .u32 a0 (4294967295:Int)) (2147483648:Int)))
noncomputable def G_911 : T fa_911 → TH ha_911 → Option (Int) := fun x y => F_911 x.1
noncomputable def c_911 : Orc := ent i_911 [] 0 (sp fa_911 ha_911 fr_911 hr_911 G_911 out_911)
theorem ok_911 : OrcOk PR c_911 := fnT okO_911 mixed p_911 (by kernel_rfl) (by kernel_rfl) (L := L_911) (kp := false) (by kernel_rfl) (inn := inn_911) (out := out_911) (fun _ _ => rfl) (loopsL (l := []) (by kernel_rfl) trivial) (fun x y => by kernel_rfl)
noncomputable def O_912 : Orc := c_92e
theorem okO_912 : OrcOk PR O_912 := ok_92e
abbrev fa_912 : Fm := (.pair (.i .u32) (.pair (.i .u32) .unit))
abbrev ha_912 : List BF := []
abbrev fr_912 : Fm := .b
abbrev hr_912 : List BF := []
noncomputable def L_912 : Lps := L0
def inn_912 : T fr_912 → TH hr_912 → Bool := (fun z w => z)
def out_912 : Bool → T fr_912 × TH hr_912 := fun r => (r, ())
noncomputable def F_912 (a0 : Int) (a1 : Int) : Option (Bool) :=
 ((F_92e (2:Int) a1 a0)).bind fun r0 =>
 (some r0)
noncomputable def G_912 : T fa_912 → TH ha_912 → Option (Bool) := fun x y => F_912 x.1 x.2.1
noncomputable def c_912 : Orc := ent i_912 [] 0 (sp fa_912 ha_912 fr_912 hr_912 G_912 out_912)
theorem ok_912 : OrcOk PR c_912 := fnT okO_912 mixed p_912 (by kernel_rfl) (by kernel_rfl) (L := L_912) (kp := false) (by kernel_rfl) (inn := inn_912) (out := out_912) (fun _ _ => rfl) (loopsL (l := []) (by kernel_rfl) trivial) (fun x y => by kernel_rfl)
end Go.Proofs.Ytkknnloamidaiaa.VI
