import Derived.Test.YtfpjkmgfkaoapaaTbd6bf464
namespace Go.Proofs.Ytfpjkmgfkaoapaa.VI
set_option linter.unusedVariables false
set_option linter.unusedSimpArgs false
set_option maxRecDepth 100000
noncomputable def O_93e : Orc := (orm c_947 c_950)
theorem okO_93e : OrcOk PR O_93e := (orm_ok ok_947 ok_950)
abbrev fa_93e : Fm := (.pair (.i .i64) (.pair (.si .u32) .unit))
abbrev fr_93e : Fm := (.tup (.pair (.i .u32) (.pair (.agg (.pair .b (.pair .b (.pair .b (.pair .b (.pair .b .unit)))))) (.pair .b .unit))))
abbrev ff_93e_0 : Fm := (.pair (.i .i64) (.us 4 (.cst (.ref 0 1 0) (.us 1 (.pair .b (.cst (.ref 1 1 0) (.us 3 (.pair (.si .u32) (.pair (.i .i64) (.pair (.i .i64) (.us 23 .unit)))))))))))
abbrev hf_93e_0 : List BF := [(.list 1 y_92 true (.pair .b (.pair .b (.pair .b (.pair .b (.pair .b .unit)))))), (.list 1 y_92 true (.pair .b (.pair .b (.pair .b (.pair .b (.pair .b .unit))))))]
abbrev X_93e_0 : Xs := (.one (.exit 0) [0, 5, 7, 8] (.pair (.i .i64) (.us 4 (.cst (.ref 0 1 0) (.us 1 (.pair .b (.cst (.ref 1 1 0) (.us 29 .unit))))))) [(.list 1 y_92 true (.pair .b (.pair .b (.pair .b (.pair .b (.pair .b .unit)))))), (.list 1 y_92 true (.pair .b (.pair .b (.pair .b (.pair .b (.pair .b .unit))))))])
abbrev S_93e_0 : Type := T ff_93e_0 × TH hf_93e_0
abbrev E_93e_0 : Type := TX X_93e_0
noncomputable def LB_93e_0 : Lps := L0
noncomputable def st_93e_0 : StepT S_93e_0 E_93e_0 := fun R v kn ko =>
 let x0 : Int := v.1.1
 let x1 : List Int := v.1.2.2.1
 let x2 : Int := v.1.2.2.2.2.1
 let x3 : Bool := v.1.2.1
 let x4 : Bool := v.2.2.1.1
 bif (decide (x2 < v.1.2.2.2.1)) then
 bif (decide (((0:Int) ≤ x2) ∧ (x2 < (((List.length x1) : Nat) : Int)))) then
 ((F_947 x0 (List.getD x1 (Int.toNat x2) (0:Int)))).bind fun r5 =>
 bif x3 then
 bif x4 then
 (kn ((x0, (true, ((List.take (List.length x1) x1), (v.1.2.2.2.1, ((IntKind.wrap .i64 (x2 + (1:Int))), ()))))), (v.2.1, ((true, v.2.2.1.2), ()))))
 else
 (kn ((x0, (true, ((List.take (List.length x1) x1), (v.1.2.2.2.1, ((IntKind.wrap .i64 (x2 + (1:Int))), ()))))), (v.2.1, (((r5 == (5:Int)), v.2.2.1.2), ()))))
 else
 bif x4 then
 (kn ((x0, ((decide (r5 ≥ (4:Int))), ((List.take (List.length x1) x1), (v.1.2.2.2.1, ((IntKind.wrap .i64 (x2 + (1:Int))), ()))))), (v.2.1, ((true, v.2.2.1.2), ()))))
 else
 (kn ((x0, ((decide (r5 ≥ (4:Int))), ((List.take (List.length x1) x1), (v.1.2.2.2.1, ((IntKind.wrap .i64 (x2 + (1:Int))), ()))))), (v.2.1, (((r5 == (5:Int)), v.2.2.1.2), ()))))
 else
 none
 else
 (ko ((x0, (x3, ())), v.2))
noncomputable def ls_93e_0 : St → LTr := (lsum ff_93e_0 hf_93e_0 X_93e_0 Prod.mk id st_93e_0 (hd [] [] [0, 5, 7, 8, 12, 13, 14] 0))
theorem lp_93e_0 : LoopOk PR 0 (lpN f_93e 0) ls_93e_0 := loopT okO_93e mixed (L := LB_93e_0) (d := 1) (bs := []) (ks := [0, 5, 7, 8, 12, 13, 14]) (loopsL (l := []) (by kernel_rfl) trivial) (by kernel_rfl) (inS := Prod.mk) (outS := id) (fun _ _ => rfl) (inX := id) (outX := id) (fun _ => rfl) (fun v R kn ko => by kernel_rfl) (hd_wk [] [] [0, 5, 7, 8, 12, 13, 14] 0)
noncomputable def L_93e : Lps := (lpB 5 (.by_ ls_93e_0) L0)
noncomputable def F_93e (a0 : Int) (a1 : List Int) : Option (Int × (Bool × Bool × Bool × Bool × Bool × Unit) × Bool × Unit) :=
 ((lim st_93e_0 ((a0, (false, ((List.take (List.length a1) a1), ((((List.length a1) : Nat) : Int), ((0:Int), ()))))), ((false, (false, (false, (false, (false, ()))))), ((false, (false, (false, (false, (false, ()))))), ()))))).bind fun r0 =>
 ((F_950 r0.1.1)).bind fun r1 =>
 (some (r1, (r0.2.2.1, r0.1.2)))
noncomputable def G_93e : T fa_93e → TH hN0 → Option (Int × (Bool × Bool × Bool × Bool × Bool × Unit) × Bool × Unit) := fun x y => F_93e x.1 x.2.1
noncomputable def c_93e : Orc := ent i_93e [] 0 (sp fa_93e hN0 fr_93e hN0 G_93e (outN fr_93e))
theorem ok_93e : OrcOk PR c_93e := fnT okO_93e mixed p_93e (by kernel_rfl) (by kernel_rfl) (L := L_93e) (kp := false) (by kernel_rfl) (inn := (innN fr_93e)) (out := (outN fr_93e)) (fun _ _ => rfl) (loopsL (l := [((lpN f_93e 0), ls_93e_0)]) (by kernel_rfl) ⟨lp_93e_0, trivial⟩) (fun x y => by kernel_rfl)
noncomputable def O_941 : Orc := c_950
theorem okO_941 : OrcOk PR O_941 := ok_950
abbrev fa_941 : Fm := (.pair (.i .i64) .unit)
abbrev fr_941 : Fm := (.tup (.pair (.i .u32) (.pair (.agg (.pair .b (.pair .b (.pair .b (.pair .b (.pair .b .unit)))))) .unit)))
noncomputable def F_941 (a0 : Int) : Option (Int × (Bool × Bool × Bool × Bool × Bool × Unit) × Unit) :=
 ((F_950 a0)).bind fun r0 =>
 (some (r0, ((true, (false, (false, (false, (false, ()))))), ())))
noncomputable def G_941 : T fa_941 → TH hN0 → Option (Int × (Bool × Bool × Bool × Bool × Bool × Unit) × Unit) := fun x y => F_941 x.1
noncomputable def c_941 : Orc := ent i_941 [] 0 (sp fa_941 hN0 fr_941 hN0 G_941 (outN fr_941))
theorem ok_941 : OrcOk PR c_941 := fnT okO_941 mixed p_941 (by kernel_rfl) (by kernel_rfl) (L := L0) (kp := false) (by kernel_rfl) (inn := (innN fr_941)) (out := (outN fr_941)) (fun _ _ => rfl) (loopsL (l := []) (by kernel_rfl) trivial) (fun x y => by kernel_rfl)
noncomputable def O_940 : Orc := (orm c_92c c_92f)
theorem okO_940 : OrcOk PR O_940 := (orm_ok ok_92c ok_92f)
abbrev fa_940 : Fm := (.pair (.i .i64) (.pair (.i .u32) (.pair (.i .u32) .unit)))
abbrev fr_940 : Fm := .b
noncomputable def F_940 (a0 : Int) (a1 : Int) (a2 : Int) : Option (Bool) :=
 ((F_92c a0 a1)).bind fun r0 =>
 bif r0 then
 ((F_92f a0 a2)).bind fun r1 =>
 bif r1 then
 (some true)
 else
 ((F_92f a0 a1)).bind fun r2 =>
 bif r2 then
 ((F_92c a0 a2)).bind fun r3 =>
 (some r3)
 else
 (some false)
 else
 ((F_92f a0 a1)).bind fun r4 =>
 bif r4 then
 ((F_92c a0 a2)).bind fun r5 =>
 (some r5)
 else
 (some false)
noncomputable def G_940 : T fa_940 → TH hN0 → Option (Bool) := fun x y => F_940 x.1 x.2.1 x.2.2.1
noncomputable def c_940 : Orc := ent i_940 [] 0 (sp fa_940 hN0 fr_940 hN0 G_940 (outN fr_940))
theorem ok_940 : OrcOk PR c_940 := fnT okO_940 mixed p_940 (by kernel_rfl) (by kernel_rfl) (L := L0) (kp := false) (by kernel_rfl) (inn := (innN fr_940)) (out := (outN fr_940)) (fun _ _ => rfl) (loopsL (l := []) (by kernel_rfl) trivial) (fun x y => by kernel_rfl)
noncomputable def O_944 : Orc := c_930
theorem okO_944 : OrcOk PR O_944 := ok_930
abbrev fa_944 : Fm := (.pair (.i .i64) (.pair (.i .u32) .unit))
abbrev fr_944 : Fm := (.agg (.pair .b (.pair (.i .i64) (.pair (.i .u64) (.pair .b .unit)))))
noncomputable def F_944 (a0 : Int) (a1 : Int) : Option (Bool × Int × Int × Bool × Unit) :=
 ((F_930 a0 a1)).bind fun r0 =>
 let x1 : Int := r0.2.2.1
 (some (r0.1, (r0.2.1, (x1, (false, ())))))
noncomputable def G_944 : T fa_944 → TH hN0 → Option (Bool × Int × Int × Bool × Unit) := fun x y => F_944 x.1 x.2.1
noncomputable def c_944 : Orc := ent i_944 [] 0 (sp fa_944 hN0 fr_944 hN0 G_944 (outN fr_944))
theorem ok_944 : OrcOk PR c_944 := fnT okO_944 mixed p_944 (by kernel_rfl) (by kernel_rfl) (L := L0) (kp := false) (by kernel_rfl) (inn := (innN fr_944)) (out := (outN fr_944)) (fun _ _ => rfl) (loopsL (l := []) (by kernel_rfl) trivial) (fun x y => by kernel_rfl)
noncomputable def O_943 : Orc := c_944
theorem okO_943 : OrcOk PR O_943 := ok_944
abbrev fa_943 : Fm := (.pair (.i .i64) (.pair (.i .u32) (.pair (.i .u32) .unit)))
abbrev fr_943 : Fm := (.agg (.pair .b (.pair (.i .i64) (.pair (.i .u64) (.pair .b .unit)))))
noncomputable def F_943 (a0 : Int) (a1 : Int) (a2 : Int) : Option (Bool × Int × Int × Bool × Unit) :=
 ((F_944 a0 a1)).bind fun r0 =>
 let x1 : Int := r0.2.2.1
 ((F_944 a0 a2)).bind fun r2 =>
 let x3 : Int := r2.2.2.1
 (some ((!(r0.1 == r2.1)), ((IntKind.wrap .i64 (r0.2.1 + r2.2.1)), ((IntKind.wrap .u64 (x1 * x3)), (false, ())))))
noncomputable def G_943 : T fa_943 → TH hN0 → Option (Bool × Int × Int × Bool × Unit) := fun x y => F_943 x.1 x.2.1 x.2.2.1
noncomputable def c_943 : Orc := ent i_943 [] 0 (sp fa_943 hN0 fr_943 hN0 G_943 (outN fr_943))
theorem ok_943 : OrcOk PR c_943 := fnT okO_943 mixed p_943 (by kernel_rfl) (by kernel_rfl) (L := L0) (kp := false) (by kernel_rfl) (inn := (innN fr_943)) (out := (outN fr_943)) (fun _ _ => rfl) (loopsL (l := []) (by kernel_rfl) trivial) (fun x y => by kernel_rfl)
noncomputable def O_959 : Orc := (orm c_93e (orm c_940 (orm c_941 (orm c_92e (orm c_92f (orm c_92d (orm c_943 c_93c)))))))
theorem okO_959 : OrcOk PR O_959 := (orm_ok ok_93e (orm_ok ok_940 (orm_ok ok_941 (orm_ok ok_92e (orm_ok ok_92f (orm_ok ok_92d (orm_ok ok_943 ok_93c)))))))
abbrev fa_959 : Fm := (.pair (.i .i64) (.pair (.i .i64) (.pair (.i .u32) (.pair (.i .u32) .unit))))
abbrev fr_959 : Fm := (.tup (.pair (.i .u32) (.pair (.agg (.pair .b (.pair .b (.pair .b (.pair .b (.pair .b .unit)))))) .unit)))
noncomputable def F_959 (a0 : Int) (a1 : Int) (a2 : Int) (a3 : Int) : Option (Int × (Bool × Bool × Bool × Bool × Bool × Unit) × Unit) :=
 ((F_93e a0 [a2, a3])).bind fun r0 =>
 let x1 : Bool := r0.2.2.1
 bif x1 then
 (some (r0.1, (r0.2.1, ())))
 else
 ((F_940 a0 a2 a3)).bind fun r2 =>
 bif r2 then
 ((F_941 a0)).bind fun r3 =>
 (some r3)
 else
 ((F_92e a0 a2)).bind fun r4 =>
 ((F_92e a0 a3)).bind fun r5 =>
 let x6 : Bool := (!(r4 == r5))
 ((F_92f a0 a2)).bind fun r7 =>
 bif r7 then
 ((F_92d a0 x6)).bind fun r8 =>
 (some (r8, ((false, (false, (false, (false, (false, ()))))), ())))
 else
 ((F_92f a0 a3)).bind fun r9 =>
 bif r9 then
 ((F_92d a0 x6)).bind fun r10 =>
 (some (r10, ((false, (false, (false, (false, (false, ()))))), ())))
 else
 ((F_943 a0 a2 a3)).bind fun r11 =>
 let x12 : Int := r11.2.2.1
 ((F_93c a0 a1 x6 r11.2.1 x12 false)).bind fun r13 =>
 (some r13)
noncomputable def G_959 : T fa_959 → TH hN0 → Option (Int × (Bool × Bool × Bool × Bool × Bool × Unit) × Unit) := fun x y => F_959 x.1 x.2.1 x.2.2.1 x.2.2.2.1
noncomputable def c_959 : Orc := ent i_959 [] 0 (sp fa_959 hN0 fr_959 hN0 G_959 (outN fr_959))
theorem ok_959 : OrcOk PR c_959 := fnT okO_959 mixed p_959 (by kernel_rfl) (by kernel_rfl) (L := L0) (kp := false) (by kernel_rfl) (inn := (innN fr_959)) (out := (outN fr_959)) (fun _ _ => rfl) (loopsL (l := []) (by kernel_rfl) trivial) (fun x y => by kernel_rfl)
noncomputable def O_934 : Orc := c_959
theorem okO_934 : OrcOk PR O_934 := ok_959
abbrev fa_934 : Fm := (.pair (.i .u32) (.pair (.i .u32) .unit))
abbrev fr_934 : Fm := (.i .u32)
noncomputable def F_934 (a0 : Int) (a1 : Int) : Option (Int) :=
 ((F_959 (2:Int) (0:Int) a0 a1)).bind fun r0 =>
 (some r0.1)
noncomputable def G_934 : T fa_934 → TH hN0 → Option (Int) := fun x y => F_934 x.1 x.2.1
noncomputable def c_934 : Orc := ent i_934 [] 0 (sp fa_934 hN0 fr_934 hN0 G_934 (outN fr_934))
theorem ok_934 : OrcOk PR c_934 := fnT okO_934 mixed p_934 (by kernel_rfl) (by kernel_rfl) (L := L0) (kp := false) (by kernel_rfl) (inn := (innN fr_934)) (out := (outN fr_934)) (fun _ _ => rfl) (loopsL (l := []) (by kernel_rfl) trivial) (fun x y => by kernel_rfl)
noncomputable def O_942 : Orc := (orm c_941 c_92d)
theorem okO_942 : OrcOk PR O_942 := (orm_ok ok_941 ok_92d)
abbrev fa_942 : Fm := (.pair (.i .i64) (.pair .b (.pair .b (.pair .b (.pair .b .unit)))))
abbrev fr_942 : Fm := (.tup (.pair (.i .u32) (.pair (.agg (.pair .b (.pair .b (.pair .b (.pair .b (.pair .b .unit)))))) .unit)))
noncomputable def F_942 (a0 : Int) (a1 : Bool) (a2 : Bool) (a3 : Bool) (a4 : Bool) : Option (Int × (Bool × Bool × Bool × Bool × Bool × Unit) × Unit) :=
 bif a3 then
 bif a4 then
 bif (!(a1 == a2)) then
 ((F_941 a0)).bind fun r0 =>
 (some r0)
 else
 bif a3 then
 ((F_92d a0 a1)).bind fun r1 =>
 (some (r1, ((false, (false, (false, (false, (false, ()))))), ())))
 else
 ((F_92d a0 a2)).bind fun r2 =>
 (some (r2, ((false, (false, (false, (false, (false, ()))))), ())))
 else
 bif a3 then
 ((F_92d a0 a1)).bind fun r3 =>
 (some (r3, ((false, (false, (false, (false, (false, ()))))), ())))
 else
 ((F_92d a0 a2)).bind fun r4 =>
 (some (r4, ((false, (false, (false, (false, (false, ()))))), ())))
 else
 bif a3 then
 ((F_92d a0 a1)).bind fun r5 =>
 (some (r5, ((false, (false, (false, (false, (false, ()))))), ())))
 else
 ((F_92d a0 a2)).bind fun r6 =>
 (some (r6, ((false, (false, (false, (false, (false, ()))))), ())))
noncomputable def G_942 : T fa_942 → TH hN0 → Option (Int × (Bool × Bool × Bool × Bool × Bool × Unit) × Unit) := fun x y => F_942 x.1 x.2.1 x.2.2.1 x.2.2.2.1 x.2.2.2.2.1
noncomputable def c_942 : Orc := ent i_942 [] 0 (sp fa_942 hN0 fr_942 hN0 G_942 (outN fr_942))
theorem ok_942 : OrcOk PR c_942 := fnT okO_942 mixed p_942 (by kernel_rfl) (by kernel_rfl) (L := L0) (kp := false) (by kernel_rfl) (inn := (innN fr_942)) (out := (outN fr_942)) (fun _ _ => rfl) (loopsL (l := []) (by kernel_rfl) trivial) (fun x y => by kernel_rfl)
noncomputable def O_960 : Orc := (orm c_931 c_949)
theorem okO_960 : OrcOk PR O_960 := (orm_ok ok_931 ok_949)
abbrev fa_960 : Fm := (.pair (.agg (.pair .b (.pair (.i .i64) (.pair (.i .u64) (.pair .b .unit))))) .unit)
abbrev fr_960 : Fm := (.agg (.pair .b (.pair (.i .i64) (.pair (.i .u64) (.pair .b .unit)))))
noncomputable def F_960 (a0 : Bool × Int × Int × Bool × Unit) : Option (Bool × Int × Int × Bool × Unit) :=
 let x0 : Int := a0.2.2.1
 ((F_931 x0)).bind fun r1 =>
 let x2 : Int := (IntKind.wrap .i64 ((62:Int) - r1))
 ((F_949 x0 (IntKind.wrap .i64 ((0:Int) - x2)))).bind fun r3 =>
 (some (a0.1, ((IntKind.wrap .i64 (a0.2.1 - x2)), (r3.1, a0.2.2.2))))
noncomputable def G_960 : T fa_960 → TH hN0 → Option (Bool × Int × Int × Bool × Unit) := fun x y => F_960 x.1
noncomputable def c_960 : Orc := ent i_960 [] 0 (sp fa_960 hN0 fr_960 hN0 G_960 (outN fr_960))
theorem ok_960 : OrcOk PR c_960 := fnT okO_960 mixed p_960 (by kernel_rfl) (by kernel_rfl) (L := L0) (kp := false) (by kernel_rfl) (inn := (innN fr_960)) (out := (outN fr_960)) (fun _ _ => rfl) (loopsL (l := []) (by kernel_rfl) trivial) (fun x y => by kernel_rfl)
noncomputable def O_945 : Orc := (orm c_960 c_949)
theorem okO_945 : OrcOk PR O_945 := (orm_ok ok_960 ok_949)
abbrev fa_945 : Fm := (.pair (.agg (.pair .b (.pair (.i .i64) (.pair (.i .u64) (.pair .b .unit))))) (.pair (.agg (.pair .b (.pair (.i .i64) (.pair (.i .u64) (.pair .b .unit))))) .unit))
abbrev fr_945 : Fm := (.agg (.pair .b (.pair (.i .i64) (.pair (.i .u64) (.pair .b .unit)))))
noncomputable def F_945 (a0 : Bool × Int × Int × Bool × Unit) (a1 : Bool × Int × Int × Bool × Unit) : Option (Bool × Int × Int × Bool × Unit) :=
 let x0 : Int := a0.2.2.1
 let x1 : Int := a1.2.2.1
 bif (x0 == (0:Int)) then
 (some a1)
 else
 bif (x1 == (0:Int)) then
 (some a0)
 else
 ((F_960 a0)).bind fun r2 =>
 let x3 : Int := r2.2.2.1
 ((F_960 a1)).bind fun r4 =>
 let x5 : Bool := (r4.1 == r2.1)
 let x6 : Int := r4.2.2.1
 let x7 : Bool := (r2.1 == r4.1)
 bif (decide (r2.2.1 < r4.2.1)) then
 ((F_949 x3 (IntKind.wrap .i64 (r4.2.1 - r2.2.1)))).bind fun r8 =>
 let x9 : Int := (IntKind.wrap .u64 (x6 - r8.1))
 bif x5 then
 (some (r4.1, (r4.2.1, ((IntKind.wrap .u64 (x6 + r8.1)), r8.2))))
 else
 bif r8.2.1 then
 (some (r4.1, (r4.2.1, ((IntKind.wrap .u64 (x9 - (1:Int))), r8.2))))
 else
 (some (r4.1, (r4.2.1, (x9, r8.2))))
 else
 bif (r2.2.1 == r4.2.1) then
 bif (decide (x3 < x6)) then
 ((F_949 x3 (IntKind.wrap .i64 (r4.2.1 - r2.2.1)))).bind fun r10 =>
 let x11 : Int := (IntKind.wrap .u64 (x6 - r10.1))
 bif x5 then
 (some (r4.1, (r4.2.1, ((IntKind.wrap .u64 (x6 + r10.1)), r10.2))))
 else
 bif r10.2.1 then
 (some (r4.1, (r4.2.1, ((IntKind.wrap .u64 (x11 - (1:Int))), r10.2))))
 else
 (some (r4.1, (r4.2.1, (x11, r10.2))))
 else
 ((F_949 x6 (IntKind.wrap .i64 (r2.2.1 - r4.2.1)))).bind fun r12 =>
 let x13 : Int := (IntKind.wrap .u64 (x3 - r12.1))
 bif x7 then
 (some (r2.1, (r2.2.1, ((IntKind.wrap .u64 (x3 + r12.1)), r12.2))))
 else
 bif r12.2.1 then
 (some (r2.1, (r2.2.1, ((IntKind.wrap .u64 (x13 - (1:Int))), r12.2))))
 else
 (some (r2.1, (r2.2.1, (x13, r12.2))))
 else
 ((F_949 x6 (IntKind.wrap .i64 (r2.2.1 - r4.2.1)))).bind fun r14 =>
 let x15 : Int := (IntKind.wrap .u64 (x3 - r14.1))
 bif x7 then
 (some (r2.1, (r2.2.1, ((IntKind.wrap .u64 (x3 + r14.1)), r14.2))))
 else
 bif r14.2.1 then
 (some (r2.1, (r2.2.1, ((IntKind.wrap .u64 (x15 - (1:Int))), r14.2))))
 else
 (some (r2.1, (r2.2.1, (x15, r14.2))))
noncomputable def G_945 : T fa_945 → TH hN0 → Option (Bool × Int × Int × Bool × Unit) := fun x y => F_945 x.1 x.2.1
noncomputable def c_945 : Orc := ent i_945 [] 0 (sp fa_945 hN0 fr_945 hN0 G_945 (outN fr_945))
theorem ok_945 : OrcOk PR c_945 := fnT okO_945 mixed p_945 (by kernel_rfl) (by kernel_rfl) (L := L0) (kp := false) (by kernel_rfl) (inn := (innN fr_945)) (out := (outN fr_945)) (fun _ _ => rfl) (loopsL (l := []) (by kernel_rfl) trivial) (fun x y => by kernel_rfl)
noncomputable def O_946 : Orc := c_948
theorem okO_946 : OrcOk PR O_946 := ok_948
abbrev fa_946 : Fm := (.pair (.i .i64) (.pair (.i .i64) (.pair .b (.pair .b .unit))))
abbrev fr_946 : Fm := (.i .u32)
noncomputable def F_946 (a0 : Int) (a1 : Int) (a2 : Bool) (a3 : Bool) : Option (Int) :=
 bif (a2 == a3) then
 ((F_948 a0 a2)).bind fun r0 =>
 (some r0)
 else
 ((F_948 a0 (a1 == (3:Int)))).bind fun r1 =>
 (some r1)
noncomputable def G_946 : T fa_946 → TH hN0 → Option (Int) := fun x y => F_946 x.1 x.2.1 x.2.2.1 x.2.2.2.1
noncomputable def c_946 : Orc := ent i_946 [] 0 (sp fa_946 hN0 fr_946 hN0 G_946 (outN fr_946))
theorem ok_946 : OrcOk PR c_946 := fnT okO_946 mixed p_946 (by kernel_rfl) (by kernel_rfl) (L := L0) (kp := false) (by kernel_rfl) (inn := (innN fr_946)) (out := (outN fr_946)) (fun _ _ => rfl) (loopsL (l := []) (by kernel_rfl) trivial) (fun x y => by kernel_rfl)
noncomputable def O_922 : Orc := (orm c_940 (orm c_93e (orm c_941 (orm c_92e (orm c_92f (orm c_942 (orm c_943 (orm c_944 (orm c_945 (orm c_946 c_93c))))))))))
theorem okO_922 : OrcOk PR O_922 := (orm_ok ok_940 (orm_ok ok_93e (orm_ok ok_941 (orm_ok ok_92e (orm_ok ok_92f (orm_ok ok_942 (orm_ok ok_943 (orm_ok ok_944 (orm_ok ok_945 (orm_ok ok_946 ok_93c))))))))))
abbrev fa_922 : Fm := (.pair (.i .i64) (.pair (.i .i64) (.pair (.i .u32) (.pair (.i .u32) (.pair (.i .u32) .unit)))))
abbrev fr_922 : Fm := (.tup (.pair (.i .u32) (.pair (.agg (.pair .b (.pair .b (.pair .b (.pair .b (.pair .b .unit)))))) .unit)))
noncomputable def F_922 (a0 : Int) (a1 : Int) (a2 : Int) (a3 : Int) (a4 : Int) : Option (Int × (Bool × Bool × Bool × Bool × Bool × Unit) × Unit) :=
 ((F_940 a0 a2 a3)).bind fun r0 =>
 ((F_93e a0 [a2, a3, a4])).bind fun r1 =>
 let x2 : Bool := r1.2.2.1
 let x3 : Bool := r1.2.1.1
 bif x2 then
 bif x3 then
 (some (r1.1, ((true, r1.2.1.2), ())))
 else
 (some (r1.1, ((r0, r1.2.1.2), ())))
 else
 bif r0 then
 ((F_941 a0)).bind fun r4 =>
 (some r4)
 else
 ((F_92e a0 a2)).bind fun r5 =>
 ((F_92e a0 a3)).bind fun r6 =>
 let x7 : Bool := (!(r5 == r6))
 ((F_92f a0 a2)).bind fun r8 =>
 bif r8 then
 ((F_92f a0 a4)).bind fun r9 =>
 ((F_92e a0 a4)).bind fun r10 =>
 ((F_942 a0 x7 r10 true r9)).bind fun r11 =>
 (some r11)
 else
 ((F_92f a0 a3)).bind fun r12 =>
 ((F_92f a0 a4)).bind fun r13 =>
 bif r12 then
 ((F_92e a0 a4)).bind fun r14 =>
 ((F_942 a0 x7 r14 r12 r13)).bind fun r15 =>
 (some r15)
 else
 bif r13 then
 ((F_92e a0 a4)).bind fun r16 =>
 ((F_942 a0 x7 r16 r12 r13)).bind fun r17 =>
 (some r17)
 else
 ((F_943 a0 a2 a3)).bind fun r18 =>
 ((F_944 a0 a4)).bind fun r19 =>
 ((F_945 r18 r19)).bind fun r20 =>
 let x21 : Int := r20.2.2.1
 let x22 : Bool := r20.2.2.2.1
 bif (x21 == (0:Int)) then
 bif (!x22) then
 ((F_946 a0 a1 x7 r19.1)).bind fun r23 =>
 (some (r23, ((false, (false, (false, (false, (false, ()))))), ())))
 else
 ((F_93c a0 a1 r20.1 r20.2.1 x21 x22)).bind fun r24 =>
 (some r24)
 else
 ((F_93c a0 a1 r20.1 r20.2.1 x21 x22)).bind fun r25 =>
 (some r25)
noncomputable def G_922 : T fa_922 → TH hN0 → Option (Int × (Bool × Bool × Bool × Bool × Bool × Unit) × Unit) := fun x y => F_922 x.1 x.2.1 x.2.2.1 x.2.2.2.1 x.2.2.2.2.1
noncomputable def c_922 : Orc := ent i_922 [] 0 (sp fa_922 hN0 fr_922 hN0 G_922 (outN fr_922))
theorem ok_922 : OrcOk PR c_922 := fnT okO_922 mixed p_922 (by kernel_rfl) (by kernel_rfl) (L := L0) (kp := false) (by kernel_rfl) (inn := (innN fr_922)) (out := (outN fr_922)) (fun _ _ => rfl) (loopsL (l := []) (by kernel_rfl) trivial) (fun x y => by kernel_rfl)
noncomputable def O_9e : Orc := c_922
theorem okO_9e : OrcOk PR O_9e := ok_922
abbrev fa_9e : Fm := (.pair (.i .u32) (.pair (.i .u32) (.pair (.i .u32) .unit)))
abbrev fr_9e : Fm := (.i .u32)
noncomputable def F_9e (a0 : Int) (a1 : Int) (a2 : Int) : Option (Int) :=
 ((F_922 (2:Int) (0:Int) a0 a1 a2)).bind fun r0 =>
 (some r0.1)
noncomputable def G_9e : T fa_9e → TH hN0 → Option (Int) := fun x y => F_9e x.1 x.2.1 x.2.2.1
noncomputable def c_9e : Orc := ent i_9e [] 0 (sp fa_9e hN0 fr_9e hN0 G_9e (outN fr_9e))
theorem ok_9e : OrcOk PR c_9e := fnT okO_9e mixed p_9e (by kernel_rfl) (by kernel_rfl) (L := L0) (kp := false) (by kernel_rfl) (inn := (innN fr_9e)) (out := (outN fr_9e)) (fun _ _ => rfl) (loopsL (l := []) (by kernel_rfl) trivial) (fun x y => by kernel_rfl)
noncomputable def O_924 : Orc := (orm c_93e (orm c_92f (orm c_92e (orm c_942 (orm c_944 (orm c_945 (orm c_946 c_93c)))))))
theorem okO_924 : OrcOk PR O_924 := (orm_ok ok_93e (orm_ok ok_92f (orm_ok ok_92e (orm_ok ok_942 (orm_ok ok_944 (orm_ok ok_945 (orm_ok ok_946 ok_93c)))))))
abbrev fa_924 : Fm := (.pair (.i .i64) (.pair (.i .i64) (.pair (.i .u32) (.pair (.i .u32) .unit))))
abbrev fr_924 : Fm := (.tup (.pair (.i .u32) (.pair (.agg (.pair .b (.pair .b (.pair .b (.pair .b (.pair .b .unit)))))) .unit)))
noncomputable def F_924 (a0 : Int) (a1 : Int) (a2 : Int) (a3 : Int) : Option (Int × (Bool × Bool × Bool × Bool × Bool × Unit) × Unit) :=
 ((F_93e a0 [a2, a3])).bind fun r0 =>
 let x1 : Bool := r0.2.2.1
 bif x1 then
 (some (r0.1, (r0.2.1, ())))
 else
 ((F_92f a0 a2)).bind fun r2 =>
 ((F_92f a0 a3)).bind fun r3 =>
 bif r2 then
 ((F_92e a0 a2)).bind fun r4 =>
 ((F_92e a0 a3)).bind fun r5 =>
 ((F_942 a0 r4 r5 r2 r3)).bind fun r6 =>
 (some r6)
 else
 bif r3 then
 ((F_92e a0 a2)).bind fun r7 =>
 ((F_92e a0 a3)).bind fun r8 =>
 ((F_942 a0 r7 r8 r2 r3)).bind fun r9 =>
 (some r9)
 else
 ((F_944 a0 a2)).bind fun r10 =>
 ((F_944 a0 a3)).bind fun r11 =>
 ((F_945 r10 r11)).bind fun r12 =>
 let x13 : Int := r12.2.2.1
 let x14 : Bool := r12.2.2.2.1
 bif (x13 == (0:Int)) then
 bif (!x14) then
 ((F_946 a0 a1 r10.1 r11.1)).bind fun r15 =>
 (some (r15, ((false, (false, (false, (false, (false, ()))))), ())))
 else
 ((F_93c a0 a1 r12.1 r12.2.1 x13 x14)).bind fun r16 =>
 (some r16)
 else
 ((F_93c a0 a1 r12.1 r12.2.1 x13 x14)).bind fun r17 =>
 (some r17)
noncomputable def G_924 : T fa_924 → TH hN0 → Option (Int × (Bool × Bool × Bool × Bool × Bool × Unit) × Unit) := fun x y => F_924 x.1 x.2.1 x.2.2.1 x.2.2.2.1
noncomputable def c_924 : Orc := ent i_924 [] 0 (sp fa_924 hN0 fr_924 hN0 G_924 (outN fr_924))
theorem ok_924 : OrcOk PR c_924 := fnT okO_924 mixed p_924 (by kernel_rfl) (by kernel_rfl) (L := L0) (kp := false) (by kernel_rfl) (inn := (innN fr_924)) (out := (outN fr_924)) (fun _ _ => rfl) (loopsL (l := []) (by kernel_rfl) trivial) (fun x y => by kernel_rfl)
noncomputable def O_921 : Orc := (orm c_93e (orm c_93f c_924))
theorem okO_921 : OrcOk PR O_921 := (orm_ok ok_93e (orm_ok ok_93f ok_924))
abbrev fa_921 : Fm := (.pair (.i .i64) (.pair (.i .i64) (.pair (.i .u32) (.pair (.i .u32) .unit))))
abbrev fr_921 : Fm := (.tup (.pair (.i .u32) (.pair (.agg (.pair .b (.pair .b (.pair .b (.pair .b (.pair .b .unit)))))) .unit)))
noncomputable def F_921 (a0 : Int) (a1 : Int) (a2 : Int) (a3 : Int) : Option (Int × (Bool × Bool × Bool × Bool × Bool × Unit) × Unit) :=
 ((F_93e a0 [a2, a3])).bind fun r0 =>
 let x1 : Bool := r0.2.2.1
 bif x1 then
 (some (r0.1, (r0.2.1, ())))
 else
 ((F_93f a0 a3)).bind fun r2 =>
 ((F_924 a0 a1 a2 r2)).bind fun r3 =>
 (some r3)
noncomputable def G_921 : T fa_921 → TH hN0 → Option (Int × (Bool × Bool × Bool × Bool × Bool × Unit) × Unit) := fun x y => F_921 x.1 x.2.1 x.2.2.1 x.2.2.2.1
noncomputable def c_921 : Orc := ent i_921 [] 0 (sp fa_921 hN0 fr_921 hN0 G_921 (outN fr_921))
theorem ok_921 : OrcOk PR c_921 := fnT okO_921 mixed p_921 (by kernel_rfl) (by kernel_rfl) (L := L0) (kp := false) (by kernel_rfl) (inn := (innN fr_921)) (out := (outN fr_921)) (fun _ _ => rfl) (loopsL (l := []) (by kernel_rfl) trivial) (fun x y => by kernel_rfl)
noncomputable def O_910 : Orc := c_924
theorem okO_910 : OrcOk PR O_910 := ok_924
abbrev fa_910 : Fm := (.pair (.i .u32) (.pair (.i .u32) .unit))
abbrev fr_910 : Fm := (.i .u32)
noncomputable def F_910 (a0 : Int) (a1 : Int) : Option (Int) :=
 ((F_924 (2:Int) (0:Int) a0 a1)).bind fun r0 =>
 (some r0.1)
noncomputable def G_910 : T fa_910 → TH hN0 → Option (Int) := fun x y => F_910 x.1 x.2.1
noncomputable def c_910 : Orc := ent i_910 [] 0 (sp fa_910 hN0 fr_910 hN0 G_910 (outN fr_910))
theorem ok_910 : OrcOk PR c_910 := fnT okO_910 mixed p_910 (by kernel_rfl) (by kernel_rfl) (L := L0) (kp := false) (by kernel_rfl) (inn := (innN fr_910)) (out := (outN fr_910)) (fun _ _ => rfl) (loopsL (l := []) (by kernel_rfl) trivial) (fun x y => by kernel_rfl)
noncomputable def O_9d : Orc := c_921
theorem okO_9d : OrcOk PR O_9d := ok_921
abbrev fa_9d : Fm := (.pair (.i .u32) (.pair (.i .u32) .unit))
abbrev fr_9d : Fm := (.i .u32)
noncomputable def F_9d (a0 : Int) (a1 : Int) : Option (Int) :=
 ((F_921 (2:Int) (0:Int) a0 a1)).bind fun r0 =>
 (some r0.1)
noncomputable def G_9d : T fa_9d → TH hN0 → Option (Int) := fun x y => F_9d x.1 x.2.1
noncomputable def c_9d : Orc := ent i_9d [] 0 (sp fa_9d hN0 fr_9d hN0 G_9d (outN fr_9d))
theorem ok_9d : OrcOk PR c_9d := fnT okO_9d mixed p_9d (by kernel_rfl) (by kernel_rfl) (L := L0) (kp := false) (by kernel_rfl) (inn := (innN fr_9d)) (out := (outN fr_9d)) (fun _ _ => rfl) (loopsL (l := []) (by kernel_rfl) trivial) (fun x y => by kernel_rfl)
noncomputable def O_962 : Orc := (orm c_931 (orm c_95c c_95d))
theorem okO_962 : OrcOk PR O_962 := (orm_ok ok_931 (orm_ok ok_95c ok_95d))
abbrev fa_962 : Fm := (.pair (.agg (.pair .b (.pair (.i .i64) (.pair (.i .u64) (.pair .b .unit))))) (.pair (.i .i64) .unit))
abbrev fr_962 : Fm := (.tup (.pair (.i .u64) (.pair .b .unit)))
noncomputable def F_962 (a0 : Bool × Int × Int × Bool × Unit) (a1 : Int) : Option (Int × Bool × Unit) :=
 let x0 : Int := a0.2.2.1
 ((F_931 x0)).bind fun r1 =>
 bif (decide ((IntKind.wrap .i64 (a0.2.1 + r1)) > (40:Int))) then
 (some ((1099511627776:Int), (false, ())))
 else
 ((F_95c x0 (IntKind.wrap .i64 ((0:Int) - a0.2.1)) false)).bind fun r2 =>
 ((F_95d a1 a0.1 r2.1 r2.2.1)).bind fun r3 =>
 (some ((bif r3 then (IntKind.wrap .u64 (r2.1 + (1:Int))) else r2.1), ((r2.2.1 != (0:Int)), ())))
noncomputable def G_962 : T fa_962 → TH hN0 → Option (Int × Bool × Unit) := fun x y => F_962 x.1 x.2.1
noncomputable def c_962 : Orc := ent i_962 [] 0 (sp fa_962 hN0 fr_962 hN0 G_962 (outN fr_962))
theorem ok_962 : OrcOk PR c_962 := fnT okO_962 mixed p_962 (by kernel_rfl) (by kernel_rfl) (L := L0) (kp := false) (by kernel_rfl) (inn := (innN fr_962)) (out := (outN fr_962)) (fun _ _ => rfl) (loopsL (l := []) (by kernel_rfl) trivial) (fun x y => by kernel_rfl)
noncomputable def O_94d : Orc := (orm c_961 (orm c_944 c_962))
theorem okO_94d : OrcOk PR O_94d := (orm_ok ok_961 (orm_ok ok_944 ok_962))
abbrev fa_94d : Fm := (.pair (.i .i64) (.pair (.i .i64) (.pair (.i .u32) .unit)))
abbrev fr_94d : Fm := (.tup (.pair (.i .i32) (.pair (.agg (.pair .b (.pair .b (.pair .b (.pair .b (.pair .b .unit)))))) .unit)))
noncomputable def F_94d (a0 : Int) (a1 : Int) (a2 : Int) : Option (Int × (Bool × Bool × Bool × Bool × Bool × Unit) × Unit) :=
 ((F_961 a0 a2)).bind fun r0 =>
 bif r0 then
 ((F_944 a0 a2)).bind fun r1 =>
 ((F_962 r1 a1)).bind fun r2 =>
 let x3 : Int := (IntKind.wrap .i64 r2.1)
 let x4 : Int := (bif r1.1 then (IntKind.wrap .i64 ((0:Int) - x3)) else x3)
 let x5 : Int := (IntKind.wrap .i32 x4)
 bif (x4 == (IntKind.wrap .i64 x5)) then
 (some (x5, ((false, (false, (false, (false, r2.2)))), ())))
 else
 (some ((-(2147483648:Int)), ((true, (false, (false, (false, (false, ()))))), ())))
 else
 (some ((-(2147483648:Int)), ((true, (false, (false, (false, (false, ()))))), ())))
noncomputable def G_94d : T fa_94d → TH hN0 → Option (Int × (Bool × Bool × Bool × Bool × Bool × Unit) × Unit) := fun x y => F_94d x.1 x.2.1 x.2.2.1
noncomputable def c_94d : Orc := ent i_94d [] 0 (sp fa_94d hN0 fr_94d hN0 G_94d (outN fr_94d))
theorem ok_94d : OrcOk PR c_94d := fnT okO_94d mixed p_94d (by kernel_rfl) (by kernel_rfl) (L := L0) (kp := false) (by kernel_rfl) (inn := (innN fr_94d)) (out := (outN fr_94d)) (fun _ _ => rfl) (loopsL (l := []) (by kernel_rfl) trivial) (fun x y => by kernel_rfl)
noncomputable def O_93d : Orc := orn
theorem okO_93d : OrcOk PR O_93d := (orn_ok _)
abbrev fa_93d : Fm := (.pair (.i .i64) .unit)
abbrev fr_93d : Fm := (.i .u64)
noncomputable def F_93d (a0 : Int) : Option (Int) :=
 bif (decide (a0 < (0:Int))) then
 (some (IntKind.wrap .u64 ((0:Int) - (IntKind.wrap .u64 a0))))
 else
 (some (IntKind.wrap .u64 a0))
noncomputable def G_93d : T fa_93d → TH hN0 → Option (Int) := fun x y => F_93d x.1
noncomputable def c_93d : Orc := ent i_93d [] 0 (sp fa_93d hN0 fr_93d hN0 G_93d (outN fr_93d))
theorem ok_93d : OrcOk PR c_93d := fnT okO_93d mixed p_93d (by kernel_rfl) (by kernel_rfl) (L := L0) (kp := false) (by kernel_rfl) (inn := (innN fr_93d)) (out := (outN fr_93d)) (fun _ _ => rfl) (loopsL (l := []) (by kernel_rfl) trivial) (fun x y => by kernel_rfl)
noncomputable def O_920 : Orc := (orm c_93d c_93c)
theorem okO_920 : OrcOk PR O_920 := (orm_ok ok_93d ok_93c)
abbrev fa_920 : Fm := (.pair (.i .i64) (.pair (.i .i64) (.pair (.i .i64) .unit)))
abbrev fr_920 : Fm := (.tup (.pair (.i .u32) (.pair (.agg (.pair .b (.pair .b (.pair .b (.pair .b (.pair .b .unit)))))) .unit)))
noncomputable def F_920 (a0 : Int) (a1 : Int) (a2 : Int) : Option (Int × (Bool × Bool × Bool × Bool × Bool × Unit) × Unit) :=
 ((F_93d a2)).bind fun r0 =>
 ((F_93c a0 a1 (decide (a2 < (0:Int))) (0:Int) r0 false)).bind fun r1 =>
 (some r1)
noncomputable def G_920 : T fa_920 → TH hN0 → Option (Int × (Bool × Bool × Bool × Bool × Bool × Unit) × Unit) := fun x y => F_920 x.1 x.2.1 x.2.2.1
noncomputable def c_920 : Orc := ent i_920 [] 0 (sp fa_920 hN0 fr_920 hN0 G_920 (outN fr_920))
theorem ok_920 : OrcOk PR c_920 := fnT okO_920 mixed p_920 (by kernel_rfl) (by kernel_rfl) (L := L0) (kp := false) (by kernel_rfl) (inn := (innN fr_920)) (out := (outN fr_920)) (fun _ _ => rfl) (loopsL (l := []) (by kernel_rfl) trivial) (fun x y => by kernel_rfl)
noncomputable def O_9c : Orc := c_920
theorem okO_9c : OrcOk PR O_9c := ok_920
abbrev fa_9c : Fm := (.pair (.i .i64) .unit)
abbrev fr_9c : Fm := (.i .u32)
noncomputable def F_9c (a0 : Int) : Option (Int) :=
 ((F_920 (2:Int) (0:Int) a0)).bind fun r0 =>
 (some r0.1)
noncomputable def G_9c : T fa_9c → TH hN0 → Option (Int) := fun x y => F_9c x.1
noncomputable def c_9c : Orc := ent i_9c [] 0 (sp fa_9c hN0 fr_9c hN0 G_9c (outN fr_9c))
theorem ok_9c : OrcOk PR c_9c := fnT okO_9c mixed p_9c (by kernel_rfl) (by kernel_rfl) (L := L0) (kp := false) (by kernel_rfl) (inn := (innN fr_9c)) (out := (outN fr_9c)) (fun _ _ => rfl) (loopsL (l := []) (by kernel_rfl) trivial) (fun x y => by kernel_rfl)
noncomputable def O_963 : Orc := (orm c_93e (orm c_93a (orm c_92f c_92c)))
theorem okO_963 : OrcOk PR O_963 := (orm_ok ok_93e (orm_ok ok_93a (orm_ok ok_92f ok_92c)))
abbrev fa_963 : Fm := (.pair (.i .i64) (.pair (.i .u32) .unit))
abbrev fr_963 : Fm := (.tup (.pair (.i .u32) (.pair (.agg (.pair .b (.pair .b (.pair .b (.pair .b (.pair .b .unit)))))) (.pair .b .unit))))
noncomputable def F_963 (a0 : Int) (a1 : Int) : Option (Int × (Bool × Bool × Bool × Bool × Bool × Unit) × Bool × Unit) :=
 ((F_93e a0 [a1])).bind fun r0 =>
 let x1 : Bool := r0.2.2.1
 bif x1 then
 (some (r0.1, (r0.2.1, (true, ()))))
 else
 ((F_93a a0)).bind fun r2 =>
 let x3 : Int := (bits .and .u32 a1 r2)
 ((F_92f a0 a1)).bind fun r4 =>
 bif r4 then
 (some (x3, ((false, (false, (false, (false, (false, ()))))), (true, ()))))
 else
 ((F_92c a0 a1)).bind fun r5 =>
 (some (x3, ((false, (false, (false, (false, (false, ()))))), (r5, ()))))
noncomputable def G_963 : T fa_963 → TH hN0 → Option (Int × (Bool × Bool × Bool × Bool × Bool × Unit) × Bool × Unit) := fun x y => F_963 x.1 x.2.1
noncomputable def c_963 : Orc := ent i_963 [] 0 (sp fa_963 hN0 fr_963 hN0 G_963 (outN fr_963))
theorem ok_963 : OrcOk PR c_963 := fnT okO_963 mixed p_963 (by kernel_rfl) (by kernel_rfl) (L := L0) (kp := false) (by kernel_rfl) (inn := (innN fr_963)) (out := (outN fr_963)) (fun _ _ => rfl) (loopsL (l := []) (by kernel_rfl) trivial) (fun x y => by kernel_rfl)
noncomputable def O_957 : Orc := (orm c_963 (orm c_944 c_93c))
theorem okO_957 : OrcOk PR O_957 := (orm_ok ok_963 (orm_ok ok_944 ok_93c))
abbrev fa_957 : Fm := (.pair (.i .i64) (.pair (.i .i64) (.pair (.i .u32) (.pair (.i .i64) .unit))))
abbrev fr_957 : Fm := (.tup (.pair (.i .u32) (.pair (.agg (.pair .b (.pair .b (.pair .b (.pair .b (.pair .b .unit)))))) .unit)))
noncomputable def F_957 (a0 : Int) (a1 : Int) (a2 : Int) (a3 : Int) : Option (Int × (Bool × Bool × Bool × Bool × Bool × Unit) × Unit) :=
 ((F_963 a0 a2)).bind fun r0 =>
 let x1 : Bool := r0.2.2.1
 bif x1 then
 (some (r0.1, (r0.2.1, ())))
 else
 ((F_944 a0 a2)).bind fun r2 =>
 let x3 : Int := r2.2.2.1
 ((F_93c a0 a1 r2.1 (IntKind.wrap .i64 (r2.2.1 + (mn (mx a3 (-(5000:Int))) (5000:Int)))) x3 false)).bind fun r4 =>
 (some r4)
noncomputable def G_957 : T fa_957 → TH hN0 → Option (Int × (Bool × Bool × Bool × Bool × Bool × Unit) × Unit) := fun x y => F_957 x.1 x.2.1 x.2.2.1 x.2.2.2.1
noncomputable def c_957 : Orc := ent i_957 [] 0 (sp fa_957 hN0 fr_957 hN0 G_957 (outN fr_957))
theorem ok_957 : OrcOk PR c_957 := fnT okO_957 mixed p_957 (by kernel_rfl) (by kernel_rfl) (L := L0) (kp := false) (by kernel_rfl) (inn := (innN fr_957)) (out := (outN fr_957)) (fun _ _ => rfl) (loopsL (l := []) (by kernel_rfl) trivial) (fun x y => by kernel_rfl)
noncomputable def O_932 : Orc := c_957
theorem okO_932 : OrcOk PR O_932 := ok_957
abbrev fa_932 : Fm := (.pair (.i .u32) (.pair (.i .i64) .unit))
abbrev fr_932 : Fm := (.i .u32)
noncomputable def F_932 (a0 : Int) (a1 : Int) : Option (Int) :=
 ((F_957 (2:Int) (0:Int) a0 a1)).bind fun r0 =>
 (some r0.1)
noncomputable def G_932 : T fa_932 → TH hN0 → Option (Int) := fun x y => F_932 x.1 x.2.1
noncomputable def c_932 : Orc := ent i_932 [] 0 (sp fa_932 hN0 fr_932 hN0 G_932 (outN fr_932))
theorem ok_932 : OrcOk PR c_932 := fnT okO_932 mixed p_932 (by kernel_rfl) (by kernel_rfl) (L := L0) (kp := false) (by kernel_rfl) (inn := (innN fr_932)) (out := (outN fr_932)) (fun _ _ => rfl) (loopsL (l := []) (by kernel_rfl) trivial) (fun x y => by kernel_rfl)
noncomputable def O_923 : Orc := (orm c_93e (orm c_92e (orm c_947 (orm c_941 (orm c_92d (orm c_948 (orm c_944 (orm c_931 (orm c_949 c_93c)))))))))
theorem okO_923 : OrcOk PR O_923 := (orm_ok ok_93e (orm_ok ok_92e (orm_ok ok_947 (orm_ok ok_941 (orm_ok ok_92d (orm_ok ok_948 (orm_ok ok_944 (orm_ok ok_931 (orm_ok ok_949 ok_93c)))))))))
abbrev fa_923 : Fm := (.pair (.i .i64) (.pair (.i .i64) (.pair (.i .u32) (.pair (.i .u32) .unit))))
abbrev fr_923 : Fm := (.tup (.pair (.i .u32) (.pair (.agg (.pair .b (.pair .b (.pair .b (.pair .b (.pair .b .unit)))))) .unit)))
noncomputable def F_923 (a0 : Int) (a1 : Int) (a2 : Int) (a3 : Int) : Option (Int × (Bool × Bool × Bool × Bool × Bool × Unit) × Unit) :=
 ((F_93e a0 [a2, a3])).bind fun r0 =>
 let x1 : Bool := r0.2.2.1
 bif x1 then
 (some (r0.1, (r0.2.1, ())))
 else
 ((F_92e a0 a2)).bind fun r2 =>
 ((F_92e a0 a3)).bind fun r3 =>
 let x4 : Bool := (!(r2 == r3))
 ((F_947 a0 a2)).bind fun r5 =>
 ((F_947 a0 a3)).bind fun r6 =>
 bif (r5 == r6) then
 bif (r5 == (0:Int)) then
 ((F_941 a0)).bind fun r7 =>
 (some r7)
 else
 bif (r5 == (3:Int)) then
 ((F_941 a0)).bind fun r8 =>
 (some r8)
 else
 bif (r5 == (3:Int)) then
 ((F_92d a0 x4)).bind fun r9 =>
 (some (r9, ((false, (false, (false, (false, (false, ()))))), ())))
 else
 bif (r6 == (3:Int)) then
 ((F_948 a0 x4)).bind fun r10 =>
 (some (r10, ((false, (false, (false, (false, (false, ()))))), ())))
 else
 bif (r5 == (0:Int)) then
 ((F_948 a0 x4)).bind fun r11 =>
 (some (r11, ((false, (false, (false, (false, (false, ()))))), ())))
 else
 bif (r6 == (0:Int)) then
 ((F_92d a0 x4)).bind fun r12 =>
 (some (r12, ((false, (true, (false, (false, (false, ()))))), ())))
 else
 ((F_944 a0 a2)).bind fun r13 =>
 let x14 : Int := r13.2.2.1
 ((F_944 a0 a3)).bind fun r15 =>
 let x16 : Int := r15.2.2.1
 let x17 : Bool := (x16 == (0:Int))
 ((F_931 x14)).bind fun r18 =>
 let x19 : Int := (IntKind.wrap .i64 ((62:Int) - r18))
 ((F_949 x14 (IntKind.wrap .i64 ((0:Int) - x19)))).bind fun r20 =>
 bif x17 then
 none
 else
 bif x17 then
 none
 else
 ((F_93c a0 a1 x4 (IntKind.wrap .i64 ((IntKind.wrap .i64 (r13.2.1 - x19)) - r15.2.1)) (IntKind.wrap .u64 (Int.tdiv r20.1 x16)) ((Int.tmod r20.1 x16) != (0:Int)))).bind fun r21 =>
 (some r21)
 else
 bif (r5 == (3:Int)) then
 ((F_92d a0 x4)).bind fun r22 =>
 (some (r22, ((false, (false, (false, (false, (false, ()))))), ())))
 else
 bif (r6 == (3:Int)) then
 ((F_948 a0 x4)).bind fun r23 =>
 (some (r23, ((false, (false, (false, (false, (false, ()))))), ())))
 else
 bif (r5 == (0:Int)) then
 ((F_948 a0 x4)).bind fun r24 =>
 (some (r24, ((false, (false, (false, (false, (false, ()))))), ())))
 else
 bif (r6 == (0:Int)) then
 ((F_92d a0 x4)).bind fun r25 =>
 (some (r25, ((false, (true, (false, (false, (false, ()))))), ())))
 else
 ((F_944 a0 a2)).bind fun r26 =>
 let x27 : Int := r26.2.2.1
 ((F_944 a0 a3)).bind fun r28 =>
 let x29 : Int := r28.2.2.1
 let x30 : Bool := (x29 == (0:Int))
 ((F_931 x27)).bind fun r31 =>
 let x32 : Int := (IntKind.wrap .i64 ((62:Int) - r31))
 ((F_949 x27 (IntKind.wrap .i64 ((0:Int) - x32)))).bind fun r33 =>
 bif x30 then
 none
 else
 bif x30 then
 none
 else
 ((F_93c a0 a1 x4 (IntKind.wrap .i64 ((IntKind.wrap .i64 (r26.2.1 - x32)) - r28.2.1)) (IntKind.wrap .u64 (Int.tdiv r33.1 x29)) ((Int.tmod r33.1 x29) != (0:Int)))).bind fun r34 =>
 (some r34)
noncomputable def G_923 : T fa_923 → TH hN0 → Option (Int × (Bool × Bool × Bool × Bool × Bool × Unit) × Unit) := fun x y => F_923 x.1 x.2.1 x.2.2.1 x.2.2.2.1
noncomputable def c_923 : Orc := ent i_923 [] 0 (sp fa_923 hN0 fr_923 hN0 G_923 (outN fr_923))
theorem ok_923 : OrcOk PR c_923 := fnT okO_923 mixed p_923 (by kernel_rfl) (by kernel_rfl) (L := L0) (kp := false) (by kernel_rfl) (inn := (innN fr_923)) (out := (outN fr_923)) (fun _ _ => rfl) (loopsL (l := []) (by kernel_rfl) trivial) (fun x y => by kernel_rfl)
noncomputable def O_9f : Orc := c_923
theorem okO_9f : OrcOk PR O_9f := ok_923
abbrev fa_9f : Fm := (.pair (.i .u32) (.pair (.i .u32) .unit))
abbrev fr_9f : Fm := (.i .u32)
noncomputable def F_9f (a0 : Int) (a1 : Int) : Option (Int) :=
 ((F_923 (2:Int) (0:Int) a0 a1)).bind fun r0 =>
 (some r0.1)
noncomputable def G_9f : T fa_9f → TH hN0 → Option (Int) := fun x y => F_9f x.1 x.2.1
noncomputable def c_9f : Orc := ent i_9f [] 0 (sp fa_9f hN0 fr_9f hN0 G_9f (outN fr_9f))
theorem ok_9f : OrcOk PR c_9f := fnT okO_9f mixed p_9f (by kernel_rfl) (by kernel_rfl) (L := L0) (kp := false) (by kernel_rfl) (inn := (innN fr_9f)) (out := (outN fr_9f)) (fun _ _ => rfl) (loopsL (l := []) (by kernel_rfl) trivial) (fun x y => by kernel_rfl)
noncomputable def O_93b : Orc := (orm c_947 (orm c_950 (orm c_941 (orm c_92e (orm c_92d (orm c_944 c_93c))))))
theorem okO_93b : OrcOk PR O_93b := (orm_ok ok_947 (orm_ok ok_950 (orm_ok ok_941 (orm_ok ok_92e (orm_ok ok_92d (orm_ok ok_944 ok_93c))))))
abbrev fa_93b : Fm := (.pair (.i .i64) (.pair (.i .i64) (.pair (.i .i64) (.pair (.i .u32) .unit))))
abbrev fr_93b : Fm := (.tup (.pair (.i .u32) (.pair (.agg (.pair .b (.pair .b (.pair .b (.pair .b (.pair .b .unit)))))) .unit)))
noncomputable def F_93b (a0 : Int) (a1 : Int) (a2 : Int) (a3 : Int) : Option (Int × (Bool × Bool × Bool × Bool × Bool × Unit) × Unit) :=
 ((F_947 a0 a3)).bind fun r0 =>
 bif (r0 == (4:Int)) then
 ((F_950 a1)).bind fun r1 =>
 (some (r1, ((false, (false, (false, (false, (false, ()))))), ())))
 else
 bif (r0 == (5:Int)) then
 ((F_941 a1)).bind fun r2 =>
 (some r2)
 else
 bif (r0 == (3:Int)) then
 ((F_92e a0 a3)).bind fun r3 =>
 ((F_92d a1 r3)).bind fun r4 =>
 (some (r4, ((false, (false, (false, (false, (false, ()))))), ())))
 else
 ((F_944 a0 a3)).bind fun r5 =>
 let x6 : Int := r5.2.2.1
 ((F_93c a1 a2 r5.1 r5.2.1 x6 false)).bind fun r7 =>
 (some r7)
noncomputable def G_93b : T fa_93b → TH hN0 → Option (Int × (Bool × Bool × Bool × Bool × Bool × Unit) × Unit) := fun x y => F_93b x.1 x.2.1 x.2.2.1 x.2.2.2.1
noncomputable def c_93b : Orc := ent i_93b [] 0 (sp fa_93b hN0 fr_93b hN0 G_93b (outN fr_93b))
theorem ok_93b : OrcOk PR c_93b := fnT okO_93b mixed p_93b (by kernel_rfl) (by kernel_rfl) (L := L0) (kp := false) (by kernel_rfl) (inn := (innN fr_93b)) (out := (outN fr_93b)) (fun _ _ => rfl) (loopsL (l := []) (by kernel_rfl) trivial) (fun x y => by kernel_rfl)
noncomputable def O_91f : Orc := c_93b
theorem okO_91f : OrcOk PR O_91f := ok_93b
abbrev fa_91f : Fm := (.pair (.i .i64) (.pair (.i .u32) .unit))
abbrev fr_91f : Fm := (.i .u32)
noncomputable def F_91f (a0 : Int) (a1 : Int) : Option (Int) :=
 ((F_93b a0 (2:Int) (0:Int) a1)).bind fun r0 =>
 (some r0.1)
noncomputable def G_91f : T fa_91f → TH hN0 → Option (Int) := fun x y => F_91f x.1 x.2.1
noncomputable def c_91f : Orc := ent i_91f [] 0 (sp fa_91f hN0 fr_91f hN0 G_91f (outN fr_91f))
theorem ok_91f : OrcOk PR c_91f := fnT okO_91f mixed p_91f (by kernel_rfl) (by kernel_rfl) (L := L0) (kp := false) (by kernel_rfl) (inn := (innN fr_91f)) (out := (outN fr_91f)) (fun _ _ => rfl) (loopsL (l := []) (by kernel_rfl) trivial) (fun x y => by kernel_rfl)
noncomputable def O_92a : Orc := c_94f
theorem okO_92a : OrcOk PR O_92a := ok_94f
abbrev fa_92a : Fm := (.pair (.i .u32) .unit)
abbrev fr_92a : Fm := .b
noncomputable def F_92a (a0 : Int) : Option (Bool) :=
 ((F_94f (2:Int) a0)).bind fun r0 =>
 (some r0)
noncomputable def G_92a : T fa_92a → TH hN0 → Option (Bool) := fun x y => F_92a x.1
noncomputable def c_92a : Orc := ent i_92a [] 0 (sp fa_92a hN0 fr_92a hN0 G_92a (outN fr_92a))
theorem ok_92a : OrcOk PR c_92a := fnT okO_92a mixed p_92a (by kernel_rfl) (by kernel_rfl) (L := L0) (kp := false) (by kernel_rfl) (inn := (innN fr_92a)) (out := (outN fr_92a)) (fun _ _ => rfl) (loopsL (l := []) (by kernel_rfl) trivial) (fun x y => by kernel_rfl)
noncomputable def O_92b : Orc := c_950
theorem okO_92b : OrcOk PR O_92b := ok_950
abbrev fa_92b : Fm := .unit
abbrev fr_92b : Fm := (.i .u32)
noncomputable def F_92b  : Option (Int) :=
 (some (2143289344:Int))
noncomputable def G_92b : T fa_92b → TH hN0 → Option (Int) := fun x y => F_92b
noncomputable def c_92b : Orc := ent i_92b [] 0 (sp fa_92b hN0 fr_92b hN0 G_92b (outN fr_92b))
theorem ok_92b : OrcOk PR c_92b := fnT okO_92b mixed p_92b (by kernel_rfl) (by kernel_rfl) (L := L0) (kp := false) (by kernel_rfl) (inn := (innN fr_92b)) (out := (outN fr_92b)) (fun _ _ => rfl) (loopsL (l := []) (by kernel_rfl) trivial) (fun x y => by kernel_rfl)
noncomputable def O_94e : Orc := c_93f
theorem okO_94e : OrcOk PR O_94e := ok_93f
abbrev fa_94e : Fm := (.pair (.i .u32) .unit)
abbrev fr_94e : Fm := (.i .u32)
noncomputable def F_94e (a0 : Int) : Option (Int) :=
 (some (bits .xor .u32 (bits .and .u32 a0 (4294967295:Int)) (2147483648:Int)))
noncomputable def G_94e : T fa_94e → TH hN0 → Option (Int) := fun x y => F_94e x.1
noncomputable def c_94e : Orc := ent i_94e [] 0 (sp fa_94e hN0 fr_94e hN0 G_94e (outN fr_94e))
theorem ok_94e : OrcOk PR c_94e := fnT okO_94e mixed p_94e (by kernel_rfl) (by kernel_rfl) (L := L0) (kp := false) (by kernel_rfl) (inn := (innN fr_94e)) (out := (outN fr_94e)) (fun _ _ => rfl) (loopsL (l := []) (by kernel_rfl) trivial) (fun x y => by kernel_rfl)
noncomputable def O_933 : Orc := c_958
theorem okO_933 : OrcOk PR O_933 := ok_958
abbrev fa_933 : Fm := (.pair (.i .u32) (.pair (.i .u32) .unit))
abbrev fr_933 : Fm := .b
noncomputable def F_933 (a0 : Int) (a1 : Int) : Option (Bool) :=
 ((F_958 (2:Int) a1 a0)).bind fun r0 =>
 (some r0)
noncomputable def G_933 : T fa_933 → TH hN0 → Option (Bool) := fun x y => F_933 x.1 x.2.1
noncomputable def c_933 : Orc := ent i_933 [] 0 (sp fa_933 hN0 fr_933 hN0 G_933 (outN fr_933))
theorem ok_933 : OrcOk PR c_933 := fnT okO_933 mixed p_933 (by kernel_rfl) (by kernel_rfl) (L := L0) (kp := false) (by kernel_rfl) (inn := (innN fr_933)) (out := (outN fr_933)) (fun _ _ => rfl) (loopsL (l := []) (by kernel_rfl) trivial) (fun x y => by kernel_rfl)
end Go.Proofs.Ytfpjkmgfkaoapaa.VI
