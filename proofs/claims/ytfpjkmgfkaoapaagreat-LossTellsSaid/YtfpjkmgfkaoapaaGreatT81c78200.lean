import Derived.Test.YtfpjkmgfkaoapaaGreatT7a12c0a6
namespace Go.Proofs.YtfpjkmgfkaoapaaGreat.VI
set_option linter.unusedVariables false
set_option linter.unusedSimpArgs false
set_option maxRecDepth 100000
noncomputable def O_981 : Orc := (orm c_978 c_94e)
theorem okO_981 : OrcOk PR O_981 := (orm_ok ok_978 ok_94e)
abbrev fa_981 : Fm := (.pair (.i .i64) (.pair (.si .u32) .unit))
abbrev fr_981 : Fm := (.tup (.pair (.i .u32) (.pair (.agg (.pair .b (.pair .b (.pair .b (.pair .b (.pair .b .unit)))))) (.pair .b .unit))))
abbrev ff_981_0 : Fm := (.pair (.i .i64) (.us 4 (.cst (.ref 0 1 0) (.us 1 (.pair .b (.cst (.ref 1 1 0) (.us 3 (.pair (.si .u32) (.pair (.i .i64) (.pair (.i .i64) (.us 23 .unit)))))))))))
abbrev hf_981_0 : List BF := [(.list 1 y_93 true (.pair .b (.pair .b (.pair .b (.pair .b (.pair .b .unit)))))), (.list 1 y_93 true (.pair .b (.pair .b (.pair .b (.pair .b (.pair .b .unit))))))]
abbrev X_981_0 : Xs := (.one (.exit 0) [0, 5, 7, 8] (.pair (.i .i64) (.us 4 (.cst (.ref 0 1 0) (.us 1 (.pair .b (.cst (.ref 1 1 0) (.us 29 .unit))))))) [(.list 1 y_93 true (.pair .b (.pair .b (.pair .b (.pair .b (.pair .b .unit)))))), (.list 1 y_93 true (.pair .b (.pair .b (.pair .b (.pair .b (.pair .b .unit))))))])
abbrev S_981_0 : Type := T ff_981_0 × TH hf_981_0
abbrev E_981_0 : Type := TX X_981_0
noncomputable def LB_981_0 : Lps := L0
noncomputable def st_981_0 : StepT S_981_0 E_981_0 := fun R v kn ko =>
 let x0 : Int := v.1.1
 let x1 : List Int := v.1.2.2.1
 let x2 : Int := v.1.2.2.2.2.1
 let x3 : Bool := v.1.2.1
 let x4 : Bool := v.2.2.1.1
 bif (decide (x2 < v.1.2.2.2.1)) then
 bif (decide (((0:Int) ≤ x2) ∧ (x2 < (((List.length x1) : Nat) : Int)))) then
 ((F_978 x0 (List.getD x1 (Int.toNat x2) (0:Int)))).bind fun r5 =>
 bif x3 then
 bif x4 then
 (kn ((x0, (true, ((List.take (List.length x1) x1), (v.1.2.2.2.1, ((IntKind.wrap .i64 (x2 + (1:Int))), ()))))), (v.2.1, ((true, v.2.2.1.2), ()))))
 else
 (kn ((x0, (true, ((List.take (List.length x1) x1), (v.1.2.2.2.1, ((IntKind.wrap .i64 (x2 + (1:Int))), ()))))), (v.2.1, (((r5 == (5:Int)), v.2.2.1.2), ()))))
 else
 bif x4 then
 (kn ((x0, ((decide (r5 ≥ (4:Int))), ((List.take (List.length x1) x1), (v.1.2.2.2.1, ((IntKind.wrap .i64 (x2 + (1:Int))), ()))))), (v.2.1, ((true, v.2.2.1.2), ()))))
 else
 (kn ((x0, ((decide (r5 ≥ (4:Int))), ((List.take (List.length x1) x1), (v.1.2.2.2.1, ((IntKind.wrap .i64 (x2 + (1:Int))), ()))))), (v.2.1, (((r5 == (5:Int)), v.2.2.1.2), ()))))
 else
 none
 else
 (ko ((x0, (x3, ())), v.2))
noncomputable def ls_981_0 : St → LTr := (lsum ff_981_0 hf_981_0 X_981_0 Prod.mk id st_981_0 (hd [] [] [0, 5, 7, 8, 12, 13, 14] 0))
theorem lp_981_0 : LoopOk PR 0 (lpN f_981 0) ls_981_0 := loopT okO_981 mixed (L := LB_981_0) (d := 1) (bs := []) (ks := [0, 5, 7, 8, 12, 13, 14]) (loopsL (l := []) (by kernel_rfl) trivial) (by kernel_rfl) (inS := Prod.mk) (outS := id) (fun _ _ => rfl) (inX := id) (outX := id) (fun _ => rfl) (fun v R kn ko => by kernel_rfl) (hd_wk [] [] [0, 5, 7, 8, 12, 13, 14] 0)
noncomputable def L_981 : Lps := (lpB 5 (.by_ ls_981_0) L0)
noncomputable def F_981 (a0 : Int) (a1 : List Int) : Option (Int × (Bool × Bool × Bool × Bool × Bool × Unit) × Bool × Unit) :=
 ((lim st_981_0 ((a0, (false, ((List.take (List.length a1) a1), ((((List.length a1) : Nat) : Int), ((0:Int), ()))))), ((false, (false, (false, (false, (false, ()))))), ((false, (false, (false, (false, (false, ()))))), ()))))).bind fun r0 =>
 ((F_94e r0.1.1)).bind fun r1 =>
 (some (r1, (r0.2.2.1, r0.1.2)))
noncomputable def G_981 : T fa_981 → TH hN0 → Option (Int × (Bool × Bool × Bool × Bool × Bool × Unit) × Bool × Unit) := fun x y => F_981 x.1 x.2.1
noncomputable def c_981 : Orc := ent i_981 [] 0 (sp fa_981 hN0 fr_981 hN0 G_981 (outN fr_981))
theorem ok_981 : OrcOk PR c_981 := fnT okO_981 mixed p_981 (by kernel_rfl) (by kernel_rfl) (L := L_981) (kp := false) (by kernel_rfl) (inn := (innN fr_981)) (out := (outN fr_981)) (fun _ _ => rfl) (loopsL (l := [((lpN f_981 0), ls_981_0)]) (by kernel_rfl) ⟨lp_981_0, trivial⟩) (fun x y => by kernel_rfl)
noncomputable def O_979 : Orc := c_94e
theorem okO_979 : OrcOk PR O_979 := ok_94e
abbrev fa_979 : Fm := (.pair (.i .i64) .unit)
abbrev fr_979 : Fm := (.tup (.pair (.i .u32) (.pair (.agg (.pair .b (.pair .b (.pair .b (.pair .b (.pair .b .unit)))))) .unit)))
noncomputable def F_979 (a0 : Int) : Option (Int × (Bool × Bool × Bool × Bool × Bool × Unit) × Unit) :=
 ((F_94e a0)).bind fun r0 =>
 (some (r0, ((true, (false, (false, (false, (false, ()))))), ())))
noncomputable def G_979 : T fa_979 → TH hN0 → Option (Int × (Bool × Bool × Bool × Bool × Bool × Unit) × Unit) := fun x y => F_979 x.1
noncomputable def c_979 : Orc := ent i_979 [] 0 (sp fa_979 hN0 fr_979 hN0 G_979 (outN fr_979))
theorem ok_979 : OrcOk PR c_979 := fnT okO_979 mixed p_979 (by kernel_rfl) (by kernel_rfl) (L := L0) (kp := false) (by kernel_rfl) (inn := (innN fr_979)) (out := (outN fr_979)) (fun _ _ => rfl) (loopsL (l := []) (by kernel_rfl) trivial) (fun x y => by kernel_rfl)
noncomputable def O_982 : Orc := (orm c_951 c_960)
theorem okO_982 : OrcOk PR O_982 := (orm_ok ok_951 ok_960)
abbrev fa_982 : Fm := (.pair (.i .i64) (.pair (.i .u32) (.pair (.i .u32) .unit)))
abbrev fr_982 : Fm := .b
noncomputable def F_982 (a0 : Int) (a1 : Int) (a2 : Int) : Option (Bool) :=
 ((F_951 a0 a1)).bind fun r0 =>
 bif r0 then
 ((F_960 a0 a2)).bind fun r1 =>
 bif r1 then
 (some true)
 else
 ((F_960 a0 a1)).bind fun r2 =>
 bif r2 then
 ((F_951 a0 a2)).bind fun r3 =>
 (some r3)
 else
 (some false)
 else
 ((F_960 a0 a1)).bind fun r4 =>
 bif r4 then
 ((F_951 a0 a2)).bind fun r5 =>
 (some r5)
 else
 (some false)
noncomputable def G_982 : T fa_982 → TH hN0 → Option (Bool) := fun x y => F_982 x.1 x.2.1 x.2.2.1
noncomputable def c_982 : Orc := ent i_982 [] 0 (sp fa_982 hN0 fr_982 hN0 G_982 (outN fr_982))
theorem ok_982 : OrcOk PR c_982 := fnT okO_982 mixed p_982 (by kernel_rfl) (by kernel_rfl) (L := L0) (kp := false) (by kernel_rfl) (inn := (innN fr_982)) (out := (outN fr_982)) (fun _ _ => rfl) (loopsL (l := []) (by kernel_rfl) trivial) (fun x y => by kernel_rfl)
noncomputable def O_97a : Orc := c_961
theorem okO_97a : OrcOk PR O_97a := ok_961
abbrev fa_97a : Fm := (.pair (.i .i64) (.pair (.i .u32) .unit))
abbrev fr_97a : Fm := (.agg (.pair .b (.pair (.i .i64) (.pair (.i .u64) (.pair .b .unit)))))
noncomputable def F_97a (a0 : Int) (a1 : Int) : Option (Bool × Int × Int × Bool × Unit) :=
 ((F_961 a0 a1)).bind fun r0 =>
 let x1 : Int := r0.2.2.1
 (some (r0.1, (r0.2.1, (x1, (false, ())))))
noncomputable def G_97a : T fa_97a → TH hN0 → Option (Bool × Int × Int × Bool × Unit) := fun x y => F_97a x.1 x.2.1
noncomputable def c_97a : Orc := ent i_97a [] 0 (sp fa_97a hN0 fr_97a hN0 G_97a (outN fr_97a))
theorem ok_97a : OrcOk PR c_97a := fnT okO_97a mixed p_97a (by kernel_rfl) (by kernel_rfl) (L := L0) (kp := false) (by kernel_rfl) (inn := (innN fr_97a)) (out := (outN fr_97a)) (fun _ _ => rfl) (loopsL (l := []) (by kernel_rfl) trivial) (fun x y => by kernel_rfl)
noncomputable def O_983 : Orc := c_97a
theorem okO_983 : OrcOk PR O_983 := ok_97a
abbrev fa_983 : Fm := (.pair (.i .i64) (.pair (.i .u32) (.pair (.i .u32) .unit)))
abbrev fr_983 : Fm := (.agg (.pair .b (.pair (.i .i64) (.pair (.i .u64) (.pair .b .unit)))))
noncomputable def F_983 (a0 : Int) (a1 : Int) (a2 : Int) : Option (Bool × Int × Int × Bool × Unit) :=
 ((F_97a a0 a1)).bind fun r0 =>
 let x1 : Int := r0.2.2.1
 ((F_97a a0 a2)).bind fun r2 =>
 let x3 : Int := r2.2.2.1
 (some ((!(r0.1 == r2.1)), ((IntKind.wrap .i64 (r0.2.1 + r2.2.1)), ((IntKind.wrap .u64 (x1 * x3)), (false, ())))))
noncomputable def G_983 : T fa_983 → TH hN0 → Option (Bool × Int × Int × Bool × Unit) := fun x y => F_983 x.1 x.2.1 x.2.2.1
noncomputable def c_983 : Orc := ent i_983 [] 0 (sp fa_983 hN0 fr_983 hN0 G_983 (outN fr_983))
theorem ok_983 : OrcOk PR c_983 := fnT okO_983 mixed p_983 (by kernel_rfl) (by kernel_rfl) (L := L0) (kp := false) (by kernel_rfl) (inn := (innN fr_983)) (out := (outN fr_983)) (fun _ _ => rfl) (loopsL (l := []) (by kernel_rfl) trivial) (fun x y => by kernel_rfl)
noncomputable def O_958 : Orc := (orm c_981 (orm c_982 (orm c_979 (orm c_952 (orm c_960 (orm c_95f (orm c_983 c_97b)))))))
theorem okO_958 : OrcOk PR O_958 := (orm_ok ok_981 (orm_ok ok_982 (orm_ok ok_979 (orm_ok ok_952 (orm_ok ok_960 (orm_ok ok_95f (orm_ok ok_983 ok_97b)))))))
abbrev fa_958 : Fm := (.pair (.i .i64) (.pair (.i .i64) (.pair (.i .u32) (.pair (.i .u32) .unit))))
abbrev fr_958 : Fm := (.tup (.pair (.i .u32) (.pair (.agg (.pair .b (.pair .b (.pair .b (.pair .b (.pair .b .unit)))))) .unit)))
noncomputable def F_958 (a0 : Int) (a1 : Int) (a2 : Int) (a3 : Int) : Option (Int × (Bool × Bool × Bool × Bool × Bool × Unit) × Unit) :=
 ((F_981 a0 [a2, a3])).bind fun r0 =>
 let x1 : Bool := r0.2.2.1
 bif x1 then
 (some (r0.1, (r0.2.1, ())))
 else
 ((F_982 a0 a2 a3)).bind fun r2 =>
 bif r2 then
 ((F_979 a0)).bind fun r3 =>
 (some r3)
 else
 ((F_952 a0 a2)).bind fun r4 =>
 ((F_952 a0 a3)).bind fun r5 =>
 let x6 : Bool := (!(r4 == r5))
 ((F_960 a0 a2)).bind fun r7 =>
 bif r7 then
 ((F_95f a0 x6)).bind fun r8 =>
 (some (r8, ((false, (false, (false, (false, (false, ()))))), ())))
 else
 ((F_960 a0 a3)).bind fun r9 =>
 bif r9 then
 ((F_95f a0 x6)).bind fun r10 =>
 (some (r10, ((false, (false, (false, (false, (false, ()))))), ())))
 else
 ((F_983 a0 a2 a3)).bind fun r11 =>
 let x12 : Int := r11.2.2.1
 ((F_97b a0 a1 x6 r11.2.1 x12 false)).bind fun r13 =>
 (some r13)
noncomputable def G_958 : T fa_958 → TH hN0 → Option (Int × (Bool × Bool × Bool × Bool × Bool × Unit) × Unit) := fun x y => F_958 x.1 x.2.1 x.2.2.1 x.2.2.2.1
noncomputable def c_958 : Orc := ent i_958 [] 0 (sp fa_958 hN0 fr_958 hN0 G_958 (outN fr_958))
theorem ok_958 : OrcOk PR c_958 := fnT okO_958 mixed p_958 (by kernel_rfl) (by kernel_rfl) (L := L0) (kp := false) (by kernel_rfl) (inn := (innN fr_958)) (out := (outN fr_958)) (fun _ _ => rfl) (loopsL (l := []) (by kernel_rfl) trivial) (fun x y => by kernel_rfl)
noncomputable def O_928 : Orc := c_958
theorem okO_928 : OrcOk PR O_928 := ok_958
abbrev fa_928 : Fm := (.pair (.i .u32) (.pair (.i .u32) .unit))
abbrev fr_928 : Fm := (.i .u32)
noncomputable def F_928 (a0 : Int) (a1 : Int) : Option (Int) :=
 ((F_958 (2:Int) (0:Int) a0 a1)).bind fun r0 =>
 (some r0.1)
noncomputable def G_928 : T fa_928 → TH hN0 → Option (Int) := fun x y => F_928 x.1 x.2.1
noncomputable def c_928 : Orc := ent i_928 [] 0 (sp fa_928 hN0 fr_928 hN0 G_928 (outN fr_928))
theorem ok_928 : OrcOk PR c_928 := fnT okO_928 mixed p_928 (by kernel_rfl) (by kernel_rfl) (L := L0) (kp := false) (by kernel_rfl) (inn := (innN fr_928)) (out := (outN fr_928)) (fun _ _ => rfl) (loopsL (l := []) (by kernel_rfl) trivial) (fun x y => by kernel_rfl)
noncomputable def O_989 : Orc := (orm c_979 c_95f)
theorem okO_989 : OrcOk PR O_989 := (orm_ok ok_979 ok_95f)
abbrev fa_989 : Fm := (.pair (.i .i64) (.pair .b (.pair .b (.pair .b (.pair .b .unit)))))
abbrev fr_989 : Fm := (.tup (.pair (.i .u32) (.pair (.agg (.pair .b (.pair .b (.pair .b (.pair .b (.pair .b .unit)))))) .unit)))
noncomputable def F_989 (a0 : Int) (a1 : Bool) (a2 : Bool) (a3 : Bool) (a4 : Bool) : Option (Int × (Bool × Bool × Bool × Bool × Bool × Unit) × Unit) :=
 bif a3 then
 bif a4 then
 bif (!(a1 == a2)) then
 ((F_979 a0)).bind fun r0 =>
 (some r0)
 else
 bif a3 then
 ((F_95f a0 a1)).bind fun r1 =>
 (some (r1, ((false, (false, (false, (false, (false, ()))))), ())))
 else
 ((F_95f a0 a2)).bind fun r2 =>
 (some (r2, ((false, (false, (false, (false, (false, ()))))), ())))
 else
 bif a3 then
 ((F_95f a0 a1)).bind fun r3 =>
 (some (r3, ((false, (false, (false, (false, (false, ()))))), ())))
 else
 ((F_95f a0 a2)).bind fun r4 =>
 (some (r4, ((false, (false, (false, (false, (false, ()))))), ())))
 else
 bif a3 then
 ((F_95f a0 a1)).bind fun r5 =>
 (some (r5, ((false, (false, (false, (false, (false, ()))))), ())))
 else
 ((F_95f a0 a2)).bind fun r6 =>
 (some (r6, ((false, (false, (false, (false, (false, ()))))), ())))
noncomputable def G_989 : T fa_989 → TH hN0 → Option (Int × (Bool × Bool × Bool × Bool × Bool × Unit) × Unit) := fun x y => F_989 x.1 x.2.1 x.2.2.1 x.2.2.2.1 x.2.2.2.2.1
noncomputable def c_989 : Orc := ent i_989 [] 0 (sp fa_989 hN0 fr_989 hN0 G_989 (outN fr_989))
theorem ok_989 : OrcOk PR c_989 := fnT okO_989 mixed p_989 (by kernel_rfl) (by kernel_rfl) (L := L0) (kp := false) (by kernel_rfl) (inn := (innN fr_989)) (out := (outN fr_989)) (fun _ _ => rfl) (loopsL (l := []) (by kernel_rfl) trivial) (fun x y => by kernel_rfl)
noncomputable def O_99c : Orc := (orm c_962 c_985)
theorem okO_99c : OrcOk PR O_99c := (orm_ok ok_962 ok_985)
abbrev fa_99c : Fm := (.pair (.agg (.pair .b (.pair (.i .i64) (.pair (.i .u64) (.pair .b .unit))))) .unit)
abbrev fr_99c : Fm := (.agg (.pair .b (.pair (.i .i64) (.pair (.i .u64) (.pair .b .unit)))))
noncomputable def F_99c (a0 : Bool × Int × Int × Bool × Unit) : Option (Bool × Int × Int × Bool × Unit) :=
 let x0 : Int := a0.2.2.1
 ((F_962 x0)).bind fun r1 =>
 let x2 : Int := (IntKind.wrap .i64 ((62:Int) - r1))
 ((F_985 x0 (IntKind.wrap .i64 ((0:Int) - x2)))).bind fun r3 =>
 (some (a0.1, ((IntKind.wrap .i64 (a0.2.1 - x2)), (r3.1, a0.2.2.2))))
noncomputable def G_99c : T fa_99c → TH hN0 → Option (Bool × Int × Int × Bool × Unit) := fun x y => F_99c x.1
noncomputable def c_99c : Orc := ent i_99c [] 0 (sp fa_99c hN0 fr_99c hN0 G_99c (outN fr_99c))
theorem ok_99c : OrcOk PR c_99c := fnT okO_99c mixed p_99c (by kernel_rfl) (by kernel_rfl) (L := L0) (kp := false) (by kernel_rfl) (inn := (innN fr_99c)) (out := (outN fr_99c)) (fun _ _ => rfl) (loopsL (l := []) (by kernel_rfl) trivial) (fun x y => by kernel_rfl)
noncomputable def O_98a : Orc := (orm c_99c c_985)
theorem okO_98a : OrcOk PR O_98a := (orm_ok ok_99c ok_985)
abbrev fa_98a : Fm := (.pair (.agg (.pair .b (.pair (.i .i64) (.pair (.i .u64) (.pair .b .unit))))) (.pair (.agg (.pair .b (.pair (.i .i64) (.pair (.i .u64) (.pair .b .unit))))) .unit))
abbrev fr_98a : Fm := (.agg (.pair .b (.pair (.i .i64) (.pair (.i .u64) (.pair .b .unit)))))
noncomputable def F_98a (a0 : Bool × Int × Int × Bool × Unit) (a1 : Bool × Int × Int × Bool × Unit) : Option (Bool × Int × Int × Bool × Unit) :=
 let x0 : Int := a0.2.2.1
 let x1 : Int := a1.2.2.1
 bif (x0 == (0:Int)) then
 (some a1)
 else
 bif (x1 == (0:Int)) then
 (some a0)
 else
 ((F_99c a0)).bind fun r2 =>
 let x3 : Int := r2.2.2.1
 ((F_99c a1)).bind fun r4 =>
 let x5 : Bool := (r4.1 == r2.1)
 let x6 : Int := r4.2.2.1
 let x7 : Bool := (r2.1 == r4.1)
 bif (decide (r2.2.1 < r4.2.1)) then
 ((F_985 x3 (IntKind.wrap .i64 (r4.2.1 - r2.2.1)))).bind fun r8 =>
 let x9 : Int := (IntKind.wrap .u64 (x6 - r8.1))
 bif x5 then
 (some (r4.1, (r4.2.1, ((IntKind.wrap .u64 (x6 + r8.1)), r8.2))))
 else
 bif r8.2.1 then
 (some (r4.1, (r4.2.1, ((IntKind.wrap .u64 (x9 - (1:Int))), r8.2))))
 else
 (some (r4.1, (r4.2.1, (x9, r8.2))))
 else
 bif (r2.2.1 == r4.2.1) then
 bif (decide (x3 < x6)) then
 ((F_985 x3 (IntKind.wrap .i64 (r4.2.1 - r2.2.1)))).bind fun r10 =>
 let x11 : Int := (IntKind.wrap .u64 (x6 - r10.1))
 bif x5 then
 (some (r4.1, (r4.2.1, ((IntKind.wrap .u64 (x6 + r10.1)), r10.2))))
 else
 bif r10.2.1 then
 (some (r4.1, (r4.2.1, ((IntKind.wrap .u64 (x11 - (1:Int))), r10.2))))
 else
 (some (r4.1, (r4.2.1, (x11, r10.2))))
 else
 ((F_985 x6 (IntKind.wrap .i64 (r2.2.1 - r4.2.1)))).bind fun r12 =>
 let x13 : Int := (IntKind.wrap .u64 (x3 - r12.1))
 bif x7 then
 (some (r2.1, (r2.2.1, ((IntKind.wrap .u64 (x3 + r12.1)), r12.2))))
 else
 bif r12.2.1 then
 (some (r2.1, (r2.2.1, ((IntKind.wrap .u64 (x13 - (1:Int))), r12.2))))
 else
 (some (r2.1, (r2.2.1, (x13, r12.2))))
 else
 ((F_985 x6 (IntKind.wrap .i64 (r2.2.1 - r4.2.1)))).bind fun r14 =>
 let x15 : Int := (IntKind.wrap .u64 (x3 - r14.1))
 bif x7 then
 (some (r2.1, (r2.2.1, ((IntKind.wrap .u64 (x3 + r14.1)), r14.2))))
 else
 bif r14.2.1 then
 (some (r2.1, (r2.2.1, ((IntKind.wrap .u64 (x15 - (1:Int))), r14.2))))
 else
 (some (r2.1, (r2.2.1, (x15, r14.2))))
noncomputable def G_98a : T fa_98a → TH hN0 → Option (Bool × Int × Int × Bool × Unit) := fun x y => F_98a x.1 x.2.1
noncomputable def c_98a : Orc := ent i_98a [] 0 (sp fa_98a hN0 fr_98a hN0 G_98a (outN fr_98a))
theorem ok_98a : OrcOk PR c_98a := fnT okO_98a mixed p_98a (by kernel_rfl) (by kernel_rfl) (L := L0) (kp := false) (by kernel_rfl) (inn := (innN fr_98a)) (out := (outN fr_98a)) (fun _ _ => rfl) (loopsL (l := []) (by kernel_rfl) trivial) (fun x y => by kernel_rfl)
noncomputable def O_98b : Orc := c_984
theorem okO_98b : OrcOk PR O_98b := ok_984
abbrev fa_98b : Fm := (.pair (.i .i64) (.pair (.i .i64) (.pair .b (.pair .b .unit))))
abbrev fr_98b : Fm := (.i .u32)
noncomputable def F_98b (a0 : Int) (a1 : Int) (a2 : Bool) (a3 : Bool) : Option (Int) :=
 bif (a2 == a3) then
 ((F_984 a0 a2)).bind fun r0 =>
 (some r0)
 else
 ((F_984 a0 (a1 == (3:Int)))).bind fun r1 =>
 (some r1)
noncomputable def G_98b : T fa_98b → TH hN0 → Option (Int) := fun x y => F_98b x.1 x.2.1 x.2.2.1 x.2.2.2.1
noncomputable def c_98b : Orc := ent i_98b [] 0 (sp fa_98b hN0 fr_98b hN0 G_98b (outN fr_98b))
theorem ok_98b : OrcOk PR c_98b := fnT okO_98b mixed p_98b (by kernel_rfl) (by kernel_rfl) (L := L0) (kp := false) (by kernel_rfl) (inn := (innN fr_98b)) (out := (outN fr_98b)) (fun _ _ => rfl) (loopsL (l := []) (by kernel_rfl) trivial) (fun x y => by kernel_rfl)
noncomputable def O_96c : Orc := (orm c_982 (orm c_981 (orm c_979 (orm c_952 (orm c_960 (orm c_989 (orm c_983 (orm c_97a (orm c_98a (orm c_98b c_97b))))))))))
theorem okO_96c : OrcOk PR O_96c := (orm_ok ok_982 (orm_ok ok_981 (orm_ok ok_979 (orm_ok ok_952 (orm_ok ok_960 (orm_ok ok_989 (orm_ok ok_983 (orm_ok ok_97a (orm_ok ok_98a (orm_ok ok_98b ok_97b))))))))))
abbrev fa_96c : Fm := (.pair (.i .i64) (.pair (.i .i64) (.pair (.i .u32) (.pair (.i .u32) (.pair (.i .u32) .unit)))))
abbrev fr_96c : Fm := (.tup (.pair (.i .u32) (.pair (.agg (.pair .b (.pair .b (.pair .b (.pair .b (.pair .b .unit)))))) .unit)))
noncomputable def F_96c (a0 : Int) (a1 : Int) (a2 : Int) (a3 : Int) (a4 : Int) : Option (Int × (Bool × Bool × Bool × Bool × Bool × Unit) × Unit) :=
 ((F_982 a0 a2 a3)).bind fun r0 =>
 ((F_981 a0 [a2, a3, a4])).bind fun r1 =>
 let x2 : Bool := r1.2.2.1
 let x3 : Bool := r1.2.1.1
 bif x2 then
 bif x3 then
 (some (r1.1, ((true, r1.2.1.2), ())))
 else
 (some (r1.1, ((r0, r1.2.1.2), ())))
 else
 bif r0 then
 ((F_979 a0)).bind fun r4 =>
 (some r4)
 else
 ((F_952 a0 a2)).bind fun r5 =>
 ((F_952 a0 a3)).bind fun r6 =>
 let x7 : Bool := (!(r5 == r6))
 ((F_960 a0 a2)).bind fun r8 =>
 bif r8 then
 ((F_960 a0 a4)).bind fun r9 =>
 ((F_952 a0 a4)).bind fun r10 =>
 ((F_989 a0 x7 r10 true r9)).bind fun r11 =>
 (some r11)
 else
 ((F_960 a0 a3)).bind fun r12 =>
 ((F_960 a0 a4)).bind fun r13 =>
 bif r12 then
 ((F_952 a0 a4)).bind fun r14 =>
 ((F_989 a0 x7 r14 r12 r13)).bind fun r15 =>
 (some r15)
 else
 bif r13 then
 ((F_952 a0 a4)).bind fun r16 =>
 ((F_989 a0 x7 r16 r12 r13)).bind fun r17 =>
 (some r17)
 else
 ((F_983 a0 a2 a3)).bind fun r18 =>
 ((F_97a a0 a4)).bind fun r19 =>
 ((F_98a r18 r19)).bind fun r20 =>
 let x21 : Int := r20.2.2.1
 let x22 : Bool := r20.2.2.2.1
 bif (x21 == (0:Int)) then
 bif (!x22) then
 ((F_98b a0 a1 x7 r19.1)).bind fun r23 =>
 (some (r23, ((false, (false, (false, (false, (false, ()))))), ())))
 else
 ((F_97b a0 a1 r20.1 r20.2.1 x21 x22)).bind fun r24 =>
 (some r24)
 else
 ((F_97b a0 a1 r20.1 r20.2.1 x21 x22)).bind fun r25 =>
 (some r25)
noncomputable def G_96c : T fa_96c → TH hN0 → Option (Int × (Bool × Bool × Bool × Bool × Bool × Unit) × Unit) := fun x y => F_96c x.1 x.2.1 x.2.2.1 x.2.2.2.1 x.2.2.2.2.1
noncomputable def c_96c : Orc := ent i_96c [] 0 (sp fa_96c hN0 fr_96c hN0 G_96c (outN fr_96c))
theorem ok_96c : OrcOk PR c_96c := fnT okO_96c mixed p_96c (by kernel_rfl) (by kernel_rfl) (L := L0) (kp := false) (by kernel_rfl) (inn := (innN fr_96c)) (out := (outN fr_96c)) (fun _ _ => rfl) (loopsL (l := []) (by kernel_rfl) trivial) (fun x y => by kernel_rfl)
noncomputable def O_93a : Orc := c_96c
theorem okO_93a : OrcOk PR O_93a := ok_96c
abbrev fa_93a : Fm := (.pair (.i .u32) (.pair (.i .u32) (.pair (.i .u32) .unit)))
abbrev fr_93a : Fm := (.i .u32)
noncomputable def F_93a (a0 : Int) (a1 : Int) (a2 : Int) : Option (Int) :=
 ((F_96c (2:Int) (0:Int) a0 a1 a2)).bind fun r0 =>
 (some r0.1)
noncomputable def G_93a : T fa_93a → TH hN0 → Option (Int) := fun x y => F_93a x.1 x.2.1 x.2.2.1
noncomputable def c_93a : Orc := ent i_93a [] 0 (sp fa_93a hN0 fr_93a hN0 G_93a (outN fr_93a))
theorem ok_93a : OrcOk PR c_93a := fnT okO_93a mixed p_93a (by kernel_rfl) (by kernel_rfl) (L := L0) (kp := false) (by kernel_rfl) (inn := (innN fr_93a)) (out := (outN fr_93a)) (fun _ _ => rfl) (loopsL (l := []) (by kernel_rfl) trivial) (fun x y => by kernel_rfl)
noncomputable def O_95e : Orc := (orm c_981 (orm c_960 (orm c_952 (orm c_989 (orm c_97a (orm c_98a (orm c_98b c_97b)))))))
theorem okO_95e : OrcOk PR O_95e := (orm_ok ok_981 (orm_ok ok_960 (orm_ok ok_952 (orm_ok ok_989 (orm_ok ok_97a (orm_ok ok_98a (orm_ok ok_98b ok_97b)))))))
abbrev fa_95e : Fm := (.pair (.i .i64) (.pair (.i .i64) (.pair (.i .u32) (.pair (.i .u32) .unit))))
abbrev fr_95e : Fm := (.tup (.pair (.i .u32) (.pair (.agg (.pair .b (.pair .b (.pair .b (.pair .b (.pair .b .unit)))))) .unit)))
noncomputable def F_95e (a0 : Int) (a1 : Int) (a2 : Int) (a3 : Int) : Option (Int × (Bool × Bool × Bool × Bool × Bool × Unit) × Unit) :=
 ((F_981 a0 [a2, a3])).bind fun r0 =>
 let x1 : Bool := r0.2.2.1
 bif x1 then
 (some (r0.1, (r0.2.1, ())))
 else
 ((F_960 a0 a2)).bind fun r2 =>
 ((F_960 a0 a3)).bind fun r3 =>
 bif r2 then
 ((F_952 a0 a2)).bind fun r4 =>
 ((F_952 a0 a3)).bind fun r5 =>
 ((F_989 a0 r4 r5 r2 r3)).bind fun r6 =>
 (some r6)
 else
 bif r3 then
 ((F_952 a0 a2)).bind fun r7 =>
 ((F_952 a0 a3)).bind fun r8 =>
 ((F_989 a0 r7 r8 r2 r3)).bind fun r9 =>
 (some r9)
 else
 ((F_97a a0 a2)).bind fun r10 =>
 ((F_97a a0 a3)).bind fun r11 =>
 ((F_98a r10 r11)).bind fun r12 =>
 let x13 : Int := r12.2.2.1
 let x14 : Bool := r12.2.2.2.1
 bif (x13 == (0:Int)) then
 bif (!x14) then
 ((F_98b a0 a1 r10.1 r11.1)).bind fun r15 =>
 (some (r15, ((false, (false, (false, (false, (false, ()))))), ())))
 else
 ((F_97b a0 a1 r12.1 r12.2.1 x13 x14)).bind fun r16 =>
 (some r16)
 else
 ((F_97b a0 a1 r12.1 r12.2.1 x13 x14)).bind fun r17 =>
 (some r17)
noncomputable def G_95e : T fa_95e → TH hN0 → Option (Int × (Bool × Bool × Bool × Bool × Bool × Unit) × Unit) := fun x y => F_95e x.1 x.2.1 x.2.2.1 x.2.2.2.1
noncomputable def c_95e : Orc := ent i_95e [] 0 (sp fa_95e hN0 fr_95e hN0 G_95e (outN fr_95e))
theorem ok_95e : OrcOk PR c_95e := fnT okO_95e mixed p_95e (by kernel_rfl) (by kernel_rfl) (L := L0) (kp := false) (by kernel_rfl) (inn := (innN fr_95e)) (out := (outN fr_95e)) (fun _ _ => rfl) (loopsL (l := []) (by kernel_rfl) trivial) (fun x y => by kernel_rfl)
noncomputable def O_957 : Orc := (orm c_981 (orm c_97f c_95e))
theorem okO_957 : OrcOk PR O_957 := (orm_ok ok_981 (orm_ok ok_97f ok_95e))
abbrev fa_957 : Fm := (.pair (.i .i64) (.pair (.i .i64) (.pair (.i .u32) (.pair (.i .u32) .unit))))
abbrev fr_957 : Fm := (.tup (.pair (.i .u32) (.pair (.agg (.pair .b (.pair .b (.pair .b (.pair .b (.pair .b .unit)))))) .unit)))
noncomputable def F_957 (a0 : Int) (a1 : Int) (a2 : Int) (a3 : Int) : Option (Int × (Bool × Bool × Bool × Bool × Bool × Unit) × Unit) :=
 ((F_981 a0 [a2, a3])).bind fun r0 =>
 let x1 : Bool := r0.2.2.1
 bif x1 then
 (some (r0.1, (r0.2.1, ())))
 else
 ((F_97f a0 a3)).bind fun r2 =>
 ((F_95e a0 a1 a2 r2)).bind fun r3 =>
 (some r3)
noncomputable def G_957 : T fa_957 → TH hN0 → Option (Int × (Bool × Bool × Bool × Bool × Bool × Unit) × Unit) := fun x y => F_957 x.1 x.2.1 x.2.2.1 x.2.2.2.1
noncomputable def c_957 : Orc := ent i_957 [] 0 (sp fa_957 hN0 fr_957 hN0 G_957 (outN fr_957))
theorem ok_957 : OrcOk PR c_957 := fnT okO_957 mixed p_957 (by kernel_rfl) (by kernel_rfl) (L := L0) (kp := false) (by kernel_rfl) (inn := (innN fr_957)) (out := (outN fr_957)) (fun _ _ => rfl) (loopsL (l := []) (by kernel_rfl) trivial) (fun x y => by kernel_rfl)
noncomputable def O_931 : Orc := c_95e
theorem okO_931 : OrcOk PR O_931 := ok_95e
abbrev fa_931 : Fm := (.pair (.i .u32) (.pair (.i .u32) .unit))
abbrev fr_931 : Fm := (.i .u32)
noncomputable def F_931 (a0 : Int) (a1 : Int) : Option (Int) :=
 ((F_95e (2:Int) (0:Int) a0 a1)).bind fun r0 =>
 (some r0.1)
noncomputable def G_931 : T fa_931 → TH hN0 → Option (Int) := fun x y => F_931 x.1 x.2.1
noncomputable def c_931 : Orc := ent i_931 [] 0 (sp fa_931 hN0 fr_931 hN0 G_931 (outN fr_931))
theorem ok_931 : OrcOk PR c_931 := fnT okO_931 mixed p_931 (by kernel_rfl) (by kernel_rfl) (L := L0) (kp := false) (by kernel_rfl) (inn := (innN fr_931)) (out := (outN fr_931)) (fun _ _ => rfl) (loopsL (l := []) (by kernel_rfl) trivial) (fun x y => by kernel_rfl)
noncomputable def O_927 : Orc := c_957
theorem okO_927 : OrcOk PR O_927 := ok_957
abbrev fa_927 : Fm := (.pair (.i .u32) (.pair (.i .u32) .unit))
abbrev fr_927 : Fm := (.i .u32)
noncomputable def F_927 (a0 : Int) (a1 : Int) : Option (Int) :=
 ((F_957 (2:Int) (0:Int) a0 a1)).bind fun r0 =>
 (some r0.1)
noncomputable def G_927 : T fa_927 → TH hN0 → Option (Int) := fun x y => F_927 x.1 x.2.1
noncomputable def c_927 : Orc := ent i_927 [] 0 (sp fa_927 hN0 fr_927 hN0 G_927 (outN fr_927))
theorem ok_927 : OrcOk PR c_927 := fnT okO_927 mixed p_927 (by kernel_rfl) (by kernel_rfl) (L := L0) (kp := false) (by kernel_rfl) (inn := (innN fr_927)) (out := (outN fr_927)) (fun _ _ => rfl) (loopsL (l := []) (by kernel_rfl) trivial) (fun x y => by kernel_rfl)
noncomputable def O_99b : Orc := (orm c_962 (orm c_998 c_999))
theorem okO_99b : OrcOk PR O_99b := (orm_ok ok_962 (orm_ok ok_998 ok_999))
abbrev fa_99b : Fm := (.pair (.agg (.pair .b (.pair (.i .i64) (.pair (.i .u64) (.pair .b .unit))))) (.pair (.i .i64) .unit))
abbrev fr_99b : Fm := (.tup (.pair (.i .u64) (.pair .b .unit)))
noncomputable def F_99b (a0 : Bool × Int × Int × Bool × Unit) (a1 : Int) : Option (Int × Bool × Unit) :=
 let x0 : Int := a0.2.2.1
 ((F_962 x0)).bind fun r1 =>
 bif (decide ((IntKind.wrap .i64 (a0.2.1 + r1)) > (40:Int))) then
 (some ((1099511627776:Int), (false, ())))
 else
 ((F_998 x0 (IntKind.wrap .i64 ((0:Int) - a0.2.1)) false)).bind fun r2 =>
 ((F_999 a1 a0.1 r2.1 r2.2.1)).bind fun r3 =>
 (some ((bif r3 then (IntKind.wrap .u64 (r2.1 + (1:Int))) else r2.1), ((r2.2.1 != (0:Int)), ())))
noncomputable def G_99b : T fa_99b → TH hN0 → Option (Int × Bool × Unit) := fun x y => F_99b x.1 x.2.1
noncomputable def c_99b : Orc := ent i_99b [] 0 (sp fa_99b hN0 fr_99b hN0 G_99b (outN fr_99b))
theorem ok_99b : OrcOk PR c_99b := fnT okO_99b mixed p_99b (by kernel_rfl) (by kernel_rfl) (L := L0) (kp := false) (by kernel_rfl) (inn := (innN fr_99b)) (out := (outN fr_99b)) (fun _ _ => rfl) (loopsL (l := []) (by kernel_rfl) trivial) (fun x y => by kernel_rfl)
noncomputable def O_980 : Orc := (orm c_994 (orm c_97a c_99b))
theorem okO_980 : OrcOk PR O_980 := (orm_ok ok_994 (orm_ok ok_97a ok_99b))
abbrev fa_980 : Fm := (.pair (.i .i64) (.pair (.i .i64) (.pair (.i .u32) .unit)))
abbrev fr_980 : Fm := (.tup (.pair (.i .i32) (.pair (.agg (.pair .b (.pair .b (.pair .b (.pair .b (.pair .b .unit)))))) .unit)))
noncomputable def F_980 (a0 : Int) (a1 : Int) (a2 : Int) : Option (Int × (Bool × Bool × Bool × Bool × Bool × Unit) × Unit) :=
 ((F_994 a0 a2)).bind fun r0 =>
 bif r0 then
 ((F_97a a0 a2)).bind fun r1 =>
 ((F_99b r1 a1)).bind fun r2 =>
 let x3 : Int := (IntKind.wrap .i64 r2.1)
 let x4 : Int := (bif r1.1 then (IntKind.wrap .i64 ((0:Int) - x3)) else x3)
 let x5 : Int := (IntKind.wrap .i32 x4)
 bif (x4 == (IntKind.wrap .i64 x5)) then
 (some (x5, ((false, (false, (false, (false, r2.2)))), ())))
 else
 (some ((-(2147483648:Int)), ((true, (false, (false, (false, (false, ()))))), ())))
 else
 (some ((-(2147483648:Int)), ((true, (false, (false, (false, (false, ()))))), ())))
noncomputable def G_980 : T fa_980 → TH hN0 → Option (Int × (Bool × Bool × Bool × Bool × Bool × Unit) × Unit) := fun x y => F_980 x.1 x.2.1 x.2.2.1
noncomputable def c_980 : Orc := ent i_980 [] 0 (sp fa_980 hN0 fr_980 hN0 G_980 (outN fr_980))
theorem ok_980 : OrcOk PR c_980 := fnT okO_980 mixed p_980 (by kernel_rfl) (by kernel_rfl) (L := L0) (kp := false) (by kernel_rfl) (inn := (innN fr_980)) (out := (outN fr_980)) (fun _ _ => rfl) (loopsL (l := []) (by kernel_rfl) trivial) (fun x y => by kernel_rfl)
noncomputable def O_986 : Orc := orn
theorem okO_986 : OrcOk PR O_986 := (orn_ok _)
abbrev fa_986 : Fm := (.pair (.i .i64) .unit)
abbrev fr_986 : Fm := (.i .u64)
noncomputable def F_986 (a0 : Int) : Option (Int) :=
 bif (decide (a0 < (0:Int))) then
 (some (IntKind.wrap .u64 ((0:Int) - (IntKind.wrap .u64 a0))))
 else
 (some (IntKind.wrap .u64 a0))
noncomputable def G_986 : T fa_986 → TH hN0 → Option (Int) := fun x y => F_986 x.1
noncomputable def c_986 : Orc := ent i_986 [] 0 (sp fa_986 hN0 fr_986 hN0 G_986 (outN fr_986))
theorem ok_986 : OrcOk PR c_986 := fnT okO_986 mixed p_986 (by kernel_rfl) (by kernel_rfl) (L := L0) (kp := false) (by kernel_rfl) (inn := (innN fr_986)) (out := (outN fr_986)) (fun _ _ => rfl) (loopsL (l := []) (by kernel_rfl) trivial) (fun x y => by kernel_rfl)
noncomputable def O_95b : Orc := (orm c_986 c_97b)
theorem okO_95b : OrcOk PR O_95b := (orm_ok ok_986 ok_97b)
abbrev fa_95b : Fm := (.pair (.i .i64) (.pair (.i .i64) (.pair (.i .i64) .unit)))
abbrev fr_95b : Fm := (.tup (.pair (.i .u32) (.pair (.agg (.pair .b (.pair .b (.pair .b (.pair .b (.pair .b .unit)))))) .unit)))
noncomputable def F_95b (a0 : Int) (a1 : Int) (a2 : Int) : Option (Int × (Bool × Bool × Bool × Bool × Bool × Unit) × Unit) :=
 ((F_986 a2)).bind fun r0 =>
 ((F_97b a0 a1 (decide (a2 < (0:Int))) (0:Int) r0 false)).bind fun r1 =>
 (some r1)
noncomputable def G_95b : T fa_95b → TH hN0 → Option (Int × (Bool × Bool × Bool × Bool × Bool × Unit) × Unit) := fun x y => F_95b x.1 x.2.1 x.2.2.1
noncomputable def c_95b : Orc := ent i_95b [] 0 (sp fa_95b hN0 fr_95b hN0 G_95b (outN fr_95b))
theorem ok_95b : OrcOk PR c_95b := fnT okO_95b mixed p_95b (by kernel_rfl) (by kernel_rfl) (L := L0) (kp := false) (by kernel_rfl) (inn := (innN fr_95b)) (out := (outN fr_95b)) (fun _ _ => rfl) (loopsL (l := []) (by kernel_rfl) trivial) (fun x y => by kernel_rfl)
noncomputable def O_92c : Orc := c_95b
theorem okO_92c : OrcOk PR O_92c := ok_95b
abbrev fa_92c : Fm := (.pair (.i .i64) .unit)
abbrev fr_92c : Fm := (.i .u32)
noncomputable def F_92c (a0 : Int) : Option (Int) :=
 ((F_95b (2:Int) (0:Int) a0)).bind fun r0 =>
 (some r0.1)
noncomputable def G_92c : T fa_92c → TH hN0 → Option (Int) := fun x y => F_92c x.1
noncomputable def c_92c : Orc := ent i_92c [] 0 (sp fa_92c hN0 fr_92c hN0 G_92c (outN fr_92c))
theorem ok_92c : OrcOk PR c_92c := fnT okO_92c mixed p_92c (by kernel_rfl) (by kernel_rfl) (L := L0) (kp := false) (by kernel_rfl) (inn := (innN fr_92c)) (out := (outN fr_92c)) (fun _ _ => rfl) (loopsL (l := []) (by kernel_rfl) trivial) (fun x y => by kernel_rfl)
noncomputable def O_99d : Orc := (orm c_981 (orm c_94b (orm c_960 c_951)))
theorem okO_99d : OrcOk PR O_99d := (orm_ok ok_981 (orm_ok ok_94b (orm_ok ok_960 ok_951)))
abbrev fa_99d : Fm := (.pair (.i .i64) (.pair (.i .u32) .unit))
abbrev fr_99d : Fm := (.tup (.pair (.i .u32) (.pair (.agg (.pair .b (.pair .b (.pair .b (.pair .b (.pair .b .unit)))))) (.pair .b .unit))))
noncomputable def F_99d (a0 : Int) (a1 : Int) : Option (Int × (Bool × Bool × Bool × Bool × Bool × Unit) × Bool × Unit) :=
 ((F_981 a0 [a1])).bind fun r0 =>
 let x1 : Bool := r0.2.2.1
 bif x1 then
 (some (r0.1, (r0.2.1, (true, ()))))
 else
 ((F_94b a0)).bind fun r2 =>
 let x3 : Int := (bits .and .u32 a1 r2)
 ((F_960 a0 a1)).bind fun r4 =>
 bif r4 then
 (some (x3, ((false, (false, (false, (false, (false, ()))))), (true, ()))))
 else
 ((F_951 a0 a1)).bind fun r5 =>
 (some (x3, ((false, (false, (false, (false, (false, ()))))), (r5, ()))))
noncomputable def G_99d : T fa_99d → TH hN0 → Option (Int × (Bool × Bool × Bool × Bool × Bool × Unit) × Bool × Unit) := fun x y => F_99d x.1 x.2.1
noncomputable def c_99d : Orc := ent i_99d [] 0 (sp fa_99d hN0 fr_99d hN0 G_99d (outN fr_99d))
theorem ok_99d : OrcOk PR c_99d := fnT okO_99d mixed p_99d (by kernel_rfl) (by kernel_rfl) (L := L0) (kp := false) (by kernel_rfl) (inn := (innN fr_99d)) (out := (outN fr_99d)) (fun _ _ => rfl) (loopsL (l := []) (by kernel_rfl) trivial) (fun x y => by kernel_rfl)
noncomputable def O_98e : Orc := (orm c_99d (orm c_97a c_97b))
theorem okO_98e : OrcOk PR O_98e := (orm_ok ok_99d (orm_ok ok_97a ok_97b))
abbrev fa_98e : Fm := (.pair (.i .i64) (.pair (.i .i64) (.pair (.i .u32) (.pair (.i .i64) .unit))))
abbrev fr_98e : Fm := (.tup (.pair (.i .u32) (.pair (.agg (.pair .b (.pair .b (.pair .b (.pair .b (.pair .b .unit)))))) .unit)))
noncomputable def F_98e (a0 : Int) (a1 : Int) (a2 : Int) (a3 : Int) : Option (Int × (Bool × Bool × Bool × Bool × Bool × Unit) × Unit) :=
 ((F_99d a0 a2)).bind fun r0 =>
 let x1 : Bool := r0.2.2.1
 bif x1 then
 (some (r0.1, (r0.2.1, ())))
 else
 ((F_97a a0 a2)).bind fun r2 =>
 let x3 : Int := r2.2.2.1
 ((F_97b a0 a1 r2.1 (IntKind.wrap .i64 (r2.2.1 + (mn (mx a3 (-(5000:Int))) (5000:Int)))) x3 false)).bind fun r4 =>
 (some r4)
noncomputable def G_98e : T fa_98e → TH hN0 → Option (Int × (Bool × Bool × Bool × Bool × Bool × Unit) × Unit) := fun x y => F_98e x.1 x.2.1 x.2.2.1 x.2.2.2.1
noncomputable def c_98e : Orc := ent i_98e [] 0 (sp fa_98e hN0 fr_98e hN0 G_98e (outN fr_98e))
theorem ok_98e : OrcOk PR c_98e := fnT okO_98e mixed p_98e (by kernel_rfl) (by kernel_rfl) (L := L0) (kp := false) (by kernel_rfl) (inn := (innN fr_98e)) (out := (outN fr_98e)) (fun _ _ => rfl) (loopsL (l := []) (by kernel_rfl) trivial) (fun x y => by kernel_rfl)
noncomputable def O_963 : Orc := c_98e
theorem okO_963 : OrcOk PR O_963 := ok_98e
abbrev fa_963 : Fm := (.pair (.i .u32) (.pair (.i .i64) .unit))
abbrev fr_963 : Fm := (.i .u32)
noncomputable def F_963 (a0 : Int) (a1 : Int) : Option (Int) :=
 ((F_98e (2:Int) (0:Int) a0 a1)).bind fun r0 =>
 (some r0.1)
noncomputable def G_963 : T fa_963 → TH hN0 → Option (Int) := fun x y => F_963 x.1 x.2.1
noncomputable def c_963 : Orc := ent i_963 [] 0 (sp fa_963 hN0 fr_963 hN0 G_963 (outN fr_963))
theorem ok_963 : OrcOk PR c_963 := fnT okO_963 mixed p_963 (by kernel_rfl) (by kernel_rfl) (L := L0) (kp := false) (by kernel_rfl) (inn := (innN fr_963)) (out := (outN fr_963)) (fun _ _ => rfl) (loopsL (l := []) (by kernel_rfl) trivial) (fun x y => by kernel_rfl)
noncomputable def O_95a : Orc := (orm c_981 (orm c_952 (orm c_978 (orm c_979 (orm c_95f (orm c_984 (orm c_97a (orm c_962 (orm c_985 c_97b)))))))))
theorem okO_95a : OrcOk PR O_95a := (orm_ok ok_981 (orm_ok ok_952 (orm_ok ok_978 (orm_ok ok_979 (orm_ok ok_95f (orm_ok ok_984 (orm_ok ok_97a (orm_ok ok_962 (orm_ok ok_985 ok_97b)))))))))
abbrev fa_95a : Fm := (.pair (.i .i64) (.pair (.i .i64) (.pair (.i .u32) (.pair (.i .u32) .unit))))
abbrev fr_95a : Fm := (.tup (.pair (.i .u32) (.pair (.agg (.pair .b (.pair .b (.pair .b (.pair .b (.pair .b .unit)))))) .unit)))
noncomputable def F_95a (a0 : Int) (a1 : Int) (a2 : Int) (a3 : Int) : Option (Int × (Bool × Bool × Bool × Bool × Bool × Unit) × Unit) :=
 ((F_981 a0 [a2, a3])).bind fun r0 =>
 let x1 : Bool := r0.2.2.1
 bif x1 then
 (some (r0.1, (r0.2.1, ())))
 else
 ((F_952 a0 a2)).bind fun r2 =>
 ((F_952 a0 a3)).bind fun r3 =>
 let x4 : Bool := (!(r2 == r3))
 ((F_978 a0 a2)).bind fun r5 =>
 ((F_978 a0 a3)).bind fun r6 =>
 bif (r5 == r6) then
 bif (r5 == (0:Int)) then
 ((F_979 a0)).bind fun r7 =>
 (some r7)
 else
 bif (r5 == (3:Int)) then
 ((F_979 a0)).bind fun r8 =>
 (some r8)
 else
 bif (r5 == (3:Int)) then
 ((F_95f a0 x4)).bind fun r9 =>
 (some (r9, ((false, (false, (false, (false, (false, ()))))), ())))
 else
 bif (r6 == (3:Int)) then
 ((F_984 a0 x4)).bind fun r10 =>
 (some (r10, ((false, (false, (false, (false, (false, ()))))), ())))
 else
 bif (r5 == (0:Int)) then
 ((F_984 a0 x4)).bind fun r11 =>
 (some (r11, ((false, (false, (false, (false, (false, ()))))), ())))
 else
 bif (r6 == (0:Int)) then
 ((F_95f a0 x4)).bind fun r12 =>
 (some (r12, ((false, (true, (false, (false, (false, ()))))), ())))
 else
 ((F_97a a0 a2)).bind fun r13 =>
 let x14 : Int := r13.2.2.1
 ((F_97a a0 a3)).bind fun r15 =>
 let x16 : Int := r15.2.2.1
 let x17 : Bool := (x16 == (0:Int))
 ((F_962 x14)).bind fun r18 =>
 let x19 : Int := (IntKind.wrap .i64 ((62:Int) - r18))
 ((F_985 x14 (IntKind.wrap .i64 ((0:Int) - x19)))).bind fun r20 =>
 bif x17 then
 none
 else
 bif x17 then
 none
 else
 ((F_97b a0 a1 x4 (IntKind.wrap .i64 ((IntKind.wrap .i64 (r13.2.1 - x19)) - r15.2.1)) (IntKind.wrap .u64 (Int.tdiv r20.1 x16)) ((Int.tmod r20.1 x16) != (0:Int)))).bind fun r21 =>
 (some r21)
 else
 bif (r5 == (3:Int)) then
 ((F_95f a0 x4)).bind fun r22 =>
 (some (r22, ((false, (false, (false, (false, (false, ()))))), ())))
 else
 bif (r6 == (3:Int)) then
 ((F_984 a0 x4)).bind fun r23 =>
 (some (r23, ((false, (false, (false, (false, (false, ()))))), ())))
 else
 bif (r5 == (0:Int)) then
 ((F_984 a0 x4)).bind fun r24 =>
 (some (r24, ((false, (false, (false, (false, (false, ()))))), ())))
 else
 bif (r6 == (0:Int)) then
 ((F_95f a0 x4)).bind fun r25 =>
 (some (r25, ((false, (true, (false, (false, (false, ()))))), ())))
 else
 ((F_97a a0 a2)).bind fun r26 =>
 let x27 : Int := r26.2.2.1
 ((F_97a a0 a3)).bind fun r28 =>
 let x29 : Int := r28.2.2.1
 let x30 : Bool := (x29 == (0:Int))
 ((F_962 x27)).bind fun r31 =>
 let x32 : Int := (IntKind.wrap .i64 ((62:Int) - r31))
 ((F_985 x27 (IntKind.wrap .i64 ((0:Int) - x32)))).bind fun r33 =>
 bif x30 then
 none
 else
 bif x30 then
 none
 else
 ((F_97b a0 a1 x4 (IntKind.wrap .i64 ((IntKind.wrap .i64 (r26.2.1 - x32)) - r28.2.1)) (IntKind.wrap .u64 (Int.tdiv r33.1 x29)) ((Int.tmod r33.1 x29) != (0:Int)))).bind fun r34 =>
 (some r34)
noncomputable def G_95a : T fa_95a → TH hN0 → Option (Int × (Bool × Bool × Bool × Bool × Bool × Unit) × Unit) := fun x y => F_95a x.1 x.2.1 x.2.2.1 x.2.2.2.1
noncomputable def c_95a : Orc := ent i_95a [] 0 (sp fa_95a hN0 fr_95a hN0 G_95a (outN fr_95a))
theorem ok_95a : OrcOk PR c_95a := fnT okO_95a mixed p_95a (by kernel_rfl) (by kernel_rfl) (L := L0) (kp := false) (by kernel_rfl) (inn := (innN fr_95a)) (out := (outN fr_95a)) (fun _ _ => rfl) (loopsL (l := []) (by kernel_rfl) trivial) (fun x y => by kernel_rfl)
noncomputable def O_92b : Orc := c_95a
theorem okO_92b : OrcOk PR O_92b := ok_95a
abbrev fa_92b : Fm := (.pair (.i .u32) (.pair (.i .u32) .unit))
abbrev fr_92b : Fm := (.i .u32)
noncomputable def F_92b (a0 : Int) (a1 : Int) : Option (Int) :=
 ((F_95a (2:Int) (0:Int) a0 a1)).bind fun r0 =>
 (some r0.1)
noncomputable def G_92b : T fa_92b → TH hN0 → Option (Int) := fun x y => F_92b x.1 x.2.1
noncomputable def c_92b : Orc := ent i_92b [] 0 (sp fa_92b hN0 fr_92b hN0 G_92b (outN fr_92b))
theorem ok_92b : OrcOk PR c_92b := fnT okO_92b mixed p_92b (by kernel_rfl) (by kernel_rfl) (L := L0) (kp := false) (by kernel_rfl) (inn := (innN fr_92b)) (out := (outN fr_92b)) (fun _ _ => rfl) (loopsL (l := []) (by kernel_rfl) trivial) (fun x y => by kernel_rfl)
noncomputable def O_94c : Orc := (orm c_978 (orm c_94e (orm c_979 (orm c_952 (orm c_95f (orm c_97a c_97b))))))
theorem okO_94c : OrcOk PR O_94c := (orm_ok ok_978 (orm_ok ok_94e (orm_ok ok_979 (orm_ok ok_952 (orm_ok ok_95f (orm_ok ok_97a ok_97b))))))
abbrev fa_94c : Fm := (.pair (.i .i64) (.pair (.i .i64) (.pair (.i .i64) (.pair (.i .u32) .unit))))
abbrev fr_94c : Fm := (.tup (.pair (.i .u32) (.pair (.agg (.pair .b (.pair .b (.pair .b (.pair .b (.pair .b .unit)))))) .unit)))
noncomputable def F_94c (a0 : Int) (a1 : Int) (a2 : Int) (a3 : Int) : Option (Int × (Bool × Bool × Bool × Bool × Bool × Unit) × Unit) :=
 ((F_978 a0 a3)).bind fun r0 =>
 bif (r0 == (4:Int)) then
 ((F_94e a1)).bind fun r1 =>
 (some (r1, ((false, (false, (false, (false, (false, ()))))), ())))
 else
 bif (r0 == (5:Int)) then
 ((F_979 a1)).bind fun r2 =>
 (some r2)
 else
 bif (r0 == (3:Int)) then
 ((F_952 a0 a3)).bind fun r3 =>
 ((F_95f a1 r3)).bind fun r4 =>
 (some (r4, ((false, (false, (false, (false, (false, ()))))), ())))
 else
 ((F_97a a0 a3)).bind fun r5 =>
 let x6 : Int := r5.2.2.1
 ((F_97b a1 a2 r5.1 r5.2.1 x6 false)).bind fun r7 =>
 (some r7)
noncomputable def G_94c : T fa_94c → TH hN0 → Option (Int × (Bool × Bool × Bool × Bool × Bool × Unit) × Unit) := fun x y => F_94c x.1 x.2.1 x.2.2.1 x.2.2.2.1
noncomputable def c_94c : Orc := ent i_94c [] 0 (sp fa_94c hN0 fr_94c hN0 G_94c (outN fr_94c))
theorem ok_94c : OrcOk PR c_94c := fnT okO_94c mixed p_94c (by kernel_rfl) (by kernel_rfl) (L := L0) (kp := false) (by kernel_rfl) (inn := (innN fr_94c)) (out := (outN fr_94c)) (fun _ _ => rfl) (loopsL (l := []) (by kernel_rfl) trivial) (fun x y => by kernel_rfl)
noncomputable def O_91f : Orc := c_94c
theorem okO_91f : OrcOk PR O_91f := ok_94c
abbrev fa_91f : Fm := (.pair (.i .i64) (.pair (.i .u32) .unit))
abbrev fr_91f : Fm := (.i .u32)
noncomputable def F_91f (a0 : Int) (a1 : Int) : Option (Int) :=
 ((F_94c a0 (2:Int) (0:Int) a1)).bind fun r0 =>
 (some r0.1)
noncomputable def G_91f : T fa_91f → TH hN0 → Option (Int) := fun x y => F_91f x.1 x.2.1
noncomputable def c_91f : Orc := ent i_91f [] 0 (sp fa_91f hN0 fr_91f hN0 G_91f (outN fr_91f))
theorem ok_91f : OrcOk PR c_91f := fnT okO_91f mixed p_91f (by kernel_rfl) (by kernel_rfl) (L := L0) (kp := false) (by kernel_rfl) (inn := (innN fr_91f)) (out := (outN fr_91f)) (fun _ _ => rfl) (loopsL (l := []) (by kernel_rfl) trivial) (fun x y => by kernel_rfl)
noncomputable def O_920 : Orc := c_94d
theorem okO_920 : OrcOk PR O_920 := ok_94d
abbrev fa_920 : Fm := (.pair (.i .u32) .unit)
abbrev fr_920 : Fm := .b
noncomputable def F_920 (a0 : Int) : Option (Bool) :=
 ((F_94d (2:Int) a0)).bind fun r0 =>
 (some r0)
noncomputable def G_920 : T fa_920 → TH hN0 → Option (Bool) := fun x y => F_920 x.1
noncomputable def c_920 : Orc := ent i_920 [] 0 (sp fa_920 hN0 fr_920 hN0 G_920 (outN fr_920))
theorem ok_920 : OrcOk PR c_920 := fnT okO_920 mixed p_920 (by kernel_rfl) (by kernel_rfl) (L := L0) (kp := false) (by kernel_rfl) (inn := (innN fr_920)) (out := (outN fr_920)) (fun _ _ => rfl) (loopsL (l := []) (by kernel_rfl) trivial) (fun x y => by kernel_rfl)
noncomputable def O_950 : Orc := c_94e
theorem okO_950 : OrcOk PR O_950 := ok_94e
abbrev fa_950 : Fm := .unit
abbrev fr_950 : Fm := (.i .u32)
noncomputable def F_950  : Option (Int) :=
 (some (2143289344:Int))
noncomputable def G_950 : T fa_950 → TH hN0 → Option (Int) := fun x y => F_950
noncomputable def c_950 : Orc := ent i_950 [] 0 (sp fa_950 hN0 fr_950 hN0 G_950 (outN fr_950))
theorem ok_950 : OrcOk PR c_950 := fnT okO_950 mixed p_950 (by kernel_rfl) (by kernel_rfl) (L := L0) (kp := false) (by kernel_rfl) (inn := (innN fr_950)) (out := (outN fr_950)) (fun _ _ => rfl) (loopsL (l := []) (by kernel_rfl) trivial) (fun x y => by kernel_rfl)
noncomputable def O_953 : Orc := c_97f
theorem okO_953 : OrcOk PR O_953 := ok_97f
abbrev fa_953 : Fm := (.pair (.i .u32) .unit)
abbrev fr_953 : Fm := (.i .u32)
noncomputable def F_953 (a0 : Int) : Option (Int) :=
 (some (bits .xor .u32 (bits .and .u32 a0 (4294967295:Int)) (2147483648:Int)))
noncomputable def G_953 : T fa_953 → TH hN0 → Option (Int) := fun x y => F_953 x.1
noncomputable def c_953 : Orc := ent i_953 [] 0 (sp fa_953 hN0 fr_953 hN0 G_953 (outN fr_953))
theorem ok_953 : OrcOk PR c_953 := fnT okO_953 mixed p_953 (by kernel_rfl) (by kernel_rfl) (L := L0) (kp := false) (by kernel_rfl) (inn := (innN fr_953)) (out := (outN fr_953)) (fun _ _ => rfl) (loopsL (l := []) (by kernel_rfl) trivial) (fun x y => by kernel_rfl)
noncomputable def O_921 : Orc := c_94f
theorem okO_921 : OrcOk PR O_921 := ok_94f
abbrev fa_921 : Fm := (.pair (.i .u32) (.pair (.i .u32) .unit))
abbrev fr_921 : Fm := .b
noncomputable def F_921 (a0 : Int) (a1 : Int) : Option (Bool) :=
 ((F_94f (2:Int) a1 a0)).bind fun r0 =>
 (some r0)
noncomputable def G_921 : T fa_921 → TH hN0 → Option (Bool) := fun x y => F_921 x.1 x.2.1
noncomputable def c_921 : Orc := ent i_921 [] 0 (sp fa_921 hN0 fr_921 hN0 G_921 (outN fr_921))
theorem ok_921 : OrcOk PR c_921 := fnT okO_921 mixed p_921 (by kernel_rfl) (by kernel_rfl) (L := L0) (kp := false) (by kernel_rfl) (inn := (innN fr_921)) (out := (outN fr_921)) (fun _ _ => rfl) (loopsL (l := []) (by kernel_rfl) trivial) (fun x y => by kernel_rfl)
end Go.Proofs.YtfpjkmgfkaoapaaGreat.VI
