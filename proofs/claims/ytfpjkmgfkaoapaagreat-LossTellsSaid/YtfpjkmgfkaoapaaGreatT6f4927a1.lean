import Derived.Test.YtfpjkmgfkaoapaaGreatTb9922daa
namespace Go.Proofs.YtfpjkmgfkaoapaaGreat.VI
set_option linter.unusedVariables false
set_option linter.unusedSimpArgs false
set_option maxRecDepth 100000
noncomputable def O_91b : Orc := (orm c_942 (orm c_926 (orm c_943 (orm c_945 (orm c_944 (orm c_93f c_946))))))
theorem okO_91b : OrcOk PR O_91b := (orm_ok ok_942 (orm_ok ok_926 (orm_ok ok_943 (orm_ok ok_945 (orm_ok ok_944 (orm_ok ok_93f ok_946))))))
abbrev fa_91b : Fm := (.pair (.i .i64) (.pair (.i .i64) (.pair (.i .i64) (.pair (.i .u32) .unit))))
abbrev fr_91b : Fm := (.tup (.pair (.i .u32) (.pair (.agg (.pair .b (.pair .b (.pair .b (.pair .b (.pair .b .unit)))))) .unit)))
noncomputable def F_91b (a0 : Int) (a1 : Int) (a2 : Int) (a3 : Int) : Option (Int × (Bool × Bool × Bool × Bool × Bool × Unit) × Unit) :=
 ((F_942 a0 [a3])).bind fun r0 =>
 bif r0.1 then
 ((F_926 a1)).bind fun r1 =>
 (some (r1, ((r0.2.1, (false, (false, (false, (false, ()))))), ())))
 else
 ((F_943 a0 a3)).bind fun r2 =>
 bif r2 then
 ((F_945 a0 a3)).bind fun r3 =>
 ((F_944 a1 r3)).bind fun r4 =>
 (some (r4, ((false, (false, (false, (false, (false, ()))))), ())))
 else
 ((F_93f a0 a3)).bind fun r5 =>
 let x6 : Int := r5.2.2.1
 ((F_946 a1 a2 r5.1 r5.2.1 x6 false)).bind fun r7 =>
 (some r7)
noncomputable def G_91b : T fa_91b → TH hN0 → Option (Int × (Bool × Bool × Bool × Bool × Bool × Unit) × Unit) := fun x y => F_91b x.1 x.2.1 x.2.2.1 x.2.2.2.1
noncomputable def c_91b : Orc := ent i_91b [] 0 (sp fa_91b hN0 fr_91b hN0 G_91b (outN fr_91b))
theorem ok_91b : OrcOk PR c_91b := fnT okO_91b mixed p_91b (by kernel_rfl) (by kernel_rfl) (L := L0) (kp := false) (by kernel_rfl) (inn := (innN fr_91b)) (out := (outN fr_91b)) (fun _ _ => rfl) (loopsL (l := []) (by kernel_rfl) trivial) (fun x y => by kernel_rfl)
noncomputable def O_97 : Orc := c_91b
theorem okO_97 : OrcOk PR O_97 := ok_91b
abbrev fa_97 : Fm := (.pair (.i .i64) (.pair (.i .u32) .unit))
abbrev fr_97 : Fm := (.i .u32)
noncomputable def F_97 (a0 : Int) (a1 : Int) : Option (Int) :=
 ((F_91b a0 (2:Int) (0:Int) a1)).bind fun r0 =>
 (some r0.1)
noncomputable def G_97 : T fa_97 → TH hN0 → Option (Int) := fun x y => F_97 x.1 x.2.1
noncomputable def c_97 : Orc := ent i_97 [] 0 (sp fa_97 hN0 fr_97 hN0 G_97 (outN fr_97))
theorem ok_97 : OrcOk PR c_97 := fnT okO_97 mixed p_97 (by kernel_rfl) (by kernel_rfl) (L := L0) (kp := false) (by kernel_rfl) (inn := (innN fr_97)) (out := (outN fr_97)) (fun _ _ => rfl) (loopsL (l := []) (by kernel_rfl) trivial) (fun x y => by kernel_rfl)
noncomputable def O_92a : Orc := c_97
theorem okO_92a : OrcOk PR O_92a := ok_97
abbrev fa_92a : Fm := (.pair (.agg (.pair (.i .i64) (.pair (.i .i64) (.pair (.i .i64) (.pair (.si .u32) .unit))))) (.pair (.i .i64) .unit))
abbrev fr_92a : Fm := (.i .u32)
noncomputable def F_92a (a0 : Int × Int × Int × List Int × Unit) (a1 : Int) : Option (Int) :=
 let x0 : Int := a0.2.2.1
 let x1 : List Int := a0.2.2.2.1
 bif (decide (((0:Int) ≤ a1) ∧ (a1 < (((List.length x1) : Nat) : Int)))) then
 ((F_97 x0 (List.getD x1 (Int.toNat a1) (0:Int)))).bind fun r2 =>
 (some r2)
 else
 none
noncomputable def G_92a : T fa_92a → TH hN0 → Option (Int) := fun x y => F_92a x.1 x.2.1
noncomputable def c_92a : Orc := ent i_92a [] 0 (sp fa_92a hN0 fr_92a hN0 G_92a (outN fr_92a))
theorem ok_92a : OrcOk PR c_92a := fnT okO_92a mixed p_92a (by kernel_rfl) (by kernel_rfl) (L := L0) (kp := false) (by kernel_rfl) (inn := (innN fr_92a)) (out := (outN fr_92a)) (fun _ _ => rfl) (loopsL (l := []) (by kernel_rfl) trivial) (fun x y => by kernel_rfl)
noncomputable def O_98 : Orc := orn
theorem okO_98 : OrcOk PR O_98 := (orn_ok _)
abbrev fa_98 : Fm := (.pair (.agg (.pair (.i .i64) (.pair (.i .i64) (.pair (.i .i64) (.pair (.si .u32) .unit))))) .unit)
abbrev fr_98 : Fm := .b
noncomputable def F_98 (a0 : Int × Int × Int × List Int × Unit) : Option (Bool) :=
 bif (decide ((((List.length a0.2.2.2.1) : Nat) : Int) ≤ (60:Int))) then
 bif (decide (a0.1 ≤ (60:Int))) then
 bif (decide (a0.2.1 ≤ (60:Int))) then
 bif (decide (a0.1 ≥ (-(2:Int)))) then
 (some (decide (a0.2.1 ≥ (-(2:Int)))))
 else
 (some false)
 else
 (some false)
 else
 (some false)
 else
 (some false)
noncomputable def G_98 : T fa_98 → TH hN0 → Option (Bool) := fun x y => F_98 x.1
noncomputable def c_98 : Orc := ent i_98 [] 0 (sp fa_98 hN0 fr_98 hN0 G_98 (outN fr_98))
theorem ok_98 : OrcOk PR c_98 := fnT okO_98 mixed p_98 (by kernel_rfl) (by kernel_rfl) (L := L0) (kp := false) (by kernel_rfl) (inn := (innN fr_98)) (out := (outN fr_98)) (fun _ _ => rfl) (loopsL (l := []) (by kernel_rfl) trivial) (fun x y => by kernel_rfl)
end Go.Proofs.YtfpjkmgfkaoapaaGreat.VI
