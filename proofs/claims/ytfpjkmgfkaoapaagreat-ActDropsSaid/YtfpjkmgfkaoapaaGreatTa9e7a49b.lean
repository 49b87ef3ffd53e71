import Derived.Test.YtfpjkmgfkaoapaaGreatTaaf4c10e
namespace Go.Proofs.YtfpjkmgfkaoapaaGreat.VI
set_option linter.unusedVariables false
set_option linter.unusedSimpArgs false
set_option maxRecDepth 100000
noncomputable def O_925 : Orc := (orm c_954 (orm c_936 (orm c_955 (orm c_957 (orm c_956 (orm c_951 c_958))))))
theorem okO_925 : OrcOk PR O_925 := (orm_ok ok_954 (orm_ok ok_936 (orm_ok ok_955 (orm_ok ok_957 (orm_ok ok_956 (orm_ok ok_951 ok_958))))))
abbrev fa_925 : Fm := (.pair (.i .i64) (.pair (.i .i64) (.pair (.i .i64) (.pair (.i .u32) .unit))))
abbrev ha_925 : List BF := []
abbrev fr_925 : Fm := (.tup (.pair (.i .u32) (.pair (.agg (.pair .b (.pair .b (.pair .b (.pair .b (.pair .b .unit)))))) .unit)))
abbrev hr_925 : List BF := []
noncomputable def L_925 : Lps := L0
def inn_925 : T fr_925 → TH hr_925 → Int × (Bool × Bool × Bool × Bool × Bool × Unit) × Unit := (fun z w => z)
def out_925 : Int × (Bool × Bool × Bool × Bool × Bool × Unit) × Unit → T fr_925 × TH hr_925 := fun r => (r, ())
noncomputable def F_925 (a0 : Int) (a1 : Int) (a2 : Int) (a3 : Int) : Option (Int × (Bool × Bool × Bool × Bool × Bool × Unit) × Unit) :=
 ((F_954 a0 [a3])).bind fun r0 =>
 bif r0.1 then
 ((F_936 a1)).bind fun r1 =>
 (some (r1, ((r0.2.1, (false, (false, (false, (false, ()))))), ())))
 else
 ((F_955 a0 a3)).bind fun r2 =>
 bif r2 then
 ((F_957 a0 a3)).bind fun r3 =>
 ((F_956 a1 r3)).bind fun r4 =>
 (some (r4, ((false, (false, (false, (false, (false, ()))))), ())))
 else
 ((F_951 a0 a3)).bind fun r5 =>
 let x6 : Int := r5.2.2.1
 ((F_958 a1 a2 r5.1 r5.2.1 x6 false)).bind fun r7 =>
 (some r7)
noncomputable def G_925 : T fa_925 → TH ha_925 → Option (Int × (Bool × Bool × Bool × Bool × Bool × Unit) × Unit) := fun x y => F_925 x.1 x.2.1 x.2.2.1 x.2.2.2.1
noncomputable def c_925 : Orc := ent i_925 [] 0 (sp fa_925 ha_925 fr_925 hr_925 G_925 out_925)
theorem ok_925 : OrcOk PR c_925 := fnT okO_925 mixed p_925 (by kernel_rfl) (by kernel_rfl) (L := L_925) (kp := false) (by kernel_rfl) (inn := inn_925) (out := out_925) (fun _ _ => rfl) (loopsL (l := []) (by kernel_rfl) trivial) (fun x y => by kernel_rfl)
noncomputable def O_911 : Orc := c_925
theorem okO_911 : OrcOk PR O_911 := ok_925
abbrev fa_911 : Fm := (.pair (.i .i64) (.pair (.i .u32) .unit))
abbrev ha_911 : List BF := []
abbrev fr_911 : Fm := (.i .u32)
abbrev hr_911 : List BF := []
noncomputable def L_911 : Lps := L0
def inn_911 : T fr_911 → TH hr_911 → Int := (fun z w => z)
def out_911 : Int → T fr_911 × TH hr_911 := fun r => (r, ())
noncomputable def F_911 (a0 : Int) (a1 : Int) : Option (Int) :=
 ((F_925 a0 (2:Int) (0:Int) a1)).bind fun r0 =>
 (some r0.1)
noncomputable def G_911 : T fa_911 → TH ha_911 → Option (Int) := fun x y => F_911 x.1 x.2.1
noncomputable def c_911 : Orc := ent i_911 [] 0 (sp fa_911 ha_911 fr_911 hr_911 G_911 out_911)
theorem ok_911 : OrcOk PR c_911 := fnT okO_911 mixed p_911 (by kernel_rfl) (by kernel_rfl) (L := L_911) (kp := false) (by kernel_rfl) (inn := inn_911) (out := out_911) (fun _ _ => rfl) (loopsL (l := []) (by kernel_rfl) trivial) (fun x y => by kernel_rfl)
noncomputable def O_93f : Orc := c_911
theorem okO_93f : OrcOk PR O_93f := ok_911
abbrev fa_93f : Fm := (.pair (.agg (.pair (.i .i64) (.pair (.i .i64) (.pair (.i .i64) (.pair (.si .u32) .unit))))) (.pair (.i .i64) .unit))
abbrev ha_93f : List BF := []
abbrev fr_93f : Fm := (.i .u32)
abbrev hr_93f : List BF := []
noncomputable def L_93f : Lps := L0
def inn_93f : T fr_93f → TH hr_93f → Int := (fun z w => z)
def out_93f : Int → T fr_93f × TH hr_93f := fun r => (r, ())
noncomputable def F_93f (a0 : Int × Int × Int × List Int × Unit) (a1 : Int) : Option (Int) :=
 let x0 : Int := a0.2.2.1
 let x1 : List Int := a0.2.2.2.1
 bif (decide (((0:Int) ≤ a1) ∧ (a1 < (((List.length x1) : Nat) : Int)))) then
 ((F_911 x0 (List.getD x1 (Int.toNat a1) (0:Int)))).bind fun r2 =>
 (some r2)
 else
 none
noncomputable def G_93f : T fa_93f → TH ha_93f → Option (Int) := fun x y => F_93f x.1 x.2.1
noncomputable def c_93f : Orc := ent i_93f [] 0 (sp fa_93f ha_93f fr_93f hr_93f G_93f out_93f)
theorem ok_93f : OrcOk PR c_93f := fnT okO_93f mixed p_93f (by kernel_rfl) (by kernel_rfl) (L := L_93f) (kp := false) (by kernel_rfl) (inn := inn_93f) (out := out_93f) (fun _ _ => rfl) (loopsL (l := []) (by kernel_rfl) trivial) (fun x y => by kernel_rfl)
noncomputable def O_912 : Orc := orn
theorem okO_912 : OrcOk PR O_912 := (orn_ok _)
abbrev fa_912 : Fm := (.pair (.agg (.pair (.i .i64) (.pair (.i .i64) (.pair (.i .i64) (.pair (.si .u32) .unit))))) .unit)
abbrev ha_912 : List BF := []
abbrev fr_912 : Fm := .b
abbrev hr_912 : List BF := []
noncomputable def L_912 : Lps := L0
def inn_912 : T fr_912 → TH hr_912 → Bool := (fun z w => z)
def out_912 : Bool → T fr_912 × TH hr_912 := fun r => (r, ())
noncomputable def F_912 (a0 : Int × Int × Int × List Int × Unit) : Option (Bool) :=
 bif (decide ((((List.length a0.2.2.2.1) : Nat) : Int) ≤ (60:Int))) then
 bif (decide (a0.1 ≤ (60:Int))) then
 bif (decide (a0.2.1 ≤ (60:Int))) then
 bif (decide (a0.1 ≥ (-(2:Int)))) then
 (some (decide (a0.2.1 ≥ (-(2:Int)))))
 else
 (some false)
 else
 (some false)
 else
 (some false)
 else
 (some false)
noncomputable def G_912 : T fa_912 → TH ha_912 → Option (Bool) := fun x y => F_912 x.1
noncomputable def c_912 : Orc := ent i_912 [] 0 (sp fa_912 ha_912 fr_912 hr_912 G_912 out_912)
theorem ok_912 : OrcOk PR c_912 := fnT okO_912 mixed p_912 (by kernel_rfl) (by kernel_rfl) (L := L_912) (kp := false) (by kernel_rfl) (inn := inn_912) (out := out_912) (fun _ _ => rfl) (loopsL (l := []) (by kernel_rfl) trivial) (fun x y => by kernel_rfl)
end Go.Proofs.YtfpjkmgfkaoapaaGreat.VI
