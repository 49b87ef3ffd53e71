import Derived.Test.YtfpjkmgfkaoapaaGreatT55e7619c
namespace Go.Proofs.YtfpjkmgfkaoapaaGreat.VI
set_option linter.unusedVariables false
set_option linter.unusedSimpArgs false
set_option maxRecDepth 100000
noncomputable def O_989 : Orc := orn
theorem okO_989 : OrcOk PR O_989 := (orn_ok _)
abbrev fa_989 : Fm := (.pair (.i .i64) .unit)
abbrev ha_989 : List BF := []
abbrev fr_989 : Fm := (.tup (.pair (.i .i64) (.pair (.i .i64) .unit)))
abbrev hr_989 : List BF := []
noncomputable def L_989 : Lps := L0
def inn_989 : T fr_989 → TH hr_989 → Int × Int × Unit := (fun z w => z)
def out_989 : Int × Int × Unit → T fr_989 × TH hr_989 := fun r => (r, ())
noncomputable def F_989 (a0 : Int) : Option (Int × Int × Unit) :=
 bif (a0 == (0:Int)) then
 (some ((5:Int), ((10:Int), ())))
 else
 bif (a0 == (1:Int)) then
 (some ((8:Int), ((7:Int), ())))
 else
 (some ((8:Int), ((23:Int), ())))
noncomputable def G_989 : T fa_989 → TH ha_989 → Option (Int × Int × Unit) := fun x y => F_989 x.1
noncomputable def c_989 : Orc := ent i_989 [] 0 (sp fa_989 ha_989 fr_989 hr_989 G_989 out_989)
theorem ok_989 : OrcOk PR c_989 := fnT okO_989 mixed p_989 (by kernel_rfl) (by kernel_rfl) (L := L_989) (kp := false) (by kernel_rfl) (inn := inn_989) (out := out_989) (fun _ _ => rfl) (loopsL (l := []) (by kernel_rfl) trivial) (fun x y => by kernel_rfl)
noncomputable def O_990 : Orc := c_989
theorem okO_990 : OrcOk PR O_990 := ok_989
abbrev fa_990 : Fm := (.pair (.i .i64) (.pair (.i .u32) .unit))
abbrev ha_990 : List BF := []
abbrev fr_990 : Fm := (.tup (.pair .b (.pair (.i .i64) (.pair (.i .u32) .unit))))
abbrev hr_990 : List BF := []
noncomputable def L_990 : Lps := L0
def inn_990 : T fr_990 → TH hr_990 → Bool × Int × Int × Unit := (fun z w => z)
def out_990 : Bool × Int × Int × Unit → T fr_990 × TH hr_990 := fun r => (r, ())
noncomputable def F_990 (a0 : Int) (a1 : Int) : Option (Bool × Int × Int × Unit) :=
 ((F_989 a0)).bind fun r0 =>
 let x1 : Int := ((2:Int) ^ (Min.min (Int.toNat (IntKind.wrap .u64 r0.2.1)) (32:Nat)))
 bif (decide ((0:Int) ≤ (IntKind.wrap .u64 (IntKind.wrap .i64 (r0.1 + r0.2.1))))) then
 bif (decide ((0:Int) ≤ (IntKind.wrap .u64 r0.2.1))) then
 bif (decide ((0:Int) ≤ (IntKind.wrap .u64 r0.1))) then
 bif (decide ((0:Int) ≤ (IntKind.wrap .u64 r0.2.1))) then
 (some (((bits .and .u32 (a1 / ((2:Int) ^ (Min.min (Int.toNat (IntKind.wrap .u64 (IntKind.wrap .i64 (r0.1 + r0.2.1)))) (32:Nat)))) (1:Int)) == (1:Int)), ((IntKind.wrap .i64 (bits .and .u32 (a1 / x1) (IntKind.wrap .u32 ((IntKind.wrap .u32 ((1:Int) * ((2:Int) ^ (Min.min (Int.toNat (IntKind.wrap .u64 r0.1)) (32:Nat))))) - (1:Int))))), ((bits .and .u32 a1 (IntKind.wrap .u32 ((IntKind.wrap .u32 ((1:Int) * x1)) - (1:Int)))), ()))))
 else
 none
 else
 none
 else
 none
 else
 none
noncomputable def G_990 : T fa_990 → TH ha_990 → Option (Bool × Int × Int × Unit) := fun x y => F_990 x.1 x.2.1
noncomputable def c_990 : Orc := ent i_990 [] 0 (sp fa_990 ha_990 fr_990 hr_990 G_990 out_990)
theorem ok_990 : OrcOk PR c_990 := fnT okO_990 mixed p_990 (by kernel_rfl) (by kernel_rfl) (L := L_990) (kp := false) (by kernel_rfl) (inn := inn_990) (out := out_990) (fun _ _ => rfl) (loopsL (l := []) (by kernel_rfl) trivial) (fun x y => by kernel_rfl)
noncomputable def O_98f : Orc := c_989
theorem okO_98f : OrcOk PR O_98f := ok_989
abbrev fa_98f : Fm := (.pair (.i .i64) .unit)
abbrev ha_98f : List BF := []
abbrev fr_98f : Fm := (.i .i64)
abbrev hr_98f : List BF := []
noncomputable def L_98f : Lps := L0
def inn_98f : T fr_98f → TH hr_98f → Int := (fun z w => z)
def out_98f : Int → T fr_98f × TH hr_98f := fun r => (r, ())
noncomputable def F_98f (a0 : Int) : Option (Int) :=
 ((F_989 a0)).bind fun r0 =>
 bif (decide ((0:Int) ≤ (IntKind.wrap .u64 r0.1))) then
 (some (IntKind.wrap .i64 ((IntKind.wrap .i64 ((1:Int) * ((2:Int) ^ (Min.min (Int.toNat (IntKind.wrap .u64 r0.1)) (64:Nat))))) - (1:Int))))
 else
 none
noncomputable def G_98f : T fa_98f → TH ha_98f → Option (Int) := fun x y => F_98f x.1
noncomputable def c_98f : Orc := ent i_98f [] 0 (sp fa_98f ha_98f fr_98f hr_98f G_98f out_98f)
theorem ok_98f : OrcOk PR c_98f := fnT okO_98f mixed p_98f (by kernel_rfl) (by kernel_rfl) (L := L_98f) (kp := false) (by kernel_rfl) (inn := inn_98f) (out := out_98f) (fun _ _ => rfl) (loopsL (l := []) (by kernel_rfl) trivial) (fun x y => by kernel_rfl)
noncomputable def O_98a : Orc := (orm c_989 (orm c_990 c_98f))
theorem okO_98a : OrcOk PR O_98a := (orm_ok ok_989 (orm_ok ok_990 ok_98f))
abbrev fa_98a : Fm := (.pair (.i .i64) (.pair (.i .u32) .unit))
abbrev ha_98a : List BF := []
abbrev fr_98a : Fm := (.i .i64)
abbrev hr_98a : List BF := []
noncomputable def L_98a : Lps := L0
def inn_98a : T fr_98a → TH hr_98a → Int := (fun z w => z)
def out_98a : Int → T fr_98a × TH hr_98a := fun r => (r, ())
noncomputable def F_98a (a0 : Int) (a1 : Int) : Option (Int) :=
 ((F_989 a0)).bind fun r0 =>
 ((F_990 a0 a1)).bind fun r1 =>
 let x2 : Bool := (r1.2.1 == (0:Int))
 let x3 : Int := r1.2.2.1
 let x4 : Bool := (x3 == (0:Int))
 let x5 : Bool := ((x3 / ((2:Int) ^ (Min.min (Int.toNat (IntKind.wrap .u64 (IntKind.wrap .i64 (r0.2.1 - (1:Int))))) (32:Nat)))) == (1:Int))
 bif x2 then
 bif x4 then
 (some (0:Int))
 else
 bif x2 then
 (some (1:Int))
 else
 ((F_98f a0)).bind fun r6 =>
 bif (decide (r1.2.1 < r6)) then
 (some (2:Int))
 else
 bif x4 then
 (some (3:Int))
 else
 bif (decide ((0:Int) ≤ (IntKind.wrap .u64 (IntKind.wrap .i64 (r0.2.1 - (1:Int)))))) then
 bif x5 then
 (some (4:Int))
 else
 (some (5:Int))
 else
 none
 else
 bif x2 then
 (some (1:Int))
 else
 ((F_98f a0)).bind fun r7 =>
 bif (decide (r1.2.1 < r7)) then
 (some (2:Int))
 else
 bif x4 then
 (some (3:Int))
 else
 bif (decide ((0:Int) ≤ (IntKind.wrap .u64 (IntKind.wrap .i64 (r0.2.1 - (1:Int)))))) then
 bif x5 then
 (some (4:Int))
 else
 (some (5:Int))
 else
 none
noncomputable def G_98a : T fa_98a → TH ha_98a → Option (Int) := fun x y => F_98a x.1 x.2.1
noncomputable def c_98a : Orc := ent i_98a [] 0 (sp fa_98a ha_98a fr_98a hr_98a G_98a out_98a)
theorem ok_98a : OrcOk PR c_98a := fnT okO_98a mixed p_98a (by kernel_rfl) (by kernel_rfl) (L := L_98a) (kp := false) (by kernel_rfl) (inn := inn_98a) (out := out_98a) (fun _ _ => rfl) (loopsL (l := []) (by kernel_rfl) trivial) (fun x y => by kernel_rfl)
noncomputable def O_95f : Orc := c_98a
theorem okO_95f : OrcOk PR O_95f := ok_98a
abbrev fa_95f : Fm := (.pair (.i .i64) (.pair (.i .u32) .unit))
abbrev ha_95f : List BF := []
abbrev fr_95f : Fm := .b
abbrev hr_95f : List BF := []
noncomputable def L_95f : Lps := L0
def inn_95f : T fr_95f → TH hr_95f → Bool := (fun z w => z)
def out_95f : Bool → T fr_95f × TH hr_95f := fun r => (r, ())
noncomputable def F_95f (a0 : Int) (a1 : Int) : Option (Bool) :=
 ((F_98a a0 a1)).bind fun r0 =>
 (some (decide (r0 ≥ (4:Int))))
noncomputable def G_95f : T fa_95f → TH ha_95f → Option (Bool) := fun x y => F_95f x.1 x.2.1
noncomputable def c_95f : Orc := ent i_95f [] 0 (sp fa_95f ha_95f fr_95f hr_95f G_95f out_95f)
theorem ok_95f : OrcOk PR c_95f := fnT okO_95f mixed p_95f (by kernel_rfl) (by kernel_rfl) (L := L_95f) (kp := false) (by kernel_rfl) (inn := inn_95f) (out := out_95f) (fun _ _ => rfl) (loopsL (l := []) (by kernel_rfl) trivial) (fun x y => by kernel_rfl)
noncomputable def O_95d : Orc := c_989
theorem okO_95d : OrcOk PR O_95d := ok_989
abbrev fa_95d : Fm := (.pair (.i .i64) .unit)
abbrev ha_95d : List BF := []
abbrev fr_95d : Fm := (.i .u32)
abbrev hr_95d : List BF := []
noncomputable def L_95d : Lps := L0
def inn_95d : T fr_95d → TH hr_95d → Int := (fun z w => z)
def out_95d : Int → T fr_95d × TH hr_95d := fun r => (r, ())
noncomputable def F_95d (a0 : Int) : Option (Int) :=
 ((F_989 a0)).bind fun r0 =>
 bif (decide ((0:Int) ≤ (IntKind.wrap .u64 (IntKind.wrap .i64 ((IntKind.wrap .i64 (r0.1 + r0.2.1)) + (1:Int)))))) then
 (some (IntKind.wrap .u32 ((IntKind.wrap .u32 ((1:Int) * ((2:Int) ^ (Min.min (Int.toNat (IntKind.wrap .u64 (IntKind.wrap .i64 ((IntKind.wrap .i64 (r0.1 + r0.2.1)) + (1:Int))))) (32:Nat))))) - (1:Int))))
 else
 none
noncomputable def G_95d : T fa_95d → TH ha_95d → Option (Int) := fun x y => F_95d x.1
noncomputable def c_95d : Orc := ent i_95d [] 0 (sp fa_95d ha_95d fr_95d hr_95d G_95d out_95d)
theorem ok_95d : OrcOk PR c_95d := fnT okO_95d mixed p_95d (by kernel_rfl) (by kernel_rfl) (L := L_95d) (kp := false) (by kernel_rfl) (inn := inn_95d) (out := out_95d) (fun _ _ => rfl) (loopsL (l := []) (by kernel_rfl) trivial) (fun x y => by kernel_rfl)
noncomputable def O_964 : Orc := c_990
theorem okO_964 : OrcOk PR O_964 := ok_990
abbrev fa_964 : Fm := (.pair (.i .i64) (.pair (.i .u32) .unit))
abbrev ha_964 : List BF := []
abbrev fr_964 : Fm := .b
abbrev hr_964 : List BF := []
noncomputable def L_964 : Lps := L0
def inn_964 : T fr_964 → TH hr_964 → Bool := (fun z w => z)
def out_964 : Bool → T fr_964 × TH hr_964 := fun r => (r, ())
noncomputable def F_964 (a0 : Int) (a1 : Int) : Option (Bool) :=
 ((F_990 a0 a1)).bind fun r0 =>
 (some r0.1)
noncomputable def G_964 : T fa_964 → TH ha_964 → Option (Bool) := fun x y => F_964 x.1 x.2.1
noncomputable def c_964 : Orc := ent i_964 [] 0 (sp fa_964 ha_964 fr_964 hr_964 G_964 out_964)
theorem ok_964 : OrcOk PR c_964 := fnT okO_964 mixed p_964 (by kernel_rfl) (by kernel_rfl) (L := L_964) (kp := false) (by kernel_rfl) (inn := inn_964) (out := out_964) (fun _ _ => rfl) (loopsL (l := []) (by kernel_rfl) trivial) (fun x y => by kernel_rfl)
noncomputable def O_991 : Orc := (orm c_989 c_95d)
theorem okO_991 : OrcOk PR O_991 := (orm_ok ok_989 ok_95d)
abbrev fa_991 : Fm := (.pair (.i .i64) (.pair (.i .u32) .unit))
abbrev ha_991 : List BF := []
abbrev fr_991 : Fm := (.i .u32)
abbrev hr_991 : List BF := []
noncomputable def L_991 : Lps := L0
def inn_991 : T fr_991 → TH hr_991 → Int := (fun z w => z)
def out_991 : Int → T fr_991 × TH hr_991 := fun r => (r, ())
noncomputable def F_991 (a0 : Int) (a1 : Int) : Option (Int) :=
 ((F_989 a0)).bind fun r0 =>
 ((F_95d a0)).bind fun r1 =>
 bif (decide ((0:Int) ≤ (IntKind.wrap .u64 (IntKind.wrap .i64 (r0.1 + r0.2.1))))) then
 (some (bits .xor .u32 (bits .and .u32 a1 r1) (IntKind.wrap .u32 ((1:Int) * ((2:Int) ^ (Min.min (Int.toNat (IntKind.wrap .u64 (IntKind.wrap .i64 (r0.1 + r0.2.1)))) (32:Nat)))))))
 else
 none
noncomputable def G_991 : T fa_991 → TH ha_991 → Option (Int) := fun x y => F_991 x.1 x.2.1
noncomputable def c_991 : Orc := ent i_991 [] 0 (sp fa_991 ha_991 fr_991 hr_991 G_991 out_991)
theorem ok_991 : OrcOk PR c_991 := fnT okO_991 mixed p_991 (by kernel_rfl) (by kernel_rfl) (L := L_991) (kp := false) (by kernel_rfl) (inn := inn_991) (out := out_991) (fun _ _ => rfl) (loopsL (l := []) (by kernel_rfl) trivial) (fun x y => by kernel_rfl)
noncomputable def O_99a : Orc := (orm c_95d (orm c_964 c_991))
theorem okO_99a : OrcOk PR O_99a := (orm_ok ok_95d (orm_ok ok_964 ok_991))
abbrev fa_99a : Fm := (.pair (.i .i64) (.pair (.i .u32) .unit))
abbrev ha_99a : List BF := []
abbrev fr_99a : Fm := (.i .i64)
abbrev hr_99a : List BF := []
noncomputable def L_99a : Lps := L0
def inn_99a : T fr_99a → TH hr_99a → Int := (fun z w => z)
def out_99a : Int → T fr_99a × TH hr_99a := fun r => (r, ())
noncomputable def F_99a (a0 : Int) (a1 : Int) : Option (Int) :=
 ((F_95d a0)).bind fun r0 =>
 ((F_964 a0 a1)).bind fun r1 =>
 bif (!r1) then
 (some (IntKind.wrap .i64 (bits .and .u32 a1 r0)))
 else
 ((F_991 a0 a1)).bind fun r2 =>
 (some (IntKind.wrap .i64 ((-(1:Int)) - (IntKind.wrap .i64 r2))))
noncomputable def G_99a : T fa_99a → TH ha_99a → Option (Int) := fun x y => F_99a x.1 x.2.1
noncomputable def c_99a : Orc := ent i_99a [] 0 (sp fa_99a ha_99a fr_99a hr_99a G_99a out_99a)
theorem ok_99a : OrcOk PR c_99a := fnT okO_99a mixed p_99a (by kernel_rfl) (by kernel_rfl) (L := L_99a) (kp := false) (by kernel_rfl) (inn := inn_99a) (out := out_99a) (fun _ _ => rfl) (loopsL (l := []) (by kernel_rfl) trivial) (fun x y => by kernel_rfl)
noncomputable def O_963 : Orc := c_98a
theorem okO_963 : OrcOk PR O_963 := ok_98a
abbrev fa_963 : Fm := (.pair (.i .i64) (.pair (.i .u32) .unit))
abbrev ha_963 : List BF := []
abbrev fr_963 : Fm := .b
abbrev hr_963 : List BF := []
noncomputable def L_963 : Lps := L0
def inn_963 : T fr_963 → TH hr_963 → Bool := (fun z w => z)
def out_963 : Bool → T fr_963 × TH hr_963 := fun r => (r, ())
noncomputable def F_963 (a0 : Int) (a1 : Int) : Option (Bool) :=
 ((F_98a a0 a1)).bind fun r0 =>
 (some (r0 == (0:Int)))
noncomputable def G_963 : T fa_963 → TH ha_963 → Option (Bool) := fun x y => F_963 x.1 x.2.1
noncomputable def c_963 : Orc := ent i_963 [] 0 (sp fa_963 ha_963 fr_963 hr_963 G_963 out_963)
theorem ok_963 : OrcOk PR c_963 := fnT okO_963 mixed p_963 (by kernel_rfl) (by kernel_rfl) (L := L_963) (kp := false) (by kernel_rfl) (inn := inn_963) (out := out_963) (fun _ _ => rfl) (loopsL (l := []) (by kernel_rfl) trivial) (fun x y => by kernel_rfl)
noncomputable def O_97d : Orc := (orm c_95f (orm c_99a c_963))
theorem okO_97d : OrcOk PR O_97d := (orm_ok ok_95f (orm_ok ok_99a ok_963))
abbrev fa_97d : Fm := (.pair (.i .i64) (.pair (.i .u32) (.pair (.i .u32) .unit)))
abbrev ha_97d : List BF := []
abbrev fr_97d : Fm := (.tup (.pair (.i .i64) (.pair .b .unit)))
abbrev hr_97d : List BF := []
noncomputable def L_97d : Lps := L0
def inn_97d : T fr_97d → TH hr_97d → Int × Bool × Unit := (fun z w => z)
def out_97d : Int × Bool × Unit → T fr_97d × TH hr_97d := fun r => (r, ())
noncomputable def F_97d (a0 : Int) (a1 : Int) (a2 : Int) : Option (Int × Bool × Unit) :=
 ((F_95f a0 a1)).bind fun r0 =>
 bif r0 then
 (some ((0:Int), (false, ())))
 else
 ((F_95f a0 a2)).bind fun r1 =>
 bif r1 then
 (some ((0:Int), (false, ())))
 else
 ((F_99a a0 a1)).bind fun r2 =>
 ((F_99a a0 a2)).bind fun r3 =>
 ((F_963 a0 a1)).bind fun r4 =>
 bif r4 then
 ((F_963 a0 a2)).bind fun r5 =>
 bif r5 then
 (some ((0:Int), (true, ())))
 else
 bif (decide (r2 < r3)) then
 (some ((-(1:Int)), (true, ())))
 else
 bif (decide (r2 > r3)) then
 (some ((1:Int), (true, ())))
 else
 (some ((0:Int), (true, ())))
 else
 bif (decide (r2 < r3)) then
 (some ((-(1:Int)), (true, ())))
 else
 bif (decide (r2 > r3)) then
 (some ((1:Int), (true, ())))
 else
 (some ((0:Int), (true, ())))
noncomputable def G_97d : T fa_97d → TH ha_97d → Option (Int × Bool × Unit) := fun x y => F_97d x.1 x.2.1 x.2.2.1
noncomputable def c_97d : Orc := ent i_97d [] 0 (sp fa_97d ha_97d fr_97d hr_97d G_97d out_97d)
theorem ok_97d : OrcOk PR c_97d := fnT okO_97d mixed p_97d (by kernel_rfl) (by kernel_rfl) (L := L_97d) (kp := false) (by kernel_rfl) (inn := inn_97d) (out := out_97d) (fun _ _ => rfl) (loopsL (l := []) (by kernel_rfl) trivial) (fun x y => by kernel_rfl)
noncomputable def O_961 : Orc := c_97d
theorem okO_961 : OrcOk PR O_961 := ok_97d
abbrev fa_961 : Fm := (.pair (.i .i64) (.pair (.i .u32) (.pair (.i .u32) .unit)))
abbrev ha_961 : List BF := []
abbrev fr_961 : Fm := .b
abbrev hr_961 : List BF := []
noncomputable def L_961 : Lps := L0
def inn_961 : T fr_961 → TH hr_961 → Bool := (fun z w => z)
def out_961 : Bool → T fr_961 × TH hr_961 := fun r => (r, ())
noncomputable def F_961 (a0 : Int) (a1 : Int) (a2 : Int) : Option (Bool) :=
 ((F_97d a0 a1 a2)).bind fun r0 =>
 (some (decide (r0.1 < (0:Int))))
noncomputable def G_961 : T fa_961 → TH ha_961 → Option (Bool) := fun x y => F_961 x.1 x.2.1 x.2.2.1
noncomputable def c_961 : Orc := ent i_961 [] 0 (sp fa_961 ha_961 fr_961 hr_961 G_961 out_961)
theorem ok_961 : OrcOk PR c_961 := fnT okO_961 mixed p_961 (by kernel_rfl) (by kernel_rfl) (L := L_961) (kp := false) (by kernel_rfl) (inn := inn_961) (out := out_961) (fun _ _ => rfl) (loopsL (l := []) (by kernel_rfl) trivial) (fun x y => by kernel_rfl)
noncomputable def O_98e : Orc := c_989
theorem okO_98e : OrcOk PR O_98e := ok_989
abbrev fa_98e : Fm := (.pair (.i .i64) (.pair .b (.pair (.i .i64) (.pair (.i .u32) .unit))))
abbrev ha_98e : List BF := []
abbrev fr_98e : Fm := (.i .u32)
abbrev hr_98e : List BF := []
noncomputable def L_98e : Lps := L0
def inn_98e : T fr_98e → TH hr_98e → Int := (fun z w => z)
def out_98e : Int → T fr_98e × TH hr_98e := fun r => (r, ())
noncomputable def F_98e (a0 : Int) (a1 : Bool) (a2 : Int) (a3 : Int) : Option (Int) :=
 ((F_989 a0)).bind fun r0 =>
 let x1 : Int := (bits .or .u32 (IntKind.wrap .u32 ((IntKind.wrap .u32 a2) * ((2:Int) ^ (Min.min (Int.toNat (IntKind.wrap .u64 r0.2.1)) (32:Nat))))) a3)
 bif (decide ((0:Int) ≤ (IntKind.wrap .u64 r0.2.1))) then
 bif a1 then
 bif (decide ((0:Int) ≤ (IntKind.wrap .u64 (IntKind.wrap .i64 (r0.1 + r0.2.1))))) then
 (some (bits .or .u32 x1 (IntKind.wrap .u32 ((1:Int) * ((2:Int) ^ (Min.min (Int.toNat (IntKind.wrap .u64 (IntKind.wrap .i64 (r0.1 + r0.2.1)))) (32:Nat)))))))
 else
 none
 else
 (some x1)
 else
 none
noncomputable def G_98e : T fa_98e → TH ha_98e → Option (Int) := fun x y => F_98e x.1 x.2.1 x.2.2.1 x.2.2.2.1
noncomputable def c_98e : Orc := ent i_98e [] 0 (sp fa_98e ha_98e fr_98e hr_98e G_98e out_98e)
theorem ok_98e : OrcOk PR c_98e := fnT okO_98e mixed p_98e (by kernel_rfl) (by kernel_rfl) (L := L_98e) (kp := false) (by kernel_rfl) (inn := inn_98e) (out := out_98e) (fun _ _ => rfl) (loopsL (l := []) (by kernel_rfl) trivial) (fun x y => by kernel_rfl)
noncomputable def O_960 : Orc := (orm c_989 (orm c_98f c_98e))
theorem okO_960 : OrcOk PR O_960 := (orm_ok ok_989 (orm_ok ok_98f ok_98e))
abbrev fa_960 : Fm := (.pair (.i .i64) .unit)
abbrev ha_960 : List BF := []
abbrev fr_960 : Fm := (.i .u32)
abbrev hr_960 : List BF := []
noncomputable def L_960 : Lps := L0
def inn_960 : T fr_960 → TH hr_960 → Int := (fun z w => z)
def out_960 : Int → T fr_960 × TH hr_960 := fun r => (r, ())
noncomputable def F_960 (a0 : Int) : Option (Int) :=
 ((F_989 a0)).bind fun r0 =>
 ((F_98f a0)).bind fun r1 =>
 bif (decide ((0:Int) ≤ (IntKind.wrap .u64 (IntKind.wrap .i64 (r0.2.1 - (1:Int)))))) then
 ((F_98e a0 false r1 (IntKind.wrap .u32 ((1:Int) * ((2:Int) ^ (Min.min (Int.toNat (IntKind.wrap .u64 (IntKind.wrap .i64 (r0.2.1 - (1:Int))))) (32:Nat))))))).bind fun r2 =>
 (some r2)
 else
 none
noncomputable def G_960 : T fa_960 → TH ha_960 → Option (Int) := fun x y => F_960 x.1
noncomputable def c_960 : Orc := ent i_960 [] 0 (sp fa_960 ha_960 fr_960 hr_960 G_960 out_960)
theorem ok_960 : OrcOk PR c_960 := fnT okO_960 mixed p_960 (by kernel_rfl) (by kernel_rfl) (L := L_960) (kp := false) (by kernel_rfl) (inn := inn_960) (out := out_960) (fun _ _ => rfl) (loopsL (l := []) (by kernel_rfl) trivial) (fun x y => by kernel_rfl)
noncomputable def O_932 : Orc := orn
theorem okO_932 : OrcOk PR O_932 := (orn_ok _)
abbrev fa_932 : Fm := (.pair (.i .i64) .unit)
abbrev ha_932 : List BF := []
abbrev fr_932 : Fm := (.tup (.pair (.i .i64) (.pair (.i .i64) .unit)))
abbrev hr_932 : List BF := []
noncomputable def L_932 : Lps := L0
def inn_932 : T fr_932 → TH hr_932 → Int × Int × Unit := (fun z w => z)
def out_932 : Int × Int × Unit → T fr_932 × TH hr_932 := fun r => (r, ())
noncomputable def F_932 (a0 : Int) : Option (Int × Int × Unit) :=
 bif (a0 == (0:Int)) then
 (some ((5:Int), ((10:Int), ())))
 else
 bif (a0 == (1:Int)) then
 (some ((8:Int), ((7:Int), ())))
 else
 (some ((8:Int), ((23:Int), ())))
noncomputable def G_932 : T fa_932 → TH ha_932 → Option (Int × Int × Unit) := fun x y => F_932 x.1
noncomputable def c_932 : Orc := ent i_932 [] 0 (sp fa_932 ha_932 fr_932 hr_932 G_932 out_932)
theorem ok_932 : OrcOk PR c_932 := fnT okO_932 mixed p_932 (by kernel_rfl) (by kernel_rfl) (L := L_932) (kp := false) (by kernel_rfl) (inn := inn_932) (out := out_932) (fun _ _ => rfl) (loopsL (l := []) (by kernel_rfl) trivial) (fun x y => by kernel_rfl)
noncomputable def O_933 : Orc := c_932
theorem okO_933 : OrcOk PR O_933 := ok_932
abbrev fa_933 : Fm := (.pair (.i .i64) .unit)
abbrev ha_933 : List BF := []
abbrev fr_933 : Fm := (.i .u32)
abbrev hr_933 : List BF := []
noncomputable def L_933 : Lps := L0
def inn_933 : T fr_933 → TH hr_933 → Int := (fun z w => z)
def out_933 : Int → T fr_933 × TH hr_933 := fun r => (r, ())
noncomputable def F_933 (a0 : Int) : Option (Int) :=
 ((F_932 a0)).bind fun r0 =>
 bif (decide ((0:Int) ≤ (IntKind.wrap .i64 ((IntKind.wrap .i64 ((1:Int) + r0.1)) + r0.2.1)))) then
 (some (IntKind.wrap .u32 (IntKind.wrap .u64 ((IntKind.wrap .u64 ((1:Int) * ((2:Int) ^ (Min.min (Int.toNat (IntKind.wrap .i64 ((IntKind.wrap .i64 ((1:Int) + r0.1)) + r0.2.1))) (64:Nat))))) - (1:Int)))))
 else
 none
noncomputable def G_933 : T fa_933 → TH ha_933 → Option (Int) := fun x y => F_933 x.1
noncomputable def c_933 : Orc := ent i_933 [] 0 (sp fa_933 ha_933 fr_933 hr_933 G_933 out_933)
theorem ok_933 : OrcOk PR c_933 := fnT okO_933 mixed p_933 (by kernel_rfl) (by kernel_rfl) (L := L_933) (kp := false) (by kernel_rfl) (inn := inn_933) (out := out_933) (fun _ _ => rfl) (loopsL (l := []) (by kernel_rfl) trivial) (fun x y => by kernel_rfl)
noncomputable def O_968 : Orc := c_932
theorem okO_968 : OrcOk PR O_968 := ok_932
abbrev fa_968 : Fm := (.pair (.i .i64) (.pair .b .unit))
abbrev ha_968 : List BF := []
abbrev fr_968 : Fm := (.i .u32)
abbrev hr_968 : List BF := []
noncomputable def L_968 : Lps := L0
def inn_968 : T fr_968 → TH hr_968 → Int := (fun z w => z)
def out_968 : Int → T fr_968 × TH hr_968 := fun r => (r, ())
noncomputable def F_968 (a0 : Int) (a1 : Bool) : Option (Int) :=
 ((F_932 a0)).bind fun r0 =>
 bif a1 then
 bif (decide ((0:Int) ≤ (IntKind.wrap .i64 (r0.1 + r0.2.1)))) then
 (some (IntKind.wrap .u32 ((1:Int) * ((2:Int) ^ (Min.min (Int.toNat (IntKind.wrap .i64 (r0.1 + r0.2.1))) (32:Nat))))))
 else
 none
 else
 (some (0:Int))
noncomputable def G_968 : T fa_968 → TH ha_968 → Option (Int) := fun x y => F_968 x.1 x.2.1
noncomputable def c_968 : Orc := ent i_968 [] 0 (sp fa_968 ha_968 fr_968 hr_968 G_968 out_968)
theorem ok_968 : OrcOk PR c_968 := fnT okO_968 mixed p_968 (by kernel_rfl) (by kernel_rfl) (L := L_968) (kp := false) (by kernel_rfl) (inn := inn_968) (out := out_968) (fun _ _ => rfl) (loopsL (l := []) (by kernel_rfl) trivial) (fun x y => by kernel_rfl)
noncomputable def O_982 : Orc := (orm c_932 c_933)
theorem okO_982 : OrcOk PR O_982 := (orm_ok ok_932 ok_933)
abbrev fa_982 : Fm := (.pair (.i .i64) (.pair (.i .u32) .unit))
abbrev ha_982 : List BF := []
abbrev fr_982 : Fm := (.tup (.pair .b (.pair (.i .i64) (.pair (.i .u64) .unit))))
abbrev hr_982 : List BF := []
noncomputable def L_982 : Lps := L0
def inn_982 : T fr_982 → TH hr_982 → Bool × Int × Int × Unit := (fun z w => z)
def out_982 : Bool × Int × Int × Unit → T fr_982 × TH hr_982 := fun r => (r, ())
noncomputable def F_982 (a0 : Int) (a1 : Int) : Option (Bool × Int × Int × Unit) :=
 ((F_932 a0)).bind fun r0 =>
 let x1 : Int := ((2:Int) ^ (Min.min (Int.toNat r0.2.1) (32:Nat)))
 ((F_933 a0)).bind fun r2 =>
 let x3 : Int := (bits .and .u32 a1 r2)
 bif (decide ((0:Int) ≤ (IntKind.wrap .i64 (r0.1 + r0.2.1)))) then
 bif (decide ((0:Int) ≤ r0.2.1)) then
 bif (decide ((0:Int) ≤ r0.1)) then
 bif (decide ((0:Int) ≤ r0.2.1)) then
 (some (((x3 / ((2:Int) ^ (Min.min (Int.toNat (IntKind.wrap .i64 (r0.1 + r0.2.1))) (32:Nat)))) == (1:Int)), ((IntKind.wrap .i64 (bits .and .u32 (x3 / x1) (IntKind.wrap .u32 ((IntKind.wrap .u32 ((1:Int) * ((2:Int) ^ (Min.min (Int.toNat r0.1) (32:Nat))))) - (1:Int))))), ((IntKind.wrap .u64 (bits .and .u32 x3 (IntKind.wrap .u32 ((IntKind.wrap .u32 ((1:Int) * x1)) - (1:Int))))), ()))))
 else
 none
 else
 none
 else
 none
 else
 none
noncomputable def G_982 : T fa_982 → TH ha_982 → Option (Bool × Int × Int × Unit) := fun x y => F_982 x.1 x.2.1
noncomputable def c_982 : Orc := ent i_982 [] 0 (sp fa_982 ha_982 fr_982 hr_982 G_982 out_982)
theorem ok_982 : OrcOk PR c_982 := fnT okO_982 mixed p_982 (by kernel_rfl) (by kernel_rfl) (L := L_982) (kp := false) (by kernel_rfl) (inn := inn_982) (out := out_982) (fun _ _ => rfl) (loopsL (l := []) (by kernel_rfl) trivial) (fun x y => by kernel_rfl)
noncomputable def O_957 : Orc := c_982
theorem okO_957 : OrcOk PR O_957 := ok_982
abbrev fa_957 : Fm := (.pair (.i .i64) (.pair (.i .u32) .unit))
abbrev ha_957 : List BF := []
abbrev fr_957 : Fm := .b
abbrev hr_957 : List BF := []
noncomputable def L_957 : Lps := L0
def inn_957 : T fr_957 → TH hr_957 → Bool := (fun z w => z)
def out_957 : Bool → T fr_957 × TH hr_957 := fun r => (r, ())
noncomputable def F_957 (a0 : Int) (a1 : Int) : Option (Bool) :=
 ((F_982 a0 a1)).bind fun r0 =>
 (some r0.1)
noncomputable def G_957 : T fa_957 → TH ha_957 → Option (Bool) := fun x y => F_957 x.1 x.2.1
noncomputable def c_957 : Orc := ent i_957 [] 0 (sp fa_957 ha_957 fr_957 hr_957 G_957 out_957)
theorem ok_957 : OrcOk PR c_957 := fnT okO_957 mixed p_957 (by kernel_rfl) (by kernel_rfl) (L := L_957) (kp := false) (by kernel_rfl) (inn := inn_957) (out := out_957) (fun _ _ => rfl) (loopsL (l := []) (by kernel_rfl) trivial) (fun x y => by kernel_rfl)
noncomputable def O_979 : Orc := (orm c_933 (orm c_968 c_957))
theorem okO_979 : OrcOk PR O_979 := (orm_ok ok_933 (orm_ok ok_968 ok_957))
abbrev fa_979 : Fm := (.pair (.i .i64) (.pair (.i .u32) .unit))
abbrev ha_979 : List BF := []
abbrev fr_979 : Fm := (.i .i64)
abbrev hr_979 : List BF := []
noncomputable def L_979 : Lps := L0
def inn_979 : T fr_979 → TH hr_979 → Int := (fun z w => z)
def out_979 : Int → T fr_979 × TH hr_979 := fun r => (r, ())
noncomputable def F_979 (a0 : Int) (a1 : Int) : Option (Int) :=
 ((F_933 a0)).bind fun r0 =>
 ((F_968 a0 true)).bind fun r1 =>
 let x2 : Int := (IntKind.wrap .i64 (bits .andNot .u32 (bits .and .u32 a1 r0) r1))
 ((F_957 a0 a1)).bind fun r3 =>
 bif r3 then
 (some (IntKind.wrap .i64 ((-(1:Int)) - x2)))
 else
 (some x2)
noncomputable def G_979 : T fa_979 → TH ha_979 → Option (Int) := fun x y => F_979 x.1 x.2.1
noncomputable def c_979 : Orc := ent i_979 [] 0 (sp fa_979 ha_979 fr_979 hr_979 G_979 out_979)
theorem ok_979 : OrcOk PR c_979 := fnT okO_979 mixed p_979 (by kernel_rfl) (by kernel_rfl) (L := L_979) (kp := false) (by kernel_rfl) (inn := inn_979) (out := out_979) (fun _ _ => rfl) (loopsL (l := []) (by kernel_rfl) trivial) (fun x y => by kernel_rfl)
noncomputable def O_952 : Orc := (orm c_932 c_982)
theorem okO_952 : OrcOk PR O_952 := (orm_ok ok_932 ok_982)
abbrev fa_952 : Fm := (.pair (.i .i64) (.pair (.i .u32) .unit))
abbrev ha_952 : List BF := []
abbrev fr_952 : Fm := (.i .i64)
abbrev hr_952 : List BF := []
noncomputable def L_952 : Lps := L0
def inn_952 : T fr_952 → TH hr_952 → Int := (fun z w => z)
def out_952 : Int → T fr_952 × TH hr_952 := fun r => (r, ())
noncomputable def F_952 (a0 : Int) (a1 : Int) : Option (Int) :=
 ((F_932 a0)).bind fun r0 =>
 ((F_982 a0 a1)).bind fun r1 =>
 let x2 : Bool := (r1.2.1 == (0:Int))
 let x3 : Int := r1.2.2.1
 let x4 : Bool := (x3 == (0:Int))
 let x5 : Bool := ((x3 / ((2:Int) ^ (Min.min (Int.toNat (IntKind.wrap .i64 (r0.2.1 - (1:Int)))) (64:Nat)))) == (1:Int))
 bif x2 then
 bif x4 then
 (some (0:Int))
 else
 bif x2 then
 (some (1:Int))
 else
 bif (decide ((0:Int) ≤ r0.1)) then
 bif (decide (r1.2.1 < (IntKind.wrap .i64 ((IntKind.wrap .i64 ((1:Int) * ((2:Int) ^ (Min.min (Int.toNat r0.1) (64:Nat))))) - (1:Int))))) then
 (some (2:Int))
 else
 bif x4 then
 (some (3:Int))
 else
 bif (decide ((0:Int) ≤ (IntKind.wrap .i64 (r0.2.1 - (1:Int))))) then
 bif x5 then
 (some (4:Int))
 else
 (some (5:Int))
 else
 none
 else
 none
 else
 bif x2 then
 (some (1:Int))
 else
 bif (decide ((0:Int) ≤ r0.1)) then
 bif (decide (r1.2.1 < (IntKind.wrap .i64 ((IntKind.wrap .i64 ((1:Int) * ((2:Int) ^ (Min.min (Int.toNat r0.1) (64:Nat))))) - (1:Int))))) then
 (some (2:Int))
 else
 bif x4 then
 (some (3:Int))
 else
 bif (decide ((0:Int) ≤ (IntKind.wrap .i64 (r0.2.1 - (1:Int))))) then
 bif x5 then
 (some (4:Int))
 else
 (some (5:Int))
 else
 none
 else
 none
noncomputable def G_952 : T fa_952 → TH ha_952 → Option (Int) := fun x y => F_952 x.1 x.2.1
noncomputable def c_952 : Orc := ent i_952 [] 0 (sp fa_952 ha_952 fr_952 hr_952 G_952 out_952)
theorem ok_952 : OrcOk PR c_952 := fnT okO_952 mixed p_952 (by kernel_rfl) (by kernel_rfl) (L := L_952) (kp := false) (by kernel_rfl) (inn := inn_952) (out := out_952) (fun _ _ => rfl) (loopsL (l := []) (by kernel_rfl) trivial) (fun x y => by kernel_rfl)
noncomputable def O_954 : Orc := c_952
theorem okO_954 : OrcOk PR O_954 := ok_952
abbrev fa_954 : Fm := (.pair (.i .i64) (.pair (.si .u32) .unit))
abbrev ha_954 : List BF := []
abbrev fr_954 : Fm := (.tup (.pair .b (.pair .b .unit)))
abbrev hr_954 : List BF := []
abbrev ff_954_0 : Fm := (.pair (.i .i64) (.pair (.si .u32) (.us 4 (.pair .b (.pair .b (.pair (.i .i64) (.us 29 .unit)))))))
abbrev hf_954_0 : List BF := []
abbrev X_954_0 : Xs := (.one (.exit 0) [6, 7] (.us 6 (.pair .b (.pair .b (.us 30 .unit)))) [])
abbrev S_954_0 : Type := T ff_954_0 × TH hf_954_0
abbrev E_954_0 : Type := TX X_954_0
noncomputable def LB_954_0 : Lps := L0
noncomputable def st_954_0 : StepT S_954_0 E_954_0 := fun R v kn ko =>
 let x0 : Int := v.1.1
 let x1 : List Int := v.1.2.1
 let x2 : Int := v.1.2.2.2.2.1
 let x3 : Bool := v.1.2.2.1
 let x4 : Bool := v.1.2.2.2.1
 let x5 : List Int := (List.take (List.length x1) x1)
 bif (decide (x2 < (((List.length x1) : Nat) : Int))) then
 bif (decide (((0:Int) ≤ x2) ∧ (x2 < (((List.length x1) : Nat) : Int)))) then
 ((F_952 x0 (List.getD x1 (Int.toNat x2) (0:Int)))).bind fun r6 =>
 bif x3 then
 bif x4 then
 (kn ((x0, (x5, (true, (true, ((IntKind.wrap .i64 (x2 + (1:Int))), ()))))), ()))
 else
 (kn ((x0, (x5, (true, ((r6 == (5:Int)), ((IntKind.wrap .i64 (x2 + (1:Int))), ()))))), ()))
 else
 bif (r6 == (4:Int)) then
 bif x4 then
 (kn ((x0, (x5, (true, (true, ((IntKind.wrap .i64 (x2 + (1:Int))), ()))))), ()))
 else
 (kn ((x0, (x5, (true, ((r6 == (5:Int)), ((IntKind.wrap .i64 (x2 + (1:Int))), ()))))), ()))
 else
 bif x4 then
 (kn ((x0, (x5, ((r6 == (5:Int)), (true, ((IntKind.wrap .i64 (x2 + (1:Int))), ()))))), ()))
 else
 (kn ((x0, (x5, ((r6 == (5:Int)), ((r6 == (5:Int)), ((IntKind.wrap .i64 (x2 + (1:Int))), ()))))), ()))
 else
 none
 else
 (ko ((x3, (x4, ())), ()))
noncomputable def ls_954_0 : St → LTr := (lsum ff_954_0 hf_954_0 X_954_0 Prod.mk id st_954_0 (hd [] [] [0, 1, 6, 7, 8] 0))
theorem lp_954_0 : LoopOk PR 0 (lpN f_954 0) ls_954_0 := loopT okO_954 mixed (L := LB_954_0) (d := 1) (bs := []) (ks := [0, 1, 6, 7, 8]) (loopsL (l := []) (by kernel_rfl) trivial) (by kernel_rfl) (inS := Prod.mk) (outS := id) (fun _ _ => rfl) (inX := id) (outX := id) (fun _ => rfl) (fun v R kn ko => by kernel_rfl) (hd_wk [] [] [0, 1, 6, 7, 8] 0)
noncomputable def L_954 : Lps := (lpB 4 (.by_ ls_954_0) L0)
def inn_954 : T fr_954 → TH hr_954 → Bool × Bool × Unit := (fun z w => z)
def out_954 : Bool × Bool × Unit → T fr_954 × TH hr_954 := fun r => (r, ())
noncomputable def F_954 (a0 : Int) (a1 : List Int) : Option (Bool × Bool × Unit) :=
 ((lim st_954_0 ((a0, ((List.take (List.length a1) a1), (false, (false, ((0:Int), ()))))), ()))).bind fun r0 =>
 (some r0.1)
noncomputable def G_954 : T fa_954 → TH ha_954 → Option (Bool × Bool × Unit) := fun x y => F_954 x.1 x.2.1
noncomputable def c_954 : Orc := ent i_954 [] 0 (sp fa_954 ha_954 fr_954 hr_954 G_954 out_954)
theorem ok_954 : OrcOk PR c_954 := fnT okO_954 mixed p_954 (by kernel_rfl) (by kernel_rfl) (L := L_954) (kp := false) (by kernel_rfl) (inn := inn_954) (out := out_954) (fun _ _ => rfl) (loopsL (l := [((lpN f_954 0), ls_954_0)]) (by kernel_rfl) ⟨lp_954_0, trivial⟩) (fun x y => by kernel_rfl)
noncomputable def O_980 : Orc := c_952
theorem okO_980 : OrcOk PR O_980 := ok_952
abbrev fa_980 : Fm := (.pair (.i .i64) (.pair (.i .u32) .unit))
abbrev ha_980 : List BF := []
abbrev fr_980 : Fm := .b
abbrev hr_980 : List BF := []
noncomputable def L_980 : Lps := L0
def inn_980 : T fr_980 → TH hr_980 → Bool := (fun z w => z)
def out_980 : Bool → T fr_980 × TH hr_980 := fun r => (r, ())
noncomputable def F_980 (a0 : Int) (a1 : Int) : Option (Bool) :=
 ((F_952 a0 a1)).bind fun r0 =>
 (some (r0 == (0:Int)))
noncomputable def G_980 : T fa_980 → TH ha_980 → Option (Bool) := fun x y => F_980 x.1 x.2.1
noncomputable def c_980 : Orc := ent i_980 [] 0 (sp fa_980 ha_980 fr_980 hr_980 G_980 out_980)
theorem ok_980 : OrcOk PR c_980 := fnT okO_980 mixed p_980 (by kernel_rfl) (by kernel_rfl) (L := L_980) (kp := false) (by kernel_rfl) (inn := inn_980) (out := out_980) (fun _ _ => rfl) (loopsL (l := []) (by kernel_rfl) trivial) (fun x y => by kernel_rfl)
noncomputable def O_971 : Orc := (orm c_954 (orm c_980 c_979))
theorem okO_971 : OrcOk PR O_971 := (orm_ok ok_954 (orm_ok ok_980 ok_979))
abbrev fa_971 : Fm := (.pair (.i .i64) (.pair (.i .u32) (.pair (.i .u32) .unit)))
abbrev ha_971 : List BF := []
abbrev fr_971 : Fm := (.tup (.pair (.i .i64) (.pair .b .unit)))
abbrev hr_971 : List BF := []
noncomputable def L_971 : Lps := L0
def inn_971 : T fr_971 → TH hr_971 → Int × Bool × Unit := (fun z w => z)
def out_971 : Int × Bool × Unit → T fr_971 × TH hr_971 := fun r => (r, ())
noncomputable def F_971 (a0 : Int) (a1 : Int) (a2 : Int) : Option (Int × Bool × Unit) :=
 ((F_954 a0 [a1, a2])).bind fun r0 =>
 bif r0.1 then
 (some ((0:Int), (false, ())))
 else
 ((F_980 a0 a1)).bind fun r1 =>
 bif r1 then
 ((F_980 a0 a2)).bind fun r2 =>
 bif r2 then
 (some ((0:Int), (true, ())))
 else
 ((F_979 a0 a1)).bind fun r3 =>
 ((F_979 a0 a2)).bind fun r4 =>
 bif (decide (r3 < r4)) then
 (some ((-(1:Int)), (true, ())))
 else
 bif (decide (r3 > r4)) then
 (some ((1:Int), (true, ())))
 else
 (some ((0:Int), (true, ())))
 else
 ((F_979 a0 a1)).bind fun r5 =>
 ((F_979 a0 a2)).bind fun r6 =>
 bif (decide (r5 < r6)) then
 (some ((-(1:Int)), (true, ())))
 else
 bif (decide (r5 > r6)) then
 (some ((1:Int), (true, ())))
 else
 (some ((0:Int), (true, ())))
noncomputable def G_971 : T fa_971 → TH ha_971 → Option (Int × Bool × Unit) := fun x y => F_971 x.1 x.2.1 x.2.2.1
noncomputable def c_971 : Orc := ent i_971 [] 0 (sp fa_971 ha_971 fr_971 hr_971 G_971 out_971)
theorem ok_971 : OrcOk PR c_971 := fnT okO_971 mixed p_971 (by kernel_rfl) (by kernel_rfl) (L := L_971) (kp := false) (by kernel_rfl) (inn := inn_971) (out := out_971) (fun _ _ => rfl) (loopsL (l := []) (by kernel_rfl) trivial) (fun x y => by kernel_rfl)
noncomputable def O_948 : Orc := c_971
theorem okO_948 : OrcOk PR O_948 := ok_971
abbrev fa_948 : Fm := (.pair (.i .i64) (.pair (.i .u32) (.pair (.i .u32) .unit)))
abbrev ha_948 : List BF := []
abbrev fr_948 : Fm := .b
abbrev hr_948 : List BF := []
noncomputable def L_948 : Lps := L0
def inn_948 : T fr_948 → TH hr_948 → Bool := (fun z w => z)
def out_948 : Bool → T fr_948 × TH hr_948 := fun r => (r, ())
noncomputable def F_948 (a0 : Int) (a1 : Int) (a2 : Int) : Option (Bool) :=
 ((F_971 a0 a1 a2)).bind fun r0 =>
 bif r0.2.1 then
 (some (decide (r0.1 < (0:Int))))
 else
 (some false)
noncomputable def G_948 : T fa_948 → TH ha_948 → Option (Bool) := fun x y => F_948 x.1 x.2.1 x.2.2.1
noncomputable def c_948 : Orc := ent i_948 [] 0 (sp fa_948 ha_948 fr_948 hr_948 G_948 out_948)
theorem ok_948 : OrcOk PR c_948 := fnT okO_948 mixed p_948 (by kernel_rfl) (by kernel_rfl) (L := L_948) (kp := false) (by kernel_rfl) (inn := inn_948) (out := out_948) (fun _ _ => rfl) (loopsL (l := []) (by kernel_rfl) trivial) (fun x y => by kernel_rfl)
noncomputable def O_956 : Orc := (orm c_932 c_968)
theorem okO_956 : OrcOk PR O_956 := (orm_ok ok_932 ok_968)
abbrev fa_956 : Fm := (.pair (.i .i64) (.pair .b .unit))
abbrev ha_956 : List BF := []
abbrev fr_956 : Fm := (.i .u32)
abbrev hr_956 : List BF := []
noncomputable def L_956 : Lps := L0
def inn_956 : T fr_956 → TH hr_956 → Int := (fun z w => z)
def out_956 : Int → T fr_956 × TH hr_956 := fun r => (r, ())
noncomputable def F_956 (a0 : Int) (a1 : Bool) : Option (Int) :=
 ((F_932 a0)).bind fun r0 =>
 ((F_968 a0 a1)).bind fun r1 =>
 bif (decide ((0:Int) ≤ r0.1)) then
 bif (decide ((0:Int) ≤ r0.2.1)) then
 (some (bits .or .u32 r1 (IntKind.wrap .u32 ((IntKind.wrap .u32 ((IntKind.wrap .u32 ((1:Int) * ((2:Int) ^ (Min.min (Int.toNat r0.1) (32:Nat))))) - (1:Int))) * ((2:Int) ^ (Min.min (Int.toNat r0.2.1) (32:Nat)))))))
 else
 none
 else
 none
noncomputable def G_956 : T fa_956 → TH ha_956 → Option (Int) := fun x y => F_956 x.1 x.2.1
noncomputable def c_956 : Orc := ent i_956 [] 0 (sp fa_956 ha_956 fr_956 hr_956 G_956 out_956)
theorem ok_956 : OrcOk PR c_956 := fnT okO_956 mixed p_956 (by kernel_rfl) (by kernel_rfl) (L := L_956) (kp := false) (by kernel_rfl) (inn := inn_956) (out := out_956) (fun _ _ => rfl) (loopsL (l := []) (by kernel_rfl) trivial) (fun x y => by kernel_rfl)
noncomputable def O_936 : Orc := (orm c_932 c_956)
theorem okO_936 : OrcOk PR O_936 := (orm_ok ok_932 ok_956)
abbrev fa_936 : Fm := (.pair (.i .i64) .unit)
abbrev ha_936 : List BF := []
abbrev fr_936 : Fm := (.i .u32)
abbrev hr_936 : List BF := []
noncomputable def L_936 : Lps := L0
def inn_936 : T fr_936 → TH hr_936 → Int := (fun z w => z)
def out_936 : Int → T fr_936 × TH hr_936 := fun r => (r, ())
noncomputable def F_936 (a0 : Int) : Option (Int) :=
 ((F_932 a0)).bind fun r0 =>
 ((F_956 a0 false)).bind fun r1 =>
 bif (decide ((0:Int) ≤ (IntKind.wrap .i64 (r0.2.1 - (1:Int))))) then
 (some (bits .or .u32 r1 (IntKind.wrap .u32 ((1:Int) * ((2:Int) ^ (Min.min (Int.toNat (IntKind.wrap .i64 (r0.2.1 - (1:Int)))) (32:Nat)))))))
 else
 none
noncomputable def G_936 : T fa_936 → TH ha_936 → Option (Int) := fun x y => F_936 x.1
noncomputable def c_936 : Orc := ent i_936 [] 0 (sp fa_936 ha_936 fr_936 hr_936 G_936 out_936)
theorem ok_936 : OrcOk PR c_936 := fnT okO_936 mixed p_936 (by kernel_rfl) (by kernel_rfl) (L := L_936) (kp := false) (by kernel_rfl) (inn := inn_936) (out := out_936) (fun _ _ => rfl) (loopsL (l := []) (by kernel_rfl) trivial) (fun x y => by kernel_rfl)
noncomputable def O_934 : Orc := c_968
theorem okO_934 : OrcOk PR O_934 := ok_968
abbrev fa_934 : Fm := (.pair (.i .i64) (.pair .b .unit))
abbrev ha_934 : List BF := []
abbrev fr_934 : Fm := (.i .u32)
abbrev hr_934 : List BF := []
noncomputable def L_934 : Lps := L0
def inn_934 : T fr_934 → TH hr_934 → Int := (fun z w => z)
def out_934 : Int → T fr_934 × TH hr_934 := fun r => (r, ())
noncomputable def F_934 (a0 : Int) (a1 : Bool) : Option (Int) :=
 ((F_968 a0 a1)).bind fun r0 =>
 (some r0)
noncomputable def G_934 : T fa_934 → TH ha_934 → Option (Int) := fun x y => F_934 x.1 x.2.1
noncomputable def c_934 : Orc := ent i_934 [] 0 (sp fa_934 ha_934 fr_934 hr_934 G_934 out_934)
theorem ok_934 : OrcOk PR c_934 := fnT okO_934 mixed p_934 (by kernel_rfl) (by kernel_rfl) (L := L_934) (kp := false) (by kernel_rfl) (inn := inn_934) (out := out_934) (fun _ _ => rfl) (loopsL (l := []) (by kernel_rfl) trivial) (fun x y => by kernel_rfl)
noncomputable def O_913 : Orc := (orm c_932 (orm c_933 c_934))
theorem okO_913 : OrcOk PR O_913 := (orm_ok ok_932 (orm_ok ok_933 ok_934))
abbrev fa_913 : Fm := (.pair (.i .i64) (.pair (.i .u32) .unit))
abbrev ha_913 : List BF := []
abbrev fr_913 : Fm := (.i .u32)
abbrev hr_913 : List BF := []
noncomputable def L_913 : Lps := L0
def inn_913 : T fr_913 → TH hr_913 → Int := (fun z w => z)
def out_913 : Int → T fr_913 × TH hr_913 := fun r => (r, ())
noncomputable def F_913 (a0 : Int) (a1 : Int) : Option (Int) :=
 ((F_932 a0)).bind fun r0 =>
 let x1 : Int := ((2:Int) ^ (Min.min (Int.toNat r0.2.1) (32:Nat)))
 let x2 : Int := (IntKind.wrap .u32 ((3:Int) * x1))
 let x3 : Int := (IntKind.wrap .u32 ((9:Int) * x1))
 let x4 : Int := (IntKind.wrap .u32 ((1:Int) * x1))
 let x5 : Int := (IntKind.wrap .u32 ((IntKind.wrap .u32 ((1:Int) * ((2:Int) ^ (Min.min (Int.toNat r0.1) (32:Nat))))) - (1:Int)))
 let x6 : Int := (IntKind.wrap .u32 ((x5 / (2:Int)) * x1))
 let x7 : Int := (IntKind.wrap .u32 (x5 * x1))
 bif (decide ((0:Int) ≤ r0.1)) then
 bif (decide ((0:Int) ≤ r0.2.1)) then
 bif (decide ((0:Int) ≤ r0.2.1)) then
 bif (decide ((0:Int) ≤ r0.2.1)) then
 bif (decide ((0:Int) ≤ r0.2.1)) then
 bif (decide ((0:Int) ≤ r0.2.1)) then
 bif (x2 == (0:Int)) then
 none
 else
 bif (decide ((0:Int) ≤ r0.2.1)) then
 bif (decide ((0:Int) ≤ r0.2.1)) then
 bif (decide ((0:Int) ≤ r0.2.1)) then
 bif (decide ((0:Int) ≤ r0.2.1)) then
 bif (decide ((0:Int) ≤ (IntKind.wrap .i64 (r0.2.1 - (1:Int))))) then
 bif (decide ((0:Int) ≤ r0.2.1)) then
 bif (x3 == (0:Int)) then
 none
 else
 bif (decide (((0:Int) ≤ (Int.tmod a1 (15:Int))) ∧ ((Int.tmod a1 (15:Int)) < (15:Int)))) then
 bif (decide (((0:Nat) + ((Int.toNat (Int.tmod a1 (15:Int))) * (1:Nat))) < (15:Nat))) then
 ((F_933 a0)).bind fun r8 =>
 let x9 : Int := (bits .and .u32 (List.getD [(0:Int), (1:Int), (IntKind.wrap .u32 (x4 - (1:Int))), x4, x6, (IntKind.wrap .u32 (x6 + (1:Int))), (IntKind.wrap .u32 (x6 - (1:Int))), (IntKind.wrap .u32 (x6 + x4)), (IntKind.wrap .u32 (x6 + (Int.tmod (a1 / (16:Int)) x2))), (IntKind.wrap .u32 (x7 - (1:Int))), x7, (bits .or .u32 x7 (1:Int)), (bits .or .u32 x7 (IntKind.wrap .u32 ((1:Int) * ((2:Int) ^ (Min.min (Int.toNat (IntKind.wrap .i64 (r0.2.1 - (1:Int)))) (32:Nat)))))), (IntKind.wrap .u32 (x6 - (Int.tmod (a1 / (16:Int)) x3))), (a1 / (16:Int))] ((0:Nat) + ((Int.toNat (Int.tmod a1 (15:Int))) * (1:Nat))) (0:Int)) r8)
 bif ((a1 / (2147483648:Int)) == (1:Int)) then
 ((F_934 a0 true)).bind fun r10 =>
 (some (bits .or .u32 x9 r10))
 else
 (some x9)
 else
 none
 else
 none
 else
 none
 else
 none
 else
 none
 else
 none
 else
 none
 else
 none
 else
 none
 else
 none
 else
 none
 else
 none
 else
 none
 else
 none
noncomputable def G_913 : T fa_913 → TH ha_913 → Option (Int) := fun x y => F_913 x.1 x.2.1
noncomputable def c_913 : Orc := ent i_913 [] 0 (sp fa_913 ha_913 fr_913 hr_913 G_913 out_913)
theorem ok_913 : OrcOk PR c_913 := fnT okO_913 mixed p_913 (by kernel_rfl) (by kernel_rfl) (L := L_913) (kp := false) (by kernel_rfl) (inn := inn_913) (out := out_913) (fun _ _ => rfl) (loopsL (l := []) (by kernel_rfl) trivial) (fun x y => by kernel_rfl)
noncomputable def O_955 : Orc := c_952
theorem okO_955 : OrcOk PR O_955 := ok_952
abbrev fa_955 : Fm := (.pair (.i .i64) (.pair (.i .u32) .unit))
abbrev ha_955 : List BF := []
abbrev fr_955 : Fm := .b
abbrev hr_955 : List BF := []
noncomputable def L_955 : Lps := L0
def inn_955 : T fr_955 → TH hr_955 → Bool := (fun z w => z)
def out_955 : Bool → T fr_955 × TH hr_955 := fun r => (r, ())
noncomputable def F_955 (a0 : Int) (a1 : Int) : Option (Bool) :=
 ((F_952 a0 a1)).bind fun r0 =>
 (some (r0 == (3:Int)))
noncomputable def G_955 : T fa_955 → TH ha_955 → Option (Bool) := fun x y => F_955 x.1 x.2.1
noncomputable def c_955 : Orc := ent i_955 [] 0 (sp fa_955 ha_955 fr_955 hr_955 G_955 out_955)
theorem ok_955 : OrcOk PR c_955 := fnT okO_955 mixed p_955 (by kernel_rfl) (by kernel_rfl) (L := L_955) (kp := false) (by kernel_rfl) (inn := inn_955) (out := out_955) (fun _ _ => rfl) (loopsL (l := []) (by kernel_rfl) trivial) (fun x y => by kernel_rfl)
noncomputable def O_983 : Orc := c_932
theorem okO_983 : OrcOk PR O_983 := ok_932
abbrev fa_983 : Fm := (.pair (.i .i64) .unit)
abbrev ha_983 : List BF := []
abbrev fr_983 : Fm := (.i .i64)
abbrev hr_983 : List BF := []
noncomputable def L_983 : Lps := L0
def inn_983 : T fr_983 → TH hr_983 → Int := (fun z w => z)
def out_983 : Int → T fr_983 × TH hr_983 := fun r => (r, ())
noncomputable def F_983 (a0 : Int) : Option (Int) :=
 ((F_932 a0)).bind fun r0 =>
 bif (decide ((0:Int) ≤ (IntKind.wrap .i64 (r0.1 - (1:Int))))) then
 (some (IntKind.wrap .i64 ((IntKind.wrap .i64 ((1:Int) * ((2:Int) ^ (Min.min (Int.toNat (IntKind.wrap .i64 (r0.1 - (1:Int)))) (64:Nat))))) - (1:Int))))
 else
 none
noncomputable def G_983 : T fa_983 → TH ha_983 → Option (Int) := fun x y => F_983 x.1
noncomputable def c_983 : Orc := ent i_983 [] 0 (sp fa_983 ha_983 fr_983 hr_983 G_983 out_983)
theorem ok_983 : OrcOk PR c_983 := fnT okO_983 mixed p_983 (by kernel_rfl) (by kernel_rfl) (L := L_983) (kp := false) (by kernel_rfl) (inn := inn_983) (out := out_983) (fun _ _ => rfl) (loopsL (l := []) (by kernel_rfl) trivial) (fun x y => by kernel_rfl)
noncomputable def O_951 : Orc := (orm c_932 (orm c_982 (orm c_952 c_983)))
theorem okO_951 : OrcOk PR O_951 := (orm_ok ok_932 (orm_ok ok_982 (orm_ok ok_952 ok_983)))
abbrev fa_951 : Fm := (.pair (.i .i64) (.pair (.i .u32) .unit))
abbrev ha_951 : List BF := []
abbrev fr_951 : Fm := (.tup (.pair .b (.pair (.i .i64) (.pair (.i .u64) .unit))))
abbrev hr_951 : List BF := []
noncomputable def L_951 : Lps := L0
def inn_951 : T fr_951 → TH hr_951 → Bool × Int × Int × Unit := (fun z w => z)
def out_951 : Bool × Int × Int × Unit → T fr_951 × TH hr_951 := fun r => (r, ())
noncomputable def F_951 (a0 : Int) (a1 : Int) : Option (Bool × Int × Int × Unit) :=
 ((F_932 a0)).bind fun r0 =>
 ((F_982 a0 a1)).bind fun r1 =>
 let x2 : Int := r1.2.2.1
 ((F_952 a0 a1)).bind fun r3 =>
 bif (r3 == (2:Int)) then
 ((F_983 a0)).bind fun r4 =>
 bif (decide ((0:Int) ≤ r0.2.1)) then
 (some (r1.1, ((IntKind.wrap .i64 ((IntKind.wrap .i64 (r1.2.1 - r4)) - r0.2.1)), ((bits .or .u64 x2 (IntKind.wrap .u64 ((1:Int) * ((2:Int) ^ (Min.min (Int.toNat r0.2.1) (64:Nat)))))), ()))))
 else
 none
 else
 bif (bif (r3 == (0:Int)) then (r3 == (0:Int)) else (r3 == (1:Int))) then
 ((F_983 a0)).bind fun r5 =>
 (some (r1.1, ((IntKind.wrap .i64 ((IntKind.wrap .i64 ((1:Int) - r5)) - r0.2.1)), r1.2.2)))
 else
 (some (r1.1, ((0:Int), ((0:Int), ()))))
noncomputable def G_951 : T fa_951 → TH ha_951 → Option (Bool × Int × Int × Unit) := fun x y => F_951 x.1 x.2.1
noncomputable def c_951 : Orc := ent i_951 [] 0 (sp fa_951 ha_951 fr_951 hr_951 G_951 out_951)
theorem ok_951 : OrcOk PR c_951 := fnT okO_951 mixed p_951 (by kernel_rfl) (by kernel_rfl) (L := L_951) (kp := false) (by kernel_rfl) (inn := inn_951) (out := out_951) (fun _ _ => rfl) (loopsL (l := []) (by kernel_rfl) trivial) (fun x y => by kernel_rfl)
noncomputable def O_9a9 : Orc := c_956
theorem okO_9a9 : OrcOk PR O_9a9 := ok_956
abbrev fa_9a9 : Fm := (.pair (.i .i64) (.pair .b .unit))
abbrev ha_9a9 : List BF := []
abbrev fr_9a9 : Fm := (.i .u32)
abbrev hr_9a9 : List BF := []
noncomputable def L_9a9 : Lps := L0
def inn_9a9 : T fr_9a9 → TH hr_9a9 → Int := (fun z w => z)
def out_9a9 : Int → T fr_9a9 × TH hr_9a9 := fun r => (r, ())
noncomputable def F_9a9 (a0 : Int) (a1 : Bool) : Option (Int) :=
 ((F_956 a0 a1)).bind fun r0 =>
 (some (IntKind.wrap .u32 (r0 - (1:Int))))
noncomputable def G_9a9 : T fa_9a9 → TH ha_9a9 → Option (Int) := fun x y => F_9a9 x.1 x.2.1
noncomputable def c_9a9 : Orc := ent i_9a9 [] 0 (sp fa_9a9 ha_9a9 fr_9a9 hr_9a9 G_9a9 out_9a9)
theorem ok_9a9 : OrcOk PR c_9a9 := fnT okO_9a9 mixed p_9a9 (by kernel_rfl) (by kernel_rfl) (L := L_9a9) (kp := false) (by kernel_rfl) (inn := inn_9a9) (out := out_9a9) (fun _ _ => rfl) (loopsL (l := []) (by kernel_rfl) trivial) (fun x y => by kernel_rfl)
noncomputable def O_987 : Orc := (orm c_9a9 c_956)
theorem okO_987 : OrcOk PR O_987 := (orm_ok ok_9a9 ok_956)
abbrev fa_987 : Fm := (.pair (.i .i64) (.pair (.i .i64) (.pair .b .unit)))
abbrev ha_987 : List BF := []
abbrev fr_987 : Fm := (.i .u32)
abbrev hr_987 : List BF := []
noncomputable def L_987 : Lps := L0
def inn_987 : T fr_987 → TH hr_987 → Int := (fun z w => z)
def out_987 : Int → T fr_987 × TH hr_987 := fun r => (r, ())
noncomputable def F_987 (a0 : Int) (a1 : Int) (a2 : Bool) : Option (Int) :=
 bif (a1 == (1:Int)) then
 ((F_9a9 a0 a2)).bind fun r0 =>
 (some r0)
 else
 bif (a1 == (2:Int)) then
 bif a2 then
 ((F_9a9 a0 a2)).bind fun r1 =>
 (some r1)
 else
 bif (a1 == (3:Int)) then
 bif (!a2) then
 ((F_9a9 a0 a2)).bind fun r2 =>
 (some r2)
 else
 ((F_956 a0 a2)).bind fun r3 =>
 (some r3)
 else
 ((F_956 a0 a2)).bind fun r4 =>
 (some r4)
 else
 bif (a1 == (3:Int)) then
 bif (!a2) then
 ((F_9a9 a0 a2)).bind fun r5 =>
 (some r5)
 else
 ((F_956 a0 a2)).bind fun r6 =>
 (some r6)
 else
 ((F_956 a0 a2)).bind fun r7 =>
 (some r7)
noncomputable def G_987 : T fa_987 → TH ha_987 → Option (Int) := fun x y => F_987 x.1 x.2.1 x.2.2.1
noncomputable def c_987 : Orc := ent i_987 [] 0 (sp fa_987 ha_987 fr_987 hr_987 G_987 out_987)
theorem ok_987 : OrcOk PR c_987 := fnT okO_987 mixed p_987 (by kernel_rfl) (by kernel_rfl) (L := L_987) (kp := false) (by kernel_rfl) (inn := inn_987) (out := out_987) (fun _ _ => rfl) (loopsL (l := []) (by kernel_rfl) trivial) (fun x y => by kernel_rfl)
noncomputable def O_981 : Orc := (orm c_954 (orm c_933 c_968))
theorem okO_981 : OrcOk PR O_981 := (orm_ok ok_954 (orm_ok ok_933 ok_968))
abbrev fa_981 : Fm := (.pair (.i .i64) (.pair (.i .u32) .unit))
abbrev ha_981 : List BF := []
abbrev fr_981 : Fm := (.i .u32)
abbrev hr_981 : List BF := []
noncomputable def L_981 : Lps := L0
def inn_981 : T fr_981 → TH hr_981 → Int := (fun z w => z)
def out_981 : Int → T fr_981 × TH hr_981 := fun r => (r, ())
noncomputable def F_981 (a0 : Int) (a1 : Int) : Option (Int) :=
 ((F_954 a0 [a1])).bind fun r0 =>
 bif r0.1 then
 ((F_933 a0)).bind fun r1 =>
 (some (bits .and .u32 a1 r1))
 else
 ((F_968 a0 true)).bind fun r2 =>
 ((F_933 a0)).bind fun r3 =>
 (some (bits .and .u32 (bits .xor .u32 a1 r2) r3))
noncomputable def G_981 : T fa_981 → TH ha_981 → Option (Int) := fun x y => F_981 x.1 x.2.1
noncomputable def c_981 : Orc := ent i_981 [] 0 (sp fa_981 ha_981 fr_981 hr_981 G_981 out_981)
theorem ok_981 : OrcOk PR c_981 := fnT okO_981 mixed p_981 (by kernel_rfl) (by kernel_rfl) (L := L_981) (kp := false) (by kernel_rfl) (inn := inn_981) (out := out_981) (fun _ _ => rfl) (loopsL (l := []) (by kernel_rfl) trivial) (fun x y => by kernel_rfl)
noncomputable def O_923 : Orc := c_952
theorem okO_923 : OrcOk PR O_923 := ok_952
abbrev fa_923 : Fm := (.pair (.i .i64) (.pair (.i .u32) .unit))
abbrev ha_923 : List BF := []
abbrev fr_923 : Fm := .b
abbrev hr_923 : List BF := []
noncomputable def L_923 : Lps := L0
def inn_923 : T fr_923 → TH hr_923 → Bool := (fun z w => z)
def out_923 : Bool → T fr_923 × TH hr_923 := fun r => (r, ())
noncomputable def F_923 (a0 : Int) (a1 : Int) : Option (Bool) :=
 ((F_952 a0 a1)).bind fun r0 =>
 (some (decide (r0 < (3:Int))))
noncomputable def G_923 : T fa_923 → TH ha_923 → Option (Bool) := fun x y => F_923 x.1 x.2.1
noncomputable def c_923 : Orc := ent i_923 [] 0 (sp fa_923 ha_923 fr_923 hr_923 G_923 out_923)
theorem ok_923 : OrcOk PR c_923 := fnT okO_923 mixed p_923 (by kernel_rfl) (by kernel_rfl) (L := L_923) (kp := false) (by kernel_rfl) (inn := inn_923) (out := out_923) (fun _ _ => rfl) (loopsL (l := []) (by kernel_rfl) trivial) (fun x y => by kernel_rfl)
noncomputable def O_914 : Orc := (orm c_932 c_934)
theorem okO_914 : OrcOk PR O_914 := (orm_ok ok_932 ok_934)
abbrev fa_914 : Fm := (.pair (.i .i64) (.pair (.i .u32) .unit))
abbrev ha_914 : List BF := []
abbrev fr_914 : Fm := (.i .u32)
abbrev hr_914 : List BF := []
noncomputable def L_914 : Lps := L0
def inn_914 : T fr_914 → TH hr_914 → Int := (fun z w => z)
def out_914 : Int → T fr_914 × TH hr_914 := fun r => (r, ())
noncomputable def F_914 (a0 : Int) (a1 : Int) : Option (Int) :=
 bif ((Int.tmod a1 (7:Int)) == (0:Int)) then
 (some (0:Int))
 else
 ((F_932 a0)).bind fun r0 =>
 let x1 : Int := ((2:Int) ^ (Min.min (Int.toNat r0.2.1) (32:Nat)))
 let x2 : Int := (IntKind.wrap .u32 ((4:Int) * x1))
 let x3 : Int := (IntKind.wrap .u32 ((IntKind.wrap .u32 ((IntKind.wrap .u32 (((IntKind.wrap .u32 ((IntKind.wrap .u32 ((1:Int) * ((2:Int) ^ (Min.min (Int.toNat r0.1) (32:Nat))))) - (1:Int))) / (2:Int)) * x1)) - (IntKind.wrap .u32 ((2:Int) * x1)))) + (Int.tmod (a1 / (8:Int)) x2)))
 bif (decide ((0:Int) ≤ r0.1)) then
 bif (decide ((0:Int) ≤ r0.2.1)) then
 bif (decide ((0:Int) ≤ r0.2.1)) then
 bif (decide ((0:Int) ≤ r0.2.1)) then
 bif (x2 == (0:Int)) then
 none
 else
 bif ((bits .and .u32 a1 (1:Int)) == (1:Int)) then
 ((F_934 a0 true)).bind fun r4 =>
 (some (bits .or .u32 x3 r4))
 else
 (some x3)
 else
 none
 else
 none
 else
 none
 else
 none
noncomputable def G_914 : T fa_914 → TH ha_914 → Option (Int) := fun x y => F_914 x.1 x.2.1
noncomputable def c_914 : Orc := ent i_914 [] 0 (sp fa_914 ha_914 fr_914 hr_914 G_914 out_914)
theorem ok_914 : OrcOk PR c_914 := fnT okO_914 mixed p_914 (by kernel_rfl) (by kernel_rfl) (L := L_914) (kp := false) (by kernel_rfl) (inn := inn_914) (out := out_914) (fun _ _ => rfl) (loopsL (l := []) (by kernel_rfl) trivial) (fun x y => by kernel_rfl)
noncomputable def O_9b3 : Orc := (orm c_989 (orm c_98f c_98e))
theorem okO_9b3 : OrcOk PR O_9b3 := (orm_ok ok_989 (orm_ok ok_98f ok_98e))
abbrev fa_9b3 : Fm := (.pair (.i .i64) (.pair .b .unit))
abbrev ha_9b3 : List BF := []
abbrev fr_9b3 : Fm := (.i .u32)
abbrev hr_9b3 : List BF := []
noncomputable def L_9b3 : Lps := L0
def inn_9b3 : T fr_9b3 → TH hr_9b3 → Int := (fun z w => z)
def out_9b3 : Int → T fr_9b3 × TH hr_9b3 := fun r => (r, ())
noncomputable def F_9b3 (a0 : Int) (a1 : Bool) : Option (Int) :=
 ((F_989 a0)).bind fun r0 =>
 ((F_98f a0)).bind fun r1 =>
 bif (decide ((0:Int) ≤ (IntKind.wrap .u64 r0.2.1))) then
 ((F_98e a0 a1 (IntKind.wrap .i64 (r1 - (1:Int))) (IntKind.wrap .u32 ((IntKind.wrap .u32 ((1:Int) * ((2:Int) ^ (Min.min (Int.toNat (IntKind.wrap .u64 r0.2.1)) (32:Nat))))) - (1:Int))))).bind fun r2 =>
 (some r2)
 else
 none
noncomputable def G_9b3 : T fa_9b3 → TH ha_9b3 → Option (Int) := fun x y => F_9b3 x.1 x.2.1
noncomputable def c_9b3 : Orc := ent i_9b3 [] 0 (sp fa_9b3 ha_9b3 fr_9b3 hr_9b3 G_9b3 out_9b3)
theorem ok_9b3 : OrcOk PR c_9b3 := fnT okO_9b3 mixed p_9b3 (by kernel_rfl) (by kernel_rfl) (L := L_9b3) (kp := false) (by kernel_rfl) (inn := inn_9b3) (out := out_9b3) (fun _ _ => rfl) (loopsL (l := []) (by kernel_rfl) trivial) (fun x y => by kernel_rfl)
noncomputable def O_99e : Orc := c_989
theorem okO_99e : OrcOk PR O_99e := ok_989
abbrev fa_99e : Fm := (.pair (.i .i64) .unit)
abbrev ha_99e : List BF := []
abbrev fr_99e : Fm := (.i .i64)
abbrev hr_99e : List BF := []
noncomputable def L_99e : Lps := L0
def inn_99e : T fr_99e → TH hr_99e → Int := (fun z w => z)
def out_99e : Int → T fr_99e × TH hr_99e := fun r => (r, ())
noncomputable def F_99e (a0 : Int) : Option (Int) :=
 ((F_989 a0)).bind fun r0 =>
 bif (decide ((0:Int) ≤ (IntKind.wrap .u64 (IntKind.wrap .i64 (r0.1 - (1:Int)))))) then
 (some (IntKind.wrap .i64 ((2:Int) - (IntKind.wrap .i64 ((1:Int) * ((2:Int) ^ (Min.min (Int.toNat (IntKind.wrap .u64 (IntKind.wrap .i64 (r0.1 - (1:Int))))) (64:Nat))))))))
 else
 none
noncomputable def G_99e : T fa_99e → TH ha_99e → Option (Int) := fun x y => F_99e x.1
noncomputable def c_99e : Orc := ent i_99e [] 0 (sp fa_99e ha_99e fr_99e hr_99e G_99e out_99e)
theorem ok_99e : OrcOk PR c_99e := fnT okO_99e mixed p_99e (by kernel_rfl) (by kernel_rfl) (L := L_99e) (kp := false) (by kernel_rfl) (inn := inn_99e) (out := out_99e) (fun _ _ => rfl) (loopsL (l := []) (by kernel_rfl) trivial) (fun x y => by kernel_rfl)
noncomputable def O_975 : Orc := (orm c_989 (orm c_990 (orm c_99e c_98f)))
theorem okO_975 : OrcOk PR O_975 := (orm_ok ok_989 (orm_ok ok_990 (orm_ok ok_99e ok_98f)))
abbrev fa_975 : Fm := (.pair (.i .i64) (.pair (.i .u32) .unit))
abbrev ha_975 : List BF := []
abbrev fr_975 : Fm := (.tup (.pair .b (.pair (.i .i64) (.pair (.i .u64) .unit))))
abbrev hr_975 : List BF := []
noncomputable def L_975 : Lps := L0
def inn_975 : T fr_975 → TH hr_975 → Bool × Int × Int × Unit := (fun z w => z)
def out_975 : Bool × Int × Int × Unit → T fr_975 × TH hr_975 := fun r => (r, ())
noncomputable def F_975 (a0 : Int) (a1 : Int) : Option (Bool × Int × Int × Unit) :=
 ((F_989 a0)).bind fun r0 =>
 ((F_990 a0 a1)).bind fun r1 =>
 let x2 : Int := r1.2.2.1
 let x3 : Int := (IntKind.wrap .u64 x2)
 bif (r1.2.1 == (0:Int)) then
 ((F_99e a0)).bind fun r4 =>
 (some (r1.1, ((IntKind.wrap .i64 (r4 - r0.2.1)), (x3, ()))))
 else
 ((F_98f a0)).bind fun r5 =>
 bif (r1.2.1 == r5) then
 (some (r1.1, ((0:Int), ((0:Int), ()))))
 else
 ((F_99e a0)).bind fun r6 =>
 bif (decide ((0:Int) ≤ (IntKind.wrap .u64 r0.2.1))) then
 (some (r1.1, ((IntKind.wrap .i64 ((IntKind.wrap .i64 ((IntKind.wrap .i64 (r6 - r0.2.1)) + r1.2.1)) - (1:Int))), ((bits .or .u64 x3 (IntKind.wrap .u64 ((1:Int) * ((2:Int) ^ (Min.min (Int.toNat (IntKind.wrap .u64 r0.2.1)) (64:Nat)))))), ()))))
 else
 none
noncomputable def G_975 : T fa_975 → TH ha_975 → Option (Bool × Int × Int × Unit) := fun x y => F_975 x.1 x.2.1
noncomputable def c_975 : Orc := ent i_975 [] 0 (sp fa_975 ha_975 fr_975 hr_975 G_975 out_975)
theorem ok_975 : OrcOk PR c_975 := fnT okO_975 mixed p_975 (by kernel_rfl) (by kernel_rfl) (L := L_975) (kp := false) (by kernel_rfl) (inn := inn_975) (out := out_975) (fun _ _ => rfl) (loopsL (l := []) (by kernel_rfl) trivial) (fun x y => by kernel_rfl)
noncomputable def O_973 : Orc := (orm c_98f c_98e)
theorem okO_973 : OrcOk PR O_973 := (orm_ok ok_98f ok_98e)
abbrev fa_973 : Fm := (.pair (.i .i64) (.pair .b .unit))
abbrev ha_973 : List BF := []
abbrev fr_973 : Fm := (.i .u32)
abbrev hr_973 : List BF := []
noncomputable def L_973 : Lps := L0
def inn_973 : T fr_973 → TH hr_973 → Int := (fun z w => z)
def out_973 : Int → T fr_973 × TH hr_973 := fun r => (r, ())
noncomputable def F_973 (a0 : Int) (a1 : Bool) : Option (Int) :=
 ((F_98f a0)).bind fun r0 =>
 ((F_98e a0 a1 r0 (0:Int))).bind fun r1 =>
 (some r1)
noncomputable def G_973 : T fa_973 → TH ha_973 → Option (Int) := fun x y => F_973 x.1 x.2.1
noncomputable def c_973 : Orc := ent i_973 [] 0 (sp fa_973 ha_973 fr_973 hr_973 G_973 out_973)
theorem ok_973 : OrcOk PR c_973 := fnT okO_973 mixed p_973 (by kernel_rfl) (by kernel_rfl) (L := L_973) (kp := false) (by kernel_rfl) (inn := inn_973) (out := out_973) (fun _ _ => rfl) (loopsL (l := []) (by kernel_rfl) trivial) (fun x y => by kernel_rfl)
noncomputable def O_974 : Orc := c_98a
theorem okO_974 : OrcOk PR O_974 := ok_98a
abbrev fa_974 : Fm := (.pair (.i .i64) (.pair (.i .u32) .unit))
abbrev ha_974 : List BF := []
abbrev fr_974 : Fm := .b
abbrev hr_974 : List BF := []
noncomputable def L_974 : Lps := L0
def inn_974 : T fr_974 → TH hr_974 → Bool := (fun z w => z)
def out_974 : Bool → T fr_974 × TH hr_974 := fun r => (r, ())
noncomputable def F_974 (a0 : Int) (a1 : Int) : Option (Bool) :=
 ((F_98a a0 a1)).bind fun r0 =>
 (some (r0 == (3:Int)))
noncomputable def G_974 : T fa_974 → TH ha_974 → Option (Bool) := fun x y => F_974 x.1 x.2.1
noncomputable def c_974 : Orc := ent i_974 [] 0 (sp fa_974 ha_974 fr_974 hr_974 G_974 out_974)
theorem ok_974 : OrcOk PR c_974 := fnT okO_974 mixed p_974 (by kernel_rfl) (by kernel_rfl) (L := L_974) (kp := false) (by kernel_rfl) (inn := inn_974) (out := out_974) (fun _ _ => rfl) (loopsL (l := []) (by kernel_rfl) trivial) (fun x y => by kernel_rfl)
noncomputable def O_996 : Orc := c_98e
theorem okO_996 : OrcOk PR O_996 := ok_98e
abbrev fa_996 : Fm := (.pair (.i .i64) (.pair .b .unit))
abbrev ha_996 : List BF := []
abbrev fr_996 : Fm := (.i .u32)
abbrev hr_996 : List BF := []
noncomputable def L_996 : Lps := L0
def inn_996 : T fr_996 → TH hr_996 → Int := (fun z w => z)
def out_996 : Int → T fr_996 × TH hr_996 := fun r => (r, ())
noncomputable def F_996 (a0 : Int) (a1 : Bool) : Option (Int) :=
 ((F_98e a0 a1 (0:Int) (0:Int))).bind fun r0 =>
 (some r0)
noncomputable def G_996 : T fa_996 → TH ha_996 → Option (Int) := fun x y => F_996 x.1 x.2.1
noncomputable def c_996 : Orc := ent i_996 [] 0 (sp fa_996 ha_996 fr_996 hr_996 G_996 out_996)
theorem ok_996 : OrcOk PR c_996 := fnT okO_996 mixed p_996 (by kernel_rfl) (by kernel_rfl) (L := L_996) (kp := false) (by kernel_rfl) (inn := inn_996) (out := out_996) (fun _ _ => rfl) (loopsL (l := []) (by kernel_rfl) trivial) (fun x y => by kernel_rfl)
noncomputable def O_9a6 : Orc := (orm c_990 c_98f)
theorem okO_9a6 : OrcOk PR O_9a6 := (orm_ok ok_990 ok_98f)
abbrev fa_9a6 : Fm := (.pair (.i .i64) (.pair (.i .u32) .unit))
abbrev ha_9a6 : List BF := []
abbrev fr_9a6 : Fm := .b
abbrev hr_9a6 : List BF := []
noncomputable def L_9a6 : Lps := L0
def inn_9a6 : T fr_9a6 → TH hr_9a6 → Bool := (fun z w => z)
def out_9a6 : Bool → T fr_9a6 × TH hr_9a6 := fun r => (r, ())
noncomputable def F_9a6 (a0 : Int) (a1 : Int) : Option (Bool) :=
 ((F_990 a0 a1)).bind fun r0 =>
 ((F_98f a0)).bind fun r1 =>
 (some (decide (r0.2.1 < r1)))
noncomputable def G_9a6 : T fa_9a6 → TH ha_9a6 → Option (Bool) := fun x y => F_9a6 x.1 x.2.1
noncomputable def c_9a6 : Orc := ent i_9a6 [] 0 (sp fa_9a6 ha_9a6 fr_9a6 hr_9a6 G_9a6 out_9a6)
theorem ok_9a6 : OrcOk PR c_9a6 := fnT okO_9a6 mixed p_9a6 (by kernel_rfl) (by kernel_rfl) (L := L_9a6) (kp := false) (by kernel_rfl) (inn := inn_9a6) (out := out_9a6) (fun _ _ => rfl) (loopsL (l := []) (by kernel_rfl) trivial) (fun x y => by kernel_rfl)
noncomputable def O_9ac : Orc := (orm c_9b3 c_973)
theorem okO_9ac : OrcOk PR O_9ac := (orm_ok ok_9b3 ok_973)
abbrev fa_9ac : Fm := (.pair (.i .i64) (.pair (.i .i64) (.pair .b .unit)))
abbrev ha_9ac : List BF := []
abbrev fr_9ac : Fm := (.tup (.pair (.i .u32) (.pair (.agg (.pair .b (.pair .b (.pair .b (.pair .b (.pair .b .unit)))))) .unit)))
abbrev hr_9ac : List BF := []
noncomputable def L_9ac : Lps := L0
def inn_9ac : T fr_9ac → TH hr_9ac → Int × (Bool × Bool × Bool × Bool × Bool × Unit) × Unit := (fun z w => z)
def out_9ac : Int × (Bool × Bool × Bool × Bool × Bool × Unit) × Unit → T fr_9ac × TH hr_9ac := fun r => (r, ())
noncomputable def F_9ac (a0 : Int) (a1 : Int) (a2 : Bool) : Option (Int × (Bool × Bool × Bool × Bool × Bool × Unit) × Unit) :=
 bif (a1 == (1:Int)) then
 ((F_9b3 a0 a2)).bind fun r0 =>
 (some (r0, ((false, (false, (true, (false, (true, ()))))), ())))
 else
 bif (a1 == (2:Int)) then
 bif a2 then
 ((F_9b3 a0 a2)).bind fun r1 =>
 (some (r1, ((false, (false, (true, (false, (true, ()))))), ())))
 else
 ((F_973 a0 a2)).bind fun r2 =>
 (some (r2, ((false, (false, (true, (false, (true, ()))))), ())))
 else
 bif (a1 == (3:Int)) then
 bif (!a2) then
 ((F_9b3 a0 a2)).bind fun r3 =>
 (some (r3, ((false, (false, (true, (false, (true, ()))))), ())))
 else
 ((F_973 a0 a2)).bind fun r4 =>
 (some (r4, ((false, (false, (true, (false, (true, ()))))), ())))
 else
 ((F_973 a0 a2)).bind fun r5 =>
 (some (r5, ((false, (false, (true, (false, (true, ()))))), ())))
noncomputable def G_9ac : T fa_9ac → TH ha_9ac → Option (Int × (Bool × Bool × Bool × Bool × Bool × Unit) × Unit) := fun x y => F_9ac x.1 x.2.1 x.2.2.1
noncomputable def c_9ac : Orc := ent i_9ac [] 0 (sp fa_9ac ha_9ac fr_9ac hr_9ac G_9ac out_9ac)
theorem ok_9ac : OrcOk PR c_9ac := fnT okO_9ac mixed p_9ac (by kernel_rfl) (by kernel_rfl) (L := L_9ac) (kp := false) (by kernel_rfl) (inn := inn_9ac) (out := out_9ac) (fun _ _ => rfl) (loopsL (l := []) (by kernel_rfl) trivial) (fun x y => by kernel_rfl)
noncomputable def O_99f : Orc := orn
theorem okO_99f : OrcOk PR O_99f := (orn_ok _)
abbrev fa_99f : Fm := (.pair (.i .u64) .unit)
abbrev ha_99f : List BF := []
abbrev fr_99f : Fm := (.i .i64)
abbrev hr_99f : List BF := []
noncomputable def L_99f : Lps := L0
def inn_99f : T fr_99f → TH hr_99f → Int := (fun z w => z)
def out_99f : Int → T fr_99f × TH hr_99f := fun r => (r, ())
noncomputable def F_99f (a0 : Int) : Option (Int) :=
 let x0 : Int := (bif (decide (a0 ≥ (4294967296:Int))) then (32:Int) else (0:Int))
 let x1 : Int := (bif (decide ((bif (decide (a0 ≥ (4294967296:Int))) then (a0 / (4294967296:Int)) else a0) ≥ (65536:Int))) then (IntKind.wrap .i64 (x0 + (16:Int))) else x0)
 let x2 : Int := (bif (decide (a0 ≥ (4294967296:Int))) then (a0 / (4294967296:Int)) else a0)
 let x3 : Int := (bif (decide (x2 ≥ (65536:Int))) then (x2 / (65536:Int)) else x2)
 bif (decide (((0:Int) ≤ (IntKind.wrap .u8 (bif (decide (x3 ≥ (256:Int))) then (x3 / (256:Int)) else x3))) ∧ ((IntKind.wrap .u8 (bif (decide (x3 ≥ (256:Int))) then (x3 / (256:Int)) else x3)) < (256:Int)))) then
 (some (IntKind.wrap .i64 ((bif (decide (x3 ≥ (256:Int))) then (IntKind.wrap .i64 (x1 + (8:Int))) else x1) + (IntKind.wrap .i64 (((UInt8.toNat (List.getD [(0:UInt8), (1:UInt8), (2:UInt8), (2:UInt8), (3:UInt8), (3:UInt8), (3:UInt8), (3:UInt8), (4:UInt8), (4:UInt8), (4:UInt8), (4:UInt8), (4:UInt8), (4:UInt8), (4:UInt8), (4:UInt8), (5:UInt8), (5:UInt8), (5:UInt8), (5:UInt8), (5:UInt8), (5:UInt8), (5:UInt8), (5:UInt8), (5:UInt8), (5:UInt8), (5:UInt8), (5:UInt8), (5:UInt8), (5:UInt8), (5:UInt8), (5:UInt8), (6:UInt8), (6:UInt8), (6:UInt8), (6:UInt8), (6:UInt8), (6:UInt8), (6:UInt8), (6:UInt8), (6:UInt8), (6:UInt8), (6:UInt8), (6:UInt8), (6:UInt8), (6:UInt8), (6:UInt8), (6:UInt8), (6:UInt8), (6:UInt8), (6:UInt8), (6:UInt8), (6:UInt8), (6:UInt8), (6:UInt8), (6:UInt8), (6:UInt8), (6:UInt8), (6:UInt8), (6:UInt8), (6:UInt8), (6:UInt8), (6:UInt8), (6:UInt8), (7:UInt8), (7:UInt8), (7:UInt8), (7:UInt8), (7:UInt8), (7:UInt8), (7:UInt8), (7:UInt8), (7:UInt8), (7:UInt8), (7:UInt8), (7:UInt8), (7:UInt8), (7:UInt8), (7:UInt8), (7:UInt8), (7:UInt8), (7:UInt8), (7:UInt8), (7:UInt8), (7:UInt8), (7:UInt8), (7:UInt8), (7:UInt8), (7:UInt8), (7:UInt8), (7:UInt8), (7:UInt8), (7:UInt8), (7:UInt8), (7:UInt8), (7:UInt8), (7:UInt8), (7:UInt8), (7:UInt8), (7:UInt8), (7:UInt8), (7:UInt8), (7:UInt8), (7:UInt8), (7:UInt8), (7:UInt8), (7:UInt8), (7:UInt8), (7:UInt8), (7:UInt8), (7:UInt8), (7:UInt8), (7:UInt8), (7:UInt8), (7:UInt8), (7:UInt8), (7:UInt8), (7:UInt8), (7:UInt8), (7:UInt8), (7:UInt8), (7:UInt8), (7:UInt8), (7:UInt8), (7:UInt8), (7:UInt8), (7:UInt8), (7:UInt8), (8:UInt8), (8:UInt8), (8:UInt8), (8:UInt8), (8:UInt8), (8:UInt8), (8:UInt8), (8:UInt8), (8:UInt8), (8:UInt8), (8:UInt8), (8:UInt8), (8:UInt8), (8:UInt8), (8:UInt8), (8:UInt8), (8:UInt8), (8:UInt8), (8:UInt8), (8:UInt8), (8:UInt8), (8:UInt8), (8:UInt8), (8:UInt8), (8:UInt8), (8:UInt8), (8:UInt8), (8:UInt8), (8:UInt8), (8:UInt8), (8:UInt8), (8:UInt8), (8:UInt8), (8:UInt8), (8:UInt8), (8:UInt8), (8:UInt8), (8:UInt8), (8:UInt8), (8:UInt8), (8:UInt8), (8:UInt8), (8:UInt8), (8:UInt8), (8:UInt8), (8:UInt8), (8:UInt8), (8:UInt8), (8:UInt8), (8:UInt8), (8:UInt8), (8:UInt8), (8:UInt8), (8:UInt8), (8:UInt8), (8:UInt8), (8:UInt8), (8:UInt8), (8:UInt8), (8:UInt8), (8:UInt8), (8:UInt8), (8:UInt8), (8:UInt8), (8:UInt8), (8:UInt8), (8:UInt8), (8:UInt8), (8:UInt8), (8:UInt8), (8:UInt8), (8:UInt8), (8:UInt8), (8:UInt8), (8:UInt8), (8:UInt8), (8:UInt8), (8:UInt8), (8:UInt8), (8:UInt8), (8:UInt8), (8:UInt8), (8:UInt8), (8:UInt8), (8:UInt8), (8:UInt8), (8:UInt8), (8:UInt8), (8:UInt8), (8:UInt8), (8:UInt8), (8:UInt8), (8:UInt8), (8:UInt8), (8:UInt8), (8:UInt8), (8:UInt8), (8:UInt8), (8:UInt8), (8:UInt8), (8:UInt8), (8:UInt8), (8:UInt8), (8:UInt8), (8:UInt8), (8:UInt8), (8:UInt8), (8:UInt8), (8:UInt8), (8:UInt8), (8:UInt8), (8:UInt8), (8:UInt8), (8:UInt8), (8:UInt8), (8:UInt8), (8:UInt8), (8:UInt8), (8:UInt8), (8:UInt8), (8:UInt8), (8:UInt8), (8:UInt8), (8:UInt8), (8:UInt8), (8:UInt8), (8:UInt8), (8:UInt8)] (Int.toNat (IntKind.wrap .u8 (bif (decide (x3 ≥ (256:Int))) then (x3 / (256:Int)) else x3))) (0:UInt8))) : Nat) : Int)))))
 else
 none
noncomputable def G_99f : T fa_99f → TH ha_99f → Option (Int) := fun x y => F_99f x.1
noncomputable def c_99f : Orc := ent i_99f [] 0 (sp fa_99f ha_99f fr_99f hr_99f G_99f out_99f)
theorem ok_99f : OrcOk PR c_99f := fnT okO_99f mixed p_99f (by kernel_rfl) (by kernel_rfl) (L := L_99f) (kp := false) (by kernel_rfl) (inn := inn_99f) (out := out_99f) (fun _ _ => rfl) (loopsL (l := []) (by kernel_rfl) trivial) (fun x y => by kernel_rfl)
noncomputable def O_976 : Orc := c_99f
theorem okO_976 : OrcOk PR O_976 := ok_99f
abbrev fa_976 : Fm := (.pair (.i .u64) .unit)
abbrev ha_976 : List BF := []
abbrev fr_976 : Fm := (.i .i64)
abbrev hr_976 : List BF := []
noncomputable def L_976 : Lps := L0
def inn_976 : T fr_976 → TH hr_976 → Int := (fun z w => z)
def out_976 : Int → T fr_976 × TH hr_976 := fun r => (r, ())
noncomputable def F_976 (a0 : Int) : Option (Int) :=
 ((F_99f a0)).bind fun r0 =>
 (some r0)
noncomputable def G_976 : T fa_976 → TH ha_976 → Option (Int) := fun x y => F_976 x.1
noncomputable def c_976 : Orc := ent i_976 [] 0 (sp fa_976 ha_976 fr_976 hr_976 G_976 out_976)
theorem ok_976 : OrcOk PR c_976 := fnT okO_976 mixed p_976 (by kernel_rfl) (by kernel_rfl) (L := L_976) (kp := false) (by kernel_rfl) (inn := inn_976) (out := out_976) (fun _ _ => rfl) (loopsL (l := []) (by kernel_rfl) trivial) (fun x y => by kernel_rfl)
noncomputable def O_997 : Orc := orn
theorem okO_997 : OrcOk PR O_997 := (orn_ok _)
abbrev fa_997 : Fm := (.pair (.i .u64) (.pair (.i .i64) .unit))
abbrev ha_997 : List BF := []
abbrev fr_997 : Fm := (.tup (.pair (.i .u64) (.pair .b .unit)))
abbrev hr_997 : List BF := []
noncomputable def L_997 : Lps := L0
def inn_997 : T fr_997 → TH hr_997 → Int × Bool × Unit := (fun z w => z)
def out_997 : Int × Bool × Unit → T fr_997 × TH hr_997 := fun r => (r, ())
noncomputable def F_997 (a0 : Int) (a1 : Int) : Option (Int × Bool × Unit) :=
 let x0 : Int := ((2:Int) ^ (Min.min (Int.toNat (IntKind.wrap .u64 a1)) (64:Nat)))
 let x1 : Int := (a0 / x0)
 let x2 : Int := ((2:Int) ^ (Min.min (Int.toNat (IntKind.wrap .u64 (IntKind.wrap .i64 ((0:Int) - a1)))) (64:Nat)))
 let x3 : Int := (IntKind.wrap .u64 (a0 * x2))
 bif (decide (a1 ≥ (64:Int))) then
 (some ((0:Int), ((a0 != (0:Int)), ())))
 else
 bif (decide (a1 ≤ (-(64:Int)))) then
 (some ((0:Int), ((a0 != (0:Int)), ())))
 else
 bif (decide (a1 ≥ (0:Int))) then
 bif (decide ((0:Int) ≤ (IntKind.wrap .u64 a1))) then
 bif (decide ((0:Int) ≤ (IntKind.wrap .u64 a1))) then
 (some (x1, (((IntKind.wrap .u64 (x1 * x0)) != a0), ())))
 else
 none
 else
 none
 else
 bif (decide ((0:Int) ≤ (IntKind.wrap .u64 (IntKind.wrap .i64 ((0:Int) - a1))))) then
 bif (decide ((0:Int) ≤ (IntKind.wrap .u64 (IntKind.wrap .i64 ((0:Int) - a1))))) then
 (some (x3, (((x3 / x2) != a0), ())))
 else
 none
 else
 none
noncomputable def G_997 : T fa_997 → TH ha_997 → Option (Int × Bool × Unit) := fun x y => F_997 x.1 x.2.1
noncomputable def c_997 : Orc := ent i_997 [] 0 (sp fa_997 ha_997 fr_997 hr_997 G_997 out_997)
theorem ok_997 : OrcOk PR c_997 := fnT okO_997 mixed p_997 (by kernel_rfl) (by kernel_rfl) (L := L_997) (kp := false) (by kernel_rfl) (inn := inn_997) (out := out_997) (fun _ _ => rfl) (loopsL (l := []) (by kernel_rfl) trivial) (fun x y => by kernel_rfl)
noncomputable def O_9a8 : Orc := orn
theorem okO_9a8 : OrcOk PR O_9a8 := (orn_ok _)
abbrev fa_9a8 : Fm := (.pair (.i .u64) (.pair (.i .i64) .unit))
abbrev ha_9a8 : List BF := []
abbrev fr_9a8 : Fm := (.i .u64)
abbrev hr_9a8 : List BF := []
noncomputable def L_9a8 : Lps := L0
def inn_9a8 : T fr_9a8 → TH hr_9a8 → Int := (fun z w => z)
def out_9a8 : Int → T fr_9a8 × TH hr_9a8 := fun r => (r, ())
noncomputable def F_9a8 (a0 : Int) (a1 : Int) : Option (Int) :=
 bif (decide (a1 < (1:Int))) then
 (some (0:Int))
 else
 bif (decide (a1 ≥ (64:Int))) then
 (some a0)
 else
 bif (decide ((0:Int) ≤ (IntKind.wrap .u64 a1))) then
 (some (bits .and .u64 a0 (IntKind.wrap .u64 ((IntKind.wrap .u64 ((1:Int) * ((2:Int) ^ (Min.min (Int.toNat (IntKind.wrap .u64 a1)) (64:Nat))))) - (1:Int)))))
 else
 none
noncomputable def G_9a8 : T fa_9a8 → TH ha_9a8 → Option (Int) := fun x y => F_9a8 x.1 x.2.1
noncomputable def c_9a8 : Orc := ent i_9a8 [] 0 (sp fa_9a8 ha_9a8 fr_9a8 hr_9a8 G_9a8 out_9a8)
theorem ok_9a8 : OrcOk PR c_9a8 := fnT okO_9a8 mixed p_9a8 (by kernel_rfl) (by kernel_rfl) (L := L_9a8) (kp := false) (by kernel_rfl) (inn := inn_9a8) (out := out_9a8) (fun _ _ => rfl) (loopsL (l := []) (by kernel_rfl) trivial) (fun x y => by kernel_rfl)
noncomputable def O_9a7 : Orc := (orm c_989 (orm c_99e c_976))
theorem okO_9a7 : OrcOk PR O_9a7 := (orm_ok ok_989 (orm_ok ok_99e ok_976))
abbrev fa_9a7 : Fm := (.pair (.i .i64) (.pair (.i .i64) (.pair (.i .u64) .unit)))
abbrev ha_9a7 : List BF := []
abbrev fr_9a7 : Fm := (.i .i64)
abbrev hr_9a7 : List BF := []
noncomputable def L_9a7 : Lps := L0
def inn_9a7 : T fr_9a7 → TH hr_9a7 → Int := (fun z w => z)
def out_9a7 : Int → T fr_9a7 × TH hr_9a7 := fun r => (r, ())
noncomputable def F_9a7 (a0 : Int) (a1 : Int) (a2 : Int) : Option (Int) :=
 ((F_989 a0)).bind fun r0 =>
 ((F_99e a0)).bind fun r1 =>
 bif (decide (a2 > (0:Int))) then
 ((F_976 a2)).bind fun r2 =>
 (some (IntKind.wrap .i64 ((mx r1 (IntKind.wrap .i64 ((IntKind.wrap .i64 (a1 + r2)) - (1:Int)))) - r0.2.1)))
 else
 (some (IntKind.wrap .i64 (r1 - r0.2.1)))
noncomputable def G_9a7 : T fa_9a7 → TH ha_9a7 → Option (Int) := fun x y => F_9a7 x.1 x.2.1 x.2.2.1
noncomputable def c_9a7 : Orc := ent i_9a7 [] 0 (sp fa_9a7 ha_9a7 fr_9a7 hr_9a7 G_9a7 out_9a7)
theorem ok_9a7 : OrcOk PR c_9a7 := fnT okO_9a7 mixed p_9a7 (by kernel_rfl) (by kernel_rfl) (L := L_9a7) (kp := false) (by kernel_rfl) (inn := inn_9a7) (out := out_9a7) (fun _ _ => rfl) (loopsL (l := []) (by kernel_rfl) trivial) (fun x y => by kernel_rfl)
noncomputable def O_9aa : Orc := c_997
theorem okO_9aa : OrcOk PR O_9aa := ok_997
abbrev fa_9aa : Fm := (.pair (.i .u64) (.pair (.i .i64) (.pair .b .unit)))
abbrev ha_9aa : List BF := []
abbrev fr_9aa : Fm := (.tup (.pair (.i .u64) (.pair (.i .i64) .unit)))
abbrev hr_9aa : List BF := []
noncomputable def L_9aa : Lps := L0
def inn_9aa : T fr_9aa → TH hr_9aa → Int × Int × Unit := (fun z w => z)
def out_9aa : Int × Int × Unit → T fr_9aa × TH hr_9aa := fun r => (r, ())
noncomputable def F_9aa (a0 : Int) (a1 : Int) (a2 : Bool) : Option (Int × Int × Unit) :=
 bif (decide (a1 ≤ (0:Int))) then
 ((F_997 a0 a1)).bind fun r0 =>
 bif a2 then
 (some (r0.1, ((1:Int), ())))
 else
 (some (r0.1, ((0:Int), ())))
 else
 ((F_997 a0 a1)).bind fun r1 =>
 bif (!r1.2.1) then
 bif a2 then
 (some (r1.1, ((1:Int), ())))
 else
 (some (r1.1, ((0:Int), ())))
 else
 ((F_997 a0 (IntKind.wrap .i64 (a1 - (1:Int))))).bind fun r2 =>
 bif ((bits .and .u64 r2.1 (1:Int)) == (0:Int)) then
 (some (r1.1, ((1:Int), ())))
 else
 bif r2.2.1 then
 (some (r1.1, ((3:Int), ())))
 else
 bif a2 then
 (some (r1.1, ((3:Int), ())))
 else
 (some (r1.1, ((2:Int), ())))
noncomputable def G_9aa : T fa_9aa → TH ha_9aa → Option (Int × Int × Unit) := fun x y => F_9aa x.1 x.2.1 x.2.2.1
noncomputable def c_9aa : Orc := ent i_9aa [] 0 (sp fa_9aa ha_9aa fr_9aa hr_9aa G_9aa out_9aa)
theorem ok_9aa : OrcOk PR c_9aa := fnT okO_9aa mixed p_9aa (by kernel_rfl) (by kernel_rfl) (L := L_9aa) (kp := false) (by kernel_rfl) (inn := inn_9aa) (out := out_9aa) (fun _ _ => rfl) (loopsL (l := []) (by kernel_rfl) trivial) (fun x y => by kernel_rfl)
noncomputable def O_9ab : Orc := orn
theorem okO_9ab : OrcOk PR O_9ab := (orn_ok _)
abbrev fa_9ab : Fm := (.pair (.i .i64) (.pair .b (.pair (.i .u64) (.pair (.i .i64) .unit))))
abbrev ha_9ab : List BF := []
abbrev fr_9ab : Fm := .b
abbrev hr_9ab : List BF := []
noncomputable def L_9ab : Lps := L0
def inn_9ab : T fr_9ab → TH hr_9ab → Bool := (fun z w => z)
def out_9ab : Bool → T fr_9ab × TH hr_9ab := fun r => (r, ())
noncomputable def F_9ab (a0 : Int) (a1 : Bool) (a2 : Int) (a3 : Int) : Option (Bool) :=
 bif (a0 == (1:Int)) then
 (some false)
 else
 bif (a0 == (2:Int)) then
 bif (!a1) then
 (some (a3 != (0:Int)))
 else
 (some false)
 else
 bif (a0 == (3:Int)) then
 bif a1 then
 (some (a3 != (0:Int)))
 else
 (some false)
 else
 bif (a0 == (4:Int)) then
 (some (decide (a3 ≥ (2:Int))))
 else
 bif (a3 == (3:Int)) then
 (some true)
 else
 bif (a3 == (2:Int)) then
 (some ((bits .and .u64 a2 (1:Int)) == (1:Int)))
 else
 (some false)
noncomputable def G_9ab : T fa_9ab → TH ha_9ab → Option (Bool) := fun x y => F_9ab x.1 x.2.1 x.2.2.1 x.2.2.2.1
noncomputable def c_9ab : Orc := ent i_9ab [] 0 (sp fa_9ab ha_9ab fr_9ab hr_9ab G_9ab out_9ab)
theorem ok_9ab : OrcOk PR c_9ab := fnT okO_9ab mixed p_9ab (by kernel_rfl) (by kernel_rfl) (L := L_9ab) (kp := false) (by kernel_rfl) (inn := inn_9ab) (out := out_9ab) (fun _ _ => rfl) (loopsL (l := []) (by kernel_rfl) trivial) (fun x y => by kernel_rfl)
noncomputable def O_98d : Orc := (orm c_996 (orm c_989 (orm c_9a7 (orm c_9aa (orm c_9ab (orm c_99e (orm c_98f (orm c_9ac (orm c_976 (orm c_9a8 c_98e))))))))))
theorem okO_98d : OrcOk PR O_98d := (orm_ok ok_996 (orm_ok ok_989 (orm_ok ok_9a7 (orm_ok ok_9aa (orm_ok ok_9ab (orm_ok ok_99e (orm_ok ok_98f (orm_ok ok_9ac (orm_ok ok_976 (orm_ok ok_9a8 ok_98e))))))))))
abbrev fa_98d : Fm := (.pair (.i .i64) (.pair (.i .i64) (.pair .b (.pair (.i .i64) (.pair (.i .u64) (.pair .b .unit))))))
abbrev ha_98d : List BF := []
abbrev fr_98d : Fm := (.tup (.pair (.i .u32) (.pair (.agg (.pair .b (.pair .b (.pair .b (.pair .b (.pair .b .unit)))))) .unit)))
abbrev hr_98d : List BF := []
noncomputable def L_98d : Lps := L0
def inn_98d : T fr_98d → TH hr_98d → Int × (Bool × Bool × Bool × Bool × Bool × Unit) × Unit := (fun z w => z)
def out_98d : Int × (Bool × Bool × Bool × Bool × Bool × Unit) × Unit → T fr_98d × TH hr_98d := fun r => (r, ())
noncomputable def F_98d (a0 : Int) (a1 : Int) (a2 : Bool) (a3 : Int) (a4 : Int) (a5 : Bool) : Option (Int × (Bool × Bool × Bool × Bool × Bool × Unit) × Unit) :=
 let x0 : Int := (mn (mx a3 (-(10000:Int))) (10000:Int))
 bif (a4 == (0:Int)) then
 bif (!a5) then
 ((F_996 a0 a2)).bind fun r1 =>
 (some (r1, ((false, (false, (false, (false, (false, ()))))), ())))
 else
 ((F_989 a0)).bind fun r2 =>
 ((F_9a7 a0 x0 a4)).bind fun r3 =>
 ((F_9aa a4 (IntKind.wrap .i64 (r3 - x0)) a5)).bind fun r4 =>
 let x5 : Bool := (r4.2.1 != (0:Int))
 ((F_9ab a1 a2 r4.1 r4.2.1)).bind fun r6 =>
 let x7 : Int := (bif r6 then (IntKind.wrap .u64 (r4.1 + (1:Int))) else r4.1)
 let x8 : Bool := ((x7 / ((2:Int) ^ (Min.min (Int.toNat (IntKind.wrap .u64 (IntKind.wrap .i64 (r2.2.1 + (1:Int))))) (64:Nat)))) != (0:Int))
 let x9 : Int := (bif x8 then (x7 / (2:Int)) else x7)
 bif (decide ((0:Int) ≤ (IntKind.wrap .u64 (IntKind.wrap .i64 (r2.2.1 + (1:Int)))))) then
 ((F_99e a0)).bind fun r10 =>
 let x11 : Int := (bif ((x9 / ((2:Int) ^ (Min.min (Int.toNat (IntKind.wrap .u64 r2.2.1)) (64:Nat)))) == (0:Int)) then (0:Int) else (IntKind.wrap .i64 ((IntKind.wrap .i64 ((IntKind.wrap .i64 ((bif x8 then (IntKind.wrap .i64 (r3 + (1:Int))) else r3) + r2.2.1)) - r10)) + (1:Int))))
 bif (decide ((0:Int) ≤ (IntKind.wrap .u64 r2.2.1))) then
 ((F_98f a0)).bind fun r12 =>
 bif (decide (x11 ≥ r12)) then
 ((F_9ac a0 a1 a2)).bind fun r13 =>
 (some r13)
 else
 bif x5 then
 bif (a4 == (0:Int)) then
 ((F_9a8 x9 r2.2.1)).bind fun r14 =>
 ((F_98e a0 a2 x11 (IntKind.wrap .u32 r14))).bind fun r15 =>
 (some (r15, ((false, (false, (false, (true, (x5, ()))))), ())))
 else
 ((F_976 a4)).bind fun r16 =>
 ((F_99e a0)).bind fun r17 =>
 ((F_9a8 x9 r2.2.1)).bind fun r18 =>
 ((F_98e a0 a2 x11 (IntKind.wrap .u32 r18))).bind fun r19 =>
 (some (r19, ((false, (false, (false, ((decide ((IntKind.wrap .i64 ((IntKind.wrap .i64 (x0 + r16)) - (1:Int))) < r17)), (x5, ()))))), ())))
 else
 ((F_9a8 x9 r2.2.1)).bind fun r20 =>
 ((F_98e a0 a2 x11 (IntKind.wrap .u32 r20))).bind fun r21 =>
 (some (r21, ((false, (false, (false, (false, (x5, ()))))), ())))
 else
 none
 else
 none
 else
 ((F_989 a0)).bind fun r22 =>
 ((F_9a7 a0 x0 a4)).bind fun r23 =>
 ((F_9aa a4 (IntKind.wrap .i64 (r23 - x0)) a5)).bind fun r24 =>
 let x25 : Bool := (r24.2.1 != (0:Int))
 ((F_9ab a1 a2 r24.1 r24.2.1)).bind fun r26 =>
 let x27 : Int := (bif r26 then (IntKind.wrap .u64 (r24.1 + (1:Int))) else r24.1)
 let x28 : Bool := ((x27 / ((2:Int) ^ (Min.min (Int.toNat (IntKind.wrap .u64 (IntKind.wrap .i64 (r22.2.1 + (1:Int))))) (64:Nat)))) != (0:Int))
 let x29 : Int := (bif x28 then (x27 / (2:Int)) else x27)
 bif (decide ((0:Int) ≤ (IntKind.wrap .u64 (IntKind.wrap .i64 (r22.2.1 + (1:Int)))))) then
 ((F_99e a0)).bind fun r30 =>
 let x31 : Int := (bif ((x29 / ((2:Int) ^ (Min.min (Int.toNat (IntKind.wrap .u64 r22.2.1)) (64:Nat)))) == (0:Int)) then (0:Int) else (IntKind.wrap .i64 ((IntKind.wrap .i64 ((IntKind.wrap .i64 ((bif x28 then (IntKind.wrap .i64 (r23 + (1:Int))) else r23) + r22.2.1)) - r30)) + (1:Int))))
 bif (decide ((0:Int) ≤ (IntKind.wrap .u64 r22.2.1))) then
 ((F_98f a0)).bind fun r32 =>
 bif (decide (x31 ≥ r32)) then
 ((F_9ac a0 a1 a2)).bind fun r33 =>
 (some r33)
 else
 bif x25 then
 bif (a4 == (0:Int)) then
 ((F_9a8 x29 r22.2.1)).bind fun r34 =>
 ((F_98e a0 a2 x31 (IntKind.wrap .u32 r34))).bind fun r35 =>
 (some (r35, ((false, (false, (false, (true, (x25, ()))))), ())))
 else
 ((F_976 a4)).bind fun r36 =>
 ((F_99e a0)).bind fun r37 =>
 ((F_9a8 x29 r22.2.1)).bind fun r38 =>
 ((F_98e a0 a2 x31 (IntKind.wrap .u32 r38))).bind fun r39 =>
 (some (r39, ((false, (false, (false, ((decide ((IntKind.wrap .i64 ((IntKind.wrap .i64 (x0 + r36)) - (1:Int))) < r37)), (x25, ()))))), ())))
 else
 ((F_9a8 x29 r22.2.1)).bind fun r40 =>
 ((F_98e a0 a2 x31 (IntKind.wrap .u32 r40))).bind fun r41 =>
 (some (r41, ((false, (false, (false, (false, (x25, ()))))), ())))
 else
 none
 else
 none
noncomputable def G_98d : T fa_98d → TH ha_98d → Option (Int × (Bool × Bool × Bool × Bool × Bool × Unit) × Unit) := fun x y => F_98d x.1 x.2.1 x.2.2.1 x.2.2.2.1 x.2.2.2.2.1 x.2.2.2.2.2.1
noncomputable def c_98d : Orc := ent i_98d [] 0 (sp fa_98d ha_98d fr_98d hr_98d G_98d out_98d)
theorem ok_98d : OrcOk PR c_98d := fnT okO_98d mixed p_98d (by kernel_rfl) (by kernel_rfl) (L := L_98d) (kp := false) (by kernel_rfl) (inn := inn_98d) (out := out_98d) (fun _ _ => rfl) (loopsL (l := []) (by kernel_rfl) trivial) (fun x y => by kernel_rfl)
noncomputable def O_984 : Orc := orn
theorem okO_984 : OrcOk PR O_984 := (orn_ok _)
abbrev fa_984 : Fm := (.pair (.i .u64) .unit)
abbrev ha_984 : List BF := []
abbrev fr_984 : Fm := (.i .i64)
abbrev hr_984 : List BF := []
abbrev ff_984_0 : Fm := (.pair (.i .u64) (.us 2 (.pair (.i .i64) (.us 7 .unit))))
abbrev hf_984_0 : List BF := []
abbrev X_984_0 : Xs := (.one (.exit 0) [3] (.us 3 (.pair (.i .i64) (.us 7 .unit))) [])
abbrev S_984_0 : Type := T ff_984_0 × TH hf_984_0
abbrev E_984_0 : Type := TX X_984_0
noncomputable def LB_984_0 : Lps := L0
noncomputable def st_984_0 : StepT S_984_0 E_984_0 := fun R v kn ko =>
 bif (decide (v.1.1 > (0:Int))) then
 (kn (((v.1.1 / (2:Int)), ((IntKind.wrap .i64 (v.1.2.1 + (1:Int))), ())), ()))
 else
 (ko (v.1.2, ()))
noncomputable def ls_984_0 : St → LTr := (lsum ff_984_0 hf_984_0 X_984_0 Prod.mk id st_984_0 (hd [] [] [0, 3] 0))
theorem lp_984_0 : LoopOk PR 0 (lpN f_984 0) ls_984_0 := loopT okO_984 mixed (L := LB_984_0) (d := 1) (bs := []) (ks := [0, 3]) (loopsL (l := []) (by kernel_rfl) trivial) (by kernel_rfl) (inS := Prod.mk) (outS := id) (fun _ _ => rfl) (inX := id) (outX := id) (fun _ => rfl) (fun v R kn ko => by kernel_rfl) (hd_wk [] [] [0, 3] 0)
noncomputable def L_984 : Lps := (lpB 3 (.by_ ls_984_0) L0)
def inn_984 : T fr_984 → TH hr_984 → Int := (fun z w => z)
def out_984 : Int → T fr_984 × TH hr_984 := fun r => (r, ())
noncomputable def F_984 (a0 : Int) : Option (Int) :=
 ((lim st_984_0 ((a0, ((0:Int), ())), ()))).bind fun r0 =>
 (some r0.1.1)
noncomputable def G_984 : T fa_984 → TH ha_984 → Option (Int) := fun x y => F_984 x.1
noncomputable def c_984 : Orc := ent i_984 [] 0 (sp fa_984 ha_984 fr_984 hr_984 G_984 out_984)
theorem ok_984 : OrcOk PR c_984 := fnT okO_984 mixed p_984 (by kernel_rfl) (by kernel_rfl) (L := L_984) (kp := false) (by kernel_rfl) (inn := inn_984) (out := out_984) (fun _ _ => rfl) (loopsL (l := [((lpN f_984 0), ls_984_0)]) (by kernel_rfl) ⟨lp_984_0, trivial⟩) (fun x y => by kernel_rfl)
noncomputable def O_9a5 : Orc := orn
theorem okO_9a5 : OrcOk PR O_9a5 := (orn_ok _)
abbrev fa_9a5 : Fm := (.pair (.i .u64) (.pair (.i .i64) .unit))
abbrev ha_9a5 : List BF := []
abbrev fr_9a5 : Fm := (.tup (.pair (.i .u64) (.pair .b .unit)))
abbrev hr_9a5 : List BF := []
abbrev ff_9a5_0 : Fm := (.pair (.i .u64) (.pair (.i .i64) (.us 4 (.pair .b (.us 29 .unit)))))
abbrev hf_9a5_0 : List BF := []
abbrev X_9a5_0 : Xs := (.one (.exit 0) [0, 1, 6] (.pair (.i .u64) (.pair (.i .i64) (.us 4 (.pair .b (.us 29 .unit))))) [])
abbrev S_9a5_0 : Type := T ff_9a5_0 × TH hf_9a5_0
abbrev E_9a5_0 : Type := TX X_9a5_0
noncomputable def LB_9a5_0 : Lps := L0
noncomputable def st_9a5_0 : StepT S_9a5_0 E_9a5_0 := fun R v kn ko =>
 let x0 : Int := v.1.1
 let x1 : Int := (x0 / (2:Int))
 let x2 : Int := (IntKind.wrap .i64 (v.1.2.1 - (1:Int)))
 bif (decide (v.1.2.1 > (0:Int))) then
 bif v.1.2.2.1 then
 (kn ((x1, (x2, (true, ()))), ()))
 else
 (kn ((x1, (x2, (((bits .and .u64 x0 (1:Int)) == (1:Int)), ()))), ()))
 else
 (ko v)
noncomputable def ls_9a5_0 : St → LTr := (lsum ff_9a5_0 hf_9a5_0 X_9a5_0 Prod.mk id st_9a5_0 (hd [] [] [0, 1, 6] 0))
theorem lp_9a5_0 : LoopOk PR 0 (lpN f_9a5 0) ls_9a5_0 := loopT okO_9a5 mixed (L := LB_9a5_0) (d := 1) (bs := []) (ks := [0, 1, 6]) (loopsL (l := []) (by kernel_rfl) trivial) (by kernel_rfl) (inS := Prod.mk) (outS := id) (fun _ _ => rfl) (inX := id) (outX := id) (fun _ => rfl) (fun v R kn ko => by kernel_rfl) (hd_wk [] [] [0, 1, 6] 0)
abbrev ff_9a5_1 : Fm := (.pair (.i .u64) (.pair (.i .i64) (.us 4 (.pair .b (.us 29 .unit)))))
abbrev hf_9a5_1 : List BF := []
abbrev X_9a5_1 : Xs := (.one (.exit 2) [0, 6] (.pair (.i .u64) (.us 5 (.pair .b (.us 29 .unit)))) [])
abbrev S_9a5_1 : Type := T ff_9a5_1 × TH hf_9a5_1
abbrev E_9a5_1 : Type := TX X_9a5_1
noncomputable def LB_9a5_1 : Lps := (lpB 4 (.by_ ls_9a5_0) L0)
noncomputable def st_9a5_1 : StepT S_9a5_1 E_9a5_1 := fun R v kn ko =>
 let x0 : Int := v.1.1
 let x1 : Int := (IntKind.wrap .u64 (x0 * (2:Int)))
 let x2 : Int := (IntKind.wrap .i64 (v.1.2.1 + (1:Int)))
 bif (decide (v.1.2.1 < (0:Int))) then
 bif v.1.2.2.1 then
 (kn ((x1, (x2, (true, ()))), ()))
 else
 (kn ((x1, (x2, (((x0 / (9223372036854775808:Int)) == (1:Int)), ()))), ()))
 else
 (ko ((x0, v.1.2.2), ()))
noncomputable def ls_9a5_1 : St → LTr := (lsum ff_9a5_1 hf_9a5_1 X_9a5_1 Prod.mk id st_9a5_1 (hd [] [] [0, 1, 6] 0))
theorem lp_9a5_1 : LoopOk PR 0 (lpN f_9a5 1) ls_9a5_1 := loopT okO_9a5 mixed (L := LB_9a5_1) (d := 1) (bs := []) (ks := [0, 1, 6]) (loopsL (l := []) (by kernel_rfl) trivial) (by kernel_rfl) (inS := Prod.mk) (outS := id) (fun _ _ => rfl) (inX := id) (outX := id) (fun _ => rfl) (fun v R kn ko => by kernel_rfl) (hd_wk [] [] [0, 1, 6] 0)
noncomputable def L_9a5 : Lps := (lpB 8 (.by_ ls_9a5_1) (lpB 4 (.by_ ls_9a5_0) L0))
def inn_9a5 : T fr_9a5 → TH hr_9a5 → Int × Bool × Unit := (fun z w => z)
def out_9a5 : Int × Bool × Unit → T fr_9a5 × TH hr_9a5 := fun r => (r, ())
noncomputable def F_9a5 (a0 : Int) (a1 : Int) : Option (Int × Bool × Unit) :=
 ((lim st_9a5_0 ((a0, ((mn (mx a1 (-(64:Int))) (64:Int)), (false, ()))), ()))).bind fun r0 =>
 ((lim st_9a5_1 r0)).bind fun r1 =>
 (some r1.1)
noncomputable def G_9a5 : T fa_9a5 → TH ha_9a5 → Option (Int × Bool × Unit) := fun x y => F_9a5 x.1 x.2.1
noncomputable def c_9a5 : Orc := ent i_9a5 [] 0 (sp fa_9a5 ha_9a5 fr_9a5 hr_9a5 G_9a5 out_9a5)
theorem ok_9a5 : OrcOk PR c_9a5 := fnT okO_9a5 mixed p_9a5 (by kernel_rfl) (by kernel_rfl) (L := L_9a5) (kp := false) (by kernel_rfl) (inn := inn_9a5) (out := out_9a5) (fun _ _ => rfl) (loopsL (l := [((lpN f_9a5 0), ls_9a5_0), ((lpN f_9a5 1), ls_9a5_1)]) (by kernel_rfl) ⟨lp_9a5_0, ⟨lp_9a5_1, trivial⟩⟩) (fun x y => by kernel_rfl)
noncomputable def O_985 : Orc := c_9a5
theorem okO_985 : OrcOk PR O_985 := ok_9a5
abbrev fa_985 : Fm := (.pair (.i .u64) (.pair (.i .i64) .unit))
abbrev ha_985 : List BF := []
abbrev fr_985 : Fm := (.tup (.pair (.i .u64) (.pair .b (.pair .b .unit))))
abbrev hr_985 : List BF := []
noncomputable def L_985 : Lps := L0
def inn_985 : T fr_985 → TH hr_985 → Int × Bool × Bool × Unit := (fun z w => z)
def out_985 : Int × Bool × Bool × Unit → T fr_985 × TH hr_985 := fun r => (r, ())
noncomputable def F_985 (a0 : Int) (a1 : Int) : Option (Int × Bool × Bool × Unit) :=
 bif (decide (a1 ≤ (0:Int))) then
 bif (decide ((0:Int) ≤ (mn (IntKind.wrap .i64 ((0:Int) - a1)) (63:Int)))) then
 (some ((IntKind.wrap .u64 (a0 * ((2:Int) ^ (Min.min (Int.toNat (mn (IntKind.wrap .i64 ((0:Int) - a1)) (63:Int))) (64:Nat))))), (false, (false, ()))))
 else
 none
 else
 bif (decide (a1 > (64:Int))) then
 (some ((0:Int), (false, ((a0 != (0:Int)), ()))))
 else
 ((F_9a5 a0 a1)).bind fun r0 =>
 ((F_9a5 a0 (IntKind.wrap .i64 (a1 - (1:Int))))).bind fun r1 =>
 ((F_9a5 a0 (IntKind.wrap .i64 (a1 - (1:Int))))).bind fun r2 =>
 (some (r0.1, (((bits .and .u64 r1.1 (1:Int)) == (1:Int)), r2.2)))
noncomputable def G_985 : T fa_985 → TH ha_985 → Option (Int × Bool × Bool × Unit) := fun x y => F_985 x.1 x.2.1
noncomputable def c_985 : Orc := ent i_985 [] 0 (sp fa_985 ha_985 fr_985 hr_985 G_985 out_985)
theorem ok_985 : OrcOk PR c_985 := fnT okO_985 mixed p_985 (by kernel_rfl) (by kernel_rfl) (L := L_985) (kp := false) (by kernel_rfl) (inn := inn_985) (out := out_985) (fun _ _ => rfl) (loopsL (l := []) (by kernel_rfl) trivial) (fun x y => by kernel_rfl)
noncomputable def O_986 : Orc := orn
theorem okO_986 : OrcOk PR O_986 := (orn_ok _)
abbrev fa_986 : Fm := (.pair (.i .i64) (.pair .b (.pair .b (.pair .b (.pair .b .unit)))))
abbrev ha_986 : List BF := []
abbrev fr_986 : Fm := .b
abbrev hr_986 : List BF := []
noncomputable def L_986 : Lps := L0
def inn_986 : T fr_986 → TH hr_986 → Bool := (fun z w => z)
def out_986 : Bool → T fr_986 × TH hr_986 := fun r => (r, ())
noncomputable def F_986 (a0 : Int) (a1 : Bool) (a2 : Bool) (a3 : Bool) (a4 : Bool) : Option (Bool) :=
 bif (a0 == (1:Int)) then
 (some false)
 else
 bif (a0 == (2:Int)) then
 bif (!a1) then
 bif a3 then
 (some true)
 else
 (some a4)
 else
 (some false)
 else
 bif (a0 == (3:Int)) then
 bif a1 then
 bif a3 then
 (some true)
 else
 (some a4)
 else
 (some false)
 else
 bif (a0 == (4:Int)) then
 (some a3)
 else
 bif a3 then
 bif a4 then
 (some true)
 else
 (some a2)
 else
 (some false)
noncomputable def G_986 : T fa_986 → TH ha_986 → Option (Bool) := fun x y => F_986 x.1 x.2.1 x.2.2.1 x.2.2.2.1 x.2.2.2.2.1
noncomputable def c_986 : Orc := ent i_986 [] 0 (sp fa_986 ha_986 fr_986 hr_986 G_986 out_986)
theorem ok_986 : OrcOk PR c_986 := fnT okO_986 mixed p_986 (by kernel_rfl) (by kernel_rfl) (L := L_986) (kp := false) (by kernel_rfl) (inn := inn_986) (out := out_986) (fun _ _ => rfl) (loopsL (l := []) (by kernel_rfl) trivial) (fun x y => by kernel_rfl)
noncomputable def O_958 : Orc := (orm c_934 (orm c_932 (orm c_983 (orm c_984 (orm c_985 (orm c_986 (orm c_968 c_987)))))))
theorem okO_958 : OrcOk PR O_958 := (orm_ok ok_934 (orm_ok ok_932 (orm_ok ok_983 (orm_ok ok_984 (orm_ok ok_985 (orm_ok ok_986 (orm_ok ok_968 ok_987)))))))
abbrev fa_958 : Fm := (.pair (.i .i64) (.pair (.i .i64) (.pair .b (.pair (.i .i64) (.pair (.i .u64) (.pair .b .unit))))))
abbrev ha_958 : List BF := []
abbrev fr_958 : Fm := (.tup (.pair (.i .u32) (.pair (.agg (.pair .b (.pair .b (.pair .b (.pair .b (.pair .b .unit)))))) .unit)))
abbrev hr_958 : List BF := []
noncomputable def L_958 : Lps := L0
def inn_958 : T fr_958 → TH hr_958 → Int × (Bool × Bool × Bool × Bool × Bool × Unit) × Unit := (fun z w => z)
def out_958 : Int × (Bool × Bool × Bool × Bool × Bool × Unit) × Unit → T fr_958 × TH hr_958 := fun r => (r, ())
noncomputable def F_958 (a0 : Int) (a1 : Int) (a2 : Bool) (a3 : Int) (a4 : Int) (a5 : Bool) : Option (Int × (Bool × Bool × Bool × Bool × Bool × Unit) × Unit) :=
 let x0 : Int := (mn (mx a3 (-(10000:Int))) (10000:Int))
 bif (a4 == (0:Int)) then
 bif (!a5) then
 ((F_934 a0 a2)).bind fun r1 =>
 (some (r1, ((false, (false, (false, (false, (false, ()))))), ())))
 else
 ((F_932 a0)).bind fun r2 =>
 let x3 : Int := (IntKind.wrap .u64 ((1:Int) * ((2:Int) ^ (Min.min (Int.toNat (IntKind.wrap .i64 (r2.2.1 + (1:Int)))) (64:Nat)))))
 let x4 : Nat := (Int.toNat r2.2.1)
 let x5 : Int := ((2:Int) ^ (Min.min x4 (32:Nat)))
 let x6 : Int := (IntKind.wrap .u64 ((IntKind.wrap .u64 ((1:Int) * ((2:Int) ^ (Min.min x4 (64:Nat))))) - (1:Int)))
 ((F_983 a0)).bind fun r7 =>
 ((F_984 a4)).bind fun r8 =>
 let x9 : Int := (IntKind.wrap .i64 ((mx (bif (a4 == (0:Int)) then (-(20000:Int)) else (IntKind.wrap .i64 ((IntKind.wrap .i64 (x0 + r8)) - (1:Int)))) (IntKind.wrap .i64 ((1:Int) - r7))) - r2.2.1))
 let x10 : Int := (IntKind.wrap .i64 (x9 + (1:Int)))
 ((F_985 a4 (IntKind.wrap .i64 (x9 - x0)))).bind fun r11 =>
 let x12 : Bool := r11.2.2.1
 let x13 : Bool := ((bits .and .u64 r11.1 (1:Int)) == (1:Int))
 let x14 : Int := (IntKind.wrap .u64 (r11.1 + (1:Int)))
 bif x12 then
 bif r11.2.1 then
 ((F_986 a1 a2 x13 r11.2.1 true)).bind fun r15 =>
 let x16 : Int := (bif r15 then x14 else r11.1)
 let x17 : Bool := (x16 == x3)
 let x18 : Int := (bif x17 then (x16 / (2:Int)) else x16)
 bif (decide ((0:Int) ≤ (IntKind.wrap .i64 (r2.2.1 + (1:Int))))) then
 bif (decide ((0:Int) ≤ r2.2.1)) then
 bif (decide (x18 < (IntKind.wrap .u64 ((1:Int) * ((2:Int) ^ (Min.min x4 (64:Nat))))))) then
 ((F_968 a0 a2)).bind fun r19 =>
 (some ((bits .or .u32 r19 (IntKind.wrap .u32 x18)), ((false, (false, (false, ((decide ((bif (a4 == (0:Int)) then (-(20000:Int)) else (IntKind.wrap .i64 ((IntKind.wrap .i64 (x0 + r8)) - (1:Int)))) < (IntKind.wrap .i64 ((1:Int) - r7)))), (true, ()))))), ())))
 else
 ((F_983 a0)).bind fun r20 =>
 ((F_932 a0)).bind fun r21 =>
 bif (decide ((0:Int) ≤ r21.1)) then
 bif (decide ((IntKind.wrap .i64 ((IntKind.wrap .i64 ((bif x17 then x10 else x9) + r2.2.1)) + r20)) ≥ (IntKind.wrap .i64 ((IntKind.wrap .i64 ((1:Int) * ((2:Int) ^ (Min.min (Int.toNat r21.1) (64:Nat))))) - (1:Int))))) then
 ((F_987 a0 a1 a2)).bind fun r22 =>
 (some (r22, ((false, (false, (true, (false, (true, ()))))), ())))
 else
 ((F_968 a0 a2)).bind fun r23 =>
 bif (decide ((0:Int) ≤ r2.2.1)) then
 bif (decide ((0:Int) ≤ r2.2.1)) then
 (some ((bits .or .u32 (bits .or .u32 r23 (IntKind.wrap .u32 ((IntKind.wrap .u32 (IntKind.wrap .i64 ((IntKind.wrap .i64 ((bif x17 then x10 else x9) + r2.2.1)) + r20))) * x5))) (IntKind.wrap .u32 (bits .and .u64 x18 x6))), ((false, (false, (false, ((decide ((bif (a4 == (0:Int)) then (-(20000:Int)) else (IntKind.wrap .i64 ((IntKind.wrap .i64 (x0 + r8)) - (1:Int)))) < (IntKind.wrap .i64 ((1:Int) - r7)))), (true, ()))))), ())))
 else
 none
 else
 none
 else
 none
 else
 none
 else
 none
 else
 ((F_986 a1 a2 x13 r11.2.1 true)).bind fun r24 =>
 let x25 : Int := (bif r24 then x14 else r11.1)
 let x26 : Bool := (x25 == x3)
 let x27 : Int := (bif x26 then (x25 / (2:Int)) else x25)
 bif (decide ((0:Int) ≤ (IntKind.wrap .i64 (r2.2.1 + (1:Int))))) then
 bif (decide ((0:Int) ≤ r2.2.1)) then
 bif (decide (x27 < (IntKind.wrap .u64 ((1:Int) * ((2:Int) ^ (Min.min x4 (64:Nat))))))) then
 ((F_968 a0 a2)).bind fun r28 =>
 (some ((bits .or .u32 r28 (IntKind.wrap .u32 x27)), ((false, (false, (false, ((decide ((bif (a4 == (0:Int)) then (-(20000:Int)) else (IntKind.wrap .i64 ((IntKind.wrap .i64 (x0 + r8)) - (1:Int)))) < (IntKind.wrap .i64 ((1:Int) - r7)))), (true, ()))))), ())))
 else
 ((F_983 a0)).bind fun r29 =>
 ((F_932 a0)).bind fun r30 =>
 bif (decide ((0:Int) ≤ r30.1)) then
 bif (decide ((IntKind.wrap .i64 ((IntKind.wrap .i64 ((bif x26 then x10 else x9) + r2.2.1)) + r29)) ≥ (IntKind.wrap .i64 ((IntKind.wrap .i64 ((1:Int) * ((2:Int) ^ (Min.min (Int.toNat r30.1) (64:Nat))))) - (1:Int))))) then
 ((F_987 a0 a1 a2)).bind fun r31 =>
 (some (r31, ((false, (false, (true, (false, (true, ()))))), ())))
 else
 ((F_968 a0 a2)).bind fun r32 =>
 bif (decide ((0:Int) ≤ r2.2.1)) then
 bif (decide ((0:Int) ≤ r2.2.1)) then
 (some ((bits .or .u32 (bits .or .u32 r32 (IntKind.wrap .u32 ((IntKind.wrap .u32 (IntKind.wrap .i64 ((IntKind.wrap .i64 ((bif x26 then x10 else x9) + r2.2.1)) + r29))) * x5))) (IntKind.wrap .u32 (bits .and .u64 x27 x6))), ((false, (false, (false, ((decide ((bif (a4 == (0:Int)) then (-(20000:Int)) else (IntKind.wrap .i64 ((IntKind.wrap .i64 (x0 + r8)) - (1:Int)))) < (IntKind.wrap .i64 ((1:Int) - r7)))), (true, ()))))), ())))
 else
 none
 else
 none
 else
 none
 else
 none
 else
 none
 else
 bif r11.2.1 then
 ((F_986 a1 a2 x13 r11.2.1 a5)).bind fun r33 =>
 let x34 : Int := (bif r33 then x14 else r11.1)
 let x35 : Bool := (x34 == x3)
 let x36 : Int := (bif x35 then (x34 / (2:Int)) else x34)
 bif (decide ((0:Int) ≤ (IntKind.wrap .i64 (r2.2.1 + (1:Int))))) then
 bif (decide ((0:Int) ≤ r2.2.1)) then
 bif (decide (x36 < (IntKind.wrap .u64 ((1:Int) * ((2:Int) ^ (Min.min x4 (64:Nat))))))) then
 ((F_968 a0 a2)).bind fun r37 =>
 (some ((bits .or .u32 r37 (IntKind.wrap .u32 x36)), ((false, (false, (false, ((decide ((bif (a4 == (0:Int)) then (-(20000:Int)) else (IntKind.wrap .i64 ((IntKind.wrap .i64 (x0 + r8)) - (1:Int)))) < (IntKind.wrap .i64 ((1:Int) - r7)))), (true, ()))))), ())))
 else
 ((F_983 a0)).bind fun r38 =>
 ((F_932 a0)).bind fun r39 =>
 bif (decide ((0:Int) ≤ r39.1)) then
 bif (decide ((IntKind.wrap .i64 ((IntKind.wrap .i64 ((bif x35 then x10 else x9) + r2.2.1)) + r38)) ≥ (IntKind.wrap .i64 ((IntKind.wrap .i64 ((1:Int) * ((2:Int) ^ (Min.min (Int.toNat r39.1) (64:Nat))))) - (1:Int))))) then
 ((F_987 a0 a1 a2)).bind fun r40 =>
 (some (r40, ((false, (false, (true, (false, (true, ()))))), ())))
 else
 ((F_968 a0 a2)).bind fun r41 =>
 bif (decide ((0:Int) ≤ r2.2.1)) then
 bif (decide ((0:Int) ≤ r2.2.1)) then
 (some ((bits .or .u32 (bits .or .u32 r41 (IntKind.wrap .u32 ((IntKind.wrap .u32 (IntKind.wrap .i64 ((IntKind.wrap .i64 ((bif x35 then x10 else x9) + r2.2.1)) + r38))) * x5))) (IntKind.wrap .u32 (bits .and .u64 x36 x6))), ((false, (false, (false, ((decide ((bif (a4 == (0:Int)) then (-(20000:Int)) else (IntKind.wrap .i64 ((IntKind.wrap .i64 (x0 + r8)) - (1:Int)))) < (IntKind.wrap .i64 ((1:Int) - r7)))), (true, ()))))), ())))
 else
 none
 else
 none
 else
 none
 else
 none
 else
 none
 else
 ((F_986 a1 a2 x13 r11.2.1 a5)).bind fun r42 =>
 let x43 : Int := (bif r42 then x14 else r11.1)
 let x44 : Bool := (x43 == x3)
 let x45 : Int := (bif x44 then (x43 / (2:Int)) else x43)
 let x46 : Int := (IntKind.wrap .u32 x45)
 let x47 : Int := (IntKind.wrap .i64 ((bif x44 then x10 else x9) + r2.2.1))
 let x48 : Int := (IntKind.wrap .u32 (bits .and .u64 x45 x6))
 bif a5 then
 bif (decide ((0:Int) ≤ (IntKind.wrap .i64 (r2.2.1 + (1:Int))))) then
 bif (decide ((0:Int) ≤ r2.2.1)) then
 bif (decide (x45 < (IntKind.wrap .u64 ((1:Int) * ((2:Int) ^ (Min.min x4 (64:Nat))))))) then
 ((F_968 a0 a2)).bind fun r49 =>
 (some ((bits .or .u32 r49 x46), ((false, (false, (false, ((decide ((bif (a4 == (0:Int)) then (-(20000:Int)) else (IntKind.wrap .i64 ((IntKind.wrap .i64 (x0 + r8)) - (1:Int)))) < (IntKind.wrap .i64 ((1:Int) - r7)))), (a5, ()))))), ())))
 else
 ((F_983 a0)).bind fun r50 =>
 ((F_932 a0)).bind fun r51 =>
 bif (decide ((0:Int) ≤ r51.1)) then
 bif (decide ((IntKind.wrap .i64 (x47 + r50)) ≥ (IntKind.wrap .i64 ((IntKind.wrap .i64 ((1:Int) * ((2:Int) ^ (Min.min (Int.toNat r51.1) (64:Nat))))) - (1:Int))))) then
 ((F_987 a0 a1 a2)).bind fun r52 =>
 (some (r52, ((false, (false, (true, (false, (true, ()))))), ())))
 else
 ((F_968 a0 a2)).bind fun r53 =>
 bif (decide ((0:Int) ≤ r2.2.1)) then
 bif (decide ((0:Int) ≤ r2.2.1)) then
 (some ((bits .or .u32 (bits .or .u32 r53 (IntKind.wrap .u32 ((IntKind.wrap .u32 (IntKind.wrap .i64 (x47 + r50))) * x5))) x48), ((false, (false, (false, ((decide ((bif (a4 == (0:Int)) then (-(20000:Int)) else (IntKind.wrap .i64 ((IntKind.wrap .i64 (x0 + r8)) - (1:Int)))) < (IntKind.wrap .i64 ((1:Int) - r7)))), (a5, ()))))), ())))
 else
 none
 else
 none
 else
 none
 else
 none
 else
 none
 else
 bif (decide ((0:Int) ≤ (IntKind.wrap .i64 (r2.2.1 + (1:Int))))) then
 bif (decide ((0:Int) ≤ r2.2.1)) then
 bif (decide (x45 < (IntKind.wrap .u64 ((1:Int) * ((2:Int) ^ (Min.min x4 (64:Nat))))))) then
 ((F_968 a0 a2)).bind fun r54 =>
 (some ((bits .or .u32 r54 x46), ((false, (false, (false, (false, (a5, ()))))), ())))
 else
 ((F_983 a0)).bind fun r55 =>
 ((F_932 a0)).bind fun r56 =>
 bif (decide ((0:Int) ≤ r56.1)) then
 bif (decide ((IntKind.wrap .i64 (x47 + r55)) ≥ (IntKind.wrap .i64 ((IntKind.wrap .i64 ((1:Int) * ((2:Int) ^ (Min.min (Int.toNat r56.1) (64:Nat))))) - (1:Int))))) then
 ((F_987 a0 a1 a2)).bind fun r57 =>
 (some (r57, ((false, (false, (true, (false, (true, ()))))), ())))
 else
 ((F_968 a0 a2)).bind fun r58 =>
 bif (decide ((0:Int) ≤ r2.2.1)) then
 bif (decide ((0:Int) ≤ r2.2.1)) then
 (some ((bits .or .u32 (bits .or .u32 r58 (IntKind.wrap .u32 ((IntKind.wrap .u32 (IntKind.wrap .i64 (x47 + r55))) * x5))) x48), ((false, (false, (false, (false, (a5, ()))))), ())))
 else
 none
 else
 none
 else
 none
 else
 none
 else
 none
 else
 ((F_932 a0)).bind fun r59 =>
 let x60 : Int := (IntKind.wrap .u64 ((1:Int) * ((2:Int) ^ (Min.min (Int.toNat (IntKind.wrap .i64 (r59.2.1 + (1:Int)))) (64:Nat)))))
 let x61 : Nat := (Int.toNat r59.2.1)
 let x62 : Int := ((2:Int) ^ (Min.min x61 (32:Nat)))
 let x63 : Int := (IntKind.wrap .u64 ((IntKind.wrap .u64 ((1:Int) * ((2:Int) ^ (Min.min x61 (64:Nat))))) - (1:Int)))
 ((F_983 a0)).bind fun r64 =>
 ((F_984 a4)).bind fun r65 =>
 let x66 : Int := (IntKind.wrap .i64 ((mx (bif (a4 == (0:Int)) then (-(20000:Int)) else (IntKind.wrap .i64 ((IntKind.wrap .i64 (x0 + r65)) - (1:Int)))) (IntKind.wrap .i64 ((1:Int) - r64))) - r59.2.1))
 let x67 : Int := (IntKind.wrap .i64 (x66 + (1:Int)))
 ((F_985 a4 (IntKind.wrap .i64 (x66 - x0)))).bind fun r68 =>
 let x69 : Bool := r68.2.2.1
 let x70 : Bool := ((bits .and .u64 r68.1 (1:Int)) == (1:Int))
 let x71 : Int := (IntKind.wrap .u64 (r68.1 + (1:Int)))
 bif x69 then
 bif r68.2.1 then
 ((F_986 a1 a2 x70 r68.2.1 true)).bind fun r72 =>
 let x73 : Int := (bif r72 then x71 else r68.1)
 let x74 : Bool := (x73 == x60)
 let x75 : Int := (bif x74 then (x73 / (2:Int)) else x73)
 bif (decide ((0:Int) ≤ (IntKind.wrap .i64 (r59.2.1 + (1:Int))))) then
 bif (decide ((0:Int) ≤ r59.2.1)) then
 bif (decide (x75 < (IntKind.wrap .u64 ((1:Int) * ((2:Int) ^ (Min.min x61 (64:Nat))))))) then
 ((F_968 a0 a2)).bind fun r76 =>
 (some ((bits .or .u32 r76 (IntKind.wrap .u32 x75)), ((false, (false, (false, ((decide ((bif (a4 == (0:Int)) then (-(20000:Int)) else (IntKind.wrap .i64 ((IntKind.wrap .i64 (x0 + r65)) - (1:Int)))) < (IntKind.wrap .i64 ((1:Int) - r64)))), (true, ()))))), ())))
 else
 ((F_983 a0)).bind fun r77 =>
 ((F_932 a0)).bind fun r78 =>
 bif (decide ((0:Int) ≤ r78.1)) then
 bif (decide ((IntKind.wrap .i64 ((IntKind.wrap .i64 ((bif x74 then x67 else x66) + r59.2.1)) + r77)) ≥ (IntKind.wrap .i64 ((IntKind.wrap .i64 ((1:Int) * ((2:Int) ^ (Min.min (Int.toNat r78.1) (64:Nat))))) - (1:Int))))) then
 ((F_987 a0 a1 a2)).bind fun r79 =>
 (some (r79, ((false, (false, (true, (false, (true, ()))))), ())))
 else
 ((F_968 a0 a2)).bind fun r80 =>
 bif (decide ((0:Int) ≤ r59.2.1)) then
 bif (decide ((0:Int) ≤ r59.2.1)) then
 (some ((bits .or .u32 (bits .or .u32 r80 (IntKind.wrap .u32 ((IntKind.wrap .u32 (IntKind.wrap .i64 ((IntKind.wrap .i64 ((bif x74 then x67 else x66) + r59.2.1)) + r77))) * x62))) (IntKind.wrap .u32 (bits .and .u64 x75 x63))), ((false, (false, (false, ((decide ((bif (a4 == (0:Int)) then (-(20000:Int)) else (IntKind.wrap .i64 ((IntKind.wrap .i64 (x0 + r65)) - (1:Int)))) < (IntKind.wrap .i64 ((1:Int) - r64)))), (true, ()))))), ())))
 else
 none
 else
 none
 else
 none
 else
 none
 else
 none
 else
 ((F_986 a1 a2 x70 r68.2.1 true)).bind fun r81 =>
 let x82 : Int := (bif r81 then x71 else r68.1)
 let x83 : Bool := (x82 == x60)
 let x84 : Int := (bif x83 then (x82 / (2:Int)) else x82)
 bif (decide ((0:Int) ≤ (IntKind.wrap .i64 (r59.2.1 + (1:Int))))) then
 bif (decide ((0:Int) ≤ r59.2.1)) then
 bif (decide (x84 < (IntKind.wrap .u64 ((1:Int) * ((2:Int) ^ (Min.min x61 (64:Nat))))))) then
 ((F_968 a0 a2)).bind fun r85 =>
 (some ((bits .or .u32 r85 (IntKind.wrap .u32 x84)), ((false, (false, (false, ((decide ((bif (a4 == (0:Int)) then (-(20000:Int)) else (IntKind.wrap .i64 ((IntKind.wrap .i64 (x0 + r65)) - (1:Int)))) < (IntKind.wrap .i64 ((1:Int) - r64)))), (true, ()))))), ())))
 else
 ((F_983 a0)).bind fun r86 =>
 ((F_932 a0)).bind fun r87 =>
 bif (decide ((0:Int) ≤ r87.1)) then
 bif (decide ((IntKind.wrap .i64 ((IntKind.wrap .i64 ((bif x83 then x67 else x66) + r59.2.1)) + r86)) ≥ (IntKind.wrap .i64 ((IntKind.wrap .i64 ((1:Int) * ((2:Int) ^ (Min.min (Int.toNat r87.1) (64:Nat))))) - (1:Int))))) then
 ((F_987 a0 a1 a2)).bind fun r88 =>
 (some (r88, ((false, (false, (true, (false, (true, ()))))), ())))
 else
 ((F_968 a0 a2)).bind fun r89 =>
 bif (decide ((0:Int) ≤ r59.2.1)) then
 bif (decide ((0:Int) ≤ r59.2.1)) then
 (some ((bits .or .u32 (bits .or .u32 r89 (IntKind.wrap .u32 ((IntKind.wrap .u32 (IntKind.wrap .i64 ((IntKind.wrap .i64 ((bif x83 then x67 else x66) + r59.2.1)) + r86))) * x62))) (IntKind.wrap .u32 (bits .and .u64 x84 x63))), ((false, (false, (false, ((decide ((bif (a4 == (0:Int)) then (-(20000:Int)) else (IntKind.wrap .i64 ((IntKind.wrap .i64 (x0 + r65)) - (1:Int)))) < (IntKind.wrap .i64 ((1:Int) - r64)))), (true, ()))))), ())))
 else
 none
 else
 none
 else
 none
 else
 none
 else
 none
 else
 bif r68.2.1 then
 ((F_986 a1 a2 x70 r68.2.1 a5)).bind fun r90 =>
 let x91 : Int := (bif r90 then x71 else r68.1)
 let x92 : Bool := (x91 == x60)
 let x93 : Int := (bif x92 then (x91 / (2:Int)) else x91)
 bif (decide ((0:Int) ≤ (IntKind.wrap .i64 (r59.2.1 + (1:Int))))) then
 bif (decide ((0:Int) ≤ r59.2.1)) then
 bif (decide (x93 < (IntKind.wrap .u64 ((1:Int) * ((2:Int) ^ (Min.min x61 (64:Nat))))))) then
 ((F_968 a0 a2)).bind fun r94 =>
 (some ((bits .or .u32 r94 (IntKind.wrap .u32 x93)), ((false, (false, (false, ((decide ((bif (a4 == (0:Int)) then (-(20000:Int)) else (IntKind.wrap .i64 ((IntKind.wrap .i64 (x0 + r65)) - (1:Int)))) < (IntKind.wrap .i64 ((1:Int) - r64)))), (true, ()))))), ())))
 else
 ((F_983 a0)).bind fun r95 =>
 ((F_932 a0)).bind fun r96 =>
 bif (decide ((0:Int) ≤ r96.1)) then
 bif (decide ((IntKind.wrap .i64 ((IntKind.wrap .i64 ((bif x92 then x67 else x66) + r59.2.1)) + r95)) ≥ (IntKind.wrap .i64 ((IntKind.wrap .i64 ((1:Int) * ((2:Int) ^ (Min.min (Int.toNat r96.1) (64:Nat))))) - (1:Int))))) then
 ((F_987 a0 a1 a2)).bind fun r97 =>
 (some (r97, ((false, (false, (true, (false, (true, ()))))), ())))
 else
 ((F_968 a0 a2)).bind fun r98 =>
 bif (decide ((0:Int) ≤ r59.2.1)) then
 bif (decide ((0:Int) ≤ r59.2.1)) then
 (some ((bits .or .u32 (bits .or .u32 r98 (IntKind.wrap .u32 ((IntKind.wrap .u32 (IntKind.wrap .i64 ((IntKind.wrap .i64 ((bif x92 then x67 else x66) + r59.2.1)) + r95))) * x62))) (IntKind.wrap .u32 (bits .and .u64 x93 x63))), ((false, (false, (false, ((decide ((bif (a4 == (0:Int)) then (-(20000:Int)) else (IntKind.wrap .i64 ((IntKind.wrap .i64 (x0 + r65)) - (1:Int)))) < (IntKind.wrap .i64 ((1:Int) - r64)))), (true, ()))))), ())))
 else
 none
 else
 none
 else
 none
 else
 none
 else
 none
 else
 ((F_986 a1 a2 x70 r68.2.1 a5)).bind fun r99 =>
 let x100 : Int := (bif r99 then x71 else r68.1)
 let x101 : Bool := (x100 == x60)
 let x102 : Int := (bif x101 then (x100 / (2:Int)) else x100)
 let x103 : Int := (IntKind.wrap .u32 x102)
 let x104 : Int := (IntKind.wrap .i64 ((bif x101 then x67 else x66) + r59.2.1))
 let x105 : Int := (IntKind.wrap .u32 (bits .and .u64 x102 x63))
 bif a5 then
 bif (decide ((0:Int) ≤ (IntKind.wrap .i64 (r59.2.1 + (1:Int))))) then
 bif (decide ((0:Int) ≤ r59.2.1)) then
 bif (decide (x102 < (IntKind.wrap .u64 ((1:Int) * ((2:Int) ^ (Min.min x61 (64:Nat))))))) then
 ((F_968 a0 a2)).bind fun r106 =>
 (some ((bits .or .u32 r106 x103), ((false, (false, (false, ((decide ((bif (a4 == (0:Int)) then (-(20000:Int)) else (IntKind.wrap .i64 ((IntKind.wrap .i64 (x0 + r65)) - (1:Int)))) < (IntKind.wrap .i64 ((1:Int) - r64)))), (a5, ()))))), ())))
 else
 ((F_983 a0)).bind fun r107 =>
 ((F_932 a0)).bind fun r108 =>
 bif (decide ((0:Int) ≤ r108.1)) then
 bif (decide ((IntKind.wrap .i64 (x104 + r107)) ≥ (IntKind.wrap .i64 ((IntKind.wrap .i64 ((1:Int) * ((2:Int) ^ (Min.min (Int.toNat r108.1) (64:Nat))))) - (1:Int))))) then
 ((F_987 a0 a1 a2)).bind fun r109 =>
 (some (r109, ((false, (false, (true, (false, (true, ()))))), ())))
 else
 ((F_968 a0 a2)).bind fun r110 =>
 bif (decide ((0:Int) ≤ r59.2.1)) then
 bif (decide ((0:Int) ≤ r59.2.1)) then
 (some ((bits .or .u32 (bits .or .u32 r110 (IntKind.wrap .u32 ((IntKind.wrap .u32 (IntKind.wrap .i64 (x104 + r107))) * x62))) x105), ((false, (false, (false, ((decide ((bif (a4 == (0:Int)) then (-(20000:Int)) else (IntKind.wrap .i64 ((IntKind.wrap .i64 (x0 + r65)) - (1:Int)))) < (IntKind.wrap .i64 ((1:Int) - r64)))), (a5, ()))))), ())))
 else
 none
 else
 none
 else
 none
 else
 none
 else
 none
 else
 bif (decide ((0:Int) ≤ (IntKind.wrap .i64 (r59.2.1 + (1:Int))))) then
 bif (decide ((0:Int) ≤ r59.2.1)) then
 bif (decide (x102 < (IntKind.wrap .u64 ((1:Int) * ((2:Int) ^ (Min.min x61 (64:Nat))))))) then
 ((F_968 a0 a2)).bind fun r111 =>
 (some ((bits .or .u32 r111 x103), ((false, (false, (false, (false, (a5, ()))))), ())))
 else
 ((F_983 a0)).bind fun r112 =>
 ((F_932 a0)).bind fun r113 =>
 bif (decide ((0:Int) ≤ r113.1)) then
 bif (decide ((IntKind.wrap .i64 (x104 + r112)) ≥ (IntKind.wrap .i64 ((IntKind.wrap .i64 ((1:Int) * ((2:Int) ^ (Min.min (Int.toNat r113.1) (64:Nat))))) - (1:Int))))) then
 ((F_987 a0 a1 a2)).bind fun r114 =>
 (some (r114, ((false, (false, (true, (false, (true, ()))))), ())))
 else
 ((F_968 a0 a2)).bind fun r115 =>
 bif (decide ((0:Int) ≤ r59.2.1)) then
 bif (decide ((0:Int) ≤ r59.2.1)) then
 (some ((bits .or .u32 (bits .or .u32 r115 (IntKind.wrap .u32 ((IntKind.wrap .u32 (IntKind.wrap .i64 (x104 + r112))) * x62))) x105), ((false, (false, (false, (false, (a5, ()))))), ())))
 else
 none
 else
 none
 else
 none
 else
 none
 else
 none
noncomputable def G_958 : T fa_958 → TH ha_958 → Option (Int × (Bool × Bool × Bool × Bool × Bool × Unit) × Unit) := fun x y => F_958 x.1 x.2.1 x.2.2.1 x.2.2.2.1 x.2.2.2.2.1 x.2.2.2.2.2.1
noncomputable def c_958 : Orc := ent i_958 [] 0 (sp fa_958 ha_958 fr_958 hr_958 G_958 out_958)
theorem ok_958 : OrcOk PR c_958 := fnT okO_958 mixed p_958 (by kernel_rfl) (by kernel_rfl) (L := L_958) (kp := false) (by kernel_rfl) (inn := inn_958) (out := out_958) (fun _ _ => rfl) (loopsL (l := []) (by kernel_rfl) trivial) (fun x y => by kernel_rfl)
end Go.Proofs.YtfpjkmgfkaoapaaGreat.VI
