import Derived.Test.YtfpjkmgfkaoapaaGreatT3a4bffb6
namespace Go.Proofs.YtfpjkmgfkaoapaaGreat.VI
set_option linter.unusedVariables false
set_option linter.unusedSimpArgs false
set_option maxRecDepth 100000
noncomputable def O_977 : Orc := orn
theorem okO_977 : OrcOk PR O_977 := (orn_ok _)
abbrev fa_977 : Fm := (.pair (.i .i64) .unit)
abbrev fr_977 : Fm := (.tup (.pair (.i .i64) (.pair (.i .i64) .unit)))
noncomputable def F_977 (a0 : Int) : Option (Int × Int × Unit) :=
 bif (a0 == (0:Int)) then
 (some ((5:Int), ((10:Int), ())))
 else
 bif (a0 == (1:Int)) then
 (some ((8:Int), ((7:Int), ())))
 else
 (some ((8:Int), ((23:Int), ())))
noncomputable def G_977 : T fa_977 → TH hN0 → Option (Int × Int × Unit) := fun x y => F_977 x.1
noncomputable def c_977 : Orc := ent i_977 [] 0 (sp fa_977 hN0 fr_977 hN0 G_977 (outN fr_977))
theorem ok_977 : OrcOk PR c_977 := fnT okO_977 mixed p_977 (by kernel_rfl) (by kernel_rfl) (L := L0) (kp := false) (by kernel_rfl) (inn := (innN fr_977)) (out := (outN fr_977)) (fun _ _ => rfl) (loopsL (l := []) (by kernel_rfl) trivial) (fun x y => by kernel_rfl)
noncomputable def O_97e : Orc := c_977
theorem okO_97e : OrcOk PR O_97e := ok_977
abbrev fa_97e : Fm := (.pair (.i .i64) (.pair (.i .u32) .unit))
abbrev fr_97e : Fm := (.tup (.pair .b (.pair (.i .i64) (.pair (.i .u32) .unit))))
noncomputable def F_97e (a0 : Int) (a1 : Int) : Option (Bool × Int × Int × Unit) :=
 ((F_977 a0)).bind fun r0 =>
 let x1 : Int := ((2:Int) ^ (Min.min (Int.toNat (IntKind.wrap .u64 r0.2.1)) (32:Nat)))
 bif (decide ((0:Int) ≤ (IntKind.wrap .u64 (IntKind.wrap .i64 (r0.1 + r0.2.1))))) then
 bif (decide ((0:Int) ≤ (IntKind.wrap .u64 r0.2.1))) then
 bif (decide ((0:Int) ≤ (IntKind.wrap .u64 r0.1))) then
 bif (decide ((0:Int) ≤ (IntKind.wrap .u64 r0.2.1))) then
 (some (((bits .and .u32 (a1 / ((2:Int) ^ (Min.min (Int.toNat (IntKind.wrap .u64 (IntKind.wrap .i64 (r0.1 + r0.2.1)))) (32:Nat)))) (1:Int)) == (1:Int)), ((IntKind.wrap .i64 (bits .and .u32 (a1 / x1) (IntKind.wrap .u32 ((IntKind.wrap .u32 ((1:Int) * ((2:Int) ^ (Min.min (Int.toNat (IntKind.wrap .u64 r0.1)) (32:Nat))))) - (1:Int))))), ((bits .and .u32 a1 (IntKind.wrap .u32 ((IntKind.wrap .u32 ((1:Int) * x1)) - (1:Int)))), ()))))
 else
 none
 else
 none
 else
 none
 else
 none
noncomputable def G_97e : T fa_97e → TH hN0 → Option (Bool × Int × Int × Unit) := fun x y => F_97e x.1 x.2.1
noncomputable def c_97e : Orc := ent i_97e [] 0 (sp fa_97e hN0 fr_97e hN0 G_97e (outN fr_97e))
theorem ok_97e : OrcOk PR c_97e := fnT okO_97e mixed p_97e (by kernel_rfl) (by kernel_rfl) (L := L0) (kp := false) (by kernel_rfl) (inn := (innN fr_97e)) (out := (outN fr_97e)) (fun _ _ => rfl) (loopsL (l := []) (by kernel_rfl) trivial) (fun x y => by kernel_rfl)
noncomputable def O_97d : Orc := c_977
theorem okO_97d : OrcOk PR O_97d := ok_977
abbrev fa_97d : Fm := (.pair (.i .i64) .unit)
abbrev fr_97d : Fm := (.i .i64)
noncomputable def F_97d (a0 : Int) : Option (Int) :=
 ((F_977 a0)).bind fun r0 =>
 bif (decide ((0:Int) ≤ (IntKind.wrap .u64 r0.1))) then
 (some (IntKind.wrap .i64 ((IntKind.wrap .i64 ((1:Int) * ((2:Int) ^ (Min.min (Int.toNat (IntKind.wrap .u64 r0.1)) (64:Nat))))) - (1:Int))))
 else
 none
noncomputable def G_97d : T fa_97d → TH hN0 → Option (Int) := fun x y => F_97d x.1
noncomputable def c_97d : Orc := ent i_97d [] 0 (sp fa_97d hN0 fr_97d hN0 G_97d (outN fr_97d))
theorem ok_97d : OrcOk PR c_97d := fnT okO_97d mixed p_97d (by kernel_rfl) (by kernel_rfl) (L := L0) (kp := false) (by kernel_rfl) (inn := (innN fr_97d)) (out := (outN fr_97d)) (fun _ _ => rfl) (loopsL (l := []) (by kernel_rfl) trivial) (fun x y => by kernel_rfl)
noncomputable def O_978 : Orc := (orm c_977 (orm c_97e c_97d))
theorem okO_978 : OrcOk PR O_978 := (orm_ok ok_977 (orm_ok ok_97e ok_97d))
abbrev fa_978 : Fm := (.pair (.i .i64) (.pair (.i .u32) .unit))
abbrev fr_978 : Fm := (.i .i64)
noncomputable def F_978 (a0 : Int) (a1 : Int) : Option (Int) :=
 ((F_977 a0)).bind fun r0 =>
 ((F_97e a0 a1)).bind fun r1 =>
 let x2 : Bool := (r1.2.1 == (0:Int))
 let x3 : Int := r1.2.2.1
 let x4 : Bool := (x3 == (0:Int))
 let x5 : Bool := ((x3 / ((2:Int) ^ (Min.min (Int.toNat (IntKind.wrap .u64 (IntKind.wrap .i64 (r0.2.1 - (1:Int))))) (32:Nat)))) == (1:Int))
 bif x2 then
 bif x4 then
 (some (0:Int))
 else
 bif x2 then
 (some (1:Int))
 else
 ((F_97d a0)).bind fun r6 =>
 bif (decide (r1.2.1 < r6)) then
 (some (2:Int))
 else
 bif x4 then
 (some (3:Int))
 else
 bif (decide ((0:Int) ≤ (IntKind.wrap .u64 (IntKind.wrap .i64 (r0.2.1 - (1:Int)))))) then
 bif x5 then
 (some (4:Int))
 else
 (some (5:Int))
 else
 none
 else
 bif x2 then
 (some (1:Int))
 else
 ((F_97d a0)).bind fun r7 =>
 bif (decide (r1.2.1 < r7)) then
 (some (2:Int))
 else
 bif x4 then
 (some (3:Int))
 else
 bif (decide ((0:Int) ≤ (IntKind.wrap .u64 (IntKind.wrap .i64 (r0.2.1 - (1:Int)))))) then
 bif x5 then
 (some (4:Int))
 else
 (some (5:Int))
 else
 none
noncomputable def G_978 : T fa_978 → TH hN0 → Option (Int) := fun x y => F_978 x.1 x.2.1
noncomputable def c_978 : Orc := ent i_978 [] 0 (sp fa_978 hN0 fr_978 hN0 G_978 (outN fr_978))
theorem ok_978 : OrcOk PR c_978 := fnT okO_978 mixed p_978 (by kernel_rfl) (by kernel_rfl) (L := L0) (kp := false) (by kernel_rfl) (inn := (innN fr_978)) (out := (outN fr_978)) (fun _ _ => rfl) (loopsL (l := []) (by kernel_rfl) trivial) (fun x y => by kernel_rfl)
noncomputable def O_94d : Orc := c_978
theorem okO_94d : OrcOk PR O_94d := ok_978
abbrev fa_94d : Fm := (.pair (.i .i64) (.pair (.i .u32) .unit))
abbrev fr_94d : Fm := .b
noncomputable def F_94d (a0 : Int) (a1 : Int) : Option (Bool) :=
 ((F_978 a0 a1)).bind fun r0 =>
 (some (decide (r0 ≥ (4:Int))))
noncomputable def G_94d : T fa_94d → TH hN0 → Option (Bool) := fun x y => F_94d x.1 x.2.1
noncomputable def c_94d : Orc := ent i_94d [] 0 (sp fa_94d hN0 fr_94d hN0 G_94d (outN fr_94d))
theorem ok_94d : OrcOk PR c_94d := fnT okO_94d mixed p_94d (by kernel_rfl) (by kernel_rfl) (L := L0) (kp := false) (by kernel_rfl) (inn := (innN fr_94d)) (out := (outN fr_94d)) (fun _ _ => rfl) (loopsL (l := []) (by kernel_rfl) trivial) (fun x y => by kernel_rfl)
noncomputable def O_94b : Orc := c_977
theorem okO_94b : OrcOk PR O_94b := ok_977
abbrev fa_94b : Fm := (.pair (.i .i64) .unit)
abbrev fr_94b : Fm := (.i .u32)
noncomputable def F_94b (a0 : Int) : Option (Int) :=
 ((F_977 a0)).bind fun r0 =>
 bif (decide ((0:Int) ≤ (IntKind.wrap .u64 (IntKind.wrap .i64 ((IntKind.wrap .i64 (r0.1 + r0.2.1)) + (1:Int)))))) then
 (some (IntKind.wrap .u32 ((IntKind.wrap .u32 ((1:Int) * ((2:Int) ^ (Min.min (Int.toNat (IntKind.wrap .u64 (IntKind.wrap .i64 ((IntKind.wrap .i64 (r0.1 + r0.2.1)) + (1:Int))))) (32:Nat))))) - (1:Int))))
 else
 none
noncomputable def G_94b : T fa_94b → TH hN0 → Option (Int) := fun x y => F_94b x.1
noncomputable def c_94b : Orc := ent i_94b [] 0 (sp fa_94b hN0 fr_94b hN0 G_94b (outN fr_94b))
theorem ok_94b : OrcOk PR c_94b := fnT okO_94b mixed p_94b (by kernel_rfl) (by kernel_rfl) (L := L0) (kp := false) (by kernel_rfl) (inn := (innN fr_94b)) (out := (outN fr_94b)) (fun _ _ => rfl) (loopsL (l := []) (by kernel_rfl) trivial) (fun x y => by kernel_rfl)
noncomputable def O_952 : Orc := c_97e
theorem okO_952 : OrcOk PR O_952 := ok_97e
abbrev fa_952 : Fm := (.pair (.i .i64) (.pair (.i .u32) .unit))
abbrev fr_952 : Fm := .b
noncomputable def F_952 (a0 : Int) (a1 : Int) : Option (Bool) :=
 ((F_97e a0 a1)).bind fun r0 =>
 (some r0.1)
noncomputable def G_952 : T fa_952 → TH hN0 → Option (Bool) := fun x y => F_952 x.1 x.2.1
noncomputable def c_952 : Orc := ent i_952 [] 0 (sp fa_952 hN0 fr_952 hN0 G_952 (outN fr_952))
theorem ok_952 : OrcOk PR c_952 := fnT okO_952 mixed p_952 (by kernel_rfl) (by kernel_rfl) (L := L0) (kp := false) (by kernel_rfl) (inn := (innN fr_952)) (out := (outN fr_952)) (fun _ _ => rfl) (loopsL (l := []) (by kernel_rfl) trivial) (fun x y => by kernel_rfl)
noncomputable def O_97f : Orc := (orm c_977 c_94b)
theorem okO_97f : OrcOk PR O_97f := (orm_ok ok_977 ok_94b)
abbrev fa_97f : Fm := (.pair (.i .i64) (.pair (.i .u32) .unit))
abbrev fr_97f : Fm := (.i .u32)
noncomputable def F_97f (a0 : Int) (a1 : Int) : Option (Int) :=
 ((F_977 a0)).bind fun r0 =>
 ((F_94b a0)).bind fun r1 =>
 bif (decide ((0:Int) ≤ (IntKind.wrap .u64 (IntKind.wrap .i64 (r0.1 + r0.2.1))))) then
 (some (bits .xor .u32 (bits .and .u32 a1 r1) (IntKind.wrap .u32 ((1:Int) * ((2:Int) ^ (Min.min (Int.toNat (IntKind.wrap .u64 (IntKind.wrap .i64 (r0.1 + r0.2.1)))) (32:Nat)))))))
 else
 none
noncomputable def G_97f : T fa_97f → TH hN0 → Option (Int) := fun x y => F_97f x.1 x.2.1
noncomputable def c_97f : Orc := ent i_97f [] 0 (sp fa_97f hN0 fr_97f hN0 G_97f (outN fr_97f))
theorem ok_97f : OrcOk PR c_97f := fnT okO_97f mixed p_97f (by kernel_rfl) (by kernel_rfl) (L := L0) (kp := false) (by kernel_rfl) (inn := (innN fr_97f)) (out := (outN fr_97f)) (fun _ _ => rfl) (loopsL (l := []) (by kernel_rfl) trivial) (fun x y => by kernel_rfl)
noncomputable def O_988 : Orc := (orm c_94b (orm c_952 c_97f))
theorem okO_988 : OrcOk PR O_988 := (orm_ok ok_94b (orm_ok ok_952 ok_97f))
abbrev fa_988 : Fm := (.pair (.i .i64) (.pair (.i .u32) .unit))
abbrev fr_988 : Fm := (.i .i64)
noncomputable def F_988 (a0 : Int) (a1 : Int) : Option (Int) :=
 ((F_94b a0)).bind fun r0 =>
 ((F_952 a0 a1)).bind fun r1 =>
 bif (!r1) then
 (some (IntKind.wrap .i64 (bits .and .u32 a1 r0)))
 else
 ((F_97f a0 a1)).bind fun r2 =>
 (some (IntKind.wrap .i64 ((-(1:Int)) - (IntKind.wrap .i64 r2))))
noncomputable def G_988 : T fa_988 → TH hN0 → Option (Int) := fun x y => F_988 x.1 x.2.1
noncomputable def c_988 : Orc := ent i_988 [] 0 (sp fa_988 hN0 fr_988 hN0 G_988 (outN fr_988))
theorem ok_988 : OrcOk PR c_988 := fnT okO_988 mixed p_988 (by kernel_rfl) (by kernel_rfl) (L := L0) (kp := false) (by kernel_rfl) (inn := (innN fr_988)) (out := (outN fr_988)) (fun _ _ => rfl) (loopsL (l := []) (by kernel_rfl) trivial) (fun x y => by kernel_rfl)
noncomputable def O_951 : Orc := c_978
theorem okO_951 : OrcOk PR O_951 := ok_978
abbrev fa_951 : Fm := (.pair (.i .i64) (.pair (.i .u32) .unit))
abbrev fr_951 : Fm := .b
noncomputable def F_951 (a0 : Int) (a1 : Int) : Option (Bool) :=
 ((F_978 a0 a1)).bind fun r0 =>
 (some (r0 == (0:Int)))
noncomputable def G_951 : T fa_951 → TH hN0 → Option (Bool) := fun x y => F_951 x.1 x.2.1
noncomputable def c_951 : Orc := ent i_951 [] 0 (sp fa_951 hN0 fr_951 hN0 G_951 (outN fr_951))
theorem ok_951 : OrcOk PR c_951 := fnT okO_951 mixed p_951 (by kernel_rfl) (by kernel_rfl) (L := L0) (kp := false) (by kernel_rfl) (inn := (innN fr_951)) (out := (outN fr_951)) (fun _ _ => rfl) (loopsL (l := []) (by kernel_rfl) trivial) (fun x y => by kernel_rfl)
noncomputable def O_96a : Orc := (orm c_94d (orm c_988 c_951))
theorem okO_96a : OrcOk PR O_96a := (orm_ok ok_94d (orm_ok ok_988 ok_951))
abbrev fa_96a : Fm := (.pair (.i .i64) (.pair (.i .u32) (.pair (.i .u32) .unit)))
abbrev fr_96a : Fm := (.tup (.pair (.i .i64) (.pair .b .unit)))
noncomputable def F_96a (a0 : Int) (a1 : Int) (a2 : Int) : Option (Int × Bool × Unit) :=
 ((F_94d a0 a1)).bind fun r0 =>
 bif r0 then
 (some ((0:Int), (false, ())))
 else
 ((F_94d a0 a2)).bind fun r1 =>
 bif r1 then
 (some ((0:Int), (false, ())))
 else
 ((F_988 a0 a1)).bind fun r2 =>
 ((F_988 a0 a2)).bind fun r3 =>
 ((F_951 a0 a1)).bind fun r4 =>
 bif r4 then
 ((F_951 a0 a2)).bind fun r5 =>
 bif r5 then
 (some ((0:Int), (true, ())))
 else
 bif (decide (r2 < r3)) then
 (some ((-(1:Int)), (true, ())))
 else
 bif (decide (r2 > r3)) then
 (some ((1:Int), (true, ())))
 else
 (some ((0:Int), (true, ())))
 else
 bif (decide (r2 < r3)) then
 (some ((-(1:Int)), (true, ())))
 else
 bif (decide (r2 > r3)) then
 (some ((1:Int), (true, ())))
 else
 (some ((0:Int), (true, ())))
noncomputable def G_96a : T fa_96a → TH hN0 → Option (Int × Bool × Unit) := fun x y => F_96a x.1 x.2.1 x.2.2.1
noncomputable def c_96a : Orc := ent i_96a [] 0 (sp fa_96a hN0 fr_96a hN0 G_96a (outN fr_96a))
theorem ok_96a : OrcOk PR c_96a := fnT okO_96a mixed p_96a (by kernel_rfl) (by kernel_rfl) (L := L0) (kp := false) (by kernel_rfl) (inn := (innN fr_96a)) (out := (outN fr_96a)) (fun _ _ => rfl) (loopsL (l := []) (by kernel_rfl) trivial) (fun x y => by kernel_rfl)
noncomputable def O_94f : Orc := c_96a
theorem okO_94f : OrcOk PR O_94f := ok_96a
abbrev fa_94f : Fm := (.pair (.i .i64) (.pair (.i .u32) (.pair (.i .u32) .unit)))
abbrev fr_94f : Fm := .b
noncomputable def F_94f (a0 : Int) (a1 : Int) (a2 : Int) : Option (Bool) :=
 ((F_96a a0 a1 a2)).bind fun r0 =>
 (some (decide (r0.1 < (0:Int))))
noncomputable def G_94f : T fa_94f → TH hN0 → Option (Bool) := fun x y => F_94f x.1 x.2.1 x.2.2.1
noncomputable def c_94f : Orc := ent i_94f [] 0 (sp fa_94f hN0 fr_94f hN0 G_94f (outN fr_94f))
theorem ok_94f : OrcOk PR c_94f := fnT okO_94f mixed p_94f (by kernel_rfl) (by kernel_rfl) (L := L0) (kp := false) (by kernel_rfl) (inn := (innN fr_94f)) (out := (outN fr_94f)) (fun _ _ => rfl) (loopsL (l := []) (by kernel_rfl) trivial) (fun x y => by kernel_rfl)
noncomputable def O_97c : Orc := c_977
theorem okO_97c : OrcOk PR O_97c := ok_977
abbrev fa_97c : Fm := (.pair (.i .i64) (.pair .b (.pair (.i .i64) (.pair (.i .u32) .unit))))
abbrev fr_97c : Fm := (.i .u32)
noncomputable def F_97c (a0 : Int) (a1 : Bool) (a2 : Int) (a3 : Int) : Option (Int) :=
 ((F_977 a0)).bind fun r0 =>
 let x1 : Int := (bits .or .u32 (IntKind.wrap .u32 ((IntKind.wrap .u32 a2) * ((2:Int) ^ (Min.min (Int.toNat (IntKind.wrap .u64 r0.2.1)) (32:Nat))))) a3)
 bif (decide ((0:Int) ≤ (IntKind.wrap .u64 r0.2.1))) then
 bif a1 then
 bif (decide ((0:Int) ≤ (IntKind.wrap .u64 (IntKind.wrap .i64 (r0.1 + r0.2.1))))) then
 (some (bits .or .u32 x1 (IntKind.wrap .u32 ((1:Int) * ((2:Int) ^ (Min.min (Int.toNat (IntKind.wrap .u64 (IntKind.wrap .i64 (r0.1 + r0.2.1)))) (32:Nat)))))))
 else
 none
 else
 (some x1)
 else
 none
noncomputable def G_97c : T fa_97c → TH hN0 → Option (Int) := fun x y => F_97c x.1 x.2.1 x.2.2.1 x.2.2.2.1
noncomputable def c_97c : Orc := ent i_97c [] 0 (sp fa_97c hN0 fr_97c hN0 G_97c (outN fr_97c))
theorem ok_97c : OrcOk PR c_97c := fnT okO_97c mixed p_97c (by kernel_rfl) (by kernel_rfl) (L := L0) (kp := false) (by kernel_rfl) (inn := (innN fr_97c)) (out := (outN fr_97c)) (fun _ _ => rfl) (loopsL (l := []) (by kernel_rfl) trivial) (fun x y => by kernel_rfl)
noncomputable def O_94e : Orc := (orm c_977 (orm c_97d c_97c))
theorem okO_94e : OrcOk PR O_94e := (orm_ok ok_977 (orm_ok ok_97d ok_97c))
abbrev fa_94e : Fm := (.pair (.i .i64) .unit)
abbrev fr_94e : Fm := (.i .u32)
noncomputable def F_94e (a0 : Int) : Option (Int) :=
 ((F_977 a0)).bind fun r0 =>
 ((F_97d a0)).bind fun r1 =>
 bif (decide ((0:Int) ≤ (IntKind.wrap .u64 (IntKind.wrap .i64 (r0.2.1 - (1:Int)))))) then
 ((F_97c a0 false r1 (IntKind.wrap .u32 ((1:Int) * ((2:Int) ^ (Min.min (Int.toNat (IntKind.wrap .u64 (IntKind.wrap .i64 (r0.2.1 - (1:Int))))) (32:Nat))))))).bind fun r2 =>
 (some r2)
 else
 none
noncomputable def G_94e : T fa_94e → TH hN0 → Option (Int) := fun x y => F_94e x.1
noncomputable def c_94e : Orc := ent i_94e [] 0 (sp fa_94e hN0 fr_94e hN0 G_94e (outN fr_94e))
theorem ok_94e : OrcOk PR c_94e := fnT okO_94e mixed p_94e (by kernel_rfl) (by kernel_rfl) (L := L0) (kp := false) (by kernel_rfl) (inn := (innN fr_94e)) (out := (outN fr_94e)) (fun _ _ => rfl) (loopsL (l := []) (by kernel_rfl) trivial) (fun x y => by kernel_rfl)
noncomputable def O_922 : Orc := orn
theorem okO_922 : OrcOk PR O_922 := (orn_ok _)
abbrev fa_922 : Fm := (.pair (.i .i64) .unit)
abbrev fr_922 : Fm := (.tup (.pair (.i .i64) (.pair (.i .i64) .unit)))
noncomputable def F_922 (a0 : Int) : Option (Int × Int × Unit) :=
 bif (a0 == (0:Int)) then
 (some ((5:Int), ((10:Int), ())))
 else
 bif (a0 == (1:Int)) then
 (some ((8:Int), ((7:Int), ())))
 else
 (some ((8:Int), ((23:Int), ())))
noncomputable def G_922 : T fa_922 → TH hN0 → Option (Int × Int × Unit) := fun x y => F_922 x.1
noncomputable def c_922 : Orc := ent i_922 [] 0 (sp fa_922 hN0 fr_922 hN0 G_922 (outN fr_922))
theorem ok_922 : OrcOk PR c_922 := fnT okO_922 mixed p_922 (by kernel_rfl) (by kernel_rfl) (L := L0) (kp := false) (by kernel_rfl) (inn := (innN fr_922)) (out := (outN fr_922)) (fun _ _ => rfl) (loopsL (l := []) (by kernel_rfl) trivial) (fun x y => by kernel_rfl)
noncomputable def O_923 : Orc := c_922
theorem okO_923 : OrcOk PR O_923 := ok_922
abbrev fa_923 : Fm := (.pair (.i .i64) .unit)
abbrev fr_923 : Fm := (.i .u32)
noncomputable def F_923 (a0 : Int) : Option (Int) :=
 ((F_922 a0)).bind fun r0 =>
 bif (decide ((0:Int) ≤ (IntKind.wrap .i64 ((IntKind.wrap .i64 ((1:Int) + r0.1)) + r0.2.1)))) then
 (some (IntKind.wrap .u32 (IntKind.wrap .u64 ((IntKind.wrap .u64 ((1:Int) * ((2:Int) ^ (Min.min (Int.toNat (IntKind.wrap .i64 ((IntKind.wrap .i64 ((1:Int) + r0.1)) + r0.2.1))) (64:Nat))))) - (1:Int)))))
 else
 none
noncomputable def G_923 : T fa_923 → TH hN0 → Option (Int) := fun x y => F_923 x.1
noncomputable def c_923 : Orc := ent i_923 [] 0 (sp fa_923 hN0 fr_923 hN0 G_923 (outN fr_923))
theorem ok_923 : OrcOk PR c_923 := fnT okO_923 mixed p_923 (by kernel_rfl) (by kernel_rfl) (L := L0) (kp := false) (by kernel_rfl) (inn := (innN fr_923)) (out := (outN fr_923)) (fun _ _ => rfl) (loopsL (l := []) (by kernel_rfl) trivial) (fun x y => by kernel_rfl)
noncomputable def O_955 : Orc := c_922
theorem okO_955 : OrcOk PR O_955 := ok_922
abbrev fa_955 : Fm := (.pair (.i .i64) (.pair .b .unit))
abbrev fr_955 : Fm := (.i .u32)
noncomputable def F_955 (a0 : Int) (a1 : Bool) : Option (Int) :=
 ((F_922 a0)).bind fun r0 =>
 bif a1 then
 bif (decide ((0:Int) ≤ (IntKind.wrap .i64 (r0.1 + r0.2.1)))) then
 (some (IntKind.wrap .u32 ((1:Int) * ((2:Int) ^ (Min.min (Int.toNat (IntKind.wrap .i64 (r0.1 + r0.2.1))) (32:Nat))))))
 else
 none
 else
 (some (0:Int))
noncomputable def G_955 : T fa_955 → TH hN0 → Option (Int) := fun x y => F_955 x.1 x.2.1
noncomputable def c_955 : Orc := ent i_955 [] 0 (sp fa_955 hN0 fr_955 hN0 G_955 (outN fr_955))
theorem ok_955 : OrcOk PR c_955 := fnT okO_955 mixed p_955 (by kernel_rfl) (by kernel_rfl) (L := L0) (kp := false) (by kernel_rfl) (inn := (innN fr_955)) (out := (outN fr_955)) (fun _ _ => rfl) (loopsL (l := []) (by kernel_rfl) trivial) (fun x y => by kernel_rfl)
noncomputable def O_970 : Orc := (orm c_922 c_923)
theorem okO_970 : OrcOk PR O_970 := (orm_ok ok_922 ok_923)
abbrev fa_970 : Fm := (.pair (.i .i64) (.pair (.i .u32) .unit))
abbrev fr_970 : Fm := (.tup (.pair .b (.pair (.i .i64) (.pair (.i .u64) .unit))))
noncomputable def F_970 (a0 : Int) (a1 : Int) : Option (Bool × Int × Int × Unit) :=
 ((F_922 a0)).bind fun r0 =>
 let x1 : Int := ((2:Int) ^ (Min.min (Int.toNat r0.2.1) (32:Nat)))
 ((F_923 a0)).bind fun r2 =>
 let x3 : Int := (bits .and .u32 a1 r2)
 bif (decide ((0:Int) ≤ (IntKind.wrap .i64 (r0.1 + r0.2.1)))) then
 bif (decide ((0:Int) ≤ r0.2.1)) then
 bif (decide ((0:Int) ≤ r0.1)) then
 bif (decide ((0:Int) ≤ r0.2.1)) then
 (some (((x3 / ((2:Int) ^ (Min.min (Int.toNat (IntKind.wrap .i64 (r0.1 + r0.2.1))) (32:Nat)))) == (1:Int)), ((IntKind.wrap .i64 (bits .and .u32 (x3 / x1) (IntKind.wrap .u32 ((IntKind.wrap .u32 ((1:Int) * ((2:Int) ^ (Min.min (Int.toNat r0.1) (32:Nat))))) - (1:Int))))), ((IntKind.wrap .u64 (bits .and .u32 x3 (IntKind.wrap .u32 ((IntKind.wrap .u32 ((1:Int) * x1)) - (1:Int))))), ()))))
 else
 none
 else
 none
 else
 none
 else
 none
noncomputable def G_970 : T fa_970 → TH hN0 → Option (Bool × Int × Int × Unit) := fun x y => F_970 x.1 x.2.1
noncomputable def c_970 : Orc := ent i_970 [] 0 (sp fa_970 hN0 fr_970 hN0 G_970 (outN fr_970))
theorem ok_970 : OrcOk PR c_970 := fnT okO_970 mixed p_970 (by kernel_rfl) (by kernel_rfl) (L := L0) (kp := false) (by kernel_rfl) (inn := (innN fr_970)) (out := (outN fr_970)) (fun _ _ => rfl) (loopsL (l := []) (by kernel_rfl) trivial) (fun x y => by kernel_rfl)
noncomputable def O_945 : Orc := c_970
theorem okO_945 : OrcOk PR O_945 := ok_970
abbrev fa_945 : Fm := (.pair (.i .i64) (.pair (.i .u32) .unit))
abbrev fr_945 : Fm := .b
noncomputable def F_945 (a0 : Int) (a1 : Int) : Option (Bool) :=
 ((F_970 a0 a1)).bind fun r0 =>
 (some r0.1)
noncomputable def G_945 : T fa_945 → TH hN0 → Option (Bool) := fun x y => F_945 x.1 x.2.1
noncomputable def c_945 : Orc := ent i_945 [] 0 (sp fa_945 hN0 fr_945 hN0 G_945 (outN fr_945))
theorem ok_945 : OrcOk PR c_945 := fnT okO_945 mixed p_945 (by kernel_rfl) (by kernel_rfl) (L := L0) (kp := false) (by kernel_rfl) (inn := (innN fr_945)) (out := (outN fr_945)) (fun _ _ => rfl) (loopsL (l := []) (by kernel_rfl) trivial) (fun x y => by kernel_rfl)
noncomputable def O_966 : Orc := (orm c_923 (orm c_955 c_945))
theorem okO_966 : OrcOk PR O_966 := (orm_ok ok_923 (orm_ok ok_955 ok_945))
abbrev fa_966 : Fm := (.pair (.i .i64) (.pair (.i .u32) .unit))
abbrev fr_966 : Fm := (.i .i64)
noncomputable def F_966 (a0 : Int) (a1 : Int) : Option (Int) :=
 ((F_923 a0)).bind fun r0 =>
 ((F_955 a0 true)).bind fun r1 =>
 let x2 : Int := (IntKind.wrap .i64 (bits .andNot .u32 (bits .and .u32 a1 r0) r1))
 ((F_945 a0 a1)).bind fun r3 =>
 bif r3 then
 (some (IntKind.wrap .i64 ((-(1:Int)) - x2)))
 else
 (some x2)
noncomputable def G_966 : T fa_966 → TH hN0 → Option (Int) := fun x y => F_966 x.1 x.2.1
noncomputable def c_966 : Orc := ent i_966 [] 0 (sp fa_966 hN0 fr_966 hN0 G_966 (outN fr_966))
theorem ok_966 : OrcOk PR c_966 := fnT okO_966 mixed p_966 (by kernel_rfl) (by kernel_rfl) (L := L0) (kp := false) (by kernel_rfl) (inn := (innN fr_966)) (out := (outN fr_966)) (fun _ _ => rfl) (loopsL (l := []) (by kernel_rfl) trivial) (fun x y => by kernel_rfl)
noncomputable def O_940 : Orc := (orm c_922 c_970)
theorem okO_940 : OrcOk PR O_940 := (orm_ok ok_922 ok_970)
abbrev fa_940 : Fm := (.pair (.i .i64) (.pair (.i .u32) .unit))
abbrev fr_940 : Fm := (.i .i64)
noncomputable def F_940 (a0 : Int) (a1 : Int) : Option (Int) :=
 ((F_922 a0)).bind fun r0 =>
 ((F_970 a0 a1)).bind fun r1 =>
 let x2 : Bool := (r1.2.1 == (0:Int))
 let x3 : Int := r1.2.2.1
 let x4 : Bool := (x3 == (0:Int))
 let x5 : Bool := ((x3 / ((2:Int) ^ (Min.min (Int.toNat (IntKind.wrap .i64 (r0.2.1 - (1:Int)))) (64:Nat)))) == (1:Int))
 bif x2 then
 bif x4 then
 (some (0:Int))
 else
 bif x2 then
 (some (1:Int))
 else
 bif (decide ((0:Int) ≤ r0.1)) then
 bif (decide (r1.2.1 < (IntKind.wrap .i64 ((IntKind.wrap .i64 ((1:Int) * ((2:Int) ^ (Min.min (Int.toNat r0.1) (64:Nat))))) - (1:Int))))) then
 (some (2:Int))
 else
 bif x4 then
 (some (3:Int))
 else
 bif (decide ((0:Int) ≤ (IntKind.wrap .i64 (r0.2.1 - (1:Int))))) then
 bif x5 then
 (some (4:Int))
 else
 (some (5:Int))
 else
 none
 else
 none
 else
 bif x2 then
 (some (1:Int))
 else
 bif (decide ((0:Int) ≤ r0.1)) then
 bif (decide (r1.2.1 < (IntKind.wrap .i64 ((IntKind.wrap .i64 ((1:Int) * ((2:Int) ^ (Min.min (Int.toNat r0.1) (64:Nat))))) - (1:Int))))) then
 (some (2:Int))
 else
 bif x4 then
 (some (3:Int))
 else
 bif (decide ((0:Int) ≤ (IntKind.wrap .i64 (r0.2.1 - (1:Int))))) then
 bif x5 then
 (some (4:Int))
 else
 (some (5:Int))
 else
 none
 else
 none
noncomputable def G_940 : T fa_940 → TH hN0 → Option (Int) := fun x y => F_940 x.1 x.2.1
noncomputable def c_940 : Orc := ent i_940 [] 0 (sp fa_940 hN0 fr_940 hN0 G_940 (outN fr_940))
theorem ok_940 : OrcOk PR c_940 := fnT okO_940 mixed p_940 (by kernel_rfl) (by kernel_rfl) (L := L0) (kp := false) (by kernel_rfl) (inn := (innN fr_940)) (out := (outN fr_940)) (fun _ _ => rfl) (loopsL (l := []) (by kernel_rfl) trivial) (fun x y => by kernel_rfl)
noncomputable def O_942 : Orc := c_940
theorem okO_942 : OrcOk PR O_942 := ok_940
abbrev fa_942 : Fm := (.pair (.i .i64) (.pair (.si .u32) .unit))
abbrev fr_942 : Fm := (.tup (.pair .b (.pair .b .unit)))
abbrev ff_942_0 : Fm := (.pair (.i .i64) (.pair (.si .u32) (.us 4 (.pair .b (.pair .b (.pair (.i .i64) (.us 29 .unit)))))))
abbrev hf_942_0 : List BF := []
abbrev X_942_0 : Xs := (.one (.exit 0) [6, 7] (.us 6 (.pair .b (.pair .b (.us 30 .unit)))) [])
abbrev S_942_0 : Type := T ff_942_0 × TH hf_942_0
abbrev E_942_0 : Type := TX X_942_0
noncomputable def LB_942_0 : Lps := L0
noncomputable def st_942_0 : StepT S_942_0 E_942_0 := fun R v kn ko =>
 let x0 : Int := v.1.1
 let x1 : List Int := v.1.2.1
 let x2 : Int := v.1.2.2.2.2.1
 let x3 : Bool := v.1.2.2.1
 let x4 : Bool := v.1.2.2.2.1
 let x5 : List Int := (List.take (List.length x1) x1)
 bif (decide (x2 < (((List.length x1) : Nat) : Int))) then
 bif (decide (((0:Int) ≤ x2) ∧ (x2 < (((List.length x1) : Nat) : Int)))) then
 ((F_940 x0 (List.getD x1 (Int.toNat x2) (0:Int)))).bind fun r6 =>
 bif x3 then
 bif x4 then
 (kn ((x0, (x5, (true, (true, ((IntKind.wrap .i64 (x2 + (1:Int))), ()))))), ()))
 else
 (kn ((x0, (x5, (true, ((r6 == (5:Int)), ((IntKind.wrap .i64 (x2 + (1:Int))), ()))))), ()))
 else
 bif (r6 == (4:Int)) then
 bif x4 then
 (kn ((x0, (x5, (true, (true, ((IntKind.wrap .i64 (x2 + (1:Int))), ()))))), ()))
 else
 (kn ((x0, (x5, (true, ((r6 == (5:Int)), ((IntKind.wrap .i64 (x2 + (1:Int))), ()))))), ()))
 else
 bif x4 then
 (kn ((x0, (x5, ((r6 == (5:Int)), (true, ((IntKind.wrap .i64 (x2 + (1:Int))), ()))))), ()))
 else
 (kn ((x0, (x5, ((r6 == (5:Int)), ((r6 == (5:Int)), ((IntKind.wrap .i64 (x2 + (1:Int))), ()))))), ()))
 else
 none
 else
 (ko ((x3, (x4, ())), ()))
noncomputable def ls_942_0 : St → LTr := (lsum ff_942_0 hf_942_0 X_942_0 Prod.mk id st_942_0 (hd [] [] [0, 1, 6, 7, 8] 0))
theorem lp_942_0 : LoopOk PR 0 (lpN f_942 0) ls_942_0 := loopT okO_942 mixed (L := LB_942_0) (d := 1) (bs := []) (ks := [0, 1, 6, 7, 8]) (loopsL (l := []) (by kernel_rfl) trivial) (by kernel_rfl) (inS := Prod.mk) (outS := id) (fun _ _ => rfl) (inX := id) (outX := id) (fun _ => rfl) (fun v R kn ko => by kernel_rfl) (hd_wk [] [] [0, 1, 6, 7, 8] 0)
noncomputable def L_942 : Lps := (lpB 4 (.by_ ls_942_0) L0)
noncomputable def F_942 (a0 : Int) (a1 : List Int) : Option (Bool × Bool × Unit) :=
 ((lim st_942_0 ((a0, ((List.take (List.length a1) a1), (false, (false, ((0:Int), ()))))), ()))).bind fun r0 =>
 (some r0.1)
noncomputable def G_942 : T fa_942 → TH hN0 → Option (Bool × Bool × Unit) := fun x y => F_942 x.1 x.2.1
noncomputable def c_942 : Orc := ent i_942 [] 0 (sp fa_942 hN0 fr_942 hN0 G_942 (outN fr_942))
theorem ok_942 : OrcOk PR c_942 := fnT okO_942 mixed p_942 (by kernel_rfl) (by kernel_rfl) (L := L_942) (kp := false) (by kernel_rfl) (inn := (innN fr_942)) (out := (outN fr_942)) (fun _ _ => rfl) (loopsL (l := [((lpN f_942 0), ls_942_0)]) (by kernel_rfl) ⟨lp_942_0, trivial⟩) (fun x y => by kernel_rfl)
noncomputable def O_96e : Orc := c_940
theorem okO_96e : OrcOk PR O_96e := ok_940
abbrev fa_96e : Fm := (.pair (.i .i64) (.pair (.i .u32) .unit))
abbrev fr_96e : Fm := .b
noncomputable def F_96e (a0 : Int) (a1 : Int) : Option (Bool) :=
 ((F_940 a0 a1)).bind fun r0 =>
 (some (r0 == (0:Int)))
noncomputable def G_96e : T fa_96e → TH hN0 → Option (Bool) := fun x y => F_96e x.1 x.2.1
noncomputable def c_96e : Orc := ent i_96e [] 0 (sp fa_96e hN0 fr_96e hN0 G_96e (outN fr_96e))
theorem ok_96e : OrcOk PR c_96e := fnT okO_96e mixed p_96e (by kernel_rfl) (by kernel_rfl) (L := L0) (kp := false) (by kernel_rfl) (inn := (innN fr_96e)) (out := (outN fr_96e)) (fun _ _ => rfl) (loopsL (l := []) (by kernel_rfl) trivial) (fun x y => by kernel_rfl)
noncomputable def O_95c : Orc := (orm c_942 (orm c_96e c_966))
theorem okO_95c : OrcOk PR O_95c := (orm_ok ok_942 (orm_ok ok_96e ok_966))
abbrev fa_95c : Fm := (.pair (.i .i64) (.pair (.i .u32) (.pair (.i .u32) .unit)))
abbrev fr_95c : Fm := (.tup (.pair (.i .i64) (.pair .b .unit)))
noncomputable def F_95c (a0 : Int) (a1 : Int) (a2 : Int) : Option (Int × Bool × Unit) :=
 ((F_942 a0 [a1, a2])).bind fun r0 =>
 bif r0.1 then
 (some ((0:Int), (false, ())))
 else
 ((F_96e a0 a1)).bind fun r1 =>
 bif r1 then
 ((F_96e a0 a2)).bind fun r2 =>
 bif r2 then
 (some ((0:Int), (true, ())))
 else
 ((F_966 a0 a1)).bind fun r3 =>
 ((F_966 a0 a2)).bind fun r4 =>
 bif (decide (r3 < r4)) then
 (some ((-(1:Int)), (true, ())))
 else
 bif (decide (r3 > r4)) then
 (some ((1:Int), (true, ())))
 else
 (some ((0:Int), (true, ())))
 else
 ((F_966 a0 a1)).bind fun r5 =>
 ((F_966 a0 a2)).bind fun r6 =>
 bif (decide (r5 < r6)) then
 (some ((-(1:Int)), (true, ())))
 else
 bif (decide (r5 > r6)) then
 (some ((1:Int), (true, ())))
 else
 (some ((0:Int), (true, ())))
noncomputable def G_95c : T fa_95c → TH hN0 → Option (Int × Bool × Unit) := fun x y => F_95c x.1 x.2.1 x.2.2.1
noncomputable def c_95c : Orc := ent i_95c [] 0 (sp fa_95c hN0 fr_95c hN0 G_95c (outN fr_95c))
theorem ok_95c : OrcOk PR c_95c := fnT okO_95c mixed p_95c (by kernel_rfl) (by kernel_rfl) (L := L0) (kp := false) (by kernel_rfl) (inn := (innN fr_95c)) (out := (outN fr_95c)) (fun _ _ => rfl) (loopsL (l := []) (by kernel_rfl) trivial) (fun x y => by kernel_rfl)
noncomputable def O_92d : Orc := c_95c
theorem okO_92d : OrcOk PR O_92d := ok_95c
abbrev fa_92d : Fm := (.pair (.i .i64) (.pair (.i .u32) (.pair (.i .u32) .unit)))
abbrev fr_92d : Fm := .b
noncomputable def F_92d (a0 : Int) (a1 : Int) (a2 : Int) : Option (Bool) :=
 ((F_95c a0 a1 a2)).bind fun r0 =>
 bif r0.2.1 then
 (some (decide (r0.1 < (0:Int))))
 else
 (some false)
noncomputable def G_92d : T fa_92d → TH hN0 → Option (Bool) := fun x y => F_92d x.1 x.2.1 x.2.2.1
noncomputable def c_92d : Orc := ent i_92d [] 0 (sp fa_92d hN0 fr_92d hN0 G_92d (outN fr_92d))
theorem ok_92d : OrcOk PR c_92d := fnT okO_92d mixed p_92d (by kernel_rfl) (by kernel_rfl) (L := L0) (kp := false) (by kernel_rfl) (inn := (innN fr_92d)) (out := (outN fr_92d)) (fun _ _ => rfl) (loopsL (l := []) (by kernel_rfl) trivial) (fun x y => by kernel_rfl)
noncomputable def O_944 : Orc := (orm c_922 c_955)
theorem okO_944 : OrcOk PR O_944 := (orm_ok ok_922 ok_955)
abbrev fa_944 : Fm := (.pair (.i .i64) (.pair .b .unit))
abbrev fr_944 : Fm := (.i .u32)
noncomputable def F_944 (a0 : Int) (a1 : Bool) : Option (Int) :=
 ((F_922 a0)).bind fun r0 =>
 ((F_955 a0 a1)).bind fun r1 =>
 bif (decide ((0:Int) ≤ r0.1)) then
 bif (decide ((0:Int) ≤ r0.2.1)) then
 (some (bits .or .u32 r1 (IntKind.wrap .u32 ((IntKind.wrap .u32 ((IntKind.wrap .u32 ((1:Int) * ((2:Int) ^ (Min.min (Int.toNat r0.1) (32:Nat))))) - (1:Int))) * ((2:Int) ^ (Min.min (Int.toNat r0.2.1) (32:Nat)))))))
 else
 none
 else
 none
noncomputable def G_944 : T fa_944 → TH hN0 → Option (Int) := fun x y => F_944 x.1 x.2.1
noncomputable def c_944 : Orc := ent i_944 [] 0 (sp fa_944 hN0 fr_944 hN0 G_944 (outN fr_944))
theorem ok_944 : OrcOk PR c_944 := fnT okO_944 mixed p_944 (by kernel_rfl) (by kernel_rfl) (L := L0) (kp := false) (by kernel_rfl) (inn := (innN fr_944)) (out := (outN fr_944)) (fun _ _ => rfl) (loopsL (l := []) (by kernel_rfl) trivial) (fun x y => by kernel_rfl)
noncomputable def O_926 : Orc := (orm c_922 c_944)
theorem okO_926 : OrcOk PR O_926 := (orm_ok ok_922 ok_944)
abbrev fa_926 : Fm := (.pair (.i .i64) .unit)
abbrev fr_926 : Fm := (.i .u32)
noncomputable def F_926 (a0 : Int) : Option (Int) :=
 ((F_922 a0)).bind fun r0 =>
 ((F_944 a0 false)).bind fun r1 =>
 bif (decide ((0:Int) ≤ (IntKind.wrap .i64 (r0.2.1 - (1:Int))))) then
 (some (bits .or .u32 r1 (IntKind.wrap .u32 ((1:Int) * ((2:Int) ^ (Min.min (Int.toNat (IntKind.wrap .i64 (r0.2.1 - (1:Int)))) (32:Nat)))))))
 else
 none
noncomputable def G_926 : T fa_926 → TH hN0 → Option (Int) := fun x y => F_926 x.1
noncomputable def c_926 : Orc := ent i_926 [] 0 (sp fa_926 hN0 fr_926 hN0 G_926 (outN fr_926))
theorem ok_926 : OrcOk PR c_926 := fnT okO_926 mixed p_926 (by kernel_rfl) (by kernel_rfl) (L := L0) (kp := false) (by kernel_rfl) (inn := (innN fr_926)) (out := (outN fr_926)) (fun _ _ => rfl) (loopsL (l := []) (by kernel_rfl) trivial) (fun x y => by kernel_rfl)
noncomputable def O_924 : Orc := c_955
theorem okO_924 : OrcOk PR O_924 := ok_955
abbrev fa_924 : Fm := (.pair (.i .i64) (.pair .b .unit))
abbrev fr_924 : Fm := (.i .u32)
noncomputable def F_924 (a0 : Int) (a1 : Bool) : Option (Int) :=
 ((F_955 a0 a1)).bind fun r0 =>
 (some r0)
noncomputable def G_924 : T fa_924 → TH hN0 → Option (Int) := fun x y => F_924 x.1 x.2.1
noncomputable def c_924 : Orc := ent i_924 [] 0 (sp fa_924 hN0 fr_924 hN0 G_924 (outN fr_924))
theorem ok_924 : OrcOk PR c_924 := fnT okO_924 mixed p_924 (by kernel_rfl) (by kernel_rfl) (L := L0) (kp := false) (by kernel_rfl) (inn := (innN fr_924)) (out := (outN fr_924)) (fun _ _ => rfl) (loopsL (l := []) (by kernel_rfl) trivial) (fun x y => by kernel_rfl)
noncomputable def O_99 : Orc := (orm c_922 (orm c_923 c_924))
theorem okO_99 : OrcOk PR O_99 := (orm_ok ok_922 (orm_ok ok_923 ok_924))
abbrev fa_99 : Fm := (.pair (.i .i64) (.pair (.i .u32) .unit))
abbrev fr_99 : Fm := (.i .u32)
noncomputable def F_99 (a0 : Int) (a1 : Int) : Option (Int) :=
 ((F_922 a0)).bind fun r0 =>
 let x1 : Int := ((2:Int) ^ (Min.min (Int.toNat r0.2.1) (32:Nat)))
 let x2 : Int := (IntKind.wrap .u32 ((3:Int) * x1))
 let x3 : Int := (IntKind.wrap .u32 ((9:Int) * x1))
 let x4 : Int := (IntKind.wrap .u32 ((1:Int) * x1))
 let x5 : Int := (IntKind.wrap .u32 ((IntKind.wrap .u32 ((1:Int) * ((2:Int) ^ (Min.min (Int.toNat r0.1) (32:Nat))))) - (1:Int)))
 let x6 : Int := (IntKind.wrap .u32 ((x5 / (2:Int)) * x1))
 let x7 : Int := (IntKind.wrap .u32 (x5 * x1))
 bif (decide ((0:Int) ≤ r0.1)) then
 bif (decide ((0:Int) ≤ r0.2.1)) then
 bif (decide ((0:Int) ≤ r0.2.1)) then
 bif (decide ((0:Int) ≤ r0.2.1)) then
 bif (decide ((0:Int) ≤ r0.2.1)) then
 bif (decide ((0:Int) ≤ r0.2.1)) then
 bif (x2 == (0:Int)) then
 none
 else
 bif (decide ((0:Int) ≤ r0.2.1)) then
 bif (decide ((0:Int) ≤ r0.2.1)) then
 bif (decide ((0:Int) ≤ r0.2.1)) then
 bif (decide ((0:Int) ≤ r0.2.1)) then
 bif (decide ((0:Int) ≤ (IntKind.wrap .i64 (r0.2.1 - (1:Int))))) then
 bif (decide ((0:Int) ≤ r0.2.1)) then
 bif (x3 == (0:Int)) then
 none
 else
 bif (decide (((0:Int) ≤ (Int.tmod a1 (15:Int))) ∧ ((Int.tmod a1 (15:Int)) < (15:Int)))) then
 bif (decide (((0:Nat) + ((Int.toNat (Int.tmod a1 (15:Int))) * (1:Nat))) < (15:Nat))) then
 ((F_923 a0)).bind fun r8 =>
 let x9 : Int := (bits .and .u32 (List.getD [(0:Int), (1:Int), (IntKind.wrap .u32 (x4 - (1:Int))), x4, x6, (IntKind.wrap .u32 (x6 + (1:Int))), (IntKind.wrap .u32 (x6 - (1:Int))), (IntKind.wrap .u32 (x6 + x4)), (IntKind.wrap .u32 (x6 + (Int.tmod (a1 / (16:Int)) x2))), (IntKind.wrap .u32 (x7 - (1:Int))), x7, (bits .or .u32 x7 (1:Int)), (bits .or .u32 x7 (IntKind.wrap .u32 ((1:Int) * ((2:Int) ^ (Min.min (Int.toNat (IntKind.wrap .i64 (r0.2.1 - (1:Int)))) (32:Nat)))))), (IntKind.wrap .u32 (x6 - (Int.tmod (a1 / (16:Int)) x3))), (a1 / (16:Int))] ((0:Nat) + ((Int.toNat (Int.tmod a1 (15:Int))) * (1:Nat))) (0:Int)) r8)
 bif ((a1 / (2147483648:Int)) == (1:Int)) then
 ((F_924 a0 true)).bind fun r10 =>
 (some (bits .or .u32 x9 r10))
 else
 (some x9)
 else
 none
 else
 none
 else
 none
 else
 none
 else
 none
 else
 none
 else
 none
 else
 none
 else
 none
 else
 none
 else
 none
 else
 none
 else
 none
 else
 none
noncomputable def G_99 : T fa_99 → TH hN0 → Option (Int) := fun x y => F_99 x.1 x.2.1
noncomputable def c_99 : Orc := ent i_99 [] 0 (sp fa_99 hN0 fr_99 hN0 G_99 (outN fr_99))
theorem ok_99 : OrcOk PR c_99 := fnT okO_99 mixed p_99 (by kernel_rfl) (by kernel_rfl) (L := L0) (kp := false) (by kernel_rfl) (inn := (innN fr_99)) (out := (outN fr_99)) (fun _ _ => rfl) (loopsL (l := []) (by kernel_rfl) trivial) (fun x y => by kernel_rfl)
noncomputable def O_943 : Orc := c_940
theorem okO_943 : OrcOk PR O_943 := ok_940
abbrev fa_943 : Fm := (.pair (.i .i64) (.pair (.i .u32) .unit))
abbrev fr_943 : Fm := .b
noncomputable def F_943 (a0 : Int) (a1 : Int) : Option (Bool) :=
 ((F_940 a0 a1)).bind fun r0 =>
 (some (r0 == (3:Int)))
noncomputable def G_943 : T fa_943 → TH hN0 → Option (Bool) := fun x y => F_943 x.1 x.2.1
noncomputable def c_943 : Orc := ent i_943 [] 0 (sp fa_943 hN0 fr_943 hN0 G_943 (outN fr_943))
theorem ok_943 : OrcOk PR c_943 := fnT okO_943 mixed p_943 (by kernel_rfl) (by kernel_rfl) (L := L0) (kp := false) (by kernel_rfl) (inn := (innN fr_943)) (out := (outN fr_943)) (fun _ _ => rfl) (loopsL (l := []) (by kernel_rfl) trivial) (fun x y => by kernel_rfl)
noncomputable def O_971 : Orc := c_922
theorem okO_971 : OrcOk PR O_971 := ok_922
abbrev fa_971 : Fm := (.pair (.i .i64) .unit)
abbrev fr_971 : Fm := (.i .i64)
noncomputable def F_971 (a0 : Int) : Option (Int) :=
 ((F_922 a0)).bind fun r0 =>
 bif (decide ((0:Int) ≤ (IntKind.wrap .i64 (r0.1 - (1:Int))))) then
 (some (IntKind.wrap .i64 ((IntKind.wrap .i64 ((1:Int) * ((2:Int) ^ (Min.min (Int.toNat (IntKind.wrap .i64 (r0.1 - (1:Int)))) (64:Nat))))) - (1:Int))))
 else
 none
noncomputable def G_971 : T fa_971 → TH hN0 → Option (Int) := fun x y => F_971 x.1
noncomputable def c_971 : Orc := ent i_971 [] 0 (sp fa_971 hN0 fr_971 hN0 G_971 (outN fr_971))
theorem ok_971 : OrcOk PR c_971 := fnT okO_971 mixed p_971 (by kernel_rfl) (by kernel_rfl) (L := L0) (kp := false) (by kernel_rfl) (inn := (innN fr_971)) (out := (outN fr_971)) (fun _ _ => rfl) (loopsL (l := []) (by kernel_rfl) trivial) (fun x y => by kernel_rfl)
noncomputable def O_93f : Orc := (orm c_922 (orm c_970 (orm c_940 c_971)))
theorem okO_93f : OrcOk PR O_93f := (orm_ok ok_922 (orm_ok ok_970 (orm_ok ok_940 ok_971)))
abbrev fa_93f : Fm := (.pair (.i .i64) (.pair (.i .u32) .unit))
abbrev fr_93f : Fm := (.tup (.pair .b (.pair (.i .i64) (.pair (.i .u64) .unit))))
noncomputable def F_93f (a0 : Int) (a1 : Int) : Option (Bool × Int × Int × Unit) :=
 ((F_922 a0)).bind fun r0 =>
 ((F_970 a0 a1)).bind fun r1 =>
 let x2 : Int := r1.2.2.1
 ((F_940 a0 a1)).bind fun r3 =>
 bif (r3 == (2:Int)) then
 ((F_971 a0)).bind fun r4 =>
 bif (decide ((0:Int) ≤ r0.2.1)) then
 (some (r1.1, ((IntKind.wrap .i64 ((IntKind.wrap .i64 (r1.2.1 - r4)) - r0.2.1)), ((bits .or .u64 x2 (IntKind.wrap .u64 ((1:Int) * ((2:Int) ^ (Min.min (Int.toNat r0.2.1) (64:Nat)))))), ()))))
 else
 none
 else
 bif (bif (r3 == (0:Int)) then (r3 == (0:Int)) else (r3 == (1:Int))) then
 ((F_971 a0)).bind fun r5 =>
 (some (r1.1, ((IntKind.wrap .i64 ((IntKind.wrap .i64 ((1:Int) - r5)) - r0.2.1)), r1.2.2)))
 else
 (some (r1.1, ((0:Int), ((0:Int), ()))))
noncomputable def G_93f : T fa_93f → TH hN0 → Option (Bool × Int × Int × Unit) := fun x y => F_93f x.1 x.2.1
noncomputable def c_93f : Orc := ent i_93f [] 0 (sp fa_93f hN0 fr_93f hN0 G_93f (outN fr_93f))
theorem ok_93f : OrcOk PR c_93f := fnT okO_93f mixed p_93f (by kernel_rfl) (by kernel_rfl) (L := L0) (kp := false) (by kernel_rfl) (inn := (innN fr_93f)) (out := (outN fr_93f)) (fun _ _ => rfl) (loopsL (l := []) (by kernel_rfl) trivial) (fun x y => by kernel_rfl)
noncomputable def O_997 : Orc := c_944
theorem okO_997 : OrcOk PR O_997 := ok_944
abbrev fa_997 : Fm := (.pair (.i .i64) (.pair .b .unit))
abbrev fr_997 : Fm := (.i .u32)
noncomputable def F_997 (a0 : Int) (a1 : Bool) : Option (Int) :=
 ((F_944 a0 a1)).bind fun r0 =>
 (some (IntKind.wrap .u32 (r0 - (1:Int))))
noncomputable def G_997 : T fa_997 → TH hN0 → Option (Int) := fun x y => F_997 x.1 x.2.1
noncomputable def c_997 : Orc := ent i_997 [] 0 (sp fa_997 hN0 fr_997 hN0 G_997 (outN fr_997))
theorem ok_997 : OrcOk PR c_997 := fnT okO_997 mixed p_997 (by kernel_rfl) (by kernel_rfl) (L := L0) (kp := false) (by kernel_rfl) (inn := (innN fr_997)) (out := (outN fr_997)) (fun _ _ => rfl) (loopsL (l := []) (by kernel_rfl) trivial) (fun x y => by kernel_rfl)
noncomputable def O_975 : Orc := (orm c_997 c_944)
theorem okO_975 : OrcOk PR O_975 := (orm_ok ok_997 ok_944)
abbrev fa_975 : Fm := (.pair (.i .i64) (.pair (.i .i64) (.pair .b .unit)))
abbrev fr_975 : Fm := (.i .u32)
noncomputable def F_975 (a0 : Int) (a1 : Int) (a2 : Bool) : Option (Int) :=
 bif (a1 == (1:Int)) then
 ((F_997 a0 a2)).bind fun r0 =>
 (some r0)
 else
 bif (a1 == (2:Int)) then
 bif a2 then
 ((F_997 a0 a2)).bind fun r1 =>
 (some r1)
 else
 bif (a1 == (3:Int)) then
 bif (!a2) then
 ((F_997 a0 a2)).bind fun r2 =>
 (some r2)
 else
 ((F_944 a0 a2)).bind fun r3 =>
 (some r3)
 else
 ((F_944 a0 a2)).bind fun r4 =>
 (some r4)
 else
 bif (a1 == (3:Int)) then
 bif (!a2) then
 ((F_997 a0 a2)).bind fun r5 =>
 (some r5)
 else
 ((F_944 a0 a2)).bind fun r6 =>
 (some r6)
 else
 ((F_944 a0 a2)).bind fun r7 =>
 (some r7)
noncomputable def G_975 : T fa_975 → TH hN0 → Option (Int) := fun x y => F_975 x.1 x.2.1 x.2.2.1
noncomputable def c_975 : Orc := ent i_975 [] 0 (sp fa_975 hN0 fr_975 hN0 G_975 (outN fr_975))
theorem ok_975 : OrcOk PR c_975 := fnT okO_975 mixed p_975 (by kernel_rfl) (by kernel_rfl) (L := L0) (kp := false) (by kernel_rfl) (inn := (innN fr_975)) (out := (outN fr_975)) (fun _ _ => rfl) (loopsL (l := []) (by kernel_rfl) trivial) (fun x y => by kernel_rfl)
noncomputable def O_96f : Orc := (orm c_942 (orm c_923 c_955))
theorem okO_96f : OrcOk PR O_96f := (orm_ok ok_942 (orm_ok ok_923 ok_955))
abbrev fa_96f : Fm := (.pair (.i .i64) (.pair (.i .u32) .unit))
abbrev fr_96f : Fm := (.i .u32)
noncomputable def F_96f (a0 : Int) (a1 : Int) : Option (Int) :=
 ((F_942 a0 [a1])).bind fun r0 =>
 bif r0.1 then
 ((F_923 a0)).bind fun r1 =>
 (some (bits .and .u32 a1 r1))
 else
 ((F_955 a0 true)).bind fun r2 =>
 ((F_923 a0)).bind fun r3 =>
 (some (bits .and .u32 (bits .xor .u32 a1 r2) r3))
noncomputable def G_96f : T fa_96f → TH hN0 → Option (Int) := fun x y => F_96f x.1 x.2.1
noncomputable def c_96f : Orc := ent i_96f [] 0 (sp fa_96f hN0 fr_96f hN0 G_96f (outN fr_96f))
theorem ok_96f : OrcOk PR c_96f := fnT okO_96f mixed p_96f (by kernel_rfl) (by kernel_rfl) (L := L0) (kp := false) (by kernel_rfl) (inn := (innN fr_96f)) (out := (outN fr_96f)) (fun _ _ => rfl) (loopsL (l := []) (by kernel_rfl) trivial) (fun x y => by kernel_rfl)
noncomputable def O_919 : Orc := c_940
theorem okO_919 : OrcOk PR O_919 := ok_940
abbrev fa_919 : Fm := (.pair (.i .i64) (.pair (.i .u32) .unit))
abbrev fr_919 : Fm := .b
noncomputable def F_919 (a0 : Int) (a1 : Int) : Option (Bool) :=
 ((F_940 a0 a1)).bind fun r0 =>
 (some (decide (r0 < (3:Int))))
noncomputable def G_919 : T fa_919 → TH hN0 → Option (Bool) := fun x y => F_919 x.1 x.2.1
noncomputable def c_919 : Orc := ent i_919 [] 0 (sp fa_919 hN0 fr_919 hN0 G_919 (outN fr_919))
theorem ok_919 : OrcOk PR c_919 := fnT okO_919 mixed p_919 (by kernel_rfl) (by kernel_rfl) (L := L0) (kp := false) (by kernel_rfl) (inn := (innN fr_919)) (out := (outN fr_919)) (fun _ _ => rfl) (loopsL (l := []) (by kernel_rfl) trivial) (fun x y => by kernel_rfl)
noncomputable def O_9a : Orc := (orm c_922 c_924)
theorem okO_9a : OrcOk PR O_9a := (orm_ok ok_922 ok_924)
abbrev fa_9a : Fm := (.pair (.i .i64) (.pair (.i .u32) .unit))
abbrev fr_9a : Fm := (.i .u32)
noncomputable def F_9a (a0 : Int) (a1 : Int) : Option (Int) :=
 bif ((Int.tmod a1 (7:Int)) == (0:Int)) then
 (some (0:Int))
 else
 ((F_922 a0)).bind fun r0 =>
 let x1 : Int := ((2:Int) ^ (Min.min (Int.toNat r0.2.1) (32:Nat)))
 let x2 : Int := (IntKind.wrap .u32 ((4:Int) * x1))
 let x3 : Int := (IntKind.wrap .u32 ((IntKind.wrap .u32 ((IntKind.wrap .u32 (((IntKind.wrap .u32 ((IntKind.wrap .u32 ((1:Int) * ((2:Int) ^ (Min.min (Int.toNat r0.1) (32:Nat))))) - (1:Int))) / (2:Int)) * x1)) - (IntKind.wrap .u32 ((2:Int) * x1)))) + (Int.tmod (a1 / (8:Int)) x2)))
 bif (decide ((0:Int) ≤ r0.1)) then
 bif (decide ((0:Int) ≤ r0.2.1)) then
 bif (decide ((0:Int) ≤ r0.2.1)) then
 bif (decide ((0:Int) ≤ r0.2.1)) then
 bif (x2 == (0:Int)) then
 none
 else
 bif ((bits .and .u32 a1 (1:Int)) == (1:Int)) then
 ((F_924 a0 true)).bind fun r4 =>
 (some (bits .or .u32 x3 r4))
 else
 (some x3)
 else
 none
 else
 none
 else
 none
 else
 none
noncomputable def G_9a : T fa_9a → TH hN0 → Option (Int) := fun x y => F_9a x.1 x.2.1
noncomputable def c_9a : Orc := ent i_9a [] 0 (sp fa_9a hN0 fr_9a hN0 G_9a (outN fr_9a))
theorem ok_9a : OrcOk PR c_9a := fnT okO_9a mixed p_9a (by kernel_rfl) (by kernel_rfl) (L := L0) (kp := false) (by kernel_rfl) (inn := (innN fr_9a)) (out := (outN fr_9a)) (fun _ _ => rfl) (loopsL (l := []) (by kernel_rfl) trivial) (fun x y => by kernel_rfl)
noncomputable def O_9a1 : Orc := (orm c_977 (orm c_97d c_97c))
theorem okO_9a1 : OrcOk PR O_9a1 := (orm_ok ok_977 (orm_ok ok_97d ok_97c))
abbrev fa_9a1 : Fm := (.pair (.i .i64) (.pair .b .unit))
abbrev fr_9a1 : Fm := (.i .u32)
noncomputable def F_9a1 (a0 : Int) (a1 : Bool) : Option (Int) :=
 ((F_977 a0)).bind fun r0 =>
 ((F_97d a0)).bind fun r1 =>
 bif (decide ((0:Int) ≤ (IntKind.wrap .u64 r0.2.1))) then
 ((F_97c a0 a1 (IntKind.wrap .i64 (r1 - (1:Int))) (IntKind.wrap .u32 ((IntKind.wrap .u32 ((1:Int) * ((2:Int) ^ (Min.min (Int.toNat (IntKind.wrap .u64 r0.2.1)) (32:Nat))))) - (1:Int))))).bind fun r2 =>
 (some r2)
 else
 none
noncomputable def G_9a1 : T fa_9a1 → TH hN0 → Option (Int) := fun x y => F_9a1 x.1 x.2.1
noncomputable def c_9a1 : Orc := ent i_9a1 [] 0 (sp fa_9a1 hN0 fr_9a1 hN0 G_9a1 (outN fr_9a1))
theorem ok_9a1 : OrcOk PR c_9a1 := fnT okO_9a1 mixed p_9a1 (by kernel_rfl) (by kernel_rfl) (L := L0) (kp := false) (by kernel_rfl) (inn := (innN fr_9a1)) (out := (outN fr_9a1)) (fun _ _ => rfl) (loopsL (l := []) (by kernel_rfl) trivial) (fun x y => by kernel_rfl)
noncomputable def O_98c : Orc := c_977
theorem okO_98c : OrcOk PR O_98c := ok_977
abbrev fa_98c : Fm := (.pair (.i .i64) .unit)
abbrev fr_98c : Fm := (.i .i64)
noncomputable def F_98c (a0 : Int) : Option (Int) :=
 ((F_977 a0)).bind fun r0 =>
 bif (decide ((0:Int) ≤ (IntKind.wrap .u64 (IntKind.wrap .i64 (r0.1 - (1:Int)))))) then
 (some (IntKind.wrap .i64 ((2:Int) - (IntKind.wrap .i64 ((1:Int) * ((2:Int) ^ (Min.min (Int.toNat (IntKind.wrap .u64 (IntKind.wrap .i64 (r0.1 - (1:Int))))) (64:Nat))))))))
 else
 none
noncomputable def G_98c : T fa_98c → TH hN0 → Option (Int) := fun x y => F_98c x.1
noncomputable def c_98c : Orc := ent i_98c [] 0 (sp fa_98c hN0 fr_98c hN0 G_98c (outN fr_98c))
theorem ok_98c : OrcOk PR c_98c := fnT okO_98c mixed p_98c (by kernel_rfl) (by kernel_rfl) (L := L0) (kp := false) (by kernel_rfl) (inn := (innN fr_98c)) (out := (outN fr_98c)) (fun _ _ => rfl) (loopsL (l := []) (by kernel_rfl) trivial) (fun x y => by kernel_rfl)
noncomputable def O_961 : Orc := (orm c_977 (orm c_97e (orm c_98c c_97d)))
theorem okO_961 : OrcOk PR O_961 := (orm_ok ok_977 (orm_ok ok_97e (orm_ok ok_98c ok_97d)))
abbrev fa_961 : Fm := (.pair (.i .i64) (.pair (.i .u32) .unit))
abbrev fr_961 : Fm := (.tup (.pair .b (.pair (.i .i64) (.pair (.i .u64) .unit))))
noncomputable def F_961 (a0 : Int) (a1 : Int) : Option (Bool × Int × Int × Unit) :=
 ((F_977 a0)).bind fun r0 =>
 ((F_97e a0 a1)).bind fun r1 =>
 let x2 : Int := r1.2.2.1
 let x3 : Int := (IntKind.wrap .u64 x2)
 bif (r1.2.1 == (0:Int)) then
 ((F_98c a0)).bind fun r4 =>
 (some (r1.1, ((IntKind.wrap .i64 (r4 - r0.2.1)), (x3, ()))))
 else
 ((F_97d a0)).bind fun r5 =>
 bif (r1.2.1 == r5) then
 (some (r1.1, ((0:Int), ((0:Int), ()))))
 else
 ((F_98c a0)).bind fun r6 =>
 bif (decide ((0:Int) ≤ (IntKind.wrap .u64 r0.2.1))) then
 (some (r1.1, ((IntKind.wrap .i64 ((IntKind.wrap .i64 ((IntKind.wrap .i64 (r6 - r0.2.1)) + r1.2.1)) - (1:Int))), ((bits .or .u64 x3 (IntKind.wrap .u64 ((1:Int) * ((2:Int) ^ (Min.min (Int.toNat (IntKind.wrap .u64 r0.2.1)) (64:Nat)))))), ()))))
 else
 none
noncomputable def G_961 : T fa_961 → TH hN0 → Option (Bool × Int × Int × Unit) := fun x y => F_961 x.1 x.2.1
noncomputable def c_961 : Orc := ent i_961 [] 0 (sp fa_961 hN0 fr_961 hN0 G_961 (outN fr_961))
theorem ok_961 : OrcOk PR c_961 := fnT okO_961 mixed p_961 (by kernel_rfl) (by kernel_rfl) (L := L0) (kp := false) (by kernel_rfl) (inn := (innN fr_961)) (out := (outN fr_961)) (fun _ _ => rfl) (loopsL (l := []) (by kernel_rfl) trivial) (fun x y => by kernel_rfl)
noncomputable def O_95f : Orc := (orm c_97d c_97c)
theorem okO_95f : OrcOk PR O_95f := (orm_ok ok_97d ok_97c)
abbrev fa_95f : Fm := (.pair (.i .i64) (.pair .b .unit))
abbrev fr_95f : Fm := (.i .u32)
noncomputable def F_95f (a0 : Int) (a1 : Bool) : Option (Int) :=
 ((F_97d a0)).bind fun r0 =>
 ((F_97c a0 a1 r0 (0:Int))).bind fun r1 =>
 (some r1)
noncomputable def G_95f : T fa_95f → TH hN0 → Option (Int) := fun x y => F_95f x.1 x.2.1
noncomputable def c_95f : Orc := ent i_95f [] 0 (sp fa_95f hN0 fr_95f hN0 G_95f (outN fr_95f))
theorem ok_95f : OrcOk PR c_95f := fnT okO_95f mixed p_95f (by kernel_rfl) (by kernel_rfl) (L := L0) (kp := false) (by kernel_rfl) (inn := (innN fr_95f)) (out := (outN fr_95f)) (fun _ _ => rfl) (loopsL (l := []) (by kernel_rfl) trivial) (fun x y => by kernel_rfl)
noncomputable def O_960 : Orc := c_978
theorem okO_960 : OrcOk PR O_960 := ok_978
abbrev fa_960 : Fm := (.pair (.i .i64) (.pair (.i .u32) .unit))
abbrev fr_960 : Fm := .b
noncomputable def F_960 (a0 : Int) (a1 : Int) : Option (Bool) :=
 ((F_978 a0 a1)).bind fun r0 =>
 (some (r0 == (3:Int)))
noncomputable def G_960 : T fa_960 → TH hN0 → Option (Bool) := fun x y => F_960 x.1 x.2.1
noncomputable def c_960 : Orc := ent i_960 [] 0 (sp fa_960 hN0 fr_960 hN0 G_960 (outN fr_960))
theorem ok_960 : OrcOk PR c_960 := fnT okO_960 mixed p_960 (by kernel_rfl) (by kernel_rfl) (L := L0) (kp := false) (by kernel_rfl) (inn := (innN fr_960)) (out := (outN fr_960)) (fun _ _ => rfl) (loopsL (l := []) (by kernel_rfl) trivial) (fun x y => by kernel_rfl)
noncomputable def O_984 : Orc := c_97c
theorem okO_984 : OrcOk PR O_984 := ok_97c
abbrev fa_984 : Fm := (.pair (.i .i64) (.pair .b .unit))
abbrev fr_984 : Fm := (.i .u32)
noncomputable def F_984 (a0 : Int) (a1 : Bool) : Option (Int) :=
 ((F_97c a0 a1 (0:Int) (0:Int))).bind fun r0 =>
 (some r0)
noncomputable def G_984 : T fa_984 → TH hN0 → Option (Int) := fun x y => F_984 x.1 x.2.1
noncomputable def c_984 : Orc := ent i_984 [] 0 (sp fa_984 hN0 fr_984 hN0 G_984 (outN fr_984))
theorem ok_984 : OrcOk PR c_984 := fnT okO_984 mixed p_984 (by kernel_rfl) (by kernel_rfl) (L := L0) (kp := false) (by kernel_rfl) (inn := (innN fr_984)) (out := (outN fr_984)) (fun _ _ => rfl) (loopsL (l := []) (by kernel_rfl) trivial) (fun x y => by kernel_rfl)
noncomputable def O_994 : Orc := (orm c_97e c_97d)
theorem okO_994 : OrcOk PR O_994 := (orm_ok ok_97e ok_97d)
abbrev fa_994 : Fm := (.pair (.i .i64) (.pair (.i .u32) .unit))
abbrev fr_994 : Fm := .b
noncomputable def F_994 (a0 : Int) (a1 : Int) : Option (Bool) :=
 ((F_97e a0 a1)).bind fun r0 =>
 ((F_97d a0)).bind fun r1 =>
 (some (decide (r0.2.1 < r1)))
noncomputable def G_994 : T fa_994 → TH hN0 → Option (Bool) := fun x y => F_994 x.1 x.2.1
noncomputable def c_994 : Orc := ent i_994 [] 0 (sp fa_994 hN0 fr_994 hN0 G_994 (outN fr_994))
theorem ok_994 : OrcOk PR c_994 := fnT okO_994 mixed p_994 (by kernel_rfl) (by kernel_rfl) (L := L0) (kp := false) (by kernel_rfl) (inn := (innN fr_994)) (out := (outN fr_994)) (fun _ _ => rfl) (loopsL (l := []) (by kernel_rfl) trivial) (fun x y => by kernel_rfl)
noncomputable def O_99a : Orc := (orm c_9a1 c_95f)
theorem okO_99a : OrcOk PR O_99a := (orm_ok ok_9a1 ok_95f)
abbrev fa_99a : Fm := (.pair (.i .i64) (.pair (.i .i64) (.pair .b .unit)))
abbrev fr_99a : Fm := (.tup (.pair (.i .u32) (.pair (.agg (.pair .b (.pair .b (.pair .b (.pair .b (.pair .b .unit)))))) .unit)))
noncomputable def F_99a (a0 : Int) (a1 : Int) (a2 : Bool) : Option (Int × (Bool × Bool × Bool × Bool × Bool × Unit) × Unit) :=
 bif (a1 == (1:Int)) then
 ((F_9a1 a0 a2)).bind fun r0 =>
 (some (r0, ((false, (false, (true, (false, (true, ()))))), ())))
 else
 bif (a1 == (2:Int)) then
 bif a2 then
 ((F_9a1 a0 a2)).bind fun r1 =>
 (some (r1, ((false, (false, (true, (false, (true, ()))))), ())))
 else
 ((F_95f a0 a2)).bind fun r2 =>
 (some (r2, ((false, (false, (true, (false, (true, ()))))), ())))
 else
 bif (a1 == (3:Int)) then
 bif (!a2) then
 ((F_9a1 a0 a2)).bind fun r3 =>
 (some (r3, ((false, (false, (true, (false, (true, ()))))), ())))
 else
 ((F_95f a0 a2)).bind fun r4 =>
 (some (r4, ((false, (false, (true, (false, (true, ()))))), ())))
 else
 ((F_95f a0 a2)).bind fun r5 =>
 (some (r5, ((false, (false, (true, (false, (true, ()))))), ())))
noncomputable def G_99a : T fa_99a → TH hN0 → Option (Int × (Bool × Bool × Bool × Bool × Bool × Unit) × Unit) := fun x y => F_99a x.1 x.2.1 x.2.2.1
noncomputable def c_99a : Orc := ent i_99a [] 0 (sp fa_99a hN0 fr_99a hN0 G_99a (outN fr_99a))
theorem ok_99a : OrcOk PR c_99a := fnT okO_99a mixed p_99a (by kernel_rfl) (by kernel_rfl) (L := L0) (kp := false) (by kernel_rfl) (inn := (innN fr_99a)) (out := (outN fr_99a)) (fun _ _ => rfl) (loopsL (l := []) (by kernel_rfl) trivial) (fun x y => by kernel_rfl)
noncomputable def O_98d : Orc := orn
theorem okO_98d : OrcOk PR O_98d := (orn_ok _)
abbrev fa_98d : Fm := (.pair (.i .u64) .unit)
abbrev fr_98d : Fm := (.i .i64)
noncomputable def F_98d (a0 : Int) : Option (Int) :=
 let x0 : Int := (bif (decide (a0 ≥ (4294967296:Int))) then (32:Int) else (0:Int))
 let x1 : Int := (bif (decide ((bif (decide (a0 ≥ (4294967296:Int))) then (a0 / (4294967296:Int)) else a0) ≥ (65536:Int))) then (IntKind.wrap .i64 (x0 + (16:Int))) else x0)
 let x2 : Int := (bif (decide (a0 ≥ (4294967296:Int))) then (a0 / (4294967296:Int)) else a0)
 let x3 : Int := (bif (decide (x2 ≥ (65536:Int))) then (x2 / (65536:Int)) else x2)
 bif (decide (((0:Int) ≤ (IntKind.wrap .u8 (bif (decide (x3 ≥ (256:Int))) then (x3 / (256:Int)) else x3))) ∧ ((IntKind.wrap .u8 (bif (decide (x3 ≥ (256:Int))) then (x3 / (256:Int)) else x3)) < (256:Int)))) then
 (some (IntKind.wrap .i64 ((bif (decide (x3 ≥ (256:Int))) then (IntKind.wrap .i64 (x1 + (8:Int))) else x1) + (IntKind.wrap .i64 (((UInt8.toNat (List.getD [(0:UInt8), (1:UInt8), (2:UInt8), (2:UInt8), (3:UInt8), (3:UInt8), (3:UInt8), (3:UInt8), (4:UInt8), (4:UInt8), (4:UInt8), (4:UInt8), (4:UInt8), (4:UInt8), (4:UInt8), (4:UInt8), (5:UInt8), (5:UInt8), (5:UInt8), (5:UInt8), (5:UInt8), (5:UInt8), (5:UInt8), (5:UInt8), (5:UInt8), (5:UInt8), (5:UInt8), (5:UInt8), (5:UInt8), (5:UInt8), (5:UInt8), (5:UInt8), (6:UInt8), (6:UInt8), (6:UInt8), (6:UInt8), (6:UInt8), (6:UInt8), (6:UInt8), (6:UInt8), (6:UInt8), (6:UInt8), (6:UInt8), (6:UInt8), (6:UInt8), (6:UInt8), (6:UInt8), (6:UInt8), (6:UInt8), (6:UInt8), (6:UInt8), (6:UInt8), (6:UInt8), (6:UInt8), (6:UInt8), (6:UInt8), (6:UInt8), (6:UInt8), (6:UInt8), (6:UInt8), (6:UInt8), (6:UInt8), (6:UInt8), (6:UInt8), (7:UInt8), (7:UInt8), (7:UInt8), (7:UInt8), (7:UInt8), (7:UInt8), (7:UInt8), (7:UInt8), (7:UInt8), (7:UInt8), (7:UInt8), (7:UInt8), (7:UInt8), (7:UInt8), (7:UInt8), (7:UInt8), (7:UInt8), (7:UInt8), (7:UInt8), (7:UInt8), (7:UInt8), (7:UInt8), (7:UInt8), (7:UInt8), (7:UInt8), (7:UInt8), (7:UInt8), (7:UInt8), (7:UInt8), (7:UInt8), (7:UInt8), (7:UInt8), (7:UInt8), (7:UInt8), (7:UInt8), (7:UInt8), (7:UInt8), (7:UInt8), (7:UInt8), (7:UInt8), (7:UInt8), (7:UInt8), (7:UInt8), (7:UInt8), (7:UInt8), (7:UInt8), (7:UInt8), (7:UInt8), (7:UInt8), (7:UInt8), (7:UInt8), (7:UInt8), (7:UInt8), (7:UInt8), (7:UInt8), (7:UInt8), (7:UInt8), (7:UInt8), (7:UInt8), (7:UInt8), (7:UInt8), (7:UInt8), (7:UInt8), (7:UInt8), (8:UInt8), (8:UInt8), (8:UInt8), (8:UInt8), (8:UInt8), (8:UInt8), (8:UInt8), (8:UInt8), (8:UInt8), (8:UInt8), (8:UInt8), (8:UInt8), (8:UInt8), (8:UInt8), (8:UInt8), (8:UInt8), (8:UInt8), (8:UInt8), (8:UInt8), (8:UInt8), (8:UInt8), (8:UInt8), (8:UInt8), (8:UInt8), (8:UInt8), (8:UInt8), (8:UInt8), (8:UInt8), (8:UInt8), (8:UInt8), (8:UInt8), (8:UInt8), (8:UInt8), (8:UInt8), (8:UInt8), (8:UInt8), (8:UInt8), (8:UInt8), (8:UInt8), (8:UInt8), (8:UInt8), (8:UInt8), (8:UInt8), (8:UInt8), (8:UInt8), (8:UInt8), (8:UInt8), (8:UInt8), (8:UInt8), (8:UInt8), (8:UInt8), (8:UInt8), (8:UInt8), (8:UInt8), (8:UInt8), (8:UInt8), (8:UInt8), (8:UInt8), (8:UInt8), (8:UInt8), (8:UInt8), (8:UInt8), (8:UInt8), (8:UInt8), (8:UInt8), (8:UInt8), (8:UInt8), (8:UInt8), (8:UInt8), (8:UInt8), (8:UInt8), (8:UInt8), (8:UInt8), (8:UInt8), (8:UInt8), (8:UInt8), (8:UInt8), (8:UInt8), (8:UInt8), (8:UInt8), (8:UInt8), (8:UInt8), (8:UInt8), (8:UInt8), (8:UInt8), (8:UInt8), (8:UInt8), (8:UInt8), (8:UInt8), (8:UInt8), (8:UInt8), (8:UInt8), (8:UInt8), (8:UInt8), (8:UInt8), (8:UInt8), (8:UInt8), (8:UInt8), (8:UInt8), (8:UInt8), (8:UInt8), (8:UInt8), (8:UInt8), (8:UInt8), (8:UInt8), (8:UInt8), (8:UInt8), (8:UInt8), (8:UInt8), (8:UInt8), (8:UInt8), (8:UInt8), (8:UInt8), (8:UInt8), (8:UInt8), (8:UInt8), (8:UInt8), (8:UInt8), (8:UInt8), (8:UInt8), (8:UInt8), (8:UInt8), (8:UInt8), (8:UInt8), (8:UInt8), (8:UInt8), (8:UInt8), (8:UInt8)] (Int.toNat (IntKind.wrap .u8 (bif (decide (x3 ≥ (256:Int))) then (x3 / (256:Int)) else x3))) (0:UInt8))) : Nat) : Int)))))
 else
 none
noncomputable def G_98d : T fa_98d → TH hN0 → Option (Int) := fun x y => F_98d x.1
noncomputable def c_98d : Orc := ent i_98d [] 0 (sp fa_98d hN0 fr_98d hN0 G_98d (outN fr_98d))
theorem ok_98d : OrcOk PR c_98d := fnT okO_98d mixed p_98d (by kernel_rfl) (by kernel_rfl) (L := L0) (kp := false) (by kernel_rfl) (inn := (innN fr_98d)) (out := (outN fr_98d)) (fun _ _ => rfl) (loopsL (l := []) (by kernel_rfl) trivial) (fun x y => by kernel_rfl)
noncomputable def O_962 : Orc := c_98d
theorem okO_962 : OrcOk PR O_962 := ok_98d
abbrev fa_962 : Fm := (.pair (.i .u64) .unit)
abbrev fr_962 : Fm := (.i .i64)
noncomputable def F_962 (a0 : Int) : Option (Int) :=
 ((F_98d a0)).bind fun r0 =>
 (some r0)
noncomputable def G_962 : T fa_962 → TH hN0 → Option (Int) := fun x y => F_962 x.1
noncomputable def c_962 : Orc := ent i_962 [] 0 (sp fa_962 hN0 fr_962 hN0 G_962 (outN fr_962))
theorem ok_962 : OrcOk PR c_962 := fnT okO_962 mixed p_962 (by kernel_rfl) (by kernel_rfl) (L := L0) (kp := false) (by kernel_rfl) (inn := (innN fr_962)) (out := (outN fr_962)) (fun _ _ => rfl) (loopsL (l := []) (by kernel_rfl) trivial) (fun x y => by kernel_rfl)
noncomputable def O_985 : Orc := orn
theorem okO_985 : OrcOk PR O_985 := (orn_ok _)
abbrev fa_985 : Fm := (.pair (.i .u64) (.pair (.i .i64) .unit))
abbrev fr_985 : Fm := (.tup (.pair (.i .u64) (.pair .b .unit)))
noncomputable def F_985 (a0 : Int) (a1 : Int) : Option (Int × Bool × Unit) :=
 let x0 : Int := ((2:Int) ^ (Min.min (Int.toNat (IntKind.wrap .u64 a1)) (64:Nat)))
 let x1 : Int := (a0 / x0)
 let x2 : Int := ((2:Int) ^ (Min.min (Int.toNat (IntKind.wrap .u64 (IntKind.wrap .i64 ((0:Int) - a1)))) (64:Nat)))
 let x3 : Int := (IntKind.wrap .u64 (a0 * x2))
 bif (decide (a1 ≥ (64:Int))) then
 (some ((0:Int), ((a0 != (0:Int)), ())))
 else
 bif (decide (a1 ≤ (-(64:Int)))) then
 (some ((0:Int), ((a0 != (0:Int)), ())))
 else
 bif (decide (a1 ≥ (0:Int))) then
 bif (decide ((0:Int) ≤ (IntKind.wrap .u64 a1))) then
 bif (decide ((0:Int) ≤ (IntKind.wrap .u64 a1))) then
 (some (x1, (((IntKind.wrap .u64 (x1 * x0)) != a0), ())))
 else
 none
 else
 none
 else
 bif (decide ((0:Int) ≤ (IntKind.wrap .u64 (IntKind.wrap .i64 ((0:Int) - a1))))) then
 bif (decide ((0:Int) ≤ (IntKind.wrap .u64 (IntKind.wrap .i64 ((0:Int) - a1))))) then
 (some (x3, (((x3 / x2) != a0), ())))
 else
 none
 else
 none
noncomputable def G_985 : T fa_985 → TH hN0 → Option (Int × Bool × Unit) := fun x y => F_985 x.1 x.2.1
noncomputable def c_985 : Orc := ent i_985 [] 0 (sp fa_985 hN0 fr_985 hN0 G_985 (outN fr_985))
theorem ok_985 : OrcOk PR c_985 := fnT okO_985 mixed p_985 (by kernel_rfl) (by kernel_rfl) (L := L0) (kp := false) (by kernel_rfl) (inn := (innN fr_985)) (out := (outN fr_985)) (fun _ _ => rfl) (loopsL (l := []) (by kernel_rfl) trivial) (fun x y => by kernel_rfl)
noncomputable def O_996 : Orc := orn
theorem okO_996 : OrcOk PR O_996 := (orn_ok _)
abbrev fa_996 : Fm := (.pair (.i .u64) (.pair (.i .i64) .unit))
abbrev fr_996 : Fm := (.i .u64)
noncomputable def F_996 (a0 : Int) (a1 : Int) : Option (Int) :=
 bif (decide (a1 < (1:Int))) then
 (some (0:Int))
 else
 bif (decide (a1 ≥ (64:Int))) then
 (some a0)
 else
 bif (decide ((0:Int) ≤ (IntKind.wrap .u64 a1))) then
 (some (bits .and .u64 a0 (IntKind.wrap .u64 ((IntKind.wrap .u64 ((1:Int) * ((2:Int) ^ (Min.min (Int.toNat (IntKind.wrap .u64 a1)) (64:Nat))))) - (1:Int)))))
 else
 none
noncomputable def G_996 : T fa_996 → TH hN0 → Option (Int) := fun x y => F_996 x.1 x.2.1
noncomputable def c_996 : Orc := ent i_996 [] 0 (sp fa_996 hN0 fr_996 hN0 G_996 (outN fr_996))
theorem ok_996 : OrcOk PR c_996 := fnT okO_996 mixed p_996 (by kernel_rfl) (by kernel_rfl) (L := L0) (kp := false) (by kernel_rfl) (inn := (innN fr_996)) (out := (outN fr_996)) (fun _ _ => rfl) (loopsL (l := []) (by kernel_rfl) trivial) (fun x y => by kernel_rfl)
noncomputable def O_995 : Orc := (orm c_977 (orm c_98c c_962))
theorem okO_995 : OrcOk PR O_995 := (orm_ok ok_977 (orm_ok ok_98c ok_962))
abbrev fa_995 : Fm := (.pair (.i .i64) (.pair (.i .i64) (.pair (.i .u64) .unit)))
abbrev fr_995 : Fm := (.i .i64)
noncomputable def F_995 (a0 : Int) (a1 : Int) (a2 : Int) : Option (Int) :=
 ((F_977 a0)).bind fun r0 =>
 ((F_98c a0)).bind fun r1 =>
 bif (decide (a2 > (0:Int))) then
 ((F_962 a2)).bind fun r2 =>
 (some (IntKind.wrap .i64 ((mx r1 (IntKind.wrap .i64 ((IntKind.wrap .i64 (a1 + r2)) - (1:Int)))) - r0.2.1)))
 else
 (some (IntKind.wrap .i64 (r1 - r0.2.1)))
noncomputable def G_995 : T fa_995 → TH hN0 → Option (Int) := fun x y => F_995 x.1 x.2.1 x.2.2.1
noncomputable def c_995 : Orc := ent i_995 [] 0 (sp fa_995 hN0 fr_995 hN0 G_995 (outN fr_995))
theorem ok_995 : OrcOk PR c_995 := fnT okO_995 mixed p_995 (by kernel_rfl) (by kernel_rfl) (L := L0) (kp := false) (by kernel_rfl) (inn := (innN fr_995)) (out := (outN fr_995)) (fun _ _ => rfl) (loopsL (l := []) (by kernel_rfl) trivial) (fun x y => by kernel_rfl)
noncomputable def O_998 : Orc := c_985
theorem okO_998 : OrcOk PR O_998 := ok_985
abbrev fa_998 : Fm := (.pair (.i .u64) (.pair (.i .i64) (.pair .b .unit)))
abbrev fr_998 : Fm := (.tup (.pair (.i .u64) (.pair (.i .i64) .unit)))
noncomputable def F_998 (a0 : Int) (a1 : Int) (a2 : Bool) : Option (Int × Int × Unit) :=
 bif (decide (a1 ≤ (0:Int))) then
 ((F_985 a0 a1)).bind fun r0 =>
 bif a2 then
 (some (r0.1, ((1:Int), ())))
 else
 (some (r0.1, ((0:Int), ())))
 else
 ((F_985 a0 a1)).bind fun r1 =>
 bif (!r1.2.1) then
 bif a2 then
 (some (r1.1, ((1:Int), ())))
 else
 (some (r1.1, ((0:Int), ())))
 else
 ((F_985 a0 (IntKind.wrap .i64 (a1 - (1:Int))))).bind fun r2 =>
 bif ((bits .and .u64 r2.1 (1:Int)) == (0:Int)) then
 (some (r1.1, ((1:Int), ())))
 else
 bif r2.2.1 then
 (some (r1.1, ((3:Int), ())))
 else
 bif a2 then
 (some (r1.1, ((3:Int), ())))
 else
 (some (r1.1, ((2:Int), ())))
noncomputable def G_998 : T fa_998 → TH hN0 → Option (Int × Int × Unit) := fun x y => F_998 x.1 x.2.1 x.2.2.1
noncomputable def c_998 : Orc := ent i_998 [] 0 (sp fa_998 hN0 fr_998 hN0 G_998 (outN fr_998))
theorem ok_998 : OrcOk PR c_998 := fnT okO_998 mixed p_998 (by kernel_rfl) (by kernel_rfl) (L := L0) (kp := false) (by kernel_rfl) (inn := (innN fr_998)) (out := (outN fr_998)) (fun _ _ => rfl) (loopsL (l := []) (by kernel_rfl) trivial) (fun x y => by kernel_rfl)
noncomputable def O_999 : Orc := orn
theorem okO_999 : OrcOk PR O_999 := (orn_ok _)
abbrev fa_999 : Fm := (.pair (.i .i64) (.pair .b (.pair (.i .u64) (.pair (.i .i64) .unit))))
abbrev fr_999 : Fm := .b
noncomputable def F_999 (a0 : Int) (a1 : Bool) (a2 : Int) (a3 : Int) : Option (Bool) :=
 bif (a0 == (1:Int)) then
 (some false)
 else
 bif (a0 == (2:Int)) then
 bif (!a1) then
 (some (a3 != (0:Int)))
 else
 (some false)
 else
 bif (a0 == (3:Int)) then
 bif a1 then
 (some (a3 != (0:Int)))
 else
 (some false)
 else
 bif (a0 == (4:Int)) then
 (some (decide (a3 ≥ (2:Int))))
 else
 bif (a3 == (3:Int)) then
 (some true)
 else
 bif (a3 == (2:Int)) then
 (some ((bits .and .u64 a2 (1:Int)) == (1:Int)))
 else
 (some false)
noncomputable def G_999 : T fa_999 → TH hN0 → Option (Bool) := fun x y => F_999 x.1 x.2.1 x.2.2.1 x.2.2.2.1
noncomputable def c_999 : Orc := ent i_999 [] 0 (sp fa_999 hN0 fr_999 hN0 G_999 (outN fr_999))
theorem ok_999 : OrcOk PR c_999 := fnT okO_999 mixed p_999 (by kernel_rfl) (by kernel_rfl) (L := L0) (kp := false) (by kernel_rfl) (inn := (innN fr_999)) (out := (outN fr_999)) (fun _ _ => rfl) (loopsL (l := []) (by kernel_rfl) trivial) (fun x y => by kernel_rfl)
noncomputable def O_97b : Orc := (orm c_984 (orm c_977 (orm c_995 (orm c_998 (orm c_999 (orm c_98c (orm c_97d (orm c_99a (orm c_962 (orm c_996 c_97c))))))))))
theorem okO_97b : OrcOk PR O_97b := (orm_ok ok_984 (orm_ok ok_977 (orm_ok ok_995 (orm_ok ok_998 (orm_ok ok_999 (orm_ok ok_98c (orm_ok ok_97d (orm_ok ok_99a (orm_ok ok_962 (orm_ok ok_996 ok_97c))))))))))
abbrev fa_97b : Fm := (.pair (.i .i64) (.pair (.i .i64) (.pair .b (.pair (.i .i64) (.pair (.i .u64) (.pair .b .unit))))))
abbrev fr_97b : Fm := (.tup (.pair (.i .u32) (.pair (.agg (.pair .b (.pair .b (.pair .b (.pair .b (.pair .b .unit)))))) .unit)))
noncomputable def F_97b (a0 : Int) (a1 : Int) (a2 : Bool) (a3 : Int) (a4 : Int) (a5 : Bool) : Option (Int × (Bool × Bool × Bool × Bool × Bool × Unit) × Unit) :=
 let x0 : Int := (mn (mx a3 (-(10000:Int))) (10000:Int))
 bif (a4 == (0:Int)) then
 bif (!a5) then
 ((F_984 a0 a2)).bind fun r1 =>
 (some (r1, ((false, (false, (false, (false, (false, ()))))), ())))
 else
 ((F_977 a0)).bind fun r2 =>
 ((F_995 a0 x0 a4)).bind fun r3 =>
 ((F_998 a4 (IntKind.wrap .i64 (r3 - x0)) a5)).bind fun r4 =>
 let x5 : Bool := (r4.2.1 != (0:Int))
 ((F_999 a1 a2 r4.1 r4.2.1)).bind fun r6 =>
 let x7 : Int := (bif r6 then (IntKind.wrap .u64 (r4.1 + (1:Int))) else r4.1)
 let x8 : Bool := ((x7 / ((2:Int) ^ (Min.min (Int.toNat (IntKind.wrap .u64 (IntKind.wrap .i64 (r2.2.1 + (1:Int))))) (64:Nat)))) != (0:Int))
 let x9 : Int := (bif x8 then (x7 / (2:Int)) else x7)
 bif (decide ((0:Int) ≤ (IntKind.wrap .u64 (IntKind.wrap .i64 (r2.2.1 + (1:Int)))))) then
 ((F_98c a0)).bind fun r10 =>
 let x11 : Int := (bif ((x9 / ((2:Int) ^ (Min.min (Int.toNat (IntKind.wrap .u64 r2.2.1)) (64:Nat)))) == (0:Int)) then (0:Int) else (IntKind.wrap .i64 ((IntKind.wrap .i64 ((IntKind.wrap .i64 ((bif x8 then (IntKind.wrap .i64 (r3 + (1:Int))) else r3) + r2.2.1)) - r10)) + (1:Int))))
 bif (decide ((0:Int) ≤ (IntKind.wrap .u64 r2.2.1))) then
 ((F_97d a0)).bind fun r12 =>
 bif (decide (x11 ≥ r12)) then
 ((F_99a a0 a1 a2)).bind fun r13 =>
 (some r13)
 else
 bif x5 then
 bif (a4 == (0:Int)) then
 ((F_996 x9 r2.2.1)).bind fun r14 =>
 ((F_97c a0 a2 x11 (IntKind.wrap .u32 r14))).bind fun r15 =>
 (some (r15, ((false, (false, (false, (true, (x5, ()))))), ())))
 else
 ((F_962 a4)).bind fun r16 =>
 ((F_98c a0)).bind fun r17 =>
 ((F_996 x9 r2.2.1)).bind fun r18 =>
 ((F_97c a0 a2 x11 (IntKind.wrap .u32 r18))).bind fun r19 =>
 (some (r19, ((false, (false, (false, ((decide ((IntKind.wrap .i64 ((IntKind.wrap .i64 (x0 + r16)) - (1:Int))) < r17)), (x5, ()))))), ())))
 else
 ((F_996 x9 r2.2.1)).bind fun r20 =>
 ((F_97c a0 a2 x11 (IntKind.wrap .u32 r20))).bind fun r21 =>
 (some (r21, ((false, (false, (false, (false, (x5, ()))))), ())))
 else
 none
 else
 none
 else
 ((F_977 a0)).bind fun r22 =>
 ((F_995 a0 x0 a4)).bind fun r23 =>
 ((F_998 a4 (IntKind.wrap .i64 (r23 - x0)) a5)).bind fun r24 =>
 let x25 : Bool := (r24.2.1 != (0:Int))
 ((F_999 a1 a2 r24.1 r24.2.1)).bind fun r26 =>
 let x27 : Int := (bif r26 then (IntKind.wrap .u64 (r24.1 + (1:Int))) else r24.1)
 let x28 : Bool := ((x27 / ((2:Int) ^ (Min.min (Int.toNat (IntKind.wrap .u64 (IntKind.wrap .i64 (r22.2.1 + (1:Int))))) (64:Nat)))) != (0:Int))
 let x29 : Int := (bif x28 then (x27 / (2:Int)) else x27)
 bif (decide ((0:Int) ≤ (IntKind.wrap .u64 (IntKind.wrap .i64 (r22.2.1 + (1:Int)))))) then
 ((F_98c a0)).bind fun r30 =>
 let x31 : Int := (bif ((x29 / ((2:Int) ^ (Min.min (Int.toNat (IntKind.wrap .u64 r22.2.1)) (64:Nat)))) == (0:Int)) then (0:Int) else (IntKind.wrap .i64 ((IntKind.wrap .i64 ((IntKind.wrap .i64 ((bif x28 then (IntKind.wrap .i64 (r23 + (1:Int))) else r23) + r22.2.1)) - r30)) + (1:Int))))
 bif (decide ((0:Int) ≤ (IntKind.wrap .u64 r22.2.1))) then
 ((F_97d a0)).bind fun r32 =>
 bif (decide (x31 ≥ r32)) then
 ((F_99a a0 a1 a2)).bind fun r33 =>
 (some r33)
 else
 bif x25 then
 bif (a4 == (0:Int)) then
 ((F_996 x29 r22.2.1)).bind fun r34 =>
 ((F_97c a0 a2 x31 (IntKind.wrap .u32 r34))).bind fun r35 =>
 (some (r35, ((false, (false, (false, (true, (x25, ()))))), ())))
 else
 ((F_962 a4)).bind fun r36 =>
 ((F_98c a0)).bind fun r37 =>
 ((F_996 x29 r22.2.1)).bind fun r38 =>
 ((F_97c a0 a2 x31 (IntKind.wrap .u32 r38))).bind fun r39 =>
 (some (r39, ((false, (false, (false, ((decide ((IntKind.wrap .i64 ((IntKind.wrap .i64 (x0 + r36)) - (1:Int))) < r37)), (x25, ()))))), ())))
 else
 ((F_996 x29 r22.2.1)).bind fun r40 =>
 ((F_97c a0 a2 x31 (IntKind.wrap .u32 r40))).bind fun r41 =>
 (some (r41, ((false, (false, (false, (false, (x25, ()))))), ())))
 else
 none
 else
 none
noncomputable def G_97b : T fa_97b → TH hN0 → Option (Int × (Bool × Bool × Bool × Bool × Bool × Unit) × Unit) := fun x y => F_97b x.1 x.2.1 x.2.2.1 x.2.2.2.1 x.2.2.2.2.1 x.2.2.2.2.2.1
noncomputable def c_97b : Orc := ent i_97b [] 0 (sp fa_97b hN0 fr_97b hN0 G_97b (outN fr_97b))
theorem ok_97b : OrcOk PR c_97b := fnT okO_97b mixed p_97b (by kernel_rfl) (by kernel_rfl) (L := L0) (kp := false) (by kernel_rfl) (inn := (innN fr_97b)) (out := (outN fr_97b)) (fun _ _ => rfl) (loopsL (l := []) (by kernel_rfl) trivial) (fun x y => by kernel_rfl)
noncomputable def O_972 : Orc := orn
theorem okO_972 : OrcOk PR O_972 := (orn_ok _)
abbrev fa_972 : Fm := (.pair (.i .u64) .unit)
abbrev fr_972 : Fm := (.i .i64)
abbrev ff_972_0 : Fm := (.pair (.i .u64) (.us 2 (.pair (.i .i64) (.us 7 .unit))))
abbrev hf_972_0 : List BF := []
abbrev X_972_0 : Xs := (.one (.exit 0) [3] (.us 3 (.pair (.i .i64) (.us 7 .unit))) [])
abbrev S_972_0 : Type := T ff_972_0 × TH hf_972_0
abbrev E_972_0 : Type := TX X_972_0
noncomputable def LB_972_0 : Lps := L0
noncomputable def st_972_0 : StepT S_972_0 E_972_0 := fun R v kn ko =>
 bif (decide (v.1.1 > (0:Int))) then
 (kn (((v.1.1 / (2:Int)), ((IntKind.wrap .i64 (v.1.2.1 + (1:Int))), ())), ()))
 else
 (ko (v.1.2, ()))
noncomputable def ls_972_0 : St → LTr := (lsum ff_972_0 hf_972_0 X_972_0 Prod.mk id st_972_0 (hd [] [] [0, 3] 0))
theorem lp_972_0 : LoopOk PR 0 (lpN f_972 0) ls_972_0 := loopT okO_972 mixed (L := LB_972_0) (d := 1) (bs := []) (ks := [0, 3]) (loopsL (l := []) (by kernel_rfl) trivial) (by kernel_rfl) (inS := Prod.mk) (outS := id) (fun _ _ => rfl) (inX := id) (outX := id) (fun _ => rfl) (fun v R kn ko => by kernel_rfl) (hd_wk [] [] [0, 3] 0)
noncomputable def L_972 : Lps := (lpB 3 (.by_ ls_972_0) L0)
noncomputable def F_972 (a0 : Int) : Option (Int) :=
 ((lim st_972_0 ((a0, ((0:Int), ())), ()))).bind fun r0 =>
 (some r0.1.1)
noncomputable def G_972 : T fa_972 → TH hN0 → Option (Int) := fun x y => F_972 x.1
noncomputable def c_972 : Orc := ent i_972 [] 0 (sp fa_972 hN0 fr_972 hN0 G_972 (outN fr_972))
theorem ok_972 : OrcOk PR c_972 := fnT okO_972 mixed p_972 (by kernel_rfl) (by kernel_rfl) (L := L_972) (kp := false) (by kernel_rfl) (inn := (innN fr_972)) (out := (outN fr_972)) (fun _ _ => rfl) (loopsL (l := [((lpN f_972 0), ls_972_0)]) (by kernel_rfl) ⟨lp_972_0, trivial⟩) (fun x y => by kernel_rfl)
noncomputable def O_993 : Orc := orn
theorem okO_993 : OrcOk PR O_993 := (orn_ok _)
abbrev fa_993 : Fm := (.pair (.i .u64) (.pair (.i .i64) .unit))
abbrev fr_993 : Fm := (.tup (.pair (.i .u64) (.pair .b .unit)))
abbrev ff_993_0 : Fm := (.pair (.i .u64) (.pair (.i .i64) (.us 4 (.pair .b (.us 29 .unit)))))
abbrev hf_993_0 : List BF := []
abbrev X_993_0 : Xs := (.one (.exit 0) [0, 1, 6] (.pair (.i .u64) (.pair (.i .i64) (.us 4 (.pair .b (.us 29 .unit))))) [])
abbrev S_993_0 : Type := T ff_993_0 × TH hf_993_0
abbrev E_993_0 : Type := TX X_993_0
noncomputable def LB_993_0 : Lps := L0
noncomputable def st_993_0 : StepT S_993_0 E_993_0 := fun R v kn ko =>
 let x0 : Int := v.1.1
 let x1 : Int := (x0 / (2:Int))
 let x2 : Int := (IntKind.wrap .i64 (v.1.2.1 - (1:Int)))
 bif (decide (v.1.2.1 > (0:Int))) then
 bif v.1.2.2.1 then
 (kn ((x1, (x2, (true, ()))), ()))
 else
 (kn ((x1, (x2, (((bits .and .u64 x0 (1:Int)) == (1:Int)), ()))), ()))
 else
 (ko v)
noncomputable def ls_993_0 : St → LTr := (lsum ff_993_0 hf_993_0 X_993_0 Prod.mk id st_993_0 (hd [] [] [0, 1, 6] 0))
theorem lp_993_0 : LoopOk PR 0 (lpN f_993 0) ls_993_0 := loopT okO_993 mixed (L := LB_993_0) (d := 1) (bs := []) (ks := [0, 1, 6]) (loopsL (l := []) (by kernel_rfl) trivial) (by kernel_rfl) (inS := Prod.mk) (outS := id) (fun _ _ => rfl) (inX := id) (outX := id) (fun _ => rfl) (fun v R kn ko => by kernel_rfl) (hd_wk [] [] [0, 1, 6] 0)
abbrev ff_993_1 : Fm := (.pair (.i .u64) (.pair (.i .i64) (.us 4 (.pair .b (.us 29 .unit)))))
abbrev hf_993_1 : List BF := []
abbrev X_993_1 : Xs := (.one (.exit 2) [0, 6] (.pair (.i .u64) (.us 5 (.pair .b (.us 29 .unit)))) [])
abbrev S_993_1 : Type := T ff_993_1 × TH hf_993_1
abbrev E_993_1 : Type := TX X_993_1
noncomputable def LB_993_1 : Lps := (lpB 4 (.by_ ls_993_0) L0)
noncomputable def st_993_1 : StepT S_993_1 E_993_1 := fun R v kn ko =>
 let x0 : Int := v.1.1
 let x1 : Int := (IntKind.wrap .u64 (x0 * (2:Int)))
 let x2 : Int := (IntKind.wrap .i64 (v.1.2.1 + (1:Int)))
 bif (decide (v.1.2.1 < (0:Int))) then
 bif v.1.2.2.1 then
 (kn ((x1, (x2, (true, ()))), ()))
 else
 (kn ((x1, (x2, (((x0 / (9223372036854775808:Int)) == (1:Int)), ()))), ()))
 else
 (ko ((x0, v.1.2.2), ()))
noncomputable def ls_993_1 : St → LTr := (lsum ff_993_1 hf_993_1 X_993_1 Prod.mk id st_993_1 (hd [] [] [0, 1, 6] 0))
theorem lp_993_1 : LoopOk PR 0 (lpN f_993 1) ls_993_1 := loopT okO_993 mixed (L := LB_993_1) (d := 1) (bs := []) (ks := [0, 1, 6]) (loopsL (l := []) (by kernel_rfl) trivial) (by kernel_rfl) (inS := Prod.mk) (outS := id) (fun _ _ => rfl) (inX := id) (outX := id) (fun _ => rfl) (fun v R kn ko => by kernel_rfl) (hd_wk [] [] [0, 1, 6] 0)
noncomputable def L_993 : Lps := (lpB 8 (.by_ ls_993_1) (lpB 4 (.by_ ls_993_0) L0))
noncomputable def F_993 (a0 : Int) (a1 : Int) : Option (Int × Bool × Unit) :=
 ((lim st_993_0 ((a0, ((mn (mx a1 (-(64:Int))) (64:Int)), (false, ()))), ()))).bind fun r0 =>
 ((lim st_993_1 r0)).bind fun r1 =>
 (some r1.1)
noncomputable def G_993 : T fa_993 → TH hN0 → Option (Int × Bool × Unit) := fun x y => F_993 x.1 x.2.1
noncomputable def c_993 : Orc := ent i_993 [] 0 (sp fa_993 hN0 fr_993 hN0 G_993 (outN fr_993))
theorem ok_993 : OrcOk PR c_993 := fnT okO_993 mixed p_993 (by kernel_rfl) (by kernel_rfl) (L := L_993) (kp := false) (by kernel_rfl) (inn := (innN fr_993)) (out := (outN fr_993)) (fun _ _ => rfl) (loopsL (l := [((lpN f_993 0), ls_993_0), ((lpN f_993 1), ls_993_1)]) (by kernel_rfl) ⟨lp_993_0, ⟨lp_993_1, trivial⟩⟩) (fun x y => by kernel_rfl)
noncomputable def O_973 : Orc := c_993
theorem okO_973 : OrcOk PR O_973 := ok_993
abbrev fa_973 : Fm := (.pair (.i .u64) (.pair (.i .i64) .unit))
abbrev fr_973 : Fm := (.tup (.pair (.i .u64) (.pair .b (.pair .b .unit))))
noncomputable def F_973 (a0 : Int) (a1 : Int) : Option (Int × Bool × Bool × Unit) :=
 bif (decide (a1 ≤ (0:Int))) then
 bif (decide ((0:Int) ≤ (mn (IntKind.wrap .i64 ((0:Int) - a1)) (63:Int)))) then
 (some ((IntKind.wrap .u64 (a0 * ((2:Int) ^ (Min.min (Int.toNat (mn (IntKind.wrap .i64 ((0:Int) - a1)) (63:Int))) (64:Nat))))), (false, (false, ()))))
 else
 none
 else
 bif (decide (a1 > (64:Int))) then
 (some ((0:Int), (false, ((a0 != (0:Int)), ()))))
 else
 ((F_993 a0 a1)).bind fun r0 =>
 ((F_993 a0 (IntKind.wrap .i64 (a1 - (1:Int))))).bind fun r1 =>
 ((F_993 a0 (IntKind.wrap .i64 (a1 - (1:Int))))).bind fun r2 =>
 (some (r0.1, (((bits .and .u64 r1.1 (1:Int)) == (1:Int)), r2.2)))
noncomputable def G_973 : T fa_973 → TH hN0 → Option (Int × Bool × Bool × Unit) := fun x y => F_973 x.1 x.2.1
noncomputable def c_973 : Orc := ent i_973 [] 0 (sp fa_973 hN0 fr_973 hN0 G_973 (outN fr_973))
theorem ok_973 : OrcOk PR c_973 := fnT okO_973 mixed p_973 (by kernel_rfl) (by kernel_rfl) (L := L0) (kp := false) (by kernel_rfl) (inn := (innN fr_973)) (out := (outN fr_973)) (fun _ _ => rfl) (loopsL (l := []) (by kernel_rfl) trivial) (fun x y => by kernel_rfl)
noncomputable def O_974 : Orc := orn
theorem okO_974 : OrcOk PR O_974 := (orn_ok _)
abbrev fa_974 : Fm := (.pair (.i .i64) (.pair .b (.pair .b (.pair .b (.pair .b .unit)))))
abbrev fr_974 : Fm := .b
noncomputable def F_974 (a0 : Int) (a1 : Bool) (a2 : Bool) (a3 : Bool) (a4 : Bool) : Option (Bool) :=
 bif (a0 == (1:Int)) then
 (some false)
 else
 bif (a0 == (2:Int)) then
 bif (!a1) then
 bif a3 then
 (some true)
 else
 (some a4)
 else
 (some false)
 else
 bif (a0 == (3:Int)) then
 bif a1 then
 bif a3 then
 (some true)
 else
 (some a4)
 else
 (some false)
 else
 bif (a0 == (4:Int)) then
 (some a3)
 else
 bif a3 then
 bif a4 then
 (some true)
 else
 (some a2)
 else
 (some false)
noncomputable def G_974 : T fa_974 → TH hN0 → Option (Bool) := fun x y => F_974 x.1 x.2.1 x.2.2.1 x.2.2.2.1 x.2.2.2.2.1
noncomputable def c_974 : Orc := ent i_974 [] 0 (sp fa_974 hN0 fr_974 hN0 G_974 (outN fr_974))
theorem ok_974 : OrcOk PR c_974 := fnT okO_974 mixed p_974 (by kernel_rfl) (by kernel_rfl) (L := L0) (kp := false) (by kernel_rfl) (inn := (innN fr_974)) (out := (outN fr_974)) (fun _ _ => rfl) (loopsL (l := []) (by kernel_rfl) trivial) (fun x y => by kernel_rfl)
noncomputable def O_946 : Orc := (orm c_924 (orm c_922 (orm c_971 (orm c_972 (orm c_973 (orm c_974 (orm c_955 c_975)))))))
theorem okO_946 : OrcOk PR O_946 := (orm_ok ok_924 (orm_ok ok_922 (orm_ok ok_971 (orm_ok ok_972 (orm_ok ok_973 (orm_ok ok_974 (orm_ok ok_955 ok_975)))))))
abbrev fa_946 : Fm := (.pair (.i .i64) (.pair (.i .i64) (.pair .b (.pair (.i .i64) (.pair (.i .u64) (.pair .b .unit))))))
abbrev fr_946 : Fm := (.tup (.pair (.i .u32) (.pair (.agg (.pair .b (.pair .b (.pair .b (.pair .b (.pair .b .unit)))))) .unit)))
noncomputable def F_946 (a0 : Int) (a1 : Int) (a2 : Bool) (a3 : Int) (a4 : Int) (a5 : Bool) : Option (Int × (Bool × Bool × Bool × Bool × Bool × Unit) × Unit) :=
 let x0 : Int := (mn (mx a3 (-(10000:Int))) (10000:Int))
 bif (a4 == (0:Int)) then
 bif (!a5) then
 ((F_924 a0 a2)).bind fun r1 =>
 (some (r1, ((false, (false, (false, (false, (false, ()))))), ())))
 else
 ((F_922 a0)).bind fun r2 =>
 let x3 : Int := (IntKind.wrap .u64 ((1:Int) * ((2:Int) ^ (Min.min (Int.toNat (IntKind.wrap .i64 (r2.2.1 + (1:Int)))) (64:Nat)))))
 let x4 : Nat := (Int.toNat r2.2.1)
 let x5 : Int := ((2:Int) ^ (Min.min x4 (32:Nat)))
 let x6 : Int := (IntKind.wrap .u64 ((IntKind.wrap .u64 ((1:Int) * ((2:Int) ^ (Min.min x4 (64:Nat))))) - (1:Int)))
 ((F_971 a0)).bind fun r7 =>
 ((F_972 a4)).bind fun r8 =>
 let x9 : Int := (IntKind.wrap .i64 ((mx (bif (a4 == (0:Int)) then (-(20000:Int)) else (IntKind.wrap .i64 ((IntKind.wrap .i64 (x0 + r8)) - (1:Int)))) (IntKind.wrap .i64 ((1:Int) - r7))) - r2.2.1))
 let x10 : Int := (IntKind.wrap .i64 (x9 + (1:Int)))
 ((F_973 a4 (IntKind.wrap .i64 (x9 - x0)))).bind fun r11 =>
 let x12 : Bool := r11.2.2.1
 let x13 : Bool := ((bits .and .u64 r11.1 (1:Int)) == (1:Int))
 let x14 : Int := (IntKind.wrap .u64 (r11.1 + (1:Int)))
 bif x12 then
 bif r11.2.1 then
 ((F_974 a1 a2 x13 r11.2.1 true)).bind fun r15 =>
 let x16 : Int := (bif r15 then x14 else r11.1)
 let x17 : Bool := (x16 == x3)
 let x18 : Int := (bif x17 then (x16 / (2:Int)) else x16)
 bif (decide ((0:Int) ≤ (IntKind.wrap .i64 (r2.2.1 + (1:Int))))) then
 bif (decide ((0:Int) ≤ r2.2.1)) then
 bif (decide (x18 < (IntKind.wrap .u64 ((1:Int) * ((2:Int) ^ (Min.min x4 (64:Nat))))))) then
 ((F_955 a0 a2)).bind fun r19 =>
 (some ((bits .or .u32 r19 (IntKind.wrap .u32 x18)), ((false, (false, (false, ((decide ((bif (a4 == (0:Int)) then (-(20000:Int)) else (IntKind.wrap .i64 ((IntKind.wrap .i64 (x0 + r8)) - (1:Int)))) < (IntKind.wrap .i64 ((1:Int) - r7)))), (true, ()))))), ())))
 else
 ((F_971 a0)).bind fun r20 =>
 ((F_922 a0)).bind fun r21 =>
 bif (decide ((0:Int) ≤ r21.1)) then
 bif (decide ((IntKind.wrap .i64 ((IntKind.wrap .i64 ((bif x17 then x10 else x9) + r2.2.1)) + r20)) ≥ (IntKind.wrap .i64 ((IntKind.wrap .i64 ((1:Int) * ((2:Int) ^ (Min.min (Int.toNat r21.1) (64:Nat))))) - (1:Int))))) then
 ((F_975 a0 a1 a2)).bind fun r22 =>
 (some (r22, ((false, (false, (true, (false, (true, ()))))), ())))
 else
 ((F_955 a0 a2)).bind fun r23 =>
 bif (decide ((0:Int) ≤ r2.2.1)) then
 bif (decide ((0:Int) ≤ r2.2.1)) then
 (some ((bits .or .u32 (bits .or .u32 r23 (IntKind.wrap .u32 ((IntKind.wrap .u32 (IntKind.wrap .i64 ((IntKind.wrap .i64 ((bif x17 then x10 else x9) + r2.2.1)) + r20))) * x5))) (IntKind.wrap .u32 (bits .and .u64 x18 x6))), ((false, (false, (false, ((decide ((bif (a4 == (0:Int)) then (-(20000:Int)) else (IntKind.wrap .i64 ((IntKind.wrap .i64 (x0 + r8)) - (1:Int)))) < (IntKind.wrap .i64 ((1:Int) - r7)))), (true, ()))))), ())))
 else
 none
 else
 none
 else
 none
 else
 none
 else
 none
 else
 ((F_974 a1 a2 x13 r11.2.1 true)).bind fun r24 =>
 let x25 : Int := (bif r24 then x14 else r11.1)
 let x26 : Bool := (x25 == x3)
 let x27 : Int := (bif x26 then (x25 / (2:Int)) else x25)
 bif (decide ((0:Int) ≤ (IntKind.wrap .i64 (r2.2.1 + (1:Int))))) then
 bif (decide ((0:Int) ≤ r2.2.1)) then
 bif (decide (x27 < (IntKind.wrap .u64 ((1:Int) * ((2:Int) ^ (Min.min x4 (64:Nat))))))) then
 ((F_955 a0 a2)).bind fun r28 =>
 (some ((bits .or .u32 r28 (IntKind.wrap .u32 x27)), ((false, (false, (false, ((decide ((bif (a4 == (0:Int)) then (-(20000:Int)) else (IntKind.wrap .i64 ((IntKind.wrap .i64 (x0 + r8)) - (1:Int)))) < (IntKind.wrap .i64 ((1:Int) - r7)))), (true, ()))))), ())))
 else
 ((F_971 a0)).bind fun r29 =>
 ((F_922 a0)).bind fun r30 =>
 bif (decide ((0:Int) ≤ r30.1)) then
 bif (decide ((IntKind.wrap .i64 ((IntKind.wrap .i64 ((bif x26 then x10 else x9) + r2.2.1)) + r29)) ≥ (IntKind.wrap .i64 ((IntKind.wrap .i64 ((1:Int) * ((2:Int) ^ (Min.min (Int.toNat r30.1) (64:Nat))))) - (1:Int))))) then
 ((F_975 a0 a1 a2)).bind fun r31 =>
 (some (r31, ((false, (false, (true, (false, (true, ()))))), ())))
 else
 ((F_955 a0 a2)).bind fun r32 =>
 bif (decide ((0:Int) ≤ r2.2.1)) then
 bif (decide ((0:Int) ≤ r2.2.1)) then
 (some ((bits .or .u32 (bits .or .u32 r32 (IntKind.wrap .u32 ((IntKind.wrap .u32 (IntKind.wrap .i64 ((IntKind.wrap .i64 ((bif x26 then x10 else x9) + r2.2.1)) + r29))) * x5))) (IntKind.wrap .u32 (bits .and .u64 x27 x6))), ((false, (false, (false, ((decide ((bif (a4 == (0:Int)) then (-(20000:Int)) else (IntKind.wrap .i64 ((IntKind.wrap .i64 (x0 + r8)) - (1:Int)))) < (IntKind.wrap .i64 ((1:Int) - r7)))), (true, ()))))), ())))
 else
 none
 else
 none
 else
 none
 else
 none
 else
 none
 else
 bif r11.2.1 then
 ((F_974 a1 a2 x13 r11.2.1 a5)).bind fun r33 =>
 let x34 : Int := (bif r33 then x14 else r11.1)
 let x35 : Bool := (x34 == x3)
 let x36 : Int := (bif x35 then (x34 / (2:Int)) else x34)
 bif (decide ((0:Int) ≤ (IntKind.wrap .i64 (r2.2.1 + (1:Int))))) then
 bif (decide ((0:Int) ≤ r2.2.1)) then
 bif (decide (x36 < (IntKind.wrap .u64 ((1:Int) * ((2:Int) ^ (Min.min x4 (64:Nat))))))) then
 ((F_955 a0 a2)).bind fun r37 =>
 (some ((bits .or .u32 r37 (IntKind.wrap .u32 x36)), ((false, (false, (false, ((decide ((bif (a4 == (0:Int)) then (-(20000:Int)) else (IntKind.wrap .i64 ((IntKind.wrap .i64 (x0 + r8)) - (1:Int)))) < (IntKind.wrap .i64 ((1:Int) - r7)))), (true, ()))))), ())))
 else
 ((F_971 a0)).bind fun r38 =>
 ((F_922 a0)).bind fun r39 =>
 bif (decide ((0:Int) ≤ r39.1)) then
 bif (decide ((IntKind.wrap .i64 ((IntKind.wrap .i64 ((bif x35 then x10 else x9) + r2.2.1)) + r38)) ≥ (IntKind.wrap .i64 ((IntKind.wrap .i64 ((1:Int) * ((2:Int) ^ (Min.min (Int.toNat r39.1) (64:Nat))))) - (1:Int))))) then
 ((F_975 a0 a1 a2)).bind fun r40 =>
 (some (r40, ((false, (false, (true, (false, (true, ()))))), ())))
 else
 ((F_955 a0 a2)).bind fun r41 =>
 bif (decide ((0:Int) ≤ r2.2.1)) then
 bif (decide ((0:Int) ≤ r2.2.1)) then
 (some ((bits .or .u32 (bits .or .u32 r41 (IntKind.wrap .u32 ((IntKind.wrap .u32 (IntKind.wrap .i64 ((IntKind.wrap .i64 ((bif x35 then x10 else x9) + r2.2.1)) + r38))) * x5))) (IntKind.wrap .u32 (bits .and .u64 x36 x6))), ((false, (false, (false, ((decide ((bif (a4 == (0:Int)) then (-(20000:Int)) else (IntKind.wrap .i64 ((IntKind.wrap .i64 (x0 + r8)) - (1:Int)))) < (IntKind.wrap .i64 ((1:Int) - r7)))), (true, ()))))), ())))
 else
 none
 else
 none
 else
 none
 else
 none
 else
 none
 else
 ((F_974 a1 a2 x13 r11.2.1 a5)).bind fun r42 =>
 let x43 : Int := (bif r42 then x14 else r11.1)
 let x44 : Bool := (x43 == x3)
 let x45 : Int := (bif x44 then (x43 / (2:Int)) else x43)
 let x46 : Int := (IntKind.wrap .u32 x45)
 let x47 : Int := (IntKind.wrap .i64 ((bif x44 then x10 else x9) + r2.2.1))
 let x48 : Int := (IntKind.wrap .u32 (bits .and .u64 x45 x6))
 bif a5 then
 bif (decide ((0:Int) ≤ (IntKind.wrap .i64 (r2.2.1 + (1:Int))))) then
 bif (decide ((0:Int) ≤ r2.2.1)) then
 bif (decide (x45 < (IntKind.wrap .u64 ((1:Int) * ((2:Int) ^ (Min.min x4 (64:Nat))))))) then
 ((F_955 a0 a2)).bind fun r49 =>
 (some ((bits .or .u32 r49 x46), ((false, (false, (false, ((decide ((bif (a4 == (0:Int)) then (-(20000:Int)) else (IntKind.wrap .i64 ((IntKind.wrap .i64 (x0 + r8)) - (1:Int)))) < (IntKind.wrap .i64 ((1:Int) - r7)))), (a5, ()))))), ())))
 else
 ((F_971 a0)).bind fun r50 =>
 ((F_922 a0)).bind fun r51 =>
 bif (decide ((0:Int) ≤ r51.1)) then
 bif (decide ((IntKind.wrap .i64 (x47 + r50)) ≥ (IntKind.wrap .i64 ((IntKind.wrap .i64 ((1:Int) * ((2:Int) ^ (Min.min (Int.toNat r51.1) (64:Nat))))) - (1:Int))))) then
 ((F_975 a0 a1 a2)).bind fun r52 =>
 (some (r52, ((false, (false, (true, (false, (true, ()))))), ())))
 else
 ((F_955 a0 a2)).bind fun r53 =>
 bif (decide ((0:Int) ≤ r2.2.1)) then
 bif (decide ((0:Int) ≤ r2.2.1)) then
 (some ((bits .or .u32 (bits .or .u32 r53 (IntKind.wrap .u32 ((IntKind.wrap .u32 (IntKind.wrap .i64 (x47 + r50))) * x5))) x48), ((false, (false, (false, ((decide ((bif (a4 == (0:Int)) then (-(20000:Int)) else (IntKind.wrap .i64 ((IntKind.wrap .i64 (x0 + r8)) - (1:Int)))) < (IntKind.wrap .i64 ((1:Int) - r7)))), (a5, ()))))), ())))
 else
 none
 else
 none
 else
 none
 else
 none
 else
 none
 else
 bif (decide ((0:Int) ≤ (IntKind.wrap .i64 (r2.2.1 + (1:Int))))) then
 bif (decide ((0:Int) ≤ r2.2.1)) then
 bif (decide (x45 < (IntKind.wrap .u64 ((1:Int) * ((2:Int) ^ (Min.min x4 (64:Nat))))))) then
 ((F_955 a0 a2)).bind fun r54 =>
 (some ((bits .or .u32 r54 x46), ((false, (false, (false, (false, (a5, ()))))), ())))
 else
 ((F_971 a0)).bind fun r55 =>
 ((F_922 a0)).bind fun r56 =>
 bif (decide ((0:Int) ≤ r56.1)) then
 bif (decide ((IntKind.wrap .i64 (x47 + r55)) ≥ (IntKind.wrap .i64 ((IntKind.wrap .i64 ((1:Int) * ((2:Int) ^ (Min.min (Int.toNat r56.1) (64:Nat))))) - (1:Int))))) then
 ((F_975 a0 a1 a2)).bind fun r57 =>
 (some (r57, ((false, (false, (true, (false, (true, ()))))), ())))
 else
 ((F_955 a0 a2)).bind fun r58 =>
 bif (decide ((0:Int) ≤ r2.2.1)) then
 bif (decide ((0:Int) ≤ r2.2.1)) then
 (some ((bits .or .u32 (bits .or .u32 r58 (IntKind.wrap .u32 ((IntKind.wrap .u32 (IntKind.wrap .i64 (x47 + r55))) * x5))) x48), ((false, (false, (false, (false, (a5, ()))))), ())))
 else
 none
 else
 none
 else
 none
 else
 none
 else
 none
 else
 ((F_922 a0)).bind fun r59 =>
 let x60 : Int := (IntKind.wrap .u64 ((1:Int) * ((2:Int) ^ (Min.min (Int.toNat (IntKind.wrap .i64 (r59.2.1 + (1:Int)))) (64:Nat)))))
 let x61 : Nat := (Int.toNat r59.2.1)
 let x62 : Int := ((2:Int) ^ (Min.min x61 (32:Nat)))
 let x63 : Int := (IntKind.wrap .u64 ((IntKind.wrap .u64 ((1:Int) * ((2:Int) ^ (Min.min x61 (64:Nat))))) - (1:Int)))
 ((F_971 a0)).bind fun r64 =>
 ((F_972 a4)).bind fun r65 =>
 let x66 : Int := (IntKind.wrap .i64 ((mx (bif (a4 == (0:Int)) then (-(20000:Int)) else (IntKind.wrap .i64 ((IntKind.wrap .i64 (x0 + r65)) - (1:Int)))) (IntKind.wrap .i64 ((1:Int) - r64))) - r59.2.1))
 let x67 : Int := (IntKind.wrap .i64 (x66 + (1:Int)))
 ((F_973 a4 (IntKind.wrap .i64 (x66 - x0)))).bind fun r68 =>
 let x69 : Bool := r68.2.2.1
 let x70 : Bool := ((bits .and .u64 r68.1 (1:Int)) == (1:Int))
 let x71 : Int := (IntKind.wrap .u64 (r68.1 + (1:Int)))
 bif x69 then
 bif r68.2.1 then
 ((F_974 a1 a2 x70 r68.2.1 true)).bind fun r72 =>
 let x73 : Int := (bif r72 then x71 else r68.1)
 let x74 : Bool := (x73 == x60)
 let x75 : Int := (bif x74 then (x73 / (2:Int)) else x73)
 bif (decide ((0:Int) ≤ (IntKind.wrap .i64 (r59.2.1 + (1:Int))))) then
 bif (decide ((0:Int) ≤ r59.2.1)) then
 bif (decide (x75 < (IntKind.wrap .u64 ((1:Int) * ((2:Int) ^ (Min.min x61 (64:Nat))))))) then
 ((F_955 a0 a2)).bind fun r76 =>
 (some ((bits .or .u32 r76 (IntKind.wrap .u32 x75)), ((false, (false, (false, ((decide ((bif (a4 == (0:Int)) then (-(20000:Int)) else (IntKind.wrap .i64 ((IntKind.wrap .i64 (x0 + r65)) - (1:Int)))) < (IntKind.wrap .i64 ((1:Int) - r64)))), (true, ()))))), ())))
 else
 ((F_971 a0)).bind fun r77 =>
 ((F_922 a0)).bind fun r78 =>
 bif (decide ((0:Int) ≤ r78.1)) then
 bif (decide ((IntKind.wrap .i64 ((IntKind.wrap .i64 ((bif x74 then x67 else x66) + r59.2.1)) + r77)) ≥ (IntKind.wrap .i64 ((IntKind.wrap .i64 ((1:Int) * ((2:Int) ^ (Min.min (Int.toNat r78.1) (64:Nat))))) - (1:Int))))) then
 ((F_975 a0 a1 a2)).bind fun r79 =>
 (some (r79, ((false, (false, (true, (false, (true, ()))))), ())))
 else
 ((F_955 a0 a2)).bind fun r80 =>
 bif (decide ((0:Int) ≤ r59.2.1)) then
 bif (decide ((0:Int) ≤ r59.2.1)) then
 (some ((bits .or .u32 (bits .or .u32 r80 (IntKind.wrap .u32 ((IntKind.wrap .u32 (IntKind.wrap .i64 ((IntKind.wrap .i64 ((bif x74 then x67 else x66) + r59.2.1)) + r77))) * x62))) (IntKind.wrap .u32 (bits .and .u64 x75 x63))), ((false, (false, (false, ((decide ((bif (a4 == (0:Int)) then (-(20000:Int)) else (IntKind.wrap .i64 ((IntKind.wrap .i64 (x0 + r65)) - (1:Int)))) < (IntKind.wrap .i64 ((1:Int) - r64)))), (true, ()))))), ())))
 else
 none
 else
 none
 else
 none
 else
 none
 else
 none
 else
 ((F_974 a1 a2 x70 r68.2.1 true)).bind fun r81 =>
 let x82 : Int := (bif r81 then x71 else r68.1)
 let x83 : Bool := (x82 == x60)
 let x84 : Int := (bif x83 then (x82 / (2:Int)) else x82)
 bif (decide ((0:Int) ≤ (IntKind.wrap .i64 (r59.2.1 + (1:Int))))) then
 bif (decide ((0:Int) ≤ r59.2.1)) then
 bif (decide (x84 < (IntKind.wrap .u64 ((1:Int) * ((2:Int) ^ (Min.min x61 (64:Nat))))))) then
 ((F_955 a0 a2)).bind fun r85 =>
 (some ((bits .or .u32 r85 (IntKind.wrap .u32 x84)), ((false, (false, (false, ((decide ((bif (a4 == (0:Int)) then (-(20000:Int)) else (IntKind.wrap .i64 ((IntKind.wrap .i64 (x0 + r65)) - (1:Int)))) < (IntKind.wrap .i64 ((1:Int) - r64)))), (true, ()))))), ())))
 else
 ((F_971 a0)).bind fun r86 =>
 ((F_922 a0)).bind fun r87 =>
 bif (decide ((0:Int) ≤ r87.1)) then
 bif (decide ((IntKind.wrap .i64 ((IntKind.wrap .i64 ((bif x83 then x67 else x66) + r59.2.1)) + r86)) ≥ (IntKind.wrap .i64 ((IntKind.wrap .i64 ((1:Int) * ((2:Int) ^ (Min.min (Int.toNat r87.1) (64:Nat))))) - (1:Int))))) then
 ((F_975 a0 a1 a2)).bind fun r88 =>
 (some (r88, ((false, (false, (true, (false, (true, ()))))), ())))
 else
 ((F_955 a0 a2)).bind fun r89 =>
 bif (decide ((0:Int) ≤ r59.2.1)) then
 bif (decide ((0:Int) ≤ r59.2.1)) then
 (some ((bits .or .u32 (bits .or .u32 r89 (IntKind.wrap .u32 ((IntKind.wrap .u32 (IntKind.wrap .i64 ((IntKind.wrap .i64 ((bif x83 then x67 else x66) + r59.2.1)) + r86))) * x62))) (IntKind.wrap .u32 (bits .and .u64 x84 x63))), ((false, (false, (false, ((decide ((bif (a4 == (0:Int)) then (-(20000:Int)) else (IntKind.wrap .i64 ((IntKind.wrap .i64 (x0 + r65)) - (1:Int)))) < (IntKind.wrap .i64 ((1:Int) - r64)))), (true, ()))))), ())))
 else
 none
 else
 none
 else
 none
 else
 none
 else
 none
 else
 bif r68.2.1 then
 ((F_974 a1 a2 x70 r68.2.1 a5)).bind fun r90 =>
 let x91 : Int := (bif r90 then x71 else r68.1)
 let x92 : Bool := (x91 == x60)
 let x93 : Int := (bif x92 then (x91 / (2:Int)) else x91)
 bif (decide ((0:Int) ≤ (IntKind.wrap .i64 (r59.2.1 + (1:Int))))) then
 bif (decide ((0:Int) ≤ r59.2.1)) then
 bif (decide (x93 < (IntKind.wrap .u64 ((1:Int) * ((2:Int) ^ (Min.min x61 (64:Nat))))))) then
 ((F_955 a0 a2)).bind fun r94 =>
 (some ((bits .or .u32 r94 (IntKind.wrap .u32 x93)), ((false, (false, (false, ((decide ((bif (a4 == (0:Int)) then (-(20000:Int)) else (IntKind.wrap .i64 ((IntKind.wrap .i64 (x0 + r65)) - (1:Int)))) < (IntKind.wrap .i64 ((1:Int) - r64)))), (true, ()))))), ())))
 else
 ((F_971 a0)).bind fun r95 =>
 ((F_922 a0)).bind fun r96 =>
 bif (decide ((0:Int) ≤ r96.1)) then
 bif (decide ((IntKind.wrap .i64 ((IntKind.wrap .i64 ((bif x92 then x67 else x66) + r59.2.1)) + r95)) ≥ (IntKind.wrap .i64 ((IntKind.wrap .i64 ((1:Int) * ((2:Int) ^ (Min.min (Int.toNat r96.1) (64:Nat))))) - (1:Int))))) then
 ((F_975 a0 a1 a2)).bind fun r97 =>
 (some (r97, ((false, (false, (true, (false, (true, ()))))), ())))
 else
 ((F_955 a0 a2)).bind fun r98 =>
 bif (decide ((0:Int) ≤ r59.2.1)) then
 bif (decide ((0:Int) ≤ r59.2.1)) then
 (some ((bits .or .u32 (bits .or .u32 r98 (IntKind.wrap .u32 ((IntKind.wrap .u32 (IntKind.wrap .i64 ((IntKind.wrap .i64 ((bif x92 then x67 else x66) + r59.2.1)) + r95))) * x62))) (IntKind.wrap .u32 (bits .and .u64 x93 x63))), ((false, (false, (false, ((decide ((bif (a4 == (0:Int)) then (-(20000:Int)) else (IntKind.wrap .i64 ((IntKind.wrap .i64 (x0 + r65)) - (1:Int)))) < (IntKind.wrap .i64 ((1:Int) - r64)))), (true, ()))))), ())))
 else
 none
 else
 none
 else
 none
 else
 none
 else
 none
 else
 ((F_974 a1 a2 x70 r68.2.1 a5)).bind fun r99 =>
 let x100 : Int := (bif r99 then x71 else r68.1)
 let x101 : Bool := (x100 == x60)
 let x102 : Int := (bif x101 then (x100 / (2:Int)) else x100)
 let x103 : Int := (IntKind.wrap .u32 x102)
 let x104 : Int := (IntKind.wrap .i64 ((bif x101 then x67 else x66) + r59.2.1))
 let x105 : Int := (IntKind.wrap .u32 (bits .and .u64 x102 x63))
 bif a5 then
 bif (decide ((0:Int) ≤ (IntKind.wrap .i64 (r59.2.1 + (1:Int))))) then
 bif (decide ((0:Int) ≤ r59.2.1)) then
 bif (decide (x102 < (IntKind.wrap .u64 ((1:Int) * ((2:Int) ^ (Min.min x61 (64:Nat))))))) then
 ((F_955 a0 a2)).bind fun r106 =>
 (some ((bits .or .u32 r106 x103), ((false, (false, (false, ((decide ((bif (a4 == (0:Int)) then (-(20000:Int)) else (IntKind.wrap .i64 ((IntKind.wrap .i64 (x0 + r65)) - (1:Int)))) < (IntKind.wrap .i64 ((1:Int) - r64)))), (a5, ()))))), ())))
 else
 ((F_971 a0)).bind fun r107 =>
 ((F_922 a0)).bind fun r108 =>
 bif (decide ((0:Int) ≤ r108.1)) then
 bif (decide ((IntKind.wrap .i64 (x104 + r107)) ≥ (IntKind.wrap .i64 ((IntKind.wrap .i64 ((1:Int) * ((2:Int) ^ (Min.min (Int.toNat r108.1) (64:Nat))))) - (1:Int))))) then
 ((F_975 a0 a1 a2)).bind fun r109 =>
 (some (r109, ((false, (false, (true, (false, (true, ()))))), ())))
 else
 ((F_955 a0 a2)).bind fun r110 =>
 bif (decide ((0:Int) ≤ r59.2.1)) then
 bif (decide ((0:Int) ≤ r59.2.1)) then
 (some ((bits .or .u32 (bits .or .u32 r110 (IntKind.wrap .u32 ((IntKind.wrap .u32 (IntKind.wrap .i64 (x104 + r107))) * x62))) x105), ((false, (false, (false, ((decide ((bif (a4 == (0:Int)) then (-(20000:Int)) else (IntKind.wrap .i64 ((IntKind.wrap .i64 (x0 + r65)) - (1:Int)))) < (IntKind.wrap .i64 ((1:Int) - r64)))), (a5, ()))))), ())))
 else
 none
 else
 none
 else
 none
 else
 none
 else
 none
 else
 bif (decide ((0:Int) ≤ (IntKind.wrap .i64 (r59.2.1 + (1:Int))))) then
 bif (decide ((0:Int) ≤ r59.2.1)) then
 bif (decide (x102 < (IntKind.wrap .u64 ((1:Int) * ((2:Int) ^ (Min.min x61 (64:Nat))))))) then
 ((F_955 a0 a2)).bind fun r111 =>
 (some ((bits .or .u32 r111 x103), ((false, (false, (false, (false, (a5, ()))))), ())))
 else
 ((F_971 a0)).bind fun r112 =>
 ((F_922 a0)).bind fun r113 =>
 bif (decide ((0:Int) ≤ r113.1)) then
 bif (decide ((IntKind.wrap .i64 (x104 + r112)) ≥ (IntKind.wrap .i64 ((IntKind.wrap .i64 ((1:Int) * ((2:Int) ^ (Min.min (Int.toNat r113.1) (64:Nat))))) - (1:Int))))) then
 ((F_975 a0 a1 a2)).bind fun r114 =>
 (some (r114, ((false, (false, (true, (false, (true, ()))))), ())))
 else
 ((F_955 a0 a2)).bind fun r115 =>
 bif (decide ((0:Int) ≤ r59.2.1)) then
 bif (decide ((0:Int) ≤ r59.2.1)) then
 (some ((bits .or .u32 (bits .or .u32 r115 (IntKind.wrap .u32 ((IntKind.wrap .u32 (IntKind.wrap .i64 (x104 + r112))) * x62))) x105), ((false, (false, (false, (false, (a5, ()))))), ())))
 else
 none
 else
 none
 else
 none
 else
 none
 else
 none
noncomputable def G_946 : T fa_946 → TH hN0 → Option (Int × (Bool × Bool × Bool × Bool × Bool × Unit) × Unit) := fun x y => F_946 x.1 x.2.1 x.2.2.1 x.2.2.2.1 x.2.2.2.2.1 x.2.2.2.2.2.1
noncomputable def c_946 : Orc := ent i_946 [] 0 (sp fa_946 hN0 fr_946 hN0 G_946 (outN fr_946))
theorem ok_946 : OrcOk PR c_946 := fnT okO_946 mixed p_946 (by kernel_rfl) (by kernel_rfl) (L := L0) (kp := false) (by kernel_rfl) (inn := (innN fr_946)) (out := (outN fr_946)) (fun _ _ => rfl) (loopsL (l := []) (by kernel_rfl) trivial) (fun x y => by kernel_rfl)
end Go.Proofs.YtfpjkmgfkaoapaaGreat.VI
