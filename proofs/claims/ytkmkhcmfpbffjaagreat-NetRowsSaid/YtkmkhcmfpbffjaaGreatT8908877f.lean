import Derived.Test.YtkmkhcmfpbffjaaGreatTcd42cf8a
namespace Go.Proofs.YtkmkhcmfpbffjaaGreat.VI
set_option linter.unusedVariables false
set_option linter.unusedSimpArgs false
set_option maxRecDepth 100000
noncomputable def O_972 : Orc := orn
theorem okO_972 : OrcOk PR O_972 := (orn_ok _)
abbrev fa_972 : Fm := (.pair (.i .i64) .unit)
abbrev fr_972 : Fm := (.tup (.pair (.i .i64) (.pair (.i .i64) .unit)))
noncomputable def F_972 (a0 : Int) : Option (Int × Int × Unit) :=
 bif (a0 == (0:Int)) then
 (some ((5:Int), ((10:Int), ())))
 else
 bif (a0 == (1:Int)) then
 (some ((8:Int), ((7:Int), ())))
 else
 (some ((8:Int), ((23:Int), ())))
noncomputable def G_972 : T fa_972 → TH hN0 → Option (Int × Int × Unit) := fun x y => F_972 x.1
noncomputable def c_972 : Orc := ent i_972 [] 0 (sp fa_972 hN0 fr_972 hN0 G_972 (outN fr_972))
theorem ok_972 : OrcOk PR c_972 := fnT okO_972 mixed p_972 (by kernel_rfl) (by kernel_rfl) (L := L0) (kp := false) (by kernel_rfl) (inn := (innN fr_972)) (out := (outN fr_972)) (fun _ _ => rfl) (loopsL (l := []) (by kernel_rfl) trivial) (fun x y => by kernel_rfl)
noncomputable def O_971 : Orc := c_972
theorem okO_971 : OrcOk PR O_971 := ok_972
abbrev fa_971 : Fm := (.pair (.i .i64) (.pair (.i .u32) .unit))
abbrev fr_971 : Fm := (.tup (.pair .b (.pair (.i .i64) (.pair (.i .u32) .unit))))
noncomputable def F_971 (a0 : Int) (a1 : Int) : Option (Bool × Int × Int × Unit) :=
 ((F_972 a0)).bind fun r0 =>
 let x1 : Int := ((2:Int) ^ (Min.min (Int.toNat (IntKind.wrap .u64 r0.2.1)) (32:Nat)))
 bif (decide ((0:Int) ≤ (IntKind.wrap .u64 (IntKind.wrap .i64 (r0.1 + r0.2.1))))) then
 bif (decide ((0:Int) ≤ (IntKind.wrap .u64 r0.2.1))) then
 bif (decide ((0:Int) ≤ (IntKind.wrap .u64 r0.1))) then
 bif (decide ((0:Int) ≤ (IntKind.wrap .u64 r0.2.1))) then
 (some (((bits .and .u32 (a1 / ((2:Int) ^ (Min.min (Int.toNat (IntKind.wrap .u64 (IntKind.wrap .i64 (r0.1 + r0.2.1)))) (32:Nat)))) (1:Int)) == (1:Int)), ((IntKind.wrap .i64 (bits .and .u32 (a1 / x1) (IntKind.wrap .u32 ((IntKind.wrap .u32 ((1:Int) * ((2:Int) ^ (Min.min (Int.toNat (IntKind.wrap .u64 r0.1)) (32:Nat))))) - (1:Int))))), ((bits .and .u32 a1 (IntKind.wrap .u32 ((IntKind.wrap .u32 ((1:Int) * x1)) - (1:Int)))), ()))))
 else
 none
 else
 none
 else
 none
 else
 none
noncomputable def G_971 : T fa_971 → TH hN0 → Option (Bool × Int × Int × Unit) := fun x y => F_971 x.1 x.2.1
noncomputable def c_971 : Orc := ent i_971 [] 0 (sp fa_971 hN0 fr_971 hN0 G_971 (outN fr_971))
theorem ok_971 : OrcOk PR c_971 := fnT okO_971 mixed p_971 (by kernel_rfl) (by kernel_rfl) (L := L0) (kp := false) (by kernel_rfl) (inn := (innN fr_971)) (out := (outN fr_971)) (fun _ _ => rfl) (loopsL (l := []) (by kernel_rfl) trivial) (fun x y => by kernel_rfl)
noncomputable def O_970 : Orc := c_972
theorem okO_970 : OrcOk PR O_970 := ok_972
abbrev fa_970 : Fm := (.pair (.i .i64) .unit)
abbrev fr_970 : Fm := (.i .i64)
noncomputable def F_970 (a0 : Int) : Option (Int) :=
 ((F_972 a0)).bind fun r0 =>
 bif (decide ((0:Int) ≤ (IntKind.wrap .u64 r0.1))) then
 (some (IntKind.wrap .i64 ((IntKind.wrap .i64 ((1:Int) * ((2:Int) ^ (Min.min (Int.toNat (IntKind.wrap .u64 r0.1)) (64:Nat))))) - (1:Int))))
 else
 none
noncomputable def G_970 : T fa_970 → TH hN0 → Option (Int) := fun x y => F_970 x.1
noncomputable def c_970 : Orc := ent i_970 [] 0 (sp fa_970 hN0 fr_970 hN0 G_970 (outN fr_970))
theorem ok_970 : OrcOk PR c_970 := fnT okO_970 mixed p_970 (by kernel_rfl) (by kernel_rfl) (L := L0) (kp := false) (by kernel_rfl) (inn := (innN fr_970)) (out := (outN fr_970)) (fun _ _ => rfl) (loopsL (l := []) (by kernel_rfl) trivial) (fun x y => by kernel_rfl)
noncomputable def O_96e : Orc := (orm c_972 (orm c_971 c_970))
theorem okO_96e : OrcOk PR O_96e := (orm_ok ok_972 (orm_ok ok_971 ok_970))
abbrev fa_96e : Fm := (.pair (.i .i64) (.pair (.i .u32) .unit))
abbrev fr_96e : Fm := (.i .i64)
noncomputable def F_96e (a0 : Int) (a1 : Int) : Option (Int) :=
 ((F_972 a0)).bind fun r0 =>
 ((F_971 a0 a1)).bind fun r1 =>
 let x2 : Bool := (r1.2.1 == (0:Int))
 let x3 : Int := r1.2.2.1
 let x4 : Bool := (x3 == (0:Int))
 let x5 : Bool := ((x3 / ((2:Int) ^ (Min.min (Int.toNat (IntKind.wrap .u64 (IntKind.wrap .i64 (r0.2.1 - (1:Int))))) (32:Nat)))) == (1:Int))
 bif x2 then
 bif x4 then
 (some (0:Int))
 else
 bif x2 then
 (some (1:Int))
 else
 ((F_970 a0)).bind fun r6 =>
 bif (decide (r1.2.1 < r6)) then
 (some (2:Int))
 else
 bif x4 then
 (some (3:Int))
 else
 bif (decide ((0:Int) ≤ (IntKind.wrap .u64 (IntKind.wrap .i64 (r0.2.1 - (1:Int)))))) then
 bif x5 then
 (some (4:Int))
 else
 (some (5:Int))
 else
 none
 else
 bif x2 then
 (some (1:Int))
 else
 ((F_970 a0)).bind fun r7 =>
 bif (decide (r1.2.1 < r7)) then
 (some (2:Int))
 else
 bif x4 then
 (some (3:Int))
 else
 bif (decide ((0:Int) ≤ (IntKind.wrap .u64 (IntKind.wrap .i64 (r0.2.1 - (1:Int)))))) then
 bif x5 then
 (some (4:Int))
 else
 (some (5:Int))
 else
 none
noncomputable def G_96e : T fa_96e → TH hN0 → Option (Int) := fun x y => F_96e x.1 x.2.1
noncomputable def c_96e : Orc := ent i_96e [] 0 (sp fa_96e hN0 fr_96e hN0 G_96e (outN fr_96e))
theorem ok_96e : OrcOk PR c_96e := fnT okO_96e mixed p_96e (by kernel_rfl) (by kernel_rfl) (L := L0) (kp := false) (by kernel_rfl) (inn := (innN fr_96e)) (out := (outN fr_96e)) (fun _ _ => rfl) (loopsL (l := []) (by kernel_rfl) trivial) (fun x y => by kernel_rfl)
noncomputable def O_96c : Orc := c_96e
theorem okO_96c : OrcOk PR O_96c := ok_96e
abbrev fa_96c : Fm := (.pair (.i .i64) (.pair (.i .u32) .unit))
abbrev fr_96c : Fm := .b
noncomputable def F_96c (a0 : Int) (a1 : Int) : Option (Bool) :=
 ((F_96e a0 a1)).bind fun r0 =>
 (some (decide (r0 ≥ (4:Int))))
noncomputable def G_96c : T fa_96c → TH hN0 → Option (Bool) := fun x y => F_96c x.1 x.2.1
noncomputable def c_96c : Orc := ent i_96c [] 0 (sp fa_96c hN0 fr_96c hN0 G_96c (outN fr_96c))
theorem ok_96c : OrcOk PR c_96c := fnT okO_96c mixed p_96c (by kernel_rfl) (by kernel_rfl) (L := L0) (kp := false) (by kernel_rfl) (inn := (innN fr_96c)) (out := (outN fr_96c)) (fun _ _ => rfl) (loopsL (l := []) (by kernel_rfl) trivial) (fun x y => by kernel_rfl)
noncomputable def O_97f : Orc := c_972
theorem okO_97f : OrcOk PR O_97f := ok_972
abbrev fa_97f : Fm := (.pair (.i .i64) .unit)
abbrev fr_97f : Fm := (.i .u32)
noncomputable def F_97f (a0 : Int) : Option (Int) :=
 ((F_972 a0)).bind fun r0 =>
 bif (decide ((0:Int) ≤ (IntKind.wrap .u64 (IntKind.wrap .i64 ((IntKind.wrap .i64 (r0.1 + r0.2.1)) + (1:Int)))))) then
 (some (IntKind.wrap .u32 ((IntKind.wrap .u32 ((1:Int) * ((2:Int) ^ (Min.min (Int.toNat (IntKind.wrap .u64 (IntKind.wrap .i64 ((IntKind.wrap .i64 (r0.1 + r0.2.1)) + (1:Int))))) (32:Nat))))) - (1:Int))))
 else
 none
noncomputable def G_97f : T fa_97f → TH hN0 → Option (Int) := fun x y => F_97f x.1
noncomputable def c_97f : Orc := ent i_97f [] 0 (sp fa_97f hN0 fr_97f hN0 G_97f (outN fr_97f))
theorem ok_97f : OrcOk PR c_97f := fnT okO_97f mixed p_97f (by kernel_rfl) (by kernel_rfl) (L := L0) (kp := false) (by kernel_rfl) (inn := (innN fr_97f)) (out := (outN fr_97f)) (fun _ _ => rfl) (loopsL (l := []) (by kernel_rfl) trivial) (fun x y => by kernel_rfl)
noncomputable def O_941 : Orc := c_971
theorem okO_941 : OrcOk PR O_941 := ok_971
abbrev fa_941 : Fm := (.pair (.i .i64) (.pair (.i .u32) .unit))
abbrev fr_941 : Fm := .b
noncomputable def F_941 (a0 : Int) (a1 : Int) : Option (Bool) :=
 ((F_971 a0 a1)).bind fun r0 =>
 (some r0.1)
noncomputable def G_941 : T fa_941 → TH hN0 → Option (Bool) := fun x y => F_941 x.1 x.2.1
noncomputable def c_941 : Orc := ent i_941 [] 0 (sp fa_941 hN0 fr_941 hN0 G_941 (outN fr_941))
theorem ok_941 : OrcOk PR c_941 := fnT okO_941 mixed p_941 (by kernel_rfl) (by kernel_rfl) (L := L0) (kp := false) (by kernel_rfl) (inn := (innN fr_941)) (out := (outN fr_941)) (fun _ _ => rfl) (loopsL (l := []) (by kernel_rfl) trivial) (fun x y => by kernel_rfl)
noncomputable def O_96b : Orc := (orm c_972 c_97f)
theorem okO_96b : OrcOk PR O_96b := (orm_ok ok_972 ok_97f)
abbrev fa_96b : Fm := (.pair (.i .i64) (.pair (.i .u32) .unit))
abbrev fr_96b : Fm := (.i .u32)
noncomputable def F_96b (a0 : Int) (a1 : Int) : Option (Int) :=
 ((F_972 a0)).bind fun r0 =>
 ((F_97f a0)).bind fun r1 =>
 bif (decide ((0:Int) ≤ (IntKind.wrap .u64 (IntKind.wrap .i64 (r0.1 + r0.2.1))))) then
 (some (bits .xor .u32 (bits .and .u32 a1 r1) (IntKind.wrap .u32 ((1:Int) * ((2:Int) ^ (Min.min (Int.toNat (IntKind.wrap .u64 (IntKind.wrap .i64 (r0.1 + r0.2.1)))) (32:Nat)))))))
 else
 none
noncomputable def G_96b : T fa_96b → TH hN0 → Option (Int) := fun x y => F_96b x.1 x.2.1
noncomputable def c_96b : Orc := ent i_96b [] 0 (sp fa_96b hN0 fr_96b hN0 G_96b (outN fr_96b))
theorem ok_96b : OrcOk PR c_96b := fnT okO_96b mixed p_96b (by kernel_rfl) (by kernel_rfl) (L := L0) (kp := false) (by kernel_rfl) (inn := (innN fr_96b)) (out := (outN fr_96b)) (fun _ _ => rfl) (loopsL (l := []) (by kernel_rfl) trivial) (fun x y => by kernel_rfl)
noncomputable def O_963 : Orc := (orm c_97f (orm c_941 c_96b))
theorem okO_963 : OrcOk PR O_963 := (orm_ok ok_97f (orm_ok ok_941 ok_96b))
abbrev fa_963 : Fm := (.pair (.i .i64) (.pair (.i .u32) .unit))
abbrev fr_963 : Fm := (.i .i64)
noncomputable def F_963 (a0 : Int) (a1 : Int) : Option (Int) :=
 ((F_97f a0)).bind fun r0 =>
 ((F_941 a0 a1)).bind fun r1 =>
 bif (!r1) then
 (some (IntKind.wrap .i64 (bits .and .u32 a1 r0)))
 else
 ((F_96b a0 a1)).bind fun r2 =>
 (some (IntKind.wrap .i64 ((-(1:Int)) - (IntKind.wrap .i64 r2))))
noncomputable def G_963 : T fa_963 → TH hN0 → Option (Int) := fun x y => F_963 x.1 x.2.1
noncomputable def c_963 : Orc := ent i_963 [] 0 (sp fa_963 hN0 fr_963 hN0 G_963 (outN fr_963))
theorem ok_963 : OrcOk PR c_963 := fnT okO_963 mixed p_963 (by kernel_rfl) (by kernel_rfl) (L := L0) (kp := false) (by kernel_rfl) (inn := (innN fr_963)) (out := (outN fr_963)) (fun _ _ => rfl) (loopsL (l := []) (by kernel_rfl) trivial) (fun x y => by kernel_rfl)
noncomputable def O_93f : Orc := c_96e
theorem okO_93f : OrcOk PR O_93f := ok_96e
abbrev fa_93f : Fm := (.pair (.i .i64) (.pair (.i .u32) .unit))
abbrev fr_93f : Fm := .b
noncomputable def F_93f (a0 : Int) (a1 : Int) : Option (Bool) :=
 ((F_96e a0 a1)).bind fun r0 =>
 (some (r0 == (0:Int)))
noncomputable def G_93f : T fa_93f → TH hN0 → Option (Bool) := fun x y => F_93f x.1 x.2.1
noncomputable def c_93f : Orc := ent i_93f [] 0 (sp fa_93f hN0 fr_93f hN0 G_93f (outN fr_93f))
theorem ok_93f : OrcOk PR c_93f := fnT okO_93f mixed p_93f (by kernel_rfl) (by kernel_rfl) (L := L0) (kp := false) (by kernel_rfl) (inn := (innN fr_93f)) (out := (outN fr_93f)) (fun _ _ => rfl) (loopsL (l := []) (by kernel_rfl) trivial) (fun x y => by kernel_rfl)
noncomputable def O_94a : Orc := (orm c_96c (orm c_963 c_93f))
theorem okO_94a : OrcOk PR O_94a := (orm_ok ok_96c (orm_ok ok_963 ok_93f))
abbrev fa_94a : Fm := (.pair (.i .i64) (.pair (.i .u32) (.pair (.i .u32) .unit)))
abbrev fr_94a : Fm := (.tup (.pair (.i .i64) (.pair .b .unit)))
noncomputable def F_94a (a0 : Int) (a1 : Int) (a2 : Int) : Option (Int × Bool × Unit) :=
 ((F_96c a0 a1)).bind fun r0 =>
 bif r0 then
 (some ((0:Int), (false, ())))
 else
 ((F_96c a0 a2)).bind fun r1 =>
 bif r1 then
 (some ((0:Int), (false, ())))
 else
 ((F_963 a0 a1)).bind fun r2 =>
 ((F_963 a0 a2)).bind fun r3 =>
 ((F_93f a0 a1)).bind fun r4 =>
 bif r4 then
 ((F_93f a0 a2)).bind fun r5 =>
 bif r5 then
 (some ((0:Int), (true, ())))
 else
 bif (decide (r2 < r3)) then
 (some ((-(1:Int)), (true, ())))
 else
 bif (decide (r2 > r3)) then
 (some ((1:Int), (true, ())))
 else
 (some ((0:Int), (true, ())))
 else
 bif (decide (r2 < r3)) then
 (some ((-(1:Int)), (true, ())))
 else
 bif (decide (r2 > r3)) then
 (some ((1:Int), (true, ())))
 else
 (some ((0:Int), (true, ())))
noncomputable def G_94a : T fa_94a → TH hN0 → Option (Int × Bool × Unit) := fun x y => F_94a x.1 x.2.1 x.2.2.1
noncomputable def c_94a : Orc := ent i_94a [] 0 (sp fa_94a hN0 fr_94a hN0 G_94a (outN fr_94a))
theorem ok_94a : OrcOk PR c_94a := fnT okO_94a mixed p_94a (by kernel_rfl) (by kernel_rfl) (L := L0) (kp := false) (by kernel_rfl) (inn := (innN fr_94a)) (out := (outN fr_94a)) (fun _ _ => rfl) (loopsL (l := []) (by kernel_rfl) trivial) (fun x y => by kernel_rfl)
noncomputable def O_976 : Orc := c_94a
theorem okO_976 : OrcOk PR O_976 := ok_94a
abbrev fa_976 : Fm := (.pair (.i .i64) (.pair (.i .u32) (.pair (.i .u32) .unit)))
abbrev fr_976 : Fm := .b
noncomputable def F_976 (a0 : Int) (a1 : Int) (a2 : Int) : Option (Bool) :=
 ((F_94a a0 a1 a2)).bind fun r0 =>
 (some (decide (r0.1 < (0:Int))))
noncomputable def G_976 : T fa_976 → TH hN0 → Option (Bool) := fun x y => F_976 x.1 x.2.1 x.2.2.1
noncomputable def c_976 : Orc := ent i_976 [] 0 (sp fa_976 hN0 fr_976 hN0 G_976 (outN fr_976))
theorem ok_976 : OrcOk PR c_976 := fnT okO_976 mixed p_976 (by kernel_rfl) (by kernel_rfl) (L := L0) (kp := false) (by kernel_rfl) (inn := (innN fr_976)) (out := (outN fr_976)) (fun _ _ => rfl) (loopsL (l := []) (by kernel_rfl) trivial) (fun x y => by kernel_rfl)
noncomputable def O_96f : Orc := c_972
theorem okO_96f : OrcOk PR O_96f := ok_972
abbrev fa_96f : Fm := (.pair (.i .i64) (.pair .b (.pair (.i .i64) (.pair (.i .u32) .unit))))
abbrev fr_96f : Fm := (.i .u32)
noncomputable def F_96f (a0 : Int) (a1 : Bool) (a2 : Int) (a3 : Int) : Option (Int) :=
 ((F_972 a0)).bind fun r0 =>
 let x1 : Int := (bits .or .u32 (IntKind.wrap .u32 ((IntKind.wrap .u32 a2) * ((2:Int) ^ (Min.min (Int.toNat (IntKind.wrap .u64 r0.2.1)) (32:Nat))))) a3)
 bif (decide ((0:Int) ≤ (IntKind.wrap .u64 r0.2.1))) then
 bif a1 then
 bif (decide ((0:Int) ≤ (IntKind.wrap .u64 (IntKind.wrap .i64 (r0.1 + r0.2.1))))) then
 (some (bits .or .u32 x1 (IntKind.wrap .u32 ((1:Int) * ((2:Int) ^ (Min.min (Int.toNat (IntKind.wrap .u64 (IntKind.wrap .i64 (r0.1 + r0.2.1)))) (32:Nat)))))))
 else
 none
 else
 (some x1)
 else
 none
noncomputable def G_96f : T fa_96f → TH hN0 → Option (Int) := fun x y => F_96f x.1 x.2.1 x.2.2.1 x.2.2.2.1
noncomputable def c_96f : Orc := ent i_96f [] 0 (sp fa_96f hN0 fr_96f hN0 G_96f (outN fr_96f))
theorem ok_96f : OrcOk PR c_96f := fnT okO_96f mixed p_96f (by kernel_rfl) (by kernel_rfl) (L := L0) (kp := false) (by kernel_rfl) (inn := (innN fr_96f)) (out := (outN fr_96f)) (fun _ _ => rfl) (loopsL (l := []) (by kernel_rfl) trivial) (fun x y => by kernel_rfl)
noncomputable def O_96d : Orc := (orm c_972 (orm c_970 c_96f))
theorem okO_96d : OrcOk PR O_96d := (orm_ok ok_972 (orm_ok ok_970 ok_96f))
abbrev fa_96d : Fm := (.pair (.i .i64) .unit)
abbrev fr_96d : Fm := (.i .u32)
noncomputable def F_96d (a0 : Int) : Option (Int) :=
 ((F_972 a0)).bind fun r0 =>
 ((F_970 a0)).bind fun r1 =>
 bif (decide ((0:Int) ≤ (IntKind.wrap .u64 (IntKind.wrap .i64 (r0.2.1 - (1:Int)))))) then
 ((F_96f a0 false r1 (IntKind.wrap .u32 ((1:Int) * ((2:Int) ^ (Min.min (Int.toNat (IntKind.wrap .u64 (IntKind.wrap .i64 (r0.2.1 - (1:Int))))) (32:Nat))))))).bind fun r2 =>
 (some r2)
 else
 none
noncomputable def G_96d : T fa_96d → TH hN0 → Option (Int) := fun x y => F_96d x.1
noncomputable def c_96d : Orc := ent i_96d [] 0 (sp fa_96d hN0 fr_96d hN0 G_96d (outN fr_96d))
theorem ok_96d : OrcOk PR c_96d := fnT okO_96d mixed p_96d (by kernel_rfl) (by kernel_rfl) (L := L0) (kp := false) (by kernel_rfl) (inn := (innN fr_96d)) (out := (outN fr_96d)) (fun _ _ => rfl) (loopsL (l := []) (by kernel_rfl) trivial) (fun x y => by kernel_rfl)
noncomputable def O_919 : Orc := orn
theorem okO_919 : OrcOk PR O_919 := (orn_ok _)
abbrev fa_919 : Fm := (.pair (.i .i64) .unit)
abbrev fr_919 : Fm := (.tup (.pair (.i .i64) (.pair (.i .i64) .unit)))
noncomputable def F_919 (a0 : Int) : Option (Int × Int × Unit) :=
 bif (a0 == (0:Int)) then
 (some ((5:Int), ((10:Int), ())))
 else
 bif (a0 == (1:Int)) then
 (some ((8:Int), ((7:Int), ())))
 else
 (some ((8:Int), ((23:Int), ())))
noncomputable def G_919 : T fa_919 → TH hN0 → Option (Int × Int × Unit) := fun x y => F_919 x.1
noncomputable def c_919 : Orc := ent i_919 [] 0 (sp fa_919 hN0 fr_919 hN0 G_919 (outN fr_919))
theorem ok_919 : OrcOk PR c_919 := fnT okO_919 mixed p_919 (by kernel_rfl) (by kernel_rfl) (L := L0) (kp := false) (by kernel_rfl) (inn := (innN fr_919)) (out := (outN fr_919)) (fun _ _ => rfl) (loopsL (l := []) (by kernel_rfl) trivial) (fun x y => by kernel_rfl)
noncomputable def O_935 : Orc := c_919
theorem okO_935 : OrcOk PR O_935 := ok_919
abbrev fa_935 : Fm := (.pair (.i .i64) .unit)
abbrev fr_935 : Fm := (.i .u32)
noncomputable def F_935 (a0 : Int) : Option (Int) :=
 ((F_919 a0)).bind fun r0 =>
 bif (decide ((0:Int) ≤ (IntKind.wrap .i64 ((IntKind.wrap .i64 ((1:Int) + r0.1)) + r0.2.1)))) then
 (some (IntKind.wrap .u32 (IntKind.wrap .u64 ((IntKind.wrap .u64 ((1:Int) * ((2:Int) ^ (Min.min (Int.toNat (IntKind.wrap .i64 ((IntKind.wrap .i64 ((1:Int) + r0.1)) + r0.2.1))) (64:Nat))))) - (1:Int)))))
 else
 none
noncomputable def G_935 : T fa_935 → TH hN0 → Option (Int) := fun x y => F_935 x.1
noncomputable def c_935 : Orc := ent i_935 [] 0 (sp fa_935 hN0 fr_935 hN0 G_935 (outN fr_935))
theorem ok_935 : OrcOk PR c_935 := fnT okO_935 mixed p_935 (by kernel_rfl) (by kernel_rfl) (L := L0) (kp := false) (by kernel_rfl) (inn := (innN fr_935)) (out := (outN fr_935)) (fun _ _ => rfl) (loopsL (l := []) (by kernel_rfl) trivial) (fun x y => by kernel_rfl)
noncomputable def O_938 : Orc := c_919
theorem okO_938 : OrcOk PR O_938 := ok_919
abbrev fa_938 : Fm := (.pair (.i .i64) (.pair .b .unit))
abbrev fr_938 : Fm := (.i .u32)
noncomputable def F_938 (a0 : Int) (a1 : Bool) : Option (Int) :=
 ((F_919 a0)).bind fun r0 =>
 bif a1 then
 bif (decide ((0:Int) ≤ (IntKind.wrap .i64 (r0.1 + r0.2.1)))) then
 (some (IntKind.wrap .u32 ((1:Int) * ((2:Int) ^ (Min.min (Int.toNat (IntKind.wrap .i64 (r0.1 + r0.2.1))) (32:Nat))))))
 else
 none
 else
 (some (0:Int))
noncomputable def G_938 : T fa_938 → TH hN0 → Option (Int) := fun x y => F_938 x.1 x.2.1
noncomputable def c_938 : Orc := ent i_938 [] 0 (sp fa_938 hN0 fr_938 hN0 G_938 (outN fr_938))
theorem ok_938 : OrcOk PR c_938 := fnT okO_938 mixed p_938 (by kernel_rfl) (by kernel_rfl) (L := L0) (kp := false) (by kernel_rfl) (inn := (innN fr_938)) (out := (outN fr_938)) (fun _ _ => rfl) (loopsL (l := []) (by kernel_rfl) trivial) (fun x y => by kernel_rfl)
noncomputable def O_94b : Orc := (orm c_919 c_935)
theorem okO_94b : OrcOk PR O_94b := (orm_ok ok_919 ok_935)
abbrev fa_94b : Fm := (.pair (.i .i64) (.pair (.i .u32) .unit))
abbrev fr_94b : Fm := (.tup (.pair .b (.pair (.i .i64) (.pair (.i .u64) .unit))))
noncomputable def F_94b (a0 : Int) (a1 : Int) : Option (Bool × Int × Int × Unit) :=
 ((F_919 a0)).bind fun r0 =>
 let x1 : Int := ((2:Int) ^ (Min.min (Int.toNat r0.2.1) (32:Nat)))
 ((F_935 a0)).bind fun r2 =>
 let x3 : Int := (bits .and .u32 a1 r2)
 bif (decide ((0:Int) ≤ (IntKind.wrap .i64 (r0.1 + r0.2.1)))) then
 bif (decide ((0:Int) ≤ r0.2.1)) then
 bif (decide ((0:Int) ≤ r0.1)) then
 bif (decide ((0:Int) ≤ r0.2.1)) then
 (some (((x3 / ((2:Int) ^ (Min.min (Int.toNat (IntKind.wrap .i64 (r0.1 + r0.2.1))) (32:Nat)))) == (1:Int)), ((IntKind.wrap .i64 (bits .and .u32 (x3 / x1) (IntKind.wrap .u32 ((IntKind.wrap .u32 ((1:Int) * ((2:Int) ^ (Min.min (Int.toNat r0.1) (32:Nat))))) - (1:Int))))), ((IntKind.wrap .u64 (bits .and .u32 x3 (IntKind.wrap .u32 ((IntKind.wrap .u32 ((1:Int) * x1)) - (1:Int))))), ()))))
 else
 none
 else
 none
 else
 none
 else
 none
noncomputable def G_94b : T fa_94b → TH hN0 → Option (Bool × Int × Int × Unit) := fun x y => F_94b x.1 x.2.1
noncomputable def c_94b : Orc := ent i_94b [] 0 (sp fa_94b hN0 fr_94b hN0 G_94b (outN fr_94b))
theorem ok_94b : OrcOk PR c_94b := fnT okO_94b mixed p_94b (by kernel_rfl) (by kernel_rfl) (L := L0) (kp := false) (by kernel_rfl) (inn := (innN fr_94b)) (out := (outN fr_94b)) (fun _ _ => rfl) (loopsL (l := []) (by kernel_rfl) trivial) (fun x y => by kernel_rfl)
noncomputable def O_92f : Orc := c_94b
theorem okO_92f : OrcOk PR O_92f := ok_94b
abbrev fa_92f : Fm := (.pair (.i .i64) (.pair (.i .u32) .unit))
abbrev fr_92f : Fm := .b
noncomputable def F_92f (a0 : Int) (a1 : Int) : Option (Bool) :=
 ((F_94b a0 a1)).bind fun r0 =>
 (some r0.1)
noncomputable def G_92f : T fa_92f → TH hN0 → Option (Bool) := fun x y => F_92f x.1 x.2.1
noncomputable def c_92f : Orc := ent i_92f [] 0 (sp fa_92f hN0 fr_92f hN0 G_92f (outN fr_92f))
theorem ok_92f : OrcOk PR c_92f := fnT okO_92f mixed p_92f (by kernel_rfl) (by kernel_rfl) (L := L0) (kp := false) (by kernel_rfl) (inn := (innN fr_92f)) (out := (outN fr_92f)) (fun _ _ => rfl) (loopsL (l := []) (by kernel_rfl) trivial) (fun x y => by kernel_rfl)
noncomputable def O_920 : Orc := (orm c_919 c_94b)
theorem okO_920 : OrcOk PR O_920 := (orm_ok ok_919 ok_94b)
abbrev fa_920 : Fm := (.pair (.i .i64) (.pair (.i .u32) .unit))
abbrev fr_920 : Fm := (.i .i64)
noncomputable def F_920 (a0 : Int) (a1 : Int) : Option (Int) :=
 ((F_919 a0)).bind fun r0 =>
 ((F_94b a0 a1)).bind fun r1 =>
 let x2 : Bool := (r1.2.1 == (0:Int))
 let x3 : Int := r1.2.2.1
 let x4 : Bool := (x3 == (0:Int))
 let x5 : Bool := ((x3 / ((2:Int) ^ (Min.min (Int.toNat (IntKind.wrap .i64 (r0.2.1 - (1:Int)))) (64:Nat)))) == (1:Int))
 bif x2 then
 bif x4 then
 (some (0:Int))
 else
 bif x2 then
 (some (1:Int))
 else
 bif (decide ((0:Int) ≤ r0.1)) then
 bif (decide (r1.2.1 < (IntKind.wrap .i64 ((IntKind.wrap .i64 ((1:Int) * ((2:Int) ^ (Min.min (Int.toNat r0.1) (64:Nat))))) - (1:Int))))) then
 (some (2:Int))
 else
 bif x4 then
 (some (3:Int))
 else
 bif (decide ((0:Int) ≤ (IntKind.wrap .i64 (r0.2.1 - (1:Int))))) then
 bif x5 then
 (some (4:Int))
 else
 (some (5:Int))
 else
 none
 else
 none
 else
 bif x2 then
 (some (1:Int))
 else
 bif (decide ((0:Int) ≤ r0.1)) then
 bif (decide (r1.2.1 < (IntKind.wrap .i64 ((IntKind.wrap .i64 ((1:Int) * ((2:Int) ^ (Min.min (Int.toNat r0.1) (64:Nat))))) - (1:Int))))) then
 (some (2:Int))
 else
 bif x4 then
 (some (3:Int))
 else
 bif (decide ((0:Int) ≤ (IntKind.wrap .i64 (r0.2.1 - (1:Int))))) then
 bif x5 then
 (some (4:Int))
 else
 (some (5:Int))
 else
 none
 else
 none
noncomputable def G_920 : T fa_920 → TH hN0 → Option (Int) := fun x y => F_920 x.1 x.2.1
noncomputable def c_920 : Orc := ent i_920 [] 0 (sp fa_920 hN0 fr_920 hN0 G_920 (outN fr_920))
theorem ok_920 : OrcOk PR c_920 := fnT okO_920 mixed p_920 (by kernel_rfl) (by kernel_rfl) (L := L0) (kp := false) (by kernel_rfl) (inn := (innN fr_920)) (out := (outN fr_920)) (fun _ _ => rfl) (loopsL (l := []) (by kernel_rfl) trivial) (fun x y => by kernel_rfl)
noncomputable def O_92b : Orc := c_920
theorem okO_92b : OrcOk PR O_92b := ok_920
abbrev fa_92b : Fm := (.pair (.i .i64) (.pair (.si .u32) .unit))
abbrev fr_92b : Fm := (.tup (.pair .b (.pair .b .unit)))
abbrev ff_92b_0 : Fm := (.pair (.i .i64) (.pair (.si .u32) (.us 4 (.pair .b (.pair .b (.pair (.i .i64) (.us 29 .unit)))))))
abbrev hf_92b_0 : List BF := []
abbrev X_92b_0 : Xs := (.one (.exit 0) [6, 7] (.us 6 (.pair .b (.pair .b (.us 30 .unit)))) [])
abbrev S_92b_0 : Type := T ff_92b_0 × TH hf_92b_0
abbrev E_92b_0 : Type := TX X_92b_0
noncomputable def LB_92b_0 : Lps := L0
noncomputable def st_92b_0 : StepT S_92b_0 E_92b_0 := fun R v kn ko =>
 let x0 : Int := v.1.1
 let x1 : List Int := v.1.2.1
 let x2 : Int := v.1.2.2.2.2.1
 let x3 : Bool := v.1.2.2.1
 let x4 : Bool := v.1.2.2.2.1
 let x5 : List Int := (List.take (List.length x1) x1)
 bif (decide (x2 < (((List.length x1) : Nat) : Int))) then
 bif (decide (((0:Int) ≤ x2) ∧ (x2 < (((List.length x1) : Nat) : Int)))) then
 ((F_920 x0 (List.getD x1 (Int.toNat x2) (0:Int)))).bind fun r6 =>
 bif x3 then
 bif x4 then
 (kn ((x0, (x5, (true, (true, ((IntKind.wrap .i64 (x2 + (1:Int))), ()))))), ()))
 else
 (kn ((x0, (x5, (true, ((r6 == (5:Int)), ((IntKind.wrap .i64 (x2 + (1:Int))), ()))))), ()))
 else
 bif (r6 == (4:Int)) then
 bif x4 then
 (kn ((x0, (x5, (true, (true, ((IntKind.wrap .i64 (x2 + (1:Int))), ()))))), ()))
 else
 (kn ((x0, (x5, (true, ((r6 == (5:Int)), ((IntKind.wrap .i64 (x2 + (1:Int))), ()))))), ()))
 else
 bif x4 then
 (kn ((x0, (x5, ((r6 == (5:Int)), (true, ((IntKind.wrap .i64 (x2 + (1:Int))), ()))))), ()))
 else
 (kn ((x0, (x5, ((r6 == (5:Int)), ((r6 == (5:Int)), ((IntKind.wrap .i64 (x2 + (1:Int))), ()))))), ()))
 else
 none
 else
 (ko ((x3, (x4, ())), ()))
noncomputable def ls_92b_0 : St → LTr := (lsum ff_92b_0 hf_92b_0 X_92b_0 Prod.mk id st_92b_0 (hd [] [] [0, 1, 6, 7, 8] 0))
theorem lp_92b_0 : LoopOk PR 0 (lpN f_92b 0) ls_92b_0 := loopT okO_92b mixed (L := LB_92b_0) (d := 1) (bs := []) (ks := [0, 1, 6, 7, 8]) (loopsL (l := []) (by kernel_rfl) trivial) (by kernel_rfl) (inS := Prod.mk) (outS := id) (fun _ _ => rfl) (inX := id) (outX := id) (fun _ => rfl) (fun v R kn ko => by kernel_rfl) (hd_wk [] [] [0, 1, 6, 7, 8] 0)
noncomputable def L_92b : Lps := (lpB 4 (.by_ ls_92b_0) L0)
noncomputable def F_92b (a0 : Int) (a1 : List Int) : Option (Bool × Bool × Unit) :=
 ((lim st_92b_0 ((a0, ((List.take (List.length a1) a1), (false, (false, ((0:Int), ()))))), ()))).bind fun r0 =>
 (some r0.1)
noncomputable def G_92b : T fa_92b → TH hN0 → Option (Bool × Bool × Unit) := fun x y => F_92b x.1 x.2.1
noncomputable def c_92b : Orc := ent i_92b [] 0 (sp fa_92b hN0 fr_92b hN0 G_92b (outN fr_92b))
theorem ok_92b : OrcOk PR c_92b := fnT okO_92b mixed p_92b (by kernel_rfl) (by kernel_rfl) (L := L_92b) (kp := false) (by kernel_rfl) (inn := (innN fr_92b)) (out := (outN fr_92b)) (fun _ _ => rfl) (loopsL (l := [((lpN f_92b 0), ls_92b_0)]) (by kernel_rfl) ⟨lp_92b_0, trivial⟩) (fun x y => by kernel_rfl)
noncomputable def O_92e : Orc := (orm c_919 c_938)
theorem okO_92e : OrcOk PR O_92e := (orm_ok ok_919 ok_938)
abbrev fa_92e : Fm := (.pair (.i .i64) (.pair .b .unit))
abbrev fr_92e : Fm := (.i .u32)
noncomputable def F_92e (a0 : Int) (a1 : Bool) : Option (Int) :=
 ((F_919 a0)).bind fun r0 =>
 ((F_938 a0 a1)).bind fun r1 =>
 bif (decide ((0:Int) ≤ r0.1)) then
 bif (decide ((0:Int) ≤ r0.2.1)) then
 (some (bits .or .u32 r1 (IntKind.wrap .u32 ((IntKind.wrap .u32 ((IntKind.wrap .u32 ((1:Int) * ((2:Int) ^ (Min.min (Int.toNat r0.1) (32:Nat))))) - (1:Int))) * ((2:Int) ^ (Min.min (Int.toNat r0.2.1) (32:Nat)))))))
 else
 none
 else
 none
noncomputable def G_92e : T fa_92e → TH hN0 → Option (Int) := fun x y => F_92e x.1 x.2.1
noncomputable def c_92e : Orc := ent i_92e [] 0 (sp fa_92e hN0 fr_92e hN0 G_92e (outN fr_92e))
theorem ok_92e : OrcOk PR c_92e := fnT okO_92e mixed p_92e (by kernel_rfl) (by kernel_rfl) (L := L0) (kp := false) (by kernel_rfl) (inn := (innN fr_92e)) (out := (outN fr_92e)) (fun _ _ => rfl) (loopsL (l := []) (by kernel_rfl) trivial) (fun x y => by kernel_rfl)
noncomputable def O_92c : Orc := (orm c_919 c_92e)
theorem okO_92c : OrcOk PR O_92c := (orm_ok ok_919 ok_92e)
abbrev fa_92c : Fm := (.pair (.i .i64) .unit)
abbrev fr_92c : Fm := (.i .u32)
noncomputable def F_92c (a0 : Int) : Option (Int) :=
 ((F_919 a0)).bind fun r0 =>
 ((F_92e a0 false)).bind fun r1 =>
 bif (decide ((0:Int) ≤ (IntKind.wrap .i64 (r0.2.1 - (1:Int))))) then
 (some (bits .or .u32 r1 (IntKind.wrap .u32 ((1:Int) * ((2:Int) ^ (Min.min (Int.toNat (IntKind.wrap .i64 (r0.2.1 - (1:Int)))) (32:Nat)))))))
 else
 none
noncomputable def G_92c : T fa_92c → TH hN0 → Option (Int) := fun x y => F_92c x.1
noncomputable def c_92c : Orc := ent i_92c [] 0 (sp fa_92c hN0 fr_92c hN0 G_92c (outN fr_92c))
theorem ok_92c : OrcOk PR c_92c := fnT okO_92c mixed p_92c (by kernel_rfl) (by kernel_rfl) (L := L0) (kp := false) (by kernel_rfl) (inn := (innN fr_92c)) (out := (outN fr_92c)) (fun _ _ => rfl) (loopsL (l := []) (by kernel_rfl) trivial) (fun x y => by kernel_rfl)
noncomputable def O_91a : Orc := c_938
theorem okO_91a : OrcOk PR O_91a := ok_938
abbrev fa_91a : Fm := (.pair (.i .i64) (.pair .b .unit))
abbrev fr_91a : Fm := (.i .u32)
noncomputable def F_91a (a0 : Int) (a1 : Bool) : Option (Int) :=
 ((F_938 a0 a1)).bind fun r0 =>
 (some r0)
noncomputable def G_91a : T fa_91a → TH hN0 → Option (Int) := fun x y => F_91a x.1 x.2.1
noncomputable def c_91a : Orc := ent i_91a [] 0 (sp fa_91a hN0 fr_91a hN0 G_91a (outN fr_91a))
theorem ok_91a : OrcOk PR c_91a := fnT okO_91a mixed p_91a (by kernel_rfl) (by kernel_rfl) (L := L0) (kp := false) (by kernel_rfl) (inn := (innN fr_91a)) (out := (outN fr_91a)) (fun _ _ => rfl) (loopsL (l := []) (by kernel_rfl) trivial) (fun x y => by kernel_rfl)
noncomputable def O_922 : Orc := (orm c_919 (orm c_935 c_91a))
theorem okO_922 : OrcOk PR O_922 := (orm_ok ok_919 (orm_ok ok_935 ok_91a))
abbrev fa_922 : Fm := (.pair (.i .i64) (.pair (.i .u32) .unit))
abbrev fr_922 : Fm := (.i .u32)
noncomputable def F_922 (a0 : Int) (a1 : Int) : Option (Int) :=
 ((F_919 a0)).bind fun r0 =>
 let x1 : Int := ((2:Int) ^ (Min.min (Int.toNat r0.2.1) (32:Nat)))
 let x2 : Int := (IntKind.wrap .u32 ((3:Int) * x1))
 let x3 : Int := (IntKind.wrap .u32 ((9:Int) * x1))
 let x4 : Int := (IntKind.wrap .u32 ((1:Int) * x1))
 let x5 : Int := (IntKind.wrap .u32 ((IntKind.wrap .u32 ((1:Int) * ((2:Int) ^ (Min.min (Int.toNat r0.1) (32:Nat))))) - (1:Int)))
 let x6 : Int := (IntKind.wrap .u32 ((x5 / (2:Int)) * x1))
 let x7 : Int := (IntKind.wrap .u32 (x5 * x1))
 bif (decide ((0:Int) ≤ r0.1)) then
 bif (decide ((0:Int) ≤ r0.2.1)) then
 bif (decide ((0:Int) ≤ r0.2.1)) then
 bif (decide ((0:Int) ≤ r0.2.1)) then
 bif (decide ((0:Int) ≤ r0.2.1)) then
 bif (decide ((0:Int) ≤ r0.2.1)) then
 bif (x2 == (0:Int)) then
 none
 else
 bif (decide ((0:Int) ≤ r0.2.1)) then
 bif (decide ((0:Int) ≤ r0.2.1)) then
 bif (decide ((0:Int) ≤ r0.2.1)) then
 bif (decide ((0:Int) ≤ r0.2.1)) then
 bif (decide ((0:Int) ≤ (IntKind.wrap .i64 (r0.2.1 - (1:Int))))) then
 bif (decide ((0:Int) ≤ r0.2.1)) then
 bif (x3 == (0:Int)) then
 none
 else
 bif (decide (((0:Int) ≤ (Int.tmod a1 (15:Int))) ∧ ((Int.tmod a1 (15:Int)) < (15:Int)))) then
 bif (decide (((0:Nat) + ((Int.toNat (Int.tmod a1 (15:Int))) * (1:Nat))) < (15:Nat))) then
 ((F_935 a0)).bind fun r8 =>
 let x9 : Int := (bits .and .u32 (List.getD [(0:Int), (1:Int), (IntKind.wrap .u32 (x4 - (1:Int))), x4, x6, (IntKind.wrap .u32 (x6 + (1:Int))), (IntKind.wrap .u32 (x6 - (1:Int))), (IntKind.wrap .u32 (x6 + x4)), (IntKind.wrap .u32 (x6 + (Int.tmod (a1 / (16:Int)) x2))), (IntKind.wrap .u32 (x7 - (1:Int))), x7, (bits .or .u32 x7 (1:Int)), (bits .or .u32 x7 (IntKind.wrap .u32 ((1:Int) * ((2:Int) ^ (Min.min (Int.toNat (IntKind.wrap .i64 (r0.2.1 - (1:Int)))) (32:Nat)))))), (IntKind.wrap .u32 (x6 - (Int.tmod (a1 / (16:Int)) x3))), (a1 / (16:Int))] ((0:Nat) + ((Int.toNat (Int.tmod a1 (15:Int))) * (1:Nat))) (0:Int)) r8)
 bif ((a1 / (2147483648:Int)) == (1:Int)) then
 ((F_91a a0 true)).bind fun r10 =>
 (some (bits .or .u32 x9 r10))
 else
 (some x9)
 else
 none
 else
 none
 else
 none
 else
 none
 else
 none
 else
 none
 else
 none
 else
 none
 else
 none
 else
 none
 else
 none
 else
 none
 else
 none
 else
 none
noncomputable def G_922 : T fa_922 → TH hN0 → Option (Int) := fun x y => F_922 x.1 x.2.1
noncomputable def c_922 : Orc := ent i_922 [] 0 (sp fa_922 hN0 fr_922 hN0 G_922 (outN fr_922))
theorem ok_922 : OrcOk PR c_922 := fnT okO_922 mixed p_922 (by kernel_rfl) (by kernel_rfl) (L := L0) (kp := false) (by kernel_rfl) (inn := (innN fr_922)) (out := (outN fr_922)) (fun _ _ => rfl) (loopsL (l := []) (by kernel_rfl) trivial) (fun x y => by kernel_rfl)
noncomputable def O_92d : Orc := c_920
theorem okO_92d : OrcOk PR O_92d := ok_920
abbrev fa_92d : Fm := (.pair (.i .i64) (.pair (.i .u32) .unit))
abbrev fr_92d : Fm := .b
noncomputable def F_92d (a0 : Int) (a1 : Int) : Option (Bool) :=
 ((F_920 a0 a1)).bind fun r0 =>
 (some (r0 == (3:Int)))
noncomputable def G_92d : T fa_92d → TH hN0 → Option (Bool) := fun x y => F_92d x.1 x.2.1
noncomputable def c_92d : Orc := ent i_92d [] 0 (sp fa_92d hN0 fr_92d hN0 G_92d (outN fr_92d))
theorem ok_92d : OrcOk PR c_92d := fnT okO_92d mixed p_92d (by kernel_rfl) (by kernel_rfl) (L := L0) (kp := false) (by kernel_rfl) (inn := (innN fr_92d)) (out := (outN fr_92d)) (fun _ _ => rfl) (loopsL (l := []) (by kernel_rfl) trivial) (fun x y => by kernel_rfl)
noncomputable def O_94c : Orc := c_919
theorem okO_94c : OrcOk PR O_94c := ok_919
abbrev fa_94c : Fm := (.pair (.i .i64) .unit)
abbrev fr_94c : Fm := (.i .i64)
noncomputable def F_94c (a0 : Int) : Option (Int) :=
 ((F_919 a0)).bind fun r0 =>
 bif (decide ((0:Int) ≤ (IntKind.wrap .i64 (r0.1 - (1:Int))))) then
 (some (IntKind.wrap .i64 ((IntKind.wrap .i64 ((1:Int) * ((2:Int) ^ (Min.min (Int.toNat (IntKind.wrap .i64 (r0.1 - (1:Int)))) (64:Nat))))) - (1:Int))))
 else
 none
noncomputable def G_94c : T fa_94c → TH hN0 → Option (Int) := fun x y => F_94c x.1
noncomputable def c_94c : Orc := ent i_94c [] 0 (sp fa_94c hN0 fr_94c hN0 G_94c (outN fr_94c))
theorem ok_94c : OrcOk PR c_94c := fnT okO_94c mixed p_94c (by kernel_rfl) (by kernel_rfl) (L := L0) (kp := false) (by kernel_rfl) (inn := (innN fr_94c)) (out := (outN fr_94c)) (fun _ _ => rfl) (loopsL (l := []) (by kernel_rfl) trivial) (fun x y => by kernel_rfl)
noncomputable def O_91f : Orc := (orm c_919 (orm c_94b (orm c_920 c_94c)))
theorem okO_91f : OrcOk PR O_91f := (orm_ok ok_919 (orm_ok ok_94b (orm_ok ok_920 ok_94c)))
abbrev fa_91f : Fm := (.pair (.i .i64) (.pair (.i .u32) .unit))
abbrev fr_91f : Fm := (.tup (.pair .b (.pair (.i .i64) (.pair (.i .u64) .unit))))
noncomputable def F_91f (a0 : Int) (a1 : Int) : Option (Bool × Int × Int × Unit) :=
 ((F_919 a0)).bind fun r0 =>
 ((F_94b a0 a1)).bind fun r1 =>
 let x2 : Int := r1.2.2.1
 ((F_920 a0 a1)).bind fun r3 =>
 bif (r3 == (2:Int)) then
 ((F_94c a0)).bind fun r4 =>
 bif (decide ((0:Int) ≤ r0.2.1)) then
 (some (r1.1, ((IntKind.wrap .i64 ((IntKind.wrap .i64 (r1.2.1 - r4)) - r0.2.1)), ((bits .or .u64 x2 (IntKind.wrap .u64 ((1:Int) * ((2:Int) ^ (Min.min (Int.toNat r0.2.1) (64:Nat)))))), ()))))
 else
 none
 else
 bif (bif (r3 == (0:Int)) then (r3 == (0:Int)) else (r3 == (1:Int))) then
 ((F_94c a0)).bind fun r5 =>
 (some (r1.1, ((IntKind.wrap .i64 ((IntKind.wrap .i64 ((1:Int) - r5)) - r0.2.1)), r1.2.2)))
 else
 (some (r1.1, ((0:Int), ((0:Int), ()))))
noncomputable def G_91f : T fa_91f → TH hN0 → Option (Bool × Int × Int × Unit) := fun x y => F_91f x.1 x.2.1
noncomputable def c_91f : Orc := ent i_91f [] 0 (sp fa_91f hN0 fr_91f hN0 G_91f (outN fr_91f))
theorem ok_91f : OrcOk PR c_91f := fnT okO_91f mixed p_91f (by kernel_rfl) (by kernel_rfl) (L := L0) (kp := false) (by kernel_rfl) (inn := (innN fr_91f)) (out := (outN fr_91f)) (fun _ _ => rfl) (loopsL (l := []) (by kernel_rfl) trivial) (fun x y => by kernel_rfl)
noncomputable def O_98d : Orc := c_92e
theorem okO_98d : OrcOk PR O_98d := ok_92e
abbrev fa_98d : Fm := (.pair (.i .i64) (.pair .b .unit))
abbrev fr_98d : Fm := (.i .u32)
noncomputable def F_98d (a0 : Int) (a1 : Bool) : Option (Int) :=
 ((F_92e a0 a1)).bind fun r0 =>
 (some (IntKind.wrap .u32 (r0 - (1:Int))))
noncomputable def G_98d : T fa_98d → TH hN0 → Option (Int) := fun x y => F_98d x.1 x.2.1
noncomputable def c_98d : Orc := ent i_98d [] 0 (sp fa_98d hN0 fr_98d hN0 G_98d (outN fr_98d))
theorem ok_98d : OrcOk PR c_98d := fnT okO_98d mixed p_98d (by kernel_rfl) (by kernel_rfl) (L := L0) (kp := false) (by kernel_rfl) (inn := (innN fr_98d)) (out := (outN fr_98d)) (fun _ _ => rfl) (loopsL (l := []) (by kernel_rfl) trivial) (fun x y => by kernel_rfl)
noncomputable def O_95c : Orc := (orm c_98d c_92e)
theorem okO_95c : OrcOk PR O_95c := (orm_ok ok_98d ok_92e)
abbrev fa_95c : Fm := (.pair (.i .i64) (.pair (.i .i64) (.pair .b .unit)))
abbrev fr_95c : Fm := (.i .u32)
noncomputable def F_95c (a0 : Int) (a1 : Int) (a2 : Bool) : Option (Int) :=
 bif (a1 == (1:Int)) then
 ((F_98d a0 a2)).bind fun r0 =>
 (some r0)
 else
 bif (a1 == (2:Int)) then
 bif a2 then
 ((F_98d a0 a2)).bind fun r1 =>
 (some r1)
 else
 bif (a1 == (3:Int)) then
 bif (!a2) then
 ((F_98d a0 a2)).bind fun r2 =>
 (some r2)
 else
 ((F_92e a0 a2)).bind fun r3 =>
 (some r3)
 else
 ((F_92e a0 a2)).bind fun r4 =>
 (some r4)
 else
 bif (a1 == (3:Int)) then
 bif (!a2) then
 ((F_98d a0 a2)).bind fun r5 =>
 (some r5)
 else
 ((F_92e a0 a2)).bind fun r6 =>
 (some r6)
 else
 ((F_92e a0 a2)).bind fun r7 =>
 (some r7)
noncomputable def G_95c : T fa_95c → TH hN0 → Option (Int) := fun x y => F_95c x.1 x.2.1 x.2.2.1
noncomputable def c_95c : Orc := ent i_95c [] 0 (sp fa_95c hN0 fr_95c hN0 G_95c (outN fr_95c))
theorem ok_95c : OrcOk PR c_95c := fnT okO_95c mixed p_95c (by kernel_rfl) (by kernel_rfl) (L := L0) (kp := false) (by kernel_rfl) (inn := (innN fr_95c)) (out := (outN fr_95c)) (fun _ _ => rfl) (loopsL (l := []) (by kernel_rfl) trivial) (fun x y => by kernel_rfl)
noncomputable def O_9c : Orc := (orm c_919 c_91a)
theorem okO_9c : OrcOk PR O_9c := (orm_ok ok_919 ok_91a)
abbrev fa_9c : Fm := (.pair (.i .i64) (.pair (.i .u32) .unit))
abbrev fr_9c : Fm := (.i .u32)
noncomputable def F_9c (a0 : Int) (a1 : Int) : Option (Int) :=
 bif ((Int.tmod a1 (7:Int)) == (0:Int)) then
 (some (0:Int))
 else
 ((F_919 a0)).bind fun r0 =>
 let x1 : Int := ((2:Int) ^ (Min.min (Int.toNat r0.2.1) (32:Nat)))
 let x2 : Int := (IntKind.wrap .u32 ((4:Int) * x1))
 let x3 : Int := (IntKind.wrap .u32 ((IntKind.wrap .u32 ((IntKind.wrap .u32 (((IntKind.wrap .u32 ((IntKind.wrap .u32 ((1:Int) * ((2:Int) ^ (Min.min (Int.toNat r0.1) (32:Nat))))) - (1:Int))) / (2:Int)) * x1)) - (IntKind.wrap .u32 ((2:Int) * x1)))) + (Int.tmod (a1 / (8:Int)) x2)))
 bif (decide ((0:Int) ≤ r0.1)) then
 bif (decide ((0:Int) ≤ r0.2.1)) then
 bif (decide ((0:Int) ≤ r0.2.1)) then
 bif (decide ((0:Int) ≤ r0.2.1)) then
 bif (x2 == (0:Int)) then
 none
 else
 bif ((bits .and .u32 a1 (1:Int)) == (1:Int)) then
 ((F_91a a0 true)).bind fun r4 =>
 (some (bits .or .u32 x3 r4))
 else
 (some x3)
 else
 none
 else
 none
 else
 none
 else
 none
noncomputable def G_9c : T fa_9c → TH hN0 → Option (Int) := fun x y => F_9c x.1 x.2.1
noncomputable def c_9c : Orc := ent i_9c [] 0 (sp fa_9c hN0 fr_9c hN0 G_9c (outN fr_9c))
theorem ok_9c : OrcOk PR c_9c := fnT okO_9c mixed p_9c (by kernel_rfl) (by kernel_rfl) (L := L0) (kp := false) (by kernel_rfl) (inn := (innN fr_9c)) (out := (outN fr_9c)) (fun _ _ => rfl) (loopsL (l := []) (by kernel_rfl) trivial) (fun x y => by kernel_rfl)
noncomputable def O_9a1 : Orc := (orm c_972 (orm c_970 c_96f))
theorem okO_9a1 : OrcOk PR O_9a1 := (orm_ok ok_972 (orm_ok ok_970 ok_96f))
abbrev fa_9a1 : Fm := (.pair (.i .i64) (.pair .b .unit))
abbrev fr_9a1 : Fm := (.i .u32)
noncomputable def F_9a1 (a0 : Int) (a1 : Bool) : Option (Int) :=
 ((F_972 a0)).bind fun r0 =>
 ((F_970 a0)).bind fun r1 =>
 bif (decide ((0:Int) ≤ (IntKind.wrap .u64 r0.2.1))) then
 ((F_96f a0 a1 (IntKind.wrap .i64 (r1 - (1:Int))) (IntKind.wrap .u32 ((IntKind.wrap .u32 ((1:Int) * ((2:Int) ^ (Min.min (Int.toNat (IntKind.wrap .u64 r0.2.1)) (32:Nat))))) - (1:Int))))).bind fun r2 =>
 (some r2)
 else
 none
noncomputable def G_9a1 : T fa_9a1 → TH hN0 → Option (Int) := fun x y => F_9a1 x.1 x.2.1
noncomputable def c_9a1 : Orc := ent i_9a1 [] 0 (sp fa_9a1 hN0 fr_9a1 hN0 G_9a1 (outN fr_9a1))
theorem ok_9a1 : OrcOk PR c_9a1 := fnT okO_9a1 mixed p_9a1 (by kernel_rfl) (by kernel_rfl) (L := L0) (kp := false) (by kernel_rfl) (inn := (innN fr_9a1)) (out := (outN fr_9a1)) (fun _ _ => rfl) (loopsL (l := []) (by kernel_rfl) trivial) (fun x y => by kernel_rfl)
noncomputable def O_973 : Orc := c_972
theorem okO_973 : OrcOk PR O_973 := ok_972
abbrev fa_973 : Fm := (.pair (.i .i64) .unit)
abbrev fr_973 : Fm := (.i .i64)
noncomputable def F_973 (a0 : Int) : Option (Int) :=
 ((F_972 a0)).bind fun r0 =>
 bif (decide ((0:Int) ≤ (IntKind.wrap .u64 (IntKind.wrap .i64 (r0.1 - (1:Int)))))) then
 (some (IntKind.wrap .i64 ((2:Int) - (IntKind.wrap .i64 ((1:Int) * ((2:Int) ^ (Min.min (Int.toNat (IntKind.wrap .u64 (IntKind.wrap .i64 (r0.1 - (1:Int))))) (64:Nat))))))))
 else
 none
noncomputable def G_973 : T fa_973 → TH hN0 → Option (Int) := fun x y => F_973 x.1
noncomputable def c_973 : Orc := ent i_973 [] 0 (sp fa_973 hN0 fr_973 hN0 G_973 (outN fr_973))
theorem ok_973 : OrcOk PR c_973 := fnT okO_973 mixed p_973 (by kernel_rfl) (by kernel_rfl) (L := L0) (kp := false) (by kernel_rfl) (inn := (innN fr_973)) (out := (outN fr_973)) (fun _ _ => rfl) (loopsL (l := []) (by kernel_rfl) trivial) (fun x y => by kernel_rfl)
noncomputable def O_943 : Orc := (orm c_972 (orm c_971 (orm c_973 c_970)))
theorem okO_943 : OrcOk PR O_943 := (orm_ok ok_972 (orm_ok ok_971 (orm_ok ok_973 ok_970)))
abbrev fa_943 : Fm := (.pair (.i .i64) (.pair (.i .u32) .unit))
abbrev fr_943 : Fm := (.tup (.pair .b (.pair (.i .i64) (.pair (.i .u64) .unit))))
noncomputable def F_943 (a0 : Int) (a1 : Int) : Option (Bool × Int × Int × Unit) :=
 ((F_972 a0)).bind fun r0 =>
 ((F_971 a0 a1)).bind fun r1 =>
 let x2 : Int := r1.2.2.1
 let x3 : Int := (IntKind.wrap .u64 x2)
 bif (r1.2.1 == (0:Int)) then
 ((F_973 a0)).bind fun r4 =>
 (some (r1.1, ((IntKind.wrap .i64 (r4 - r0.2.1)), (x3, ()))))
 else
 ((F_970 a0)).bind fun r5 =>
 bif (r1.2.1 == r5) then
 (some (r1.1, ((0:Int), ((0:Int), ()))))
 else
 ((F_973 a0)).bind fun r6 =>
 bif (decide ((0:Int) ≤ (IntKind.wrap .u64 r0.2.1))) then
 (some (r1.1, ((IntKind.wrap .i64 ((IntKind.wrap .i64 ((IntKind.wrap .i64 (r6 - r0.2.1)) + r1.2.1)) - (1:Int))), ((bits .or .u64 x3 (IntKind.wrap .u64 ((1:Int) * ((2:Int) ^ (Min.min (Int.toNat (IntKind.wrap .u64 r0.2.1)) (64:Nat)))))), ()))))
 else
 none
noncomputable def G_943 : T fa_943 → TH hN0 → Option (Bool × Int × Int × Unit) := fun x y => F_943 x.1 x.2.1
noncomputable def c_943 : Orc := ent i_943 [] 0 (sp fa_943 hN0 fr_943 hN0 G_943 (outN fr_943))
theorem ok_943 : OrcOk PR c_943 := fnT okO_943 mixed p_943 (by kernel_rfl) (by kernel_rfl) (L := L0) (kp := false) (by kernel_rfl) (inn := (innN fr_943)) (out := (outN fr_943)) (fun _ _ => rfl) (loopsL (l := []) (by kernel_rfl) trivial) (fun x y => by kernel_rfl)
noncomputable def O_940 : Orc := (orm c_970 c_96f)
theorem okO_940 : OrcOk PR O_940 := (orm_ok ok_970 ok_96f)
abbrev fa_940 : Fm := (.pair (.i .i64) (.pair .b .unit))
abbrev fr_940 : Fm := (.i .u32)
noncomputable def F_940 (a0 : Int) (a1 : Bool) : Option (Int) :=
 ((F_970 a0)).bind fun r0 =>
 ((F_96f a0 a1 r0 (0:Int))).bind fun r1 =>
 (some r1)
noncomputable def G_940 : T fa_940 → TH hN0 → Option (Int) := fun x y => F_940 x.1 x.2.1
noncomputable def c_940 : Orc := ent i_940 [] 0 (sp fa_940 hN0 fr_940 hN0 G_940 (outN fr_940))
theorem ok_940 : OrcOk PR c_940 := fnT okO_940 mixed p_940 (by kernel_rfl) (by kernel_rfl) (L := L0) (kp := false) (by kernel_rfl) (inn := (innN fr_940)) (out := (outN fr_940)) (fun _ _ => rfl) (loopsL (l := []) (by kernel_rfl) trivial) (fun x y => by kernel_rfl)
noncomputable def O_942 : Orc := c_96e
theorem okO_942 : OrcOk PR O_942 := ok_96e
abbrev fa_942 : Fm := (.pair (.i .i64) (.pair (.i .u32) .unit))
abbrev fr_942 : Fm := .b
noncomputable def F_942 (a0 : Int) (a1 : Int) : Option (Bool) :=
 ((F_96e a0 a1)).bind fun r0 =>
 (some (r0 == (3:Int)))
noncomputable def G_942 : T fa_942 → TH hN0 → Option (Bool) := fun x y => F_942 x.1 x.2.1
noncomputable def c_942 : Orc := ent i_942 [] 0 (sp fa_942 hN0 fr_942 hN0 G_942 (outN fr_942))
theorem ok_942 : OrcOk PR c_942 := fnT okO_942 mixed p_942 (by kernel_rfl) (by kernel_rfl) (L := L0) (kp := false) (by kernel_rfl) (inn := (innN fr_942)) (out := (outN fr_942)) (fun _ _ => rfl) (loopsL (l := []) (by kernel_rfl) trivial) (fun x y => by kernel_rfl)
noncomputable def O_979 : Orc := c_96f
theorem okO_979 : OrcOk PR O_979 := ok_96f
abbrev fa_979 : Fm := (.pair (.i .i64) (.pair .b .unit))
abbrev fr_979 : Fm := (.i .u32)
noncomputable def F_979 (a0 : Int) (a1 : Bool) : Option (Int) :=
 ((F_96f a0 a1 (0:Int) (0:Int))).bind fun r0 =>
 (some r0)
noncomputable def G_979 : T fa_979 → TH hN0 → Option (Int) := fun x y => F_979 x.1 x.2.1
noncomputable def c_979 : Orc := ent i_979 [] 0 (sp fa_979 hN0 fr_979 hN0 G_979 (outN fr_979))
theorem ok_979 : OrcOk PR c_979 := fnT okO_979 mixed p_979 (by kernel_rfl) (by kernel_rfl) (L := L0) (kp := false) (by kernel_rfl) (inn := (innN fr_979)) (out := (outN fr_979)) (fun _ _ => rfl) (loopsL (l := []) (by kernel_rfl) trivial) (fun x y => by kernel_rfl)
noncomputable def O_989 : Orc := (orm c_971 c_970)
theorem okO_989 : OrcOk PR O_989 := (orm_ok ok_971 ok_970)
abbrev fa_989 : Fm := (.pair (.i .i64) (.pair (.i .u32) .unit))
abbrev fr_989 : Fm := .b
noncomputable def F_989 (a0 : Int) (a1 : Int) : Option (Bool) :=
 ((F_971 a0 a1)).bind fun r0 =>
 ((F_970 a0)).bind fun r1 =>
 (some (decide (r0.2.1 < r1)))
noncomputable def G_989 : T fa_989 → TH hN0 → Option (Bool) := fun x y => F_989 x.1 x.2.1
noncomputable def c_989 : Orc := ent i_989 [] 0 (sp fa_989 hN0 fr_989 hN0 G_989 (outN fr_989))
theorem ok_989 : OrcOk PR c_989 := fnT okO_989 mixed p_989 (by kernel_rfl) (by kernel_rfl) (L := L0) (kp := false) (by kernel_rfl) (inn := (innN fr_989)) (out := (outN fr_989)) (fun _ _ => rfl) (loopsL (l := []) (by kernel_rfl) trivial) (fun x y => by kernel_rfl)
noncomputable def O_994 : Orc := (orm c_9a1 c_940)
theorem okO_994 : OrcOk PR O_994 := (orm_ok ok_9a1 ok_940)
abbrev fa_994 : Fm := (.pair (.i .i64) (.pair (.i .i64) (.pair .b .unit)))
abbrev fr_994 : Fm := (.tup (.pair (.i .u32) (.pair (.agg (.pair .b (.pair .b (.pair .b (.pair .b (.pair .b .unit)))))) .unit)))
noncomputable def F_994 (a0 : Int) (a1 : Int) (a2 : Bool) : Option (Int × (Bool × Bool × Bool × Bool × Bool × Unit) × Unit) :=
 bif (a1 == (1:Int)) then
 ((F_9a1 a0 a2)).bind fun r0 =>
 (some (r0, ((false, (false, (true, (false, (true, ()))))), ())))
 else
 bif (a1 == (2:Int)) then
 bif a2 then
 ((F_9a1 a0 a2)).bind fun r1 =>
 (some (r1, ((false, (false, (true, (false, (true, ()))))), ())))
 else
 ((F_940 a0 a2)).bind fun r2 =>
 (some (r2, ((false, (false, (true, (false, (true, ()))))), ())))
 else
 bif (a1 == (3:Int)) then
 bif (!a2) then
 ((F_9a1 a0 a2)).bind fun r3 =>
 (some (r3, ((false, (false, (true, (false, (true, ()))))), ())))
 else
 ((F_940 a0 a2)).bind fun r4 =>
 (some (r4, ((false, (false, (true, (false, (true, ()))))), ())))
 else
 ((F_940 a0 a2)).bind fun r5 =>
 (some (r5, ((false, (false, (true, (false, (true, ()))))), ())))
noncomputable def G_994 : T fa_994 → TH hN0 → Option (Int × (Bool × Bool × Bool × Bool × Bool × Unit) × Unit) := fun x y => F_994 x.1 x.2.1 x.2.2.1
noncomputable def c_994 : Orc := ent i_994 [] 0 (sp fa_994 hN0 fr_994 hN0 G_994 (outN fr_994))
theorem ok_994 : OrcOk PR c_994 := fnT okO_994 mixed p_994 (by kernel_rfl) (by kernel_rfl) (L := L0) (kp := false) (by kernel_rfl) (inn := (innN fr_994)) (out := (outN fr_994)) (fun _ _ => rfl) (loopsL (l := []) (by kernel_rfl) trivial) (fun x y => by kernel_rfl)
noncomputable def O_974 : Orc := orn
theorem okO_974 : OrcOk PR O_974 := (orn_ok _)
abbrev fa_974 : Fm := (.pair (.i .u64) .unit)
abbrev fr_974 : Fm := (.i .i64)
noncomputable def F_974 (a0 : Int) : Option (Int) :=
 let x0 : Int := (bif (decide (a0 ≥ (4294967296:Int))) then (32:Int) else (0:Int))
 let x1 : Int := (bif (decide ((bif (decide (a0 ≥ (4294967296:Int))) then (a0 / (4294967296:Int)) else a0) ≥ (65536:Int))) then (IntKind.wrap .i64 (x0 + (16:Int))) else x0)
 let x2 : Int := (bif (decide (a0 ≥ (4294967296:Int))) then (a0 / (4294967296:Int)) else a0)
 let x3 : Int := (bif (decide (x2 ≥ (65536:Int))) then (x2 / (65536:Int)) else x2)
 bif (decide (((0:Int) ≤ (IntKind.wrap .u8 (bif (decide (x3 ≥ (256:Int))) then (x3 / (256:Int)) else x3))) ∧ ((IntKind.wrap .u8 (bif (decide (x3 ≥ (256:Int))) then (x3 / (256:Int)) else x3)) < (256:Int)))) then
 (some (IntKind.wrap .i64 ((bif (decide (x3 ≥ (256:Int))) then (IntKind.wrap .i64 (x1 + (8:Int))) else x1) + (IntKind.wrap .i64 (((UInt8.toNat (List.getD [(0:UInt8), (1:UInt8), (2:UInt8), (2:UInt8), (3:UInt8), (3:UInt8), (3:UInt8), (3:UInt8), (4:UInt8), (4:UInt8), (4:UInt8), (4:UInt8), (4:UInt8), (4:UInt8), (4:UInt8), (4:UInt8), (5:UInt8), (5:UInt8), (5:UInt8), (5:UInt8), (5:UInt8), (5:UInt8), (5:UInt8), (5:UInt8), (5:UInt8), (5:UInt8), (5:UInt8), (5:UInt8), (5:UInt8), (5:UInt8), (5:UInt8), (5:UInt8), (6:UInt8), (6:UInt8), (6:UInt8), (6:UInt8), (6:UInt8), (6:UInt8), (6:UInt8), (6:UInt8), (6:UInt8), (6:UInt8), (6:UInt8), (6:UInt8), (6:UInt8), (6:UInt8), (6:UInt8), (6:UInt8), (6:UInt8), (6:UInt8), (6:UInt8), (6:UInt8), (6:UInt8), (6:UInt8), (6:UInt8), (6:UInt8), (6:UInt8), (6:UInt8), (6:UInt8), (6:UInt8), (6:UInt8), (6:UInt8), (6:UInt8), (6:UInt8), (7:UInt8), (7:UInt8), (7:UInt8), (7:UInt8), (7:UInt8), (7:UInt8), (7:UInt8), (7:UInt8), (7:UInt8), (7:UInt8), (7:UInt8), (7:UInt8), (7:UInt8), (7:UInt8), (7:UInt8), (7:UInt8), (7:UInt8), (7:UInt8), (7:UInt8), (7:UInt8), (7:UInt8), (7:UInt8), (7:UInt8), (7:UInt8), (7:UInt8), (7:UInt8), (7:UInt8), (7:UInt8), (7:UInt8), (7:UInt8), (7:UInt8), (7:UInt8), (7:UInt8), (7:UInt8), (7:UInt8), (7:UInt8), (7:UInt8), (7:UInt8), (7:UInt8), (7:UInt8), (7:UInt8), (7:UInt8), (7:UInt8), (7:UInt8), (7:UInt8), (7:UInt8), (7:UInt8), (7:UInt8), (7:UInt8), (7:UInt8), (7:UInt8), (7:UInt8), (7:UInt8), (7:UInt8), (7:UInt8), (7:UInt8), (7:UInt8), (7:UInt8), (7:UInt8), (7:UInt8), (7:UInt8), (7:UInt8), (7:UInt8), (7:UInt8), (8:UInt8), (8:UInt8), (8:UInt8), (8:UInt8), (8:UInt8), (8:UInt8), (8:UInt8), (8:UInt8), (8:UInt8), (8:UInt8), (8:UInt8), (8:UInt8), (8:UInt8), (8:UInt8), (8:UInt8), (8:UInt8), (8:UInt8), (8:UInt8), (8:UInt8), (8:UInt8), (8:UInt8), (8:UInt8), (8:UInt8), (8:UInt8), (8:UInt8), (8:UInt8), (8:UInt8), (8:UInt8), (8:UInt8), (8:UInt8), (8:UInt8), (8:UInt8), (8:UInt8), (8:UInt8), (8:UInt8), (8:UInt8), (8:UInt8), (8:UInt8), (8:UInt8), (8:UInt8), (8:UInt8), (8:UInt8), (8:UInt8), (8:UInt8), (8:UInt8), (8:UInt8), (8:UInt8), (8:UInt8), (8:UInt8), (8:UInt8), (8:UInt8), (8:UInt8), (8:UInt8), (8:UInt8), (8:UInt8), (8:UInt8), (8:UInt8), (8:UInt8), (8:UInt8), (8:UInt8), (8:UInt8), (8:UInt8), (8:UInt8), (8:UInt8), (8:UInt8), (8:UInt8), (8:UInt8), (8:UInt8), (8:UInt8), (8:UInt8), (8:UInt8), (8:UInt8), (8:UInt8), (8:UInt8), (8:UInt8), (8:UInt8), (8:UInt8), (8:UInt8), (8:UInt8), (8:UInt8), (8:UInt8), (8:UInt8), (8:UInt8), (8:UInt8), (8:UInt8), (8:UInt8), (8:UInt8), (8:UInt8), (8:UInt8), (8:UInt8), (8:UInt8), (8:UInt8), (8:UInt8), (8:UInt8), (8:UInt8), (8:UInt8), (8:UInt8), (8:UInt8), (8:UInt8), (8:UInt8), (8:UInt8), (8:UInt8), (8:UInt8), (8:UInt8), (8:UInt8), (8:UInt8), (8:UInt8), (8:UInt8), (8:UInt8), (8:UInt8), (8:UInt8), (8:UInt8), (8:UInt8), (8:UInt8), (8:UInt8), (8:UInt8), (8:UInt8), (8:UInt8), (8:UInt8), (8:UInt8), (8:UInt8), (8:UInt8), (8:UInt8), (8:UInt8), (8:UInt8), (8:UInt8), (8:UInt8), (8:UInt8)] (Int.toNat (IntKind.wrap .u8 (bif (decide (x3 ≥ (256:Int))) then (x3 / (256:Int)) else x3))) (0:UInt8))) : Nat) : Int)))))
 else
 none
noncomputable def G_974 : T fa_974 → TH hN0 → Option (Int) := fun x y => F_974 x.1
noncomputable def c_974 : Orc := ent i_974 [] 0 (sp fa_974 hN0 fr_974 hN0 G_974 (outN fr_974))
theorem ok_974 : OrcOk PR c_974 := fnT okO_974 mixed p_974 (by kernel_rfl) (by kernel_rfl) (L := L0) (kp := false) (by kernel_rfl) (inn := (innN fr_974)) (out := (outN fr_974)) (fun _ _ => rfl) (loopsL (l := []) (by kernel_rfl) trivial) (fun x y => by kernel_rfl)
noncomputable def O_944 : Orc := c_974
theorem okO_944 : OrcOk PR O_944 := ok_974
abbrev fa_944 : Fm := (.pair (.i .u64) .unit)
abbrev fr_944 : Fm := (.i .i64)
noncomputable def F_944 (a0 : Int) : Option (Int) :=
 ((F_974 a0)).bind fun r0 =>
 (some r0)
noncomputable def G_944 : T fa_944 → TH hN0 → Option (Int) := fun x y => F_944 x.1
noncomputable def c_944 : Orc := ent i_944 [] 0 (sp fa_944 hN0 fr_944 hN0 G_944 (outN fr_944))
theorem ok_944 : OrcOk PR c_944 := fnT okO_944 mixed p_944 (by kernel_rfl) (by kernel_rfl) (L := L0) (kp := false) (by kernel_rfl) (inn := (innN fr_944)) (out := (outN fr_944)) (fun _ _ => rfl) (loopsL (l := []) (by kernel_rfl) trivial) (fun x y => by kernel_rfl)
noncomputable def O_97a : Orc := orn
theorem okO_97a : OrcOk PR O_97a := (orn_ok _)
abbrev fa_97a : Fm := (.pair (.i .u64) (.pair (.i .i64) .unit))
abbrev fr_97a : Fm := (.tup (.pair (.i .u64) (.pair .b .unit)))
noncomputable def F_97a (a0 : Int) (a1 : Int) : Option (Int × Bool × Unit) :=
 let x0 : Int := ((2:Int) ^ (Min.min (Int.toNat (IntKind.wrap .u64 a1)) (64:Nat)))
 let x1 : Int := (a0 / x0)
 let x2 : Int := ((2:Int) ^ (Min.min (Int.toNat (IntKind.wrap .u64 (IntKind.wrap .i64 ((0:Int) - a1)))) (64:Nat)))
 let x3 : Int := (IntKind.wrap .u64 (a0 * x2))
 bif (decide (a1 ≥ (64:Int))) then
 (some ((0:Int), ((a0 != (0:Int)), ())))
 else
 bif (decide (a1 ≤ (-(64:Int)))) then
 (some ((0:Int), ((a0 != (0:Int)), ())))
 else
 bif (decide (a1 ≥ (0:Int))) then
 bif (decide ((0:Int) ≤ (IntKind.wrap .u64 a1))) then
 bif (decide ((0:Int) ≤ (IntKind.wrap .u64 a1))) then
 (some (x1, (((IntKind.wrap .u64 (x1 * x0)) != a0), ())))
 else
 none
 else
 none
 else
 bif (decide ((0:Int) ≤ (IntKind.wrap .u64 (IntKind.wrap .i64 ((0:Int) - a1))))) then
 bif (decide ((0:Int) ≤ (IntKind.wrap .u64 (IntKind.wrap .i64 ((0:Int) - a1))))) then
 (some (x3, (((x3 / x2) != a0), ())))
 else
 none
 else
 none
noncomputable def G_97a : T fa_97a → TH hN0 → Option (Int × Bool × Unit) := fun x y => F_97a x.1 x.2.1
noncomputable def c_97a : Orc := ent i_97a [] 0 (sp fa_97a hN0 fr_97a hN0 G_97a (outN fr_97a))
theorem ok_97a : OrcOk PR c_97a := fnT okO_97a mixed p_97a (by kernel_rfl) (by kernel_rfl) (L := L0) (kp := false) (by kernel_rfl) (inn := (innN fr_97a)) (out := (outN fr_97a)) (fun _ _ => rfl) (loopsL (l := []) (by kernel_rfl) trivial) (fun x y => by kernel_rfl)
noncomputable def O_98b : Orc := orn
theorem okO_98b : OrcOk PR O_98b := (orn_ok _)
abbrev fa_98b : Fm := (.pair (.i .u64) (.pair (.i .i64) .unit))
abbrev fr_98b : Fm := (.i .u64)
noncomputable def F_98b (a0 : Int) (a1 : Int) : Option (Int) :=
 bif (decide (a1 < (1:Int))) then
 (some (0:Int))
 else
 bif (decide (a1 ≥ (64:Int))) then
 (some a0)
 else
 bif (decide ((0:Int) ≤ (IntKind.wrap .u64 a1))) then
 (some (bits .and .u64 a0 (IntKind.wrap .u64 ((IntKind.wrap .u64 ((1:Int) * ((2:Int) ^ (Min.min (Int.toNat (IntKind.wrap .u64 a1)) (64:Nat))))) - (1:Int)))))
 else
 none
noncomputable def G_98b : T fa_98b → TH hN0 → Option (Int) := fun x y => F_98b x.1 x.2.1
noncomputable def c_98b : Orc := ent i_98b [] 0 (sp fa_98b hN0 fr_98b hN0 G_98b (outN fr_98b))
theorem ok_98b : OrcOk PR c_98b := fnT okO_98b mixed p_98b (by kernel_rfl) (by kernel_rfl) (L := L0) (kp := false) (by kernel_rfl) (inn := (innN fr_98b)) (out := (outN fr_98b)) (fun _ _ => rfl) (loopsL (l := []) (by kernel_rfl) trivial) (fun x y => by kernel_rfl)
noncomputable def O_98a : Orc := (orm c_972 (orm c_973 c_944))
theorem okO_98a : OrcOk PR O_98a := (orm_ok ok_972 (orm_ok ok_973 ok_944))
abbrev fa_98a : Fm := (.pair (.i .i64) (.pair (.i .i64) (.pair (.i .u64) .unit)))
abbrev fr_98a : Fm := (.i .i64)
noncomputable def F_98a (a0 : Int) (a1 : Int) (a2 : Int) : Option (Int) :=
 ((F_972 a0)).bind fun r0 =>
 ((F_973 a0)).bind fun r1 =>
 bif (decide (a2 > (0:Int))) then
 ((F_944 a2)).bind fun r2 =>
 (some (IntKind.wrap .i64 ((mx r1 (IntKind.wrap .i64 ((IntKind.wrap .i64 (a1 + r2)) - (1:Int)))) - r0.2.1)))
 else
 (some (IntKind.wrap .i64 (r1 - r0.2.1)))
noncomputable def G_98a : T fa_98a → TH hN0 → Option (Int) := fun x y => F_98a x.1 x.2.1 x.2.2.1
noncomputable def c_98a : Orc := ent i_98a [] 0 (sp fa_98a hN0 fr_98a hN0 G_98a (outN fr_98a))
theorem ok_98a : OrcOk PR c_98a := fnT okO_98a mixed p_98a (by kernel_rfl) (by kernel_rfl) (L := L0) (kp := false) (by kernel_rfl) (inn := (innN fr_98a)) (out := (outN fr_98a)) (fun _ _ => rfl) (loopsL (l := []) (by kernel_rfl) trivial) (fun x y => by kernel_rfl)
noncomputable def O_992 : Orc := c_97a
theorem okO_992 : OrcOk PR O_992 := ok_97a
abbrev fa_992 : Fm := (.pair (.i .u64) (.pair (.i .i64) (.pair .b .unit)))
abbrev fr_992 : Fm := (.tup (.pair (.i .u64) (.pair (.i .i64) .unit)))
noncomputable def F_992 (a0 : Int) (a1 : Int) (a2 : Bool) : Option (Int × Int × Unit) :=
 bif (decide (a1 ≤ (0:Int))) then
 ((F_97a a0 a1)).bind fun r0 =>
 bif a2 then
 (some (r0.1, ((1:Int), ())))
 else
 (some (r0.1, ((0:Int), ())))
 else
 ((F_97a a0 a1)).bind fun r1 =>
 bif (!r1.2.1) then
 bif a2 then
 (some (r1.1, ((1:Int), ())))
 else
 (some (r1.1, ((0:Int), ())))
 else
 ((F_97a a0 (IntKind.wrap .i64 (a1 - (1:Int))))).bind fun r2 =>
 bif ((bits .and .u64 r2.1 (1:Int)) == (0:Int)) then
 (some (r1.1, ((1:Int), ())))
 else
 bif r2.2.1 then
 (some (r1.1, ((3:Int), ())))
 else
 bif a2 then
 (some (r1.1, ((3:Int), ())))
 else
 (some (r1.1, ((2:Int), ())))
noncomputable def G_992 : T fa_992 → TH hN0 → Option (Int × Int × Unit) := fun x y => F_992 x.1 x.2.1 x.2.2.1
noncomputable def c_992 : Orc := ent i_992 [] 0 (sp fa_992 hN0 fr_992 hN0 G_992 (outN fr_992))
theorem ok_992 : OrcOk PR c_992 := fnT okO_992 mixed p_992 (by kernel_rfl) (by kernel_rfl) (L := L0) (kp := false) (by kernel_rfl) (inn := (innN fr_992)) (out := (outN fr_992)) (fun _ _ => rfl) (loopsL (l := []) (by kernel_rfl) trivial) (fun x y => by kernel_rfl)
noncomputable def O_993 : Orc := orn
theorem okO_993 : OrcOk PR O_993 := (orn_ok _)
abbrev fa_993 : Fm := (.pair (.i .i64) (.pair .b (.pair (.i .u64) (.pair (.i .i64) .unit))))
abbrev fr_993 : Fm := .b
noncomputable def F_993 (a0 : Int) (a1 : Bool) (a2 : Int) (a3 : Int) : Option (Bool) :=
 bif (a0 == (1:Int)) then
 (some false)
 else
 bif (a0 == (2:Int)) then
 bif (!a1) then
 (some (a3 != (0:Int)))
 else
 (some false)
 else
 bif (a0 == (3:Int)) then
 bif a1 then
 (some (a3 != (0:Int)))
 else
 (some false)
 else
 bif (a0 == (4:Int)) then
 (some (decide (a3 ≥ (2:Int))))
 else
 bif (a3 == (3:Int)) then
 (some true)
 else
 bif (a3 == (2:Int)) then
 (some ((bits .and .u64 a2 (1:Int)) == (1:Int)))
 else
 (some false)
noncomputable def G_993 : T fa_993 → TH hN0 → Option (Bool) := fun x y => F_993 x.1 x.2.1 x.2.2.1 x.2.2.2.1
noncomputable def c_993 : Orc := ent i_993 [] 0 (sp fa_993 hN0 fr_993 hN0 G_993 (outN fr_993))
theorem ok_993 : OrcOk PR c_993 := fnT okO_993 mixed p_993 (by kernel_rfl) (by kernel_rfl) (L := L0) (kp := false) (by kernel_rfl) (inn := (innN fr_993)) (out := (outN fr_993)) (fun _ _ => rfl) (loopsL (l := []) (by kernel_rfl) trivial) (fun x y => by kernel_rfl)
noncomputable def O_961 : Orc := (orm c_979 (orm c_972 (orm c_98a (orm c_992 (orm c_993 (orm c_973 (orm c_970 (orm c_994 (orm c_944 (orm c_98b c_96f))))))))))
theorem okO_961 : OrcOk PR O_961 := (orm_ok ok_979 (orm_ok ok_972 (orm_ok ok_98a (orm_ok ok_992 (orm_ok ok_993 (orm_ok ok_973 (orm_ok ok_970 (orm_ok ok_994 (orm_ok ok_944 (orm_ok ok_98b ok_96f))))))))))
abbrev fa_961 : Fm := (.pair (.i .i64) (.pair (.i .i64) (.pair .b (.pair (.i .i64) (.pair (.i .u64) (.pair .b .unit))))))
abbrev fr_961 : Fm := (.tup (.pair (.i .u32) (.pair (.agg (.pair .b (.pair .b (.pair .b (.pair .b (.pair .b .unit)))))) .unit)))
noncomputable def F_961 (a0 : Int) (a1 : Int) (a2 : Bool) (a3 : Int) (a4 : Int) (a5 : Bool) : Option (Int × (Bool × Bool × Bool × Bool × Bool × Unit) × Unit) :=
 let x0 : Int := (mn (mx a3 (-(10000:Int))) (10000:Int))
 bif (a4 == (0:Int)) then
 bif (!a5) then
 ((F_979 a0 a2)).bind fun r1 =>
 (some (r1, ((false, (false, (false, (false, (false, ()))))), ())))
 else
 ((F_972 a0)).bind fun r2 =>
 ((F_98a a0 x0 a4)).bind fun r3 =>
 ((F_992 a4 (IntKind.wrap .i64 (r3 - x0)) a5)).bind fun r4 =>
 let x5 : Bool := (r4.2.1 != (0:Int))
 ((F_993 a1 a2 r4.1 r4.2.1)).bind fun r6 =>
 let x7 : Int := (bif r6 then (IntKind.wrap .u64 (r4.1 + (1:Int))) else r4.1)
 let x8 : Bool := ((x7 / ((2:Int) ^ (Min.min (Int.toNat (IntKind.wrap .u64 (IntKind.wrap .i64 (r2.2.1 + (1:Int))))) (64:Nat)))) != (0:Int))
 let x9 : Int := (bif x8 then (x7 / (2:Int)) else x7)
 bif (decide ((0:Int) ≤ (IntKind.wrap .u64 (IntKind.wrap .i64 (r2.2.1 + (1:Int)))))) then
 ((F_973 a0)).bind fun r10 =>
 let x11 : Int := (bif ((x9 / ((2:Int) ^ (Min.min (Int.toNat (IntKind.wrap .u64 r2.2.1)) (64:Nat)))) == (0:Int)) then (0:Int) else (IntKind.wrap .i64 ((IntKind.wrap .i64 ((IntKind.wrap .i64 ((bif x8 then (IntKind.wrap .i64 (r3 + (1:Int))) else r3) + r2.2.1)) - r10)) + (1:Int))))
 bif (decide ((0:Int) ≤ (IntKind.wrap .u64 r2.2.1))) then
 ((F_970 a0)).bind fun r12 =>
 bif (decide (x11 ≥ r12)) then
 ((F_994 a0 a1 a2)).bind fun r13 =>
 (some r13)
 else
 bif x5 then
 bif (a4 == (0:Int)) then
 ((F_98b x9 r2.2.1)).bind fun r14 =>
 ((F_96f a0 a2 x11 (IntKind.wrap .u32 r14))).bind fun r15 =>
 (some (r15, ((false, (false, (false, (true, (x5, ()))))), ())))
 else
 ((F_944 a4)).bind fun r16 =>
 ((F_973 a0)).bind fun r17 =>
 ((F_98b x9 r2.2.1)).bind fun r18 =>
 ((F_96f a0 a2 x11 (IntKind.wrap .u32 r18))).bind fun r19 =>
 (some (r19, ((false, (false, (false, ((decide ((IntKind.wrap .i64 ((IntKind.wrap .i64 (x0 + r16)) - (1:Int))) < r17)), (x5, ()))))), ())))
 else
 ((F_98b x9 r2.2.1)).bind fun r20 =>
 ((F_96f a0 a2 x11 (IntKind.wrap .u32 r20))).bind fun r21 =>
 (some (r21, ((false, (false, (false, (false, (x5, ()))))), ())))
 else
 none
 else
 none
 else
 ((F_972 a0)).bind fun r22 =>
 ((F_98a a0 x0 a4)).bind fun r23 =>
 ((F_992 a4 (IntKind.wrap .i64 (r23 - x0)) a5)).bind fun r24 =>
 let x25 : Bool := (r24.2.1 != (0:Int))
 ((F_993 a1 a2 r24.1 r24.2.1)).bind fun r26 =>
 let x27 : Int := (bif r26 then (IntKind.wrap .u64 (r24.1 + (1:Int))) else r24.1)
 let x28 : Bool := ((x27 / ((2:Int) ^ (Min.min (Int.toNat (IntKind.wrap .u64 (IntKind.wrap .i64 (r22.2.1 + (1:Int))))) (64:Nat)))) != (0:Int))
 let x29 : Int := (bif x28 then (x27 / (2:Int)) else x27)
 bif (decide ((0:Int) ≤ (IntKind.wrap .u64 (IntKind.wrap .i64 (r22.2.1 + (1:Int)))))) then
 ((F_973 a0)).bind fun r30 =>
 let x31 : Int := (bif ((x29 / ((2:Int) ^ (Min.min (Int.toNat (IntKind.wrap .u64 r22.2.1)) (64:Nat)))) == (0:Int)) then (0:Int) else (IntKind.wrap .i64 ((IntKind.wrap .i64 ((IntKind.wrap .i64 ((bif x28 then (IntKind.wrap .i64 (r23 + (1:Int))) else r23) + r22.2.1)) - r30)) + (1:Int))))
 bif (decide ((0:Int) ≤ (IntKind.wrap .u64 r22.2.1))) then
 ((F_970 a0)).bind fun r32 =>
 bif (decide (x31 ≥ r32)) then
 ((F_994 a0 a1 a2)).bind fun r33 =>
 (some r33)
 else
 bif x25 then
 bif (a4 == (0:Int)) then
 ((F_98b x29 r22.2.1)).bind fun r34 =>
 ((F_96f a0 a2 x31 (IntKind.wrap .u32 r34))).bind fun r35 =>
 (some (r35, ((false, (false, (false, (true, (x25, ()))))), ())))
 else
 ((F_944 a4)).bind fun r36 =>
 ((F_973 a0)).bind fun r37 =>
 ((F_98b x29 r22.2.1)).bind fun r38 =>
 ((F_96f a0 a2 x31 (IntKind.wrap .u32 r38))).bind fun r39 =>
 (some (r39, ((false, (false, (false, ((decide ((IntKind.wrap .i64 ((IntKind.wrap .i64 (x0 + r36)) - (1:Int))) < r37)), (x25, ()))))), ())))
 else
 ((F_98b x29 r22.2.1)).bind fun r40 =>
 ((F_96f a0 a2 x31 (IntKind.wrap .u32 r40))).bind fun r41 =>
 (some (r41, ((false, (false, (false, (false, (x25, ()))))), ())))
 else
 none
 else
 none
noncomputable def G_961 : T fa_961 → TH hN0 → Option (Int × (Bool × Bool × Bool × Bool × Bool × Unit) × Unit) := fun x y => F_961 x.1 x.2.1 x.2.2.1 x.2.2.2.1 x.2.2.2.2.1 x.2.2.2.2.2.1
noncomputable def c_961 : Orc := ent i_961 [] 0 (sp fa_961 hN0 fr_961 hN0 G_961 (outN fr_961))
theorem ok_961 : OrcOk PR c_961 := fnT okO_961 mixed p_961 (by kernel_rfl) (by kernel_rfl) (L := L0) (kp := false) (by kernel_rfl) (inn := (innN fr_961)) (out := (outN fr_961)) (fun _ _ => rfl) (loopsL (l := []) (by kernel_rfl) trivial) (fun x y => by kernel_rfl)
noncomputable def O_959 : Orc := orn
theorem okO_959 : OrcOk PR O_959 := (orn_ok _)
abbrev fa_959 : Fm := (.pair (.i .u64) .unit)
abbrev fr_959 : Fm := (.i .i64)
abbrev ff_959_0 : Fm := (.pair (.i .u64) (.us 2 (.pair (.i .i64) (.us 7 .unit))))
abbrev hf_959_0 : List BF := []
abbrev X_959_0 : Xs := (.one (.exit 0) [3] (.us 3 (.pair (.i .i64) (.us 7 .unit))) [])
abbrev S_959_0 : Type := T ff_959_0 × TH hf_959_0
abbrev E_959_0 : Type := TX X_959_0
noncomputable def LB_959_0 : Lps := L0
noncomputable def st_959_0 : StepT S_959_0 E_959_0 := fun R v kn ko =>
 bif (decide (v.1.1 > (0:Int))) then
 (kn (((v.1.1 / (2:Int)), ((IntKind.wrap .i64 (v.1.2.1 + (1:Int))), ())), ()))
 else
 (ko (v.1.2, ()))
noncomputable def ls_959_0 : St → LTr := (lsum ff_959_0 hf_959_0 X_959_0 Prod.mk id st_959_0 (hd [] [] [0, 3] 0))
theorem lp_959_0 : LoopOk PR 0 (lpN f_959 0) ls_959_0 := loopT okO_959 mixed (L := LB_959_0) (d := 1) (bs := []) (ks := [0, 3]) (loopsL (l := []) (by kernel_rfl) trivial) (by kernel_rfl) (inS := Prod.mk) (outS := id) (fun _ _ => rfl) (inX := id) (outX := id) (fun _ => rfl) (fun v R kn ko => by kernel_rfl) (hd_wk [] [] [0, 3] 0)
noncomputable def L_959 : Lps := (lpB 3 (.by_ ls_959_0) L0)
noncomputable def F_959 (a0 : Int) : Option (Int) :=
 ((lim st_959_0 ((a0, ((0:Int), ())), ()))).bind fun r0 =>
 (some r0.1.1)
noncomputable def G_959 : T fa_959 → TH hN0 → Option (Int) := fun x y => F_959 x.1
noncomputable def c_959 : Orc := ent i_959 [] 0 (sp fa_959 hN0 fr_959 hN0 G_959 (outN fr_959))
theorem ok_959 : OrcOk PR c_959 := fnT okO_959 mixed p_959 (by kernel_rfl) (by kernel_rfl) (L := L_959) (kp := false) (by kernel_rfl) (inn := (innN fr_959)) (out := (outN fr_959)) (fun _ _ => rfl) (loopsL (l := [((lpN f_959 0), ls_959_0)]) (by kernel_rfl) ⟨lp_959_0, trivial⟩) (fun x y => by kernel_rfl)
noncomputable def O_97b : Orc := orn
theorem okO_97b : OrcOk PR O_97b := (orn_ok _)
abbrev fa_97b : Fm := (.pair (.i .u64) (.pair (.i .i64) .unit))
abbrev fr_97b : Fm := (.tup (.pair (.i .u64) (.pair .b .unit)))
abbrev ff_97b_0 : Fm := (.pair (.i .u64) (.pair (.i .i64) (.us 4 (.pair .b (.us 29 .unit)))))
abbrev hf_97b_0 : List BF := []
abbrev X_97b_0 : Xs := (.one (.exit 0) [0, 1, 6] (.pair (.i .u64) (.pair (.i .i64) (.us 4 (.pair .b (.us 29 .unit))))) [])
abbrev S_97b_0 : Type := T ff_97b_0 × TH hf_97b_0
abbrev E_97b_0 : Type := TX X_97b_0
noncomputable def LB_97b_0 : Lps := L0
noncomputable def st_97b_0 : StepT S_97b_0 E_97b_0 := fun R v kn ko =>
 let x0 : Int := v.1.1
 let x1 : Int := (x0 / (2:Int))
 let x2 : Int := (IntKind.wrap .i64 (v.1.2.1 - (1:Int)))
 bif (decide (v.1.2.1 > (0:Int))) then
 bif v.1.2.2.1 then
 (kn ((x1, (x2, (true, ()))), ()))
 else
 (kn ((x1, (x2, (((bits .and .u64 x0 (1:Int)) == (1:Int)), ()))), ()))
 else
 (ko v)
noncomputable def ls_97b_0 : St → LTr := (lsum ff_97b_0 hf_97b_0 X_97b_0 Prod.mk id st_97b_0 (hd [] [] [0, 1, 6] 0))
theorem lp_97b_0 : LoopOk PR 0 (lpN f_97b 0) ls_97b_0 := loopT okO_97b mixed (L := LB_97b_0) (d := 1) (bs := []) (ks := [0, 1, 6]) (loopsL (l := []) (by kernel_rfl) trivial) (by kernel_rfl) (inS := Prod.mk) (outS := id) (fun _ _ => rfl) (inX := id) (outX := id) (fun _ => rfl) (fun v R kn ko => by kernel_rfl) (hd_wk [] [] [0, 1, 6] 0)
abbrev ff_97b_1 : Fm := (.pair (.i .u64) (.pair (.i .i64) (.us 4 (.pair .b (.us 29 .unit)))))
abbrev hf_97b_1 : List BF := []
abbrev X_97b_1 : Xs := (.one (.exit 2) [0, 6] (.pair (.i .u64) (.us 5 (.pair .b (.us 29 .unit)))) [])
abbrev S_97b_1 : Type := T ff_97b_1 × TH hf_97b_1
abbrev E_97b_1 : Type := TX X_97b_1
noncomputable def LB_97b_1 : Lps := (lpB 4 (.by_ ls_97b_0) L0)
noncomputable def st_97b_1 : StepT S_97b_1 E_97b_1 := fun R v kn ko =>
 let x0 : Int := v.1.1
 let x1 : Int := (IntKind.wrap .u64 (x0 * (2:Int)))
 let x2 : Int := (IntKind.wrap .i64 (v.1.2.1 + (1:Int)))
 bif (decide (v.1.2.1 < (0:Int))) then
 bif v.1.2.2.1 then
 (kn ((x1, (x2, (true, ()))), ()))
 else
 (kn ((x1, (x2, (((x0 / (9223372036854775808:Int)) == (1:Int)), ()))), ()))
 else
 (ko ((x0, v.1.2.2), ()))
noncomputable def ls_97b_1 : St → LTr := (lsum ff_97b_1 hf_97b_1 X_97b_1 Prod.mk id st_97b_1 (hd [] [] [0, 1, 6] 0))
theorem lp_97b_1 : LoopOk PR 0 (lpN f_97b 1) ls_97b_1 := loopT okO_97b mixed (L := LB_97b_1) (d := 1) (bs := []) (ks := [0, 1, 6]) (loopsL (l := []) (by kernel_rfl) trivial) (by kernel_rfl) (inS := Prod.mk) (outS := id) (fun _ _ => rfl) (inX := id) (outX := id) (fun _ => rfl) (fun v R kn ko => by kernel_rfl) (hd_wk [] [] [0, 1, 6] 0)
noncomputable def L_97b : Lps := (lpB 8 (.by_ ls_97b_1) (lpB 4 (.by_ ls_97b_0) L0))
noncomputable def F_97b (a0 : Int) (a1 : Int) : Option (Int × Bool × Unit) :=
 ((lim st_97b_0 ((a0, ((mn (mx a1 (-(64:Int))) (64:Int)), (false, ()))), ()))).bind fun r0 =>
 ((lim st_97b_1 r0)).bind fun r1 =>
 (some r1.1)
noncomputable def G_97b : T fa_97b → TH hN0 → Option (Int × Bool × Unit) := fun x y => F_97b x.1 x.2.1
noncomputable def c_97b : Orc := ent i_97b [] 0 (sp fa_97b hN0 fr_97b hN0 G_97b (outN fr_97b))
theorem ok_97b : OrcOk PR c_97b := fnT okO_97b mixed p_97b (by kernel_rfl) (by kernel_rfl) (L := L_97b) (kp := false) (by kernel_rfl) (inn := (innN fr_97b)) (out := (outN fr_97b)) (fun _ _ => rfl) (loopsL (l := [((lpN f_97b 0), ls_97b_0), ((lpN f_97b 1), ls_97b_1)]) (by kernel_rfl) ⟨lp_97b_0, ⟨lp_97b_1, trivial⟩⟩) (fun x y => by kernel_rfl)
noncomputable def O_95a : Orc := c_97b
theorem okO_95a : OrcOk PR O_95a := ok_97b
abbrev fa_95a : Fm := (.pair (.i .u64) (.pair (.i .i64) .unit))
abbrev fr_95a : Fm := (.tup (.pair (.i .u64) (.pair .b (.pair .b .unit))))
noncomputable def F_95a (a0 : Int) (a1 : Int) : Option (Int × Bool × Bool × Unit) :=
 bif (decide (a1 ≤ (0:Int))) then
 bif (decide ((0:Int) ≤ (mn (IntKind.wrap .i64 ((0:Int) - a1)) (63:Int)))) then
 (some ((IntKind.wrap .u64 (a0 * ((2:Int) ^ (Min.min (Int.toNat (mn (IntKind.wrap .i64 ((0:Int) - a1)) (63:Int))) (64:Nat))))), (false, (false, ()))))
 else
 none
 else
 bif (decide (a1 > (64:Int))) then
 (some ((0:Int), (false, ((a0 != (0:Int)), ()))))
 else
 ((F_97b a0 a1)).bind fun r0 =>
 ((F_97b a0 (IntKind.wrap .i64 (a1 - (1:Int))))).bind fun r1 =>
 ((F_97b a0 (IntKind.wrap .i64 (a1 - (1:Int))))).bind fun r2 =>
 (some (r0.1, (((bits .and .u64 r1.1 (1:Int)) == (1:Int)), r2.2)))
noncomputable def G_95a : T fa_95a → TH hN0 → Option (Int × Bool × Bool × Unit) := fun x y => F_95a x.1 x.2.1
noncomputable def c_95a : Orc := ent i_95a [] 0 (sp fa_95a hN0 fr_95a hN0 G_95a (outN fr_95a))
theorem ok_95a : OrcOk PR c_95a := fnT okO_95a mixed p_95a (by kernel_rfl) (by kernel_rfl) (L := L0) (kp := false) (by kernel_rfl) (inn := (innN fr_95a)) (out := (outN fr_95a)) (fun _ _ => rfl) (loopsL (l := []) (by kernel_rfl) trivial) (fun x y => by kernel_rfl)
noncomputable def O_95b : Orc := orn
theorem okO_95b : OrcOk PR O_95b := (orn_ok _)
abbrev fa_95b : Fm := (.pair (.i .i64) (.pair .b (.pair .b (.pair .b (.pair .b .unit)))))
abbrev fr_95b : Fm := .b
noncomputable def F_95b (a0 : Int) (a1 : Bool) (a2 : Bool) (a3 : Bool) (a4 : Bool) : Option (Bool) :=
 bif (a0 == (1:Int)) then
 (some false)
 else
 bif (a0 == (2:Int)) then
 bif (!a1) then
 bif a3 then
 (some true)
 else
 (some a4)
 else
 (some false)
 else
 bif (a0 == (3:Int)) then
 bif a1 then
 bif a3 then
 (some true)
 else
 (some a4)
 else
 (some false)
 else
 bif (a0 == (4:Int)) then
 (some a3)
 else
 bif a3 then
 bif a4 then
 (some true)
 else
 (some a2)
 else
 (some false)
noncomputable def G_95b : T fa_95b → TH hN0 → Option (Bool) := fun x y => F_95b x.1 x.2.1 x.2.2.1 x.2.2.2.1 x.2.2.2.2.1
noncomputable def c_95b : Orc := ent i_95b [] 0 (sp fa_95b hN0 fr_95b hN0 G_95b (outN fr_95b))
theorem ok_95b : OrcOk PR c_95b := fnT okO_95b mixed p_95b (by kernel_rfl) (by kernel_rfl) (L := L0) (kp := false) (by kernel_rfl) (inn := (innN fr_95b)) (out := (outN fr_95b)) (fun _ _ => rfl) (loopsL (l := []) (by kernel_rfl) trivial) (fun x y => by kernel_rfl)
noncomputable def O_930 : Orc := (orm c_91a (orm c_919 (orm c_94c (orm c_959 (orm c_95a (orm c_95b (orm c_938 c_95c)))))))
theorem okO_930 : OrcOk PR O_930 := (orm_ok ok_91a (orm_ok ok_919 (orm_ok ok_94c (orm_ok ok_959 (orm_ok ok_95a (orm_ok ok_95b (orm_ok ok_938 ok_95c)))))))
abbrev fa_930 : Fm := (.pair (.i .i64) (.pair (.i .i64) (.pair .b (.pair (.i .i64) (.pair (.i .u64) (.pair .b .unit))))))
abbrev fr_930 : Fm := (.tup (.pair (.i .u32) (.pair (.agg (.pair .b (.pair .b (.pair .b (.pair .b (.pair .b .unit)))))) .unit)))
noncomputable def F_930 (a0 : Int) (a1 : Int) (a2 : Bool) (a3 : Int) (a4 : Int) (a5 : Bool) : Option (Int × (Bool × Bool × Bool × Bool × Bool × Unit) × Unit) :=
 let x0 : Int := (mn (mx a3 (-(10000:Int))) (10000:Int))
 bif (a4 == (0:Int)) then
 bif (!a5) then
 ((F_91a a0 a2)).bind fun r1 =>
 (some (r1, ((false, (false, (false, (false, (false, ()))))), ())))
 else
 ((F_919 a0)).bind fun r2 =>
 let x3 : Int := (IntKind.wrap .u64 ((1:Int) * ((2:Int) ^ (Min.min (Int.toNat (IntKind.wrap .i64 (r2.2.1 + (1:Int)))) (64:Nat)))))
 let x4 : Nat := (Int.toNat r2.2.1)
 let x5 : Int := ((2:Int) ^ (Min.min x4 (32:Nat)))
 let x6 : Int := (IntKind.wrap .u64 ((IntKind.wrap .u64 ((1:Int) * ((2:Int) ^ (Min.min x4 (64:Nat))))) - (1:Int)))
 ((F_94c a0)).bind fun r7 =>
 ((F_959 a4)).bind fun r8 =>
 let x9 : Int := (IntKind.wrap .i64 ((mx (bif (a4 == (0:Int)) then (-(20000:Int)) else (IntKind.wrap .i64 ((IntKind.wrap .i64 (x0 + r8)) - (1:Int)))) (IntKind.wrap .i64 ((1:Int) - r7))) - r2.2.1))
 let x10 : Int := (IntKind.wrap .i64 (x9 + (1:Int)))
 ((F_95a a4 (IntKind.wrap .i64 (x9 - x0)))).bind fun r11 =>
 let x12 : Bool := r11.2.2.1
 let x13 : Bool := ((bits .and .u64 r11.1 (1:Int)) == (1:Int))
 let x14 : Int := (IntKind.wrap .u64 (r11.1 + (1:Int)))
 bif x12 then
 bif r11.2.1 then
 ((F_95b a1 a2 x13 r11.2.1 true)).bind fun r15 =>
 let x16 : Int := (bif r15 then x14 else r11.1)
 let x17 : Bool := (x16 == x3)
 let x18 : Int := (bif x17 then (x16 / (2:Int)) else x16)
 bif (decide ((0:Int) ≤ (IntKind.wrap .i64 (r2.2.1 + (1:Int))))) then
 bif (decide ((0:Int) ≤ r2.2.1)) then
 bif (decide (x18 < (IntKind.wrap .u64 ((1:Int) * ((2:Int) ^ (Min.min x4 (64:Nat))))))) then
 ((F_938 a0 a2)).bind fun r19 =>
 (some ((bits .or .u32 r19 (IntKind.wrap .u32 x18)), ((false, (false, (false, ((decide ((bif (a4 == (0:Int)) then (-(20000:Int)) else (IntKind.wrap .i64 ((IntKind.wrap .i64 (x0 + r8)) - (1:Int)))) < (IntKind.wrap .i64 ((1:Int) - r7)))), (true, ()))))), ())))
 else
 ((F_94c a0)).bind fun r20 =>
 ((F_919 a0)).bind fun r21 =>
 bif (decide ((0:Int) ≤ r21.1)) then
 bif (decide ((IntKind.wrap .i64 ((IntKind.wrap .i64 ((bif x17 then x10 else x9) + r2.2.1)) + r20)) ≥ (IntKind.wrap .i64 ((IntKind.wrap .i64 ((1:Int) * ((2:Int) ^ (Min.min (Int.toNat r21.1) (64:Nat))))) - (1:Int))))) then
 ((F_95c a0 a1 a2)).bind fun r22 =>
 (some (r22, ((false, (false, (true, (false, (true, ()))))), ())))
 else
 ((F_938 a0 a2)).bind fun r23 =>
 bif (decide ((0:Int) ≤ r2.2.1)) then
 bif (decide ((0:Int) ≤ r2.2.1)) then
 (some ((bits .or .u32 (bits .or .u32 r23 (IntKind.wrap .u32 ((IntKind.wrap .u32 (IntKind.wrap .i64 ((IntKind.wrap .i64 ((bif x17 then x10 else x9) + r2.2.1)) + r20))) * x5))) (IntKind.wrap .u32 (bits .and .u64 x18 x6))), ((false, (false, (false, ((decide ((bif (a4 == (0:Int)) then (-(20000:Int)) else (IntKind.wrap .i64 ((IntKind.wrap .i64 (x0 + r8)) - (1:Int)))) < (IntKind.wrap .i64 ((1:Int) - r7)))), (true, ()))))), ())))
 else
 none
 else
 none
 else
 none
 else
 none
 else
 none
 else
 ((F_95b a1 a2 x13 r11.2.1 true)).bind fun r24 =>
 let x25 : Int := (bif r24 then x14 else r11.1)
 let x26 : Bool := (x25 == x3)
 let x27 : Int := (bif x26 then (x25 / (2:Int)) else x25)
 bif (decide ((0:Int) ≤ (IntKind.wrap .i64 (r2.2.1 + (1:Int))))) then
 bif (decide ((0:Int) ≤ r2.2.1)) then
 bif (decide (x27 < (IntKind.wrap .u64 ((1:Int) * ((2:Int) ^ (Min.min x4 (64:Nat))))))) then
 ((F_938 a0 a2)).bind fun r28 =>
 (some ((bits .or .u32 r28 (IntKind.wrap .u32 x27)), ((false, (false, (false, ((decide ((bif (a4 == (0:Int)) then (-(20000:Int)) else (IntKind.wrap .i64 ((IntKind.wrap .i64 (x0 + r8)) - (1:Int)))) < (IntKind.wrap .i64 ((1:Int) - r7)))), (true, ()))))), ())))
 else
 ((F_94c a0)).bind fun r29 =>
 ((F_919 a0)).bind fun r30 =>
 bif (decide ((0:Int) ≤ r30.1)) then
 bif (decide ((IntKind.wrap .i64 ((IntKind.wrap .i64 ((bif x26 then x10 else x9) + r2.2.1)) + r29)) ≥ (IntKind.wrap .i64 ((IntKind.wrap .i64 ((1:Int) * ((2:Int) ^ (Min.min (Int.toNat r30.1) (64:Nat))))) - (1:Int))))) then
 ((F_95c a0 a1 a2)).bind fun r31 =>
 (some (r31, ((false, (false, (true, (false, (true, ()))))), ())))
 else
 ((F_938 a0 a2)).bind fun r32 =>
 bif (decide ((0:Int) ≤ r2.2.1)) then
 bif (decide ((0:Int) ≤ r2.2.1)) then
 (some ((bits .or .u32 (bits .or .u32 r32 (IntKind.wrap .u32 ((IntKind.wrap .u32 (IntKind.wrap .i64 ((IntKind.wrap .i64 ((bif x26 then x10 else x9) + r2.2.1)) + r29))) * x5))) (IntKind.wrap .u32 (bits .and .u64 x27 x6))), ((false, (false, (false, ((decide ((bif (a4 == (0:Int)) then (-(20000:Int)) else (IntKind.wrap .i64 ((IntKind.wrap .i64 (x0 + r8)) - (1:Int)))) < (IntKind.wrap .i64 ((1:Int) - r7)))), (true, ()))))), ())))
 else
 none
 else
 none
 else
 none
 else
 none
 else
 none
 else
 bif r11.2.1 then
 ((F_95b a1 a2 x13 r11.2.1 a5)).bind fun r33 =>
 let x34 : Int := (bif r33 then x14 else r11.1)
 let x35 : Bool := (x34 == x3)
 let x36 : Int := (bif x35 then (x34 / (2:Int)) else x34)
 bif (decide ((0:Int) ≤ (IntKind.wrap .i64 (r2.2.1 + (1:Int))))) then
 bif (decide ((0:Int) ≤ r2.2.1)) then
 bif (decide (x36 < (IntKind.wrap .u64 ((1:Int) * ((2:Int) ^ (Min.min x4 (64:Nat))))))) then
 ((F_938 a0 a2)).bind fun r37 =>
 (some ((bits .or .u32 r37 (IntKind.wrap .u32 x36)), ((false, (false, (false, ((decide ((bif (a4 == (0:Int)) then (-(20000:Int)) else (IntKind.wrap .i64 ((IntKind.wrap .i64 (x0 + r8)) - (1:Int)))) < (IntKind.wrap .i64 ((1:Int) - r7)))), (true, ()))))), ())))
 else
 ((F_94c a0)).bind fun r38 =>
 ((F_919 a0)).bind fun r39 =>
 bif (decide ((0:Int) ≤ r39.1)) then
 bif (decide ((IntKind.wrap .i64 ((IntKind.wrap .i64 ((bif x35 then x10 else x9) + r2.2.1)) + r38)) ≥ (IntKind.wrap .i64 ((IntKind.wrap .i64 ((1:Int) * ((2:Int) ^ (Min.min (Int.toNat r39.1) (64:Nat))))) - (1:Int))))) then
 ((F_95c a0 a1 a2)).bind fun r40 =>
 (some (r40, ((false, (false, (true, (false, (true, ()))))), ())))
 else
 ((F_938 a0 a2)).bind fun r41 =>
 bif (decide ((0:Int) ≤ r2.2.1)) then
 bif (decide ((0:Int) ≤ r2.2.1)) then
 (some ((bits .or .u32 (bits .or .u32 r41 (IntKind.wrap .u32 ((IntKind.wrap .u32 (IntKind.wrap .i64 ((IntKind.wrap .i64 ((bif x35 then x10 else x9) + r2.2.1)) + r38))) * x5))) (IntKind.wrap .u32 (bits .and .u64 x36 x6))), ((false, (false, (false, ((decide ((bif (a4 == (0:Int)) then (-(20000:Int)) else (IntKind.wrap .i64 ((IntKind.wrap .i64 (x0 + r8)) - (1:Int)))) < (IntKind.wrap .i64 ((1:Int) - r7)))), (true, ()))))), ())))
 else
 none
 else
 none
 else
 none
 else
 none
 else
 none
 else
 ((F_95b a1 a2 x13 r11.2.1 a5)).bind fun r42 =>
 let x43 : Int := (bif r42 then x14 else r11.1)
 let x44 : Bool := (x43 == x3)
 let x45 : Int := (bif x44 then (x43 / (2:Int)) else x43)
 let x46 : Int := (IntKind.wrap .u32 x45)
 let x47 : Int := (IntKind.wrap .i64 ((bif x44 then x10 else x9) + r2.2.1))
 let x48 : Int := (IntKind.wrap .u32 (bits .and .u64 x45 x6))
 bif a5 then
 bif (decide ((0:Int) ≤ (IntKind.wrap .i64 (r2.2.1 + (1:Int))))) then
 bif (decide ((0:Int) ≤ r2.2.1)) then
 bif (decide (x45 < (IntKind.wrap .u64 ((1:Int) * ((2:Int) ^ (Min.min x4 (64:Nat))))))) then
 ((F_938 a0 a2)).bind fun r49 =>
 (some ((bits .or .u32 r49 x46), ((false, (false, (false, ((decide ((bif (a4 == (0:Int)) then (-(20000:Int)) else (IntKind.wrap .i64 ((IntKind.wrap .i64 (x0 + r8)) - (1:Int)))) < (IntKind.wrap .i64 ((1:Int) - r7)))), (a5, ()))))), ())))
 else
 ((F_94c a0)).bind fun r50 =>
 ((F_919 a0)).bind fun r51 =>
 bif (decide ((0:Int) ≤ r51.1)) then
 bif (decide ((IntKind.wrap .i64 (x47 + r50)) ≥ (IntKind.wrap .i64 ((IntKind.wrap .i64 ((1:Int) * ((2:Int) ^ (Min.min (Int.toNat r51.1) (64:Nat))))) - (1:Int))))) then
 ((F_95c a0 a1 a2)).bind fun r52 =>
 (some (r52, ((false, (false, (true, (false, (true, ()))))), ())))
 else
 ((F_938 a0 a2)).bind fun r53 =>
 bif (decide ((0:Int) ≤ r2.2.1)) then
 bif (decide ((0:Int) ≤ r2.2.1)) then
 (some ((bits .or .u32 (bits .or .u32 r53 (IntKind.wrap .u32 ((IntKind.wrap .u32 (IntKind.wrap .i64 (x47 + r50))) * x5))) x48), ((false, (false, (false, ((decide ((bif (a4 == (0:Int)) then (-(20000:Int)) else (IntKind.wrap .i64 ((IntKind.wrap .i64 (x0 + r8)) - (1:Int)))) < (IntKind.wrap .i64 ((1:Int) - r7)))), (a5, ()))))), ())))
 else
 none
 else
 none
 else
 none
 else
 none
 else
 none
 else
 bif (decide ((0:Int) ≤ (IntKind.wrap .i64 (r2.2.1 + (1:Int))))) then
 bif (decide ((0:Int) ≤ r2.2.1)) then
 bif (decide (x45 < (IntKind.wrap .u64 ((1:Int) * ((2:Int) ^ (Min.min x4 (64:Nat))))))) then
 ((F_938 a0 a2)).bind fun r54 =>
 (some ((bits .or .u32 r54 x46), ((false, (false, (false, (false, (a5, ()))))), ())))
 else
 ((F_94c a0)).bind fun r55 =>
 ((F_919 a0)).bind fun r56 =>
 bif (decide ((0:Int) ≤ r56.1)) then
 bif (decide ((IntKind.wrap .i64 (x47 + r55)) ≥ (IntKind.wrap .i64 ((IntKind.wrap .i64 ((1:Int) * ((2:Int) ^ (Min.min (Int.toNat r56.1) (64:Nat))))) - (1:Int))))) then
 ((F_95c a0 a1 a2)).bind fun r57 =>
 (some (r57, ((false, (false, (true, (false, (true, ()))))), ())))
 else
 ((F_938 a0 a2)).bind fun r58 =>
 bif (decide ((0:Int) ≤ r2.2.1)) then
 bif (decide ((0:Int) ≤ r2.2.1)) then
 (some ((bits .or .u32 (bits .or .u32 r58 (IntKind.wrap .u32 ((IntKind.wrap .u32 (IntKind.wrap .i64 (x47 + r55))) * x5))) x48), ((false, (false, (false, (false, (a5, ()))))), ())))
 else
 none
 else
 none
 else
 none
 else
 none
 else
 none
 else
 ((F_919 a0)).bind fun r59 =>
 let x60 : Int := (IntKind.wrap .u64 ((1:Int) * ((2:Int) ^ (Min.min (Int.toNat (IntKind.wrap .i64 (r59.2.1 + (1:Int)))) (64:Nat)))))
 let x61 : Nat := (Int.toNat r59.2.1)
 let x62 : Int := ((2:Int) ^ (Min.min x61 (32:Nat)))
 let x63 : Int := (IntKind.wrap .u64 ((IntKind.wrap .u64 ((1:Int) * ((2:Int) ^ (Min.min x61 (64:Nat))))) - (1:Int)))
 ((F_94c a0)).bind fun r64 =>
 ((F_959 a4)).bind fun r65 =>
 let x66 : Int := (IntKind.wrap .i64 ((mx (bif (a4 == (0:Int)) then (-(20000:Int)) else (IntKind.wrap .i64 ((IntKind.wrap .i64 (x0 + r65)) - (1:Int)))) (IntKind.wrap .i64 ((1:Int) - r64))) - r59.2.1))
 let x67 : Int := (IntKind.wrap .i64 (x66 + (1:Int)))
 ((F_95a a4 (IntKind.wrap .i64 (x66 - x0)))).bind fun r68 =>
 let x69 : Bool := r68.2.2.1
 let x70 : Bool := ((bits .and .u64 r68.1 (1:Int)) == (1:Int))
 let x71 : Int := (IntKind.wrap .u64 (r68.1 + (1:Int)))
 bif x69 then
 bif r68.2.1 then
 ((F_95b a1 a2 x70 r68.2.1 true)).bind fun r72 =>
 let x73 : Int := (bif r72 then x71 else r68.1)
 let x74 : Bool := (x73 == x60)
 let x75 : Int := (bif x74 then (x73 / (2:Int)) else x73)
 bif (decide ((0:Int) ≤ (IntKind.wrap .i64 (r59.2.1 + (1:Int))))) then
 bif (decide ((0:Int) ≤ r59.2.1)) then
 bif (decide (x75 < (IntKind.wrap .u64 ((1:Int) * ((2:Int) ^ (Min.min x61 (64:Nat))))))) then
 ((F_938 a0 a2)).bind fun r76 =>
 (some ((bits .or .u32 r76 (IntKind.wrap .u32 x75)), ((false, (false, (false, ((decide ((bif (a4 == (0:Int)) then (-(20000:Int)) else (IntKind.wrap .i64 ((IntKind.wrap .i64 (x0 + r65)) - (1:Int)))) < (IntKind.wrap .i64 ((1:Int) - r64)))), (true, ()))))), ())))
 else
 ((F_94c a0)).bind fun r77 =>
 ((F_919 a0)).bind fun r78 =>
 bif (decide ((0:Int) ≤ r78.1)) then
 bif (decide ((IntKind.wrap .i64 ((IntKind.wrap .i64 ((bif x74 then x67 else x66) + r59.2.1)) + r77)) ≥ (IntKind.wrap .i64 ((IntKind.wrap .i64 ((1:Int) * ((2:Int) ^ (Min.min (Int.toNat r78.1) (64:Nat))))) - (1:Int))))) then
 ((F_95c a0 a1 a2)).bind fun r79 =>
 (some (r79, ((false, (false, (true, (false, (true, ()))))), ())))
 else
 ((F_938 a0 a2)).bind fun r80 =>
 bif (decide ((0:Int) ≤ r59.2.1)) then
 bif (decide ((0:Int) ≤ r59.2.1)) then
 (some ((bits .or .u32 (bits .or .u32 r80 (IntKind.wrap .u32 ((IntKind.wrap .u32 (IntKind.wrap .i64 ((IntKind.wrap .i64 ((bif x74 then x67 else x66) + r59.2.1)) + r77))) * x62))) (IntKind.wrap .u32 (bits .and .u64 x75 x63))), ((false, (false, (false, ((decide ((bif (a4 == (0:Int)) then (-(20000:Int)) else (IntKind.wrap .i64 ((IntKind.wrap .i64 (x0 + r65)) - (1:Int)))) < (IntKind.wrap .i64 ((1:Int) - r64)))), (true, ()))))), ())))
 else
 none
 else
 none
 else
 none
 else
 none
 else
 none
 else
 ((F_95b a1 a2 x70 r68.2.1 true)).bind fun r81 =>
 let x82 : Int := (bif r81 then x71 else r68.1)
 let x83 : Bool := (x82 == x60)
 let x84 : Int := (bif x83 then (x82 / (2:Int)) else x82)
 bif (decide ((0:Int) ≤ (IntKind.wrap .i64 (r59.2.1 + (1:Int))))) then
 bif (decide ((0:Int) ≤ r59.2.1)) then
 bif (decide (x84 < (IntKind.wrap .u64 ((1:Int) * ((2:Int) ^ (Min.min x61 (64:Nat))))))) then
 ((F_938 a0 a2)).bind fun r85 =>
 (some ((bits .or .u32 r85 (IntKind.wrap .u32 x84)), ((false, (false, (false, ((decide ((bif (a4 == (0:Int)) then (-(20000:Int)) else (IntKind.wrap .i64 ((IntKind.wrap .i64 (x0 + r65)) - (1:Int)))) < (IntKind.wrap .i64 ((1:Int) - r64)))), (true, ()))))), ())))
 else
 ((F_94c a0)).bind fun r86 =>
 ((F_919 a0)).bind fun r87 =>
 bif (decide ((0:Int) ≤ r87.1)) then
 bif (decide ((IntKind.wrap .i64 ((IntKind.wrap .i64 ((bif x83 then x67 else x66) + r59.2.1)) + r86)) ≥ (IntKind.wrap .i64 ((IntKind.wrap .i64 ((1:Int) * ((2:Int) ^ (Min.min (Int.toNat r87.1) (64:Nat))))) - (1:Int))))) then
 ((F_95c a0 a1 a2)).bind fun r88 =>
 (some (r88, ((false, (false, (true, (false, (true, ()))))), ())))
 else
 ((F_938 a0 a2)).bind fun r89 =>
 bif (decide ((0:Int) ≤ r59.2.1)) then
 bif (decide ((0:Int) ≤ r59.2.1)) then
 (some ((bits .or .u32 (bits .or .u32 r89 (IntKind.wrap .u32 ((IntKind.wrap .u32 (IntKind.wrap .i64 ((IntKind.wrap .i64 ((bif x83 then x67 else x66) + r59.2.1)) + r86))) * x62))) (IntKind.wrap .u32 (bits .and .u64 x84 x63))), ((false, (false, (false, ((decide ((bif (a4 == (0:Int)) then (-(20000:Int)) else (IntKind.wrap .i64 ((IntKind.wrap .i64 (x0 + r65)) - (1:Int)))) < (IntKind.wrap .i64 ((1:Int) - r64)))), (true, ()))))), ())))
 else
 none
 else
 none
 else
 none
 else
 none
 else
 none
 else
 bif r68.2.1 then
 ((F_95b a1 a2 x70 r68.2.1 a5)).bind fun r90 =>
 let x91 : Int := (bif r90 then x71 else r68.1)
 let x92 : Bool := (x91 == x60)
 let x93 : Int := (bif x92 then (x91 / (2:Int)) else x91)
 bif (decide ((0:Int) ≤ (IntKind.wrap .i64 (r59.2.1 + (1:Int))))) then
 bif (decide ((0:Int) ≤ r59.2.1)) then
 bif (decide (x93 < (IntKind.wrap .u64 ((1:Int) * ((2:Int) ^ (Min.min x61 (64:Nat))))))) then
 ((F_938 a0 a2)).bind fun r94 =>
 (some ((bits .or .u32 r94 (IntKind.wrap .u32 x93)), ((false, (false, (false, ((decide ((bif (a4 == (0:Int)) then (-(20000:Int)) else (IntKind.wrap .i64 ((IntKind.wrap .i64 (x0 + r65)) - (1:Int)))) < (IntKind.wrap .i64 ((1:Int) - r64)))), (true, ()))))), ())))
 else
 ((F_94c a0)).bind fun r95 =>
 ((F_919 a0)).bind fun r96 =>
 bif (decide ((0:Int) ≤ r96.1)) then
 bif (decide ((IntKind.wrap .i64 ((IntKind.wrap .i64 ((bif x92 then x67 else x66) + r59.2.1)) + r95)) ≥ (IntKind.wrap .i64 ((IntKind.wrap .i64 ((1:Int) * ((2:Int) ^ (Min.min (Int.toNat r96.1) (64:Nat))))) - (1:Int))))) then
 ((F_95c a0 a1 a2)).bind fun r97 =>
 (some (r97, ((false, (false, (true, (false, (true, ()))))), ())))
 else
 ((F_938 a0 a2)).bind fun r98 =>
 bif (decide ((0:Int) ≤ r59.2.1)) then
 bif (decide ((0:Int) ≤ r59.2.1)) then
 (some ((bits .or .u32 (bits .or .u32 r98 (IntKind.wrap .u32 ((IntKind.wrap .u32 (IntKind.wrap .i64 ((IntKind.wrap .i64 ((bif x92 then x67 else x66) + r59.2.1)) + r95))) * x62))) (IntKind.wrap .u32 (bits .and .u64 x93 x63))), ((false, (false, (false, ((decide ((bif (a4 == (0:Int)) then (-(20000:Int)) else (IntKind.wrap .i64 ((IntKind.wrap .i64 (x0 + r65)) - (1:Int)))) < (IntKind.wrap .i64 ((1:Int) - r64)))), (true, ()))))), ())))
 else
 none
 else
 none
 else
 none
 else
 none
 else
 none
 else
 ((F_95b a1 a2 x70 r68.2.1 a5)).bind fun r99 =>
 let x100 : Int := (bif r99 then x71 else r68.1)
 let x101 : Bool := (x100 == x60)
 let x102 : Int := (bif x101 then (x100 / (2:Int)) else x100)
 let x103 : Int := (IntKind.wrap .u32 x102)
 let x104 : Int := (IntKind.wrap .i64 ((bif x101 then x67 else x66) + r59.2.1))
 let x105 : Int := (IntKind.wrap .u32 (bits .and .u64 x102 x63))
 bif a5 then
 bif (decide ((0:Int) ≤ (IntKind.wrap .i64 (r59.2.1 + (1:Int))))) then
 bif (decide ((0:Int) ≤ r59.2.1)) then
 bif (decide (x102 < (IntKind.wrap .u64 ((1:Int) * ((2:Int) ^ (Min.min x61 (64:Nat))))))) then
 ((F_938 a0 a2)).bind fun r106 =>
 (some ((bits .or .u32 r106 x103), ((false, (false, (false, ((decide ((bif (a4 == (0:Int)) then (-(20000:Int)) else (IntKind.wrap .i64 ((IntKind.wrap .i64 (x0 + r65)) - (1:Int)))) < (IntKind.wrap .i64 ((1:Int) - r64)))), (a5, ()))))), ())))
 else
 ((F_94c a0)).bind fun r107 =>
 ((F_919 a0)).bind fun r108 =>
 bif (decide ((0:Int) ≤ r108.1)) then
 bif (decide ((IntKind.wrap .i64 (x104 + r107)) ≥ (IntKind.wrap .i64 ((IntKind.wrap .i64 ((1:Int) * ((2:Int) ^ (Min.min (Int.toNat r108.1) (64:Nat))))) - (1:Int))))) then
 ((F_95c a0 a1 a2)).bind fun r109 =>
 (some (r109, ((false, (false, (true, (false, (true, ()))))), ())))
 else
 ((F_938 a0 a2)).bind fun r110 =>
 bif (decide ((0:Int) ≤ r59.2.1)) then
 bif (decide ((0:Int) ≤ r59.2.1)) then
 (some ((bits .or .u32 (bits .or .u32 r110 (IntKind.wrap .u32 ((IntKind.wrap .u32 (IntKind.wrap .i64 (x104 + r107))) * x62))) x105), ((false, (false, (false, ((decide ((bif (a4 == (0:Int)) then (-(20000:Int)) else (IntKind.wrap .i64 ((IntKind.wrap .i64 (x0 + r65)) - (1:Int)))) < (IntKind.wrap .i64 ((1:Int) - r64)))), (a5, ()))))), ())))
 else
 none
 else
 none
 else
 none
 else
 none
 else
 none
 else
 bif (decide ((0:Int) ≤ (IntKind.wrap .i64 (r59.2.1 + (1:Int))))) then
 bif (decide ((0:Int) ≤ r59.2.1)) then
 bif (decide (x102 < (IntKind.wrap .u64 ((1:Int) * ((2:Int) ^ (Min.min x61 (64:Nat))))))) then
 ((F_938 a0 a2)).bind fun r111 =>
 (some ((bits .or .u32 r111 x103), ((false, (false, (false, (false, (a5, ()))))), ())))
 else
 ((F_94c a0)).bind fun r112 =>
 ((F_919 a0)).bind fun r113 =>
 bif (decide ((0:Int) ≤ r113.1)) then
 bif (decide ((IntKind.wrap .i64 (x104 + r112)) ≥ (IntKind.wrap .i64 ((IntKind.wrap .i64 ((1:Int) * ((2:Int) ^ (Min.min (Int.toNat r113.1) (64:Nat))))) - (1:Int))))) then
 ((F_95c a0 a1 a2)).bind fun r114 =>
 (some (r114, ((false, (false, (true, (false, (true, ()))))), ())))
 else
 ((F_938 a0 a2)).bind fun r115 =>
 bif (decide ((0:Int) ≤ r59.2.1)) then
 bif (decide ((0:Int) ≤ r59.2.1)) then
 (some ((bits .or .u32 (bits .or .u32 r115 (IntKind.wrap .u32 ((IntKind.wrap .u32 (IntKind.wrap .i64 (x104 + r112))) * x62))) x105), ((false, (false, (false, (false, (a5, ()))))), ())))
 else
 none
 else
 none
 else
 none
 else
 none
 else
 none
noncomputable def G_930 : T fa_930 → TH hN0 → Option (Int × (Bool × Bool × Bool × Bool × Bool × Unit) × Unit) := fun x y => F_930 x.1 x.2.1 x.2.2.1 x.2.2.2.1 x.2.2.2.2.1 x.2.2.2.2.2.1
noncomputable def c_930 : Orc := ent i_930 [] 0 (sp fa_930 hN0 fr_930 hN0 G_930 (outN fr_930))
theorem ok_930 : OrcOk PR c_930 := fnT okO_930 mixed p_930 (by kernel_rfl) (by kernel_rfl) (L := L0) (kp := false) (by kernel_rfl) (inn := (innN fr_930)) (out := (outN fr_930)) (fun _ _ => rfl) (loopsL (l := []) (by kernel_rfl) trivial) (fun x y => by kernel_rfl)
end Go.Proofs.YtkmkhcmfpbffjaaGreat.VI
