import Derived.Test.YtkmkhcmfpbffjaaGreatTfedae11b
namespace Go.Proofs.YtkmkhcmfpbffjaaGreat.VI
set_option linter.unusedVariables false
set_option linter.unusedSimpArgs false
set_option maxRecDepth 100000
noncomputable def O_96e : Orc := orn
theorem okO_96e : OrcOk PR O_96e := (orn_ok _)
abbrev fa_96e : Fm := (.pair (.i .i64) .unit)
abbrev fr_96e : Fm := (.tup (.pair (.i .i64) (.pair (.i .i64) .unit)))
noncomputable def F_96e (a0 : Int) : Option (Int × Int × Unit) :=
 bif (a0 == (0:Int)) then
 (some ((5:Int), ((10:Int), ())))
 else
 bif (a0 == (1:Int)) then
 (some ((8:Int), ((7:Int), ())))
 else
 (some ((8:Int), ((23:Int), ())))
noncomputable def G_96e : T fa_96e → TH hN0 → Option (Int × Int × Unit) := fun x y => F_96e x.1
noncomputable def c_96e : Orc := ent i_96e [] 0 (sp fa_96e hN0 fr_96e hN0 G_96e (outN fr_96e))
theorem ok_96e : OrcOk PR c_96e := fnT okO_96e mixed p_96e (by kernel_rfl) (by kernel_rfl) (L := L0) (kp := false) (by kernel_rfl) (inn := (innN fr_96e)) (out := (outN fr_96e)) (fun _ _ => rfl) (loopsL (l := []) (by kernel_rfl) trivial) (fun x y => by kernel_rfl)
noncomputable def O_96d : Orc := c_96e
theorem okO_96d : OrcOk PR O_96d := ok_96e
abbrev fa_96d : Fm := (.pair (.i .i64) (.pair (.i .u32) .unit))
abbrev fr_96d : Fm := (.tup (.pair .b (.pair (.i .i64) (.pair (.i .u32) .unit))))
noncomputable def F_96d (a0 : Int) (a1 : Int) : Option (Bool × Int × Int × Unit) :=
 ((F_96e a0)).bind fun r0 =>
 let x1 : Int := ((2:Int) ^ (Min.min (Int.toNat (IntKind.wrap .u64 r0.2.1)) (32:Nat)))
 bif (decide ((0:Int) ≤ (IntKind.wrap .u64 (IntKind.wrap .i64 (r0.1 + r0.2.1))))) then
 bif (decide ((0:Int) ≤ (IntKind.wrap .u64 r0.2.1))) then
 bif (decide ((0:Int) ≤ (IntKind.wrap .u64 r0.1))) then
 bif (decide ((0:Int) ≤ (IntKind.wrap .u64 r0.2.1))) then
 (some (((bits .and .u32 (a1 / ((2:Int) ^ (Min.min (Int.toNat (IntKind.wrap .u64 (IntKind.wrap .i64 (r0.1 + r0.2.1)))) (32:Nat)))) (1:Int)) == (1:Int)), ((IntKind.wrap .i64 (bits .and .u32 (a1 / x1) (IntKind.wrap .u32 ((IntKind.wrap .u32 ((1:Int) * ((2:Int) ^ (Min.min (Int.toNat (IntKind.wrap .u64 r0.1)) (32:Nat))))) - (1:Int))))), ((bits .and .u32 a1 (IntKind.wrap .u32 ((IntKind.wrap .u32 ((1:Int) * x1)) - (1:Int)))), ()))))
 else
 none
 else
 none
 else
 none
 else
 none
noncomputable def G_96d : T fa_96d → TH hN0 → Option (Bool × Int × Int × Unit) := fun x y => F_96d x.1 x.2.1
noncomputable def c_96d : Orc := ent i_96d [] 0 (sp fa_96d hN0 fr_96d hN0 G_96d (outN fr_96d))
theorem ok_96d : OrcOk PR c_96d := fnT okO_96d mixed p_96d (by kernel_rfl) (by kernel_rfl) (L := L0) (kp := false) (by kernel_rfl) (inn := (innN fr_96d)) (out := (outN fr_96d)) (fun _ _ => rfl) (loopsL (l := []) (by kernel_rfl) trivial) (fun x y => by kernel_rfl)
noncomputable def O_96c : Orc := c_96e
theorem okO_96c : OrcOk PR O_96c := ok_96e
abbrev fa_96c : Fm := (.pair (.i .i64) .unit)
abbrev fr_96c : Fm := (.i .i64)
noncomputable def F_96c (a0 : Int) : Option (Int) :=
 ((F_96e a0)).bind fun r0 =>
 bif (decide ((0:Int) ≤ (IntKind.wrap .u64 r0.1))) then
 (some (IntKind.wrap .i64 ((IntKind.wrap .i64 ((1:Int) * ((2:Int) ^ (Min.min (Int.toNat (IntKind.wrap .u64 r0.1)) (64:Nat))))) - (1:Int))))
 else
 none
noncomputable def G_96c : T fa_96c → TH hN0 → Option (Int) := fun x y => F_96c x.1
noncomputable def c_96c : Orc := ent i_96c [] 0 (sp fa_96c hN0 fr_96c hN0 G_96c (outN fr_96c))
theorem ok_96c : OrcOk PR c_96c := fnT okO_96c mixed p_96c (by kernel_rfl) (by kernel_rfl) (L := L0) (kp := false) (by kernel_rfl) (inn := (innN fr_96c)) (out := (outN fr_96c)) (fun _ _ => rfl) (loopsL (l := []) (by kernel_rfl) trivial) (fun x y => by kernel_rfl)
noncomputable def O_96a : Orc := (orm c_96e (orm c_96d c_96c))
theorem okO_96a : OrcOk PR O_96a := (orm_ok ok_96e (orm_ok ok_96d ok_96c))
abbrev fa_96a : Fm := (.pair (.i .i64) (.pair (.i .u32) .unit))
abbrev fr_96a : Fm := (.i .i64)
noncomputable def F_96a (a0 : Int) (a1 : Int) : Option (Int) :=
 ((F_96e a0)).bind fun r0 =>
 ((F_96d a0 a1)).bind fun r1 =>
 let x2 : Bool := (r1.2.1 == (0:Int))
 let x3 : Int := r1.2.2.1
 let x4 : Bool := (x3 == (0:Int))
 let x5 : Bool := ((x3 / ((2:Int) ^ (Min.min (Int.toNat (IntKind.wrap .u64 (IntKind.wrap .i64 (r0.2.1 - (1:Int))))) (32:Nat)))) == (1:Int))
 bif x2 then
 bif x4 then
 (some (0:Int))
 else
 bif x2 then
 (some (1:Int))
 else
 ((F_96c a0)).bind fun r6 =>
 bif (decide (r1.2.1 < r6)) then
 (some (2:Int))
 else
 bif x4 then
 (some (3:Int))
 else
 bif (decide ((0:Int) ≤ (IntKind.wrap .u64 (IntKind.wrap .i64 (r0.2.1 - (1:Int)))))) then
 bif x5 then
 (some (4:Int))
 else
 (some (5:Int))
 else
 none
 else
 bif x2 then
 (some (1:Int))
 else
 ((F_96c a0)).bind fun r7 =>
 bif (decide (r1.2.1 < r7)) then
 (some (2:Int))
 else
 bif x4 then
 (some (3:Int))
 else
 bif (decide ((0:Int) ≤ (IntKind.wrap .u64 (IntKind.wrap .i64 (r0.2.1 - (1:Int)))))) then
 bif x5 then
 (some (4:Int))
 else
 (some (5:Int))
 else
 none
noncomputable def G_96a : T fa_96a → TH hN0 → Option (Int) := fun x y => F_96a x.1 x.2.1
noncomputable def c_96a : Orc := ent i_96a [] 0 (sp fa_96a hN0 fr_96a hN0 G_96a (outN fr_96a))
theorem ok_96a : OrcOk PR c_96a := fnT okO_96a mixed p_96a (by kernel_rfl) (by kernel_rfl) (L := L0) (kp := false) (by kernel_rfl) (inn := (innN fr_96a)) (out := (outN fr_96a)) (fun _ _ => rfl) (loopsL (l := []) (by kernel_rfl) trivial) (fun x y => by kernel_rfl)
noncomputable def O_968 : Orc := c_96a
theorem okO_968 : OrcOk PR O_968 := ok_96a
abbrev fa_968 : Fm := (.pair (.i .i64) (.pair (.i .u32) .unit))
abbrev fr_968 : Fm := .b
noncomputable def F_968 (a0 : Int) (a1 : Int) : Option (Bool) :=
 ((F_96a a0 a1)).bind fun r0 =>
 (some (decide (r0 ≥ (4:Int))))
noncomputable def G_968 : T fa_968 → TH hN0 → Option (Bool) := fun x y => F_968 x.1 x.2.1
noncomputable def c_968 : Orc := ent i_968 [] 0 (sp fa_968 hN0 fr_968 hN0 G_968 (outN fr_968))
theorem ok_968 : OrcOk PR c_968 := fnT okO_968 mixed p_968 (by kernel_rfl) (by kernel_rfl) (L := L0) (kp := false) (by kernel_rfl) (inn := (innN fr_968)) (out := (outN fr_968)) (fun _ _ => rfl) (loopsL (l := []) (by kernel_rfl) trivial) (fun x y => by kernel_rfl)
noncomputable def O_97b : Orc := c_96e
theorem okO_97b : OrcOk PR O_97b := ok_96e
abbrev fa_97b : Fm := (.pair (.i .i64) .unit)
abbrev fr_97b : Fm := (.i .u32)
noncomputable def F_97b (a0 : Int) : Option (Int) :=
 ((F_96e a0)).bind fun r0 =>
 bif (decide ((0:Int) ≤ (IntKind.wrap .u64 (IntKind.wrap .i64 ((IntKind.wrap .i64 (r0.1 + r0.2.1)) + (1:Int)))))) then
 (some (IntKind.wrap .u32 ((IntKind.wrap .u32 ((1:Int) * ((2:Int) ^ (Min.min (Int.toNat (IntKind.wrap .u64 (IntKind.wrap .i64 ((IntKind.wrap .i64 (r0.1 + r0.2.1)) + (1:Int))))) (32:Nat))))) - (1:Int))))
 else
 none
noncomputable def G_97b : T fa_97b → TH hN0 → Option (Int) := fun x y => F_97b x.1
noncomputable def c_97b : Orc := ent i_97b [] 0 (sp fa_97b hN0 fr_97b hN0 G_97b (outN fr_97b))
theorem ok_97b : OrcOk PR c_97b := fnT okO_97b mixed p_97b (by kernel_rfl) (by kernel_rfl) (L := L0) (kp := false) (by kernel_rfl) (inn := (innN fr_97b)) (out := (outN fr_97b)) (fun _ _ => rfl) (loopsL (l := []) (by kernel_rfl) trivial) (fun x y => by kernel_rfl)
noncomputable def O_93b : Orc := c_96d
theorem okO_93b : OrcOk PR O_93b := ok_96d
abbrev fa_93b : Fm := (.pair (.i .i64) (.pair (.i .u32) .unit))
abbrev fr_93b : Fm := .b
noncomputable def F_93b (a0 : Int) (a1 : Int) : Option (Bool) :=
 ((F_96d a0 a1)).bind fun r0 =>
 (some r0.1)
noncomputable def G_93b : T fa_93b → TH hN0 → Option (Bool) := fun x y => F_93b x.1 x.2.1
noncomputable def c_93b : Orc := ent i_93b [] 0 (sp fa_93b hN0 fr_93b hN0 G_93b (outN fr_93b))
theorem ok_93b : OrcOk PR c_93b := fnT okO_93b mixed p_93b (by kernel_rfl) (by kernel_rfl) (L := L0) (kp := false) (by kernel_rfl) (inn := (innN fr_93b)) (out := (outN fr_93b)) (fun _ _ => rfl) (loopsL (l := []) (by kernel_rfl) trivial) (fun x y => by kernel_rfl)
noncomputable def O_967 : Orc := (orm c_96e c_97b)
theorem okO_967 : OrcOk PR O_967 := (orm_ok ok_96e ok_97b)
abbrev fa_967 : Fm := (.pair (.i .i64) (.pair (.i .u32) .unit))
abbrev fr_967 : Fm := (.i .u32)
noncomputable def F_967 (a0 : Int) (a1 : Int) : Option (Int) :=
 ((F_96e a0)).bind fun r0 =>
 ((F_97b a0)).bind fun r1 =>
 bif (decide ((0:Int) ≤ (IntKind.wrap .u64 (IntKind.wrap .i64 (r0.1 + r0.2.1))))) then
 (some (bits .xor .u32 (bits .and .u32 a1 r1) (IntKind.wrap .u32 ((1:Int) * ((2:Int) ^ (Min.min (Int.toNat (IntKind.wrap .u64 (IntKind.wrap .i64 (r0.1 + r0.2.1)))) (32:Nat)))))))
 else
 none
noncomputable def G_967 : T fa_967 → TH hN0 → Option (Int) := fun x y => F_967 x.1 x.2.1
noncomputable def c_967 : Orc := ent i_967 [] 0 (sp fa_967 hN0 fr_967 hN0 G_967 (outN fr_967))
theorem ok_967 : OrcOk PR c_967 := fnT okO_967 mixed p_967 (by kernel_rfl) (by kernel_rfl) (L := L0) (kp := false) (by kernel_rfl) (inn := (innN fr_967)) (out := (outN fr_967)) (fun _ _ => rfl) (loopsL (l := []) (by kernel_rfl) trivial) (fun x y => by kernel_rfl)
noncomputable def O_95f : Orc := (orm c_97b (orm c_93b c_967))
theorem okO_95f : OrcOk PR O_95f := (orm_ok ok_97b (orm_ok ok_93b ok_967))
abbrev fa_95f : Fm := (.pair (.i .i64) (.pair (.i .u32) .unit))
abbrev fr_95f : Fm := (.i .i64)
noncomputable def F_95f (a0 : Int) (a1 : Int) : Option (Int) :=
 ((F_97b a0)).bind fun r0 =>
 ((F_93b a0 a1)).bind fun r1 =>
 bif (!r1) then
 (some (IntKind.wrap .i64 (bits .and .u32 a1 r0)))
 else
 ((F_967 a0 a1)).bind fun r2 =>
 (some (IntKind.wrap .i64 ((-(1:Int)) - (IntKind.wrap .i64 r2))))
noncomputable def G_95f : T fa_95f → TH hN0 → Option (Int) := fun x y => F_95f x.1 x.2.1
noncomputable def c_95f : Orc := ent i_95f [] 0 (sp fa_95f hN0 fr_95f hN0 G_95f (outN fr_95f))
theorem ok_95f : OrcOk PR c_95f := fnT okO_95f mixed p_95f (by kernel_rfl) (by kernel_rfl) (L := L0) (kp := false) (by kernel_rfl) (inn := (innN fr_95f)) (out := (outN fr_95f)) (fun _ _ => rfl) (loopsL (l := []) (by kernel_rfl) trivial) (fun x y => by kernel_rfl)
noncomputable def O_939 : Orc := c_96a
theorem okO_939 : OrcOk PR O_939 := ok_96a
abbrev fa_939 : Fm := (.pair (.i .i64) (.pair (.i .u32) .unit))
abbrev fr_939 : Fm := .b
noncomputable def F_939 (a0 : Int) (a1 : Int) : Option (Bool) :=
 ((F_96a a0 a1)).bind fun r0 =>
 (some (r0 == (0:Int)))
noncomputable def G_939 : T fa_939 → TH hN0 → Option (Bool) := fun x y => F_939 x.1 x.2.1
noncomputable def c_939 : Orc := ent i_939 [] 0 (sp fa_939 hN0 fr_939 hN0 G_939 (outN fr_939))
theorem ok_939 : OrcOk PR c_939 := fnT okO_939 mixed p_939 (by kernel_rfl) (by kernel_rfl) (L := L0) (kp := false) (by kernel_rfl) (inn := (innN fr_939)) (out := (outN fr_939)) (fun _ _ => rfl) (loopsL (l := []) (by kernel_rfl) trivial) (fun x y => by kernel_rfl)
noncomputable def O_944 : Orc := (orm c_968 (orm c_95f c_939))
theorem okO_944 : OrcOk PR O_944 := (orm_ok ok_968 (orm_ok ok_95f ok_939))
abbrev fa_944 : Fm := (.pair (.i .i64) (.pair (.i .u32) (.pair (.i .u32) .unit)))
abbrev fr_944 : Fm := (.tup (.pair (.i .i64) (.pair .b .unit)))
noncomputable def F_944 (a0 : Int) (a1 : Int) (a2 : Int) : Option (Int × Bool × Unit) :=
 ((F_968 a0 a1)).bind fun r0 =>
 bif r0 then
 (some ((0:Int), (false, ())))
 else
 ((F_968 a0 a2)).bind fun r1 =>
 bif r1 then
 (some ((0:Int), (false, ())))
 else
 ((F_95f a0 a1)).bind fun r2 =>
 ((F_95f a0 a2)).bind fun r3 =>
 ((F_939 a0 a1)).bind fun r4 =>
 bif r4 then
 ((F_939 a0 a2)).bind fun r5 =>
 bif r5 then
 (some ((0:Int), (true, ())))
 else
 bif (decide (r2 < r3)) then
 (some ((-(1:Int)), (true, ())))
 else
 bif (decide (r2 > r3)) then
 (some ((1:Int), (true, ())))
 else
 (some ((0:Int), (true, ())))
 else
 bif (decide (r2 < r3)) then
 (some ((-(1:Int)), (true, ())))
 else
 bif (decide (r2 > r3)) then
 (some ((1:Int), (true, ())))
 else
 (some ((0:Int), (true, ())))
noncomputable def G_944 : T fa_944 → TH hN0 → Option (Int × Bool × Unit) := fun x y => F_944 x.1 x.2.1 x.2.2.1
noncomputable def c_944 : Orc := ent i_944 [] 0 (sp fa_944 hN0 fr_944 hN0 G_944 (outN fr_944))
theorem ok_944 : OrcOk PR c_944 := fnT okO_944 mixed p_944 (by kernel_rfl) (by kernel_rfl) (L := L0) (kp := false) (by kernel_rfl) (inn := (innN fr_944)) (out := (outN fr_944)) (fun _ _ => rfl) (loopsL (l := []) (by kernel_rfl) trivial) (fun x y => by kernel_rfl)
noncomputable def O_972 : Orc := c_944
theorem okO_972 : OrcOk PR O_972 := ok_944
abbrev fa_972 : Fm := (.pair (.i .i64) (.pair (.i .u32) (.pair (.i .u32) .unit)))
abbrev fr_972 : Fm := .b
noncomputable def F_972 (a0 : Int) (a1 : Int) (a2 : Int) : Option (Bool) :=
 ((F_944 a0 a1 a2)).bind fun r0 =>
 (some (decide (r0.1 < (0:Int))))
noncomputable def G_972 : T fa_972 → TH hN0 → Option (Bool) := fun x y => F_972 x.1 x.2.1 x.2.2.1
noncomputable def c_972 : Orc := ent i_972 [] 0 (sp fa_972 hN0 fr_972 hN0 G_972 (outN fr_972))
theorem ok_972 : OrcOk PR c_972 := fnT okO_972 mixed p_972 (by kernel_rfl) (by kernel_rfl) (L := L0) (kp := false) (by kernel_rfl) (inn := (innN fr_972)) (out := (outN fr_972)) (fun _ _ => rfl) (loopsL (l := []) (by kernel_rfl) trivial) (fun x y => by kernel_rfl)
noncomputable def O_96b : Orc := c_96e
theorem okO_96b : OrcOk PR O_96b := ok_96e
abbrev fa_96b : Fm := (.pair (.i .i64) (.pair .b (.pair (.i .i64) (.pair (.i .u32) .unit))))
abbrev fr_96b : Fm := (.i .u32)
noncomputable def F_96b (a0 : Int) (a1 : Bool) (a2 : Int) (a3 : Int) : Option (Int) :=
 ((F_96e a0)).bind fun r0 =>
 let x1 : Int := (bits .or .u32 (IntKind.wrap .u32 ((IntKind.wrap .u32 a2) * ((2:Int) ^ (Min.min (Int.toNat (IntKind.wrap .u64 r0.2.1)) (32:Nat))))) a3)
 bif (decide ((0:Int) ≤ (IntKind.wrap .u64 r0.2.1))) then
 bif a1 then
 bif (decide ((0:Int) ≤ (IntKind.wrap .u64 (IntKind.wrap .i64 (r0.1 + r0.2.1))))) then
 (some (bits .or .u32 x1 (IntKind.wrap .u32 ((1:Int) * ((2:Int) ^ (Min.min (Int.toNat (IntKind.wrap .u64 (IntKind.wrap .i64 (r0.1 + r0.2.1)))) (32:Nat)))))))
 else
 none
 else
 (some x1)
 else
 none
noncomputable def G_96b : T fa_96b → TH hN0 → Option (Int) := fun x y => F_96b x.1 x.2.1 x.2.2.1 x.2.2.2.1
noncomputable def c_96b : Orc := ent i_96b [] 0 (sp fa_96b hN0 fr_96b hN0 G_96b (outN fr_96b))
theorem ok_96b : OrcOk PR c_96b := fnT okO_96b mixed p_96b (by kernel_rfl) (by kernel_rfl) (L := L0) (kp := false) (by kernel_rfl) (inn := (innN fr_96b)) (out := (outN fr_96b)) (fun _ _ => rfl) (loopsL (l := []) (by kernel_rfl) trivial) (fun x y => by kernel_rfl)
noncomputable def O_969 : Orc := (orm c_96e (orm c_96c c_96b))
theorem okO_969 : OrcOk PR O_969 := (orm_ok ok_96e (orm_ok ok_96c ok_96b))
abbrev fa_969 : Fm := (.pair (.i .i64) .unit)
abbrev fr_969 : Fm := (.i .u32)
noncomputable def F_969 (a0 : Int) : Option (Int) :=
 ((F_96e a0)).bind fun r0 =>
 ((F_96c a0)).bind fun r1 =>
 bif (decide ((0:Int) ≤ (IntKind.wrap .u64 (IntKind.wrap .i64 (r0.2.1 - (1:Int)))))) then
 ((F_96b a0 false r1 (IntKind.wrap .u32 ((1:Int) * ((2:Int) ^ (Min.min (Int.toNat (IntKind.wrap .u64 (IntKind.wrap .i64 (r0.2.1 - (1:Int))))) (32:Nat))))))).bind fun r2 =>
 (some r2)
 else
 none
noncomputable def G_969 : T fa_969 → TH hN0 → Option (Int) := fun x y => F_969 x.1
noncomputable def c_969 : Orc := ent i_969 [] 0 (sp fa_969 hN0 fr_969 hN0 G_969 (outN fr_969))
theorem ok_969 : OrcOk PR c_969 := fnT okO_969 mixed p_969 (by kernel_rfl) (by kernel_rfl) (L := L0) (kp := false) (by kernel_rfl) (inn := (innN fr_969)) (out := (outN fr_969)) (fun _ _ => rfl) (loopsL (l := []) (by kernel_rfl) trivial) (fun x y => by kernel_rfl)
noncomputable def O_916 : Orc := orn
theorem okO_916 : OrcOk PR O_916 := (orn_ok _)
abbrev fa_916 : Fm := (.pair (.i .i64) .unit)
abbrev fr_916 : Fm := (.tup (.pair (.i .i64) (.pair (.i .i64) .unit)))
noncomputable def F_916 (a0 : Int) : Option (Int × Int × Unit) :=
 bif (a0 == (0:Int)) then
 (some ((5:Int), ((10:Int), ())))
 else
 bif (a0 == (1:Int)) then
 (some ((8:Int), ((7:Int), ())))
 else
 (some ((8:Int), ((23:Int), ())))
noncomputable def G_916 : T fa_916 → TH hN0 → Option (Int × Int × Unit) := fun x y => F_916 x.1
noncomputable def c_916 : Orc := ent i_916 [] 0 (sp fa_916 hN0 fr_916 hN0 G_916 (outN fr_916))
theorem ok_916 : OrcOk PR c_916 := fnT okO_916 mixed p_916 (by kernel_rfl) (by kernel_rfl) (L := L0) (kp := false) (by kernel_rfl) (inn := (innN fr_916)) (out := (outN fr_916)) (fun _ _ => rfl) (loopsL (l := []) (by kernel_rfl) trivial) (fun x y => by kernel_rfl)
noncomputable def O_92f : Orc := c_916
theorem okO_92f : OrcOk PR O_92f := ok_916
abbrev fa_92f : Fm := (.pair (.i .i64) .unit)
abbrev fr_92f : Fm := (.i .u32)
noncomputable def F_92f (a0 : Int) : Option (Int) :=
 ((F_916 a0)).bind fun r0 =>
 bif (decide ((0:Int) ≤ (IntKind.wrap .i64 ((IntKind.wrap .i64 ((1:Int) + r0.1)) + r0.2.1)))) then
 (some (IntKind.wrap .u32 (IntKind.wrap .u64 ((IntKind.wrap .u64 ((1:Int) * ((2:Int) ^ (Min.min (Int.toNat (IntKind.wrap .i64 ((IntKind.wrap .i64 ((1:Int) + r0.1)) + r0.2.1))) (64:Nat))))) - (1:Int)))))
 else
 none
noncomputable def G_92f : T fa_92f → TH hN0 → Option (Int) := fun x y => F_92f x.1
noncomputable def c_92f : Orc := ent i_92f [] 0 (sp fa_92f hN0 fr_92f hN0 G_92f (outN fr_92f))
theorem ok_92f : OrcOk PR c_92f := fnT okO_92f mixed p_92f (by kernel_rfl) (by kernel_rfl) (L := L0) (kp := false) (by kernel_rfl) (inn := (innN fr_92f)) (out := (outN fr_92f)) (fun _ _ => rfl) (loopsL (l := []) (by kernel_rfl) trivial) (fun x y => by kernel_rfl)
noncomputable def O_932 : Orc := c_916
theorem okO_932 : OrcOk PR O_932 := ok_916
abbrev fa_932 : Fm := (.pair (.i .i64) (.pair .b .unit))
abbrev fr_932 : Fm := (.i .u32)
noncomputable def F_932 (a0 : Int) (a1 : Bool) : Option (Int) :=
 ((F_916 a0)).bind fun r0 =>
 bif a1 then
 bif (decide ((0:Int) ≤ (IntKind.wrap .i64 (r0.1 + r0.2.1)))) then
 (some (IntKind.wrap .u32 ((1:Int) * ((2:Int) ^ (Min.min (Int.toNat (IntKind.wrap .i64 (r0.1 + r0.2.1))) (32:Nat))))))
 else
 none
 else
 (some (0:Int))
noncomputable def G_932 : T fa_932 → TH hN0 → Option (Int) := fun x y => F_932 x.1 x.2.1
noncomputable def c_932 : Orc := ent i_932 [] 0 (sp fa_932 hN0 fr_932 hN0 G_932 (outN fr_932))
theorem ok_932 : OrcOk PR c_932 := fnT okO_932 mixed p_932 (by kernel_rfl) (by kernel_rfl) (L := L0) (kp := false) (by kernel_rfl) (inn := (innN fr_932)) (out := (outN fr_932)) (fun _ _ => rfl) (loopsL (l := []) (by kernel_rfl) trivial) (fun x y => by kernel_rfl)
noncomputable def O_945 : Orc := (orm c_916 c_92f)
theorem okO_945 : OrcOk PR O_945 := (orm_ok ok_916 ok_92f)
abbrev fa_945 : Fm := (.pair (.i .i64) (.pair (.i .u32) .unit))
abbrev fr_945 : Fm := (.tup (.pair .b (.pair (.i .i64) (.pair (.i .u64) .unit))))
noncomputable def F_945 (a0 : Int) (a1 : Int) : Option (Bool × Int × Int × Unit) :=
 ((F_916 a0)).bind fun r0 =>
 let x1 : Int := ((2:Int) ^ (Min.min (Int.toNat r0.2.1) (32:Nat)))
 ((F_92f a0)).bind fun r2 =>
 let x3 : Int := (bits .and .u32 a1 r2)
 bif (decide ((0:Int) ≤ (IntKind.wrap .i64 (r0.1 + r0.2.1)))) then
 bif (decide ((0:Int) ≤ r0.2.1)) then
 bif (decide ((0:Int) ≤ r0.1)) then
 bif (decide ((0:Int) ≤ r0.2.1)) then
 (some (((x3 / ((2:Int) ^ (Min.min (Int.toNat (IntKind.wrap .i64 (r0.1 + r0.2.1))) (32:Nat)))) == (1:Int)), ((IntKind.wrap .i64 (bits .and .u32 (x3 / x1) (IntKind.wrap .u32 ((IntKind.wrap .u32 ((1:Int) * ((2:Int) ^ (Min.min (Int.toNat r0.1) (32:Nat))))) - (1:Int))))), ((IntKind.wrap .u64 (bits .and .u32 x3 (IntKind.wrap .u32 ((IntKind.wrap .u32 ((1:Int) * x1)) - (1:Int))))), ()))))
 else
 none
 else
 none
 else
 none
 else
 none
noncomputable def G_945 : T fa_945 → TH hN0 → Option (Bool × Int × Int × Unit) := fun x y => F_945 x.1 x.2.1
noncomputable def c_945 : Orc := ent i_945 [] 0 (sp fa_945 hN0 fr_945 hN0 G_945 (outN fr_945))
theorem ok_945 : OrcOk PR c_945 := fnT okO_945 mixed p_945 (by kernel_rfl) (by kernel_rfl) (L := L0) (kp := false) (by kernel_rfl) (inn := (innN fr_945)) (out := (outN fr_945)) (fun _ _ => rfl) (loopsL (l := []) (by kernel_rfl) trivial) (fun x y => by kernel_rfl)
noncomputable def O_92c : Orc := c_945
theorem okO_92c : OrcOk PR O_92c := ok_945
abbrev fa_92c : Fm := (.pair (.i .i64) (.pair (.i .u32) .unit))
abbrev fr_92c : Fm := .b
noncomputable def F_92c (a0 : Int) (a1 : Int) : Option (Bool) :=
 ((F_945 a0 a1)).bind fun r0 =>
 (some r0.1)
noncomputable def G_92c : T fa_92c → TH hN0 → Option (Bool) := fun x y => F_92c x.1 x.2.1
noncomputable def c_92c : Orc := ent i_92c [] 0 (sp fa_92c hN0 fr_92c hN0 G_92c (outN fr_92c))
theorem ok_92c : OrcOk PR c_92c := fnT okO_92c mixed p_92c (by kernel_rfl) (by kernel_rfl) (L := L0) (kp := false) (by kernel_rfl) (inn := (innN fr_92c)) (out := (outN fr_92c)) (fun _ _ => rfl) (loopsL (l := []) (by kernel_rfl) trivial) (fun x y => by kernel_rfl)
noncomputable def O_91d : Orc := (orm c_916 c_945)
theorem okO_91d : OrcOk PR O_91d := (orm_ok ok_916 ok_945)
abbrev fa_91d : Fm := (.pair (.i .i64) (.pair (.i .u32) .unit))
abbrev fr_91d : Fm := (.i .i64)
noncomputable def F_91d (a0 : Int) (a1 : Int) : Option (Int) :=
 ((F_916 a0)).bind fun r0 =>
 ((F_945 a0 a1)).bind fun r1 =>
 let x2 : Bool := (r1.2.1 == (0:Int))
 let x3 : Int := r1.2.2.1
 let x4 : Bool := (x3 == (0:Int))
 let x5 : Bool := ((x3 / ((2:Int) ^ (Min.min (Int.toNat (IntKind.wrap .i64 (r0.2.1 - (1:Int)))) (64:Nat)))) == (1:Int))
 bif x2 then
 bif x4 then
 (some (0:Int))
 else
 bif x2 then
 (some (1:Int))
 else
 bif (decide ((0:Int) ≤ r0.1)) then
 bif (decide (r1.2.1 < (IntKind.wrap .i64 ((IntKind.wrap .i64 ((1:Int) * ((2:Int) ^ (Min.min (Int.toNat r0.1) (64:Nat))))) - (1:Int))))) then
 (some (2:Int))
 else
 bif x4 then
 (some (3:Int))
 else
 bif (decide ((0:Int) ≤ (IntKind.wrap .i64 (r0.2.1 - (1:Int))))) then
 bif x5 then
 (some (4:Int))
 else
 (some (5:Int))
 else
 none
 else
 none
 else
 bif x2 then
 (some (1:Int))
 else
 bif (decide ((0:Int) ≤ r0.1)) then
 bif (decide (r1.2.1 < (IntKind.wrap .i64 ((IntKind.wrap .i64 ((1:Int) * ((2:Int) ^ (Min.min (Int.toNat r0.1) (64:Nat))))) - (1:Int))))) then
 (some (2:Int))
 else
 bif x4 then
 (some (3:Int))
 else
 bif (decide ((0:Int) ≤ (IntKind.wrap .i64 (r0.2.1 - (1:Int))))) then
 bif x5 then
 (some (4:Int))
 else
 (some (5:Int))
 else
 none
 else
 none
noncomputable def G_91d : T fa_91d → TH hN0 → Option (Int) := fun x y => F_91d x.1 x.2.1
noncomputable def c_91d : Orc := ent i_91d [] 0 (sp fa_91d hN0 fr_91d hN0 G_91d (outN fr_91d))
theorem ok_91d : OrcOk PR c_91d := fnT okO_91d mixed p_91d (by kernel_rfl) (by kernel_rfl) (L := L0) (kp := false) (by kernel_rfl) (inn := (innN fr_91d)) (out := (outN fr_91d)) (fun _ _ => rfl) (loopsL (l := []) (by kernel_rfl) trivial) (fun x y => by kernel_rfl)
noncomputable def O_928 : Orc := c_91d
theorem okO_928 : OrcOk PR O_928 := ok_91d
abbrev fa_928 : Fm := (.pair (.i .i64) (.pair (.si .u32) .unit))
abbrev fr_928 : Fm := (.tup (.pair .b (.pair .b .unit)))
abbrev ff_928_0 : Fm := (.pair (.i .i64) (.pair (.si .u32) (.us 4 (.pair .b (.pair .b (.pair (.i .i64) (.us 29 .unit)))))))
abbrev hf_928_0 : List BF := []
abbrev X_928_0 : Xs := (.one (.exit 0) [6, 7] (.us 6 (.pair .b (.pair .b (.us 30 .unit)))) [])
abbrev S_928_0 : Type := T ff_928_0 × TH hf_928_0
abbrev E_928_0 : Type := TX X_928_0
noncomputable def LB_928_0 : Lps := L0
noncomputable def st_928_0 : StepT S_928_0 E_928_0 := fun R v kn ko =>
 let x0 : Int := v.1.1
 let x1 : List Int := v.1.2.1
 let x2 : Int := v.1.2.2.2.2.1
 let x3 : Bool := v.1.2.2.1
 let x4 : Bool := v.1.2.2.2.1
 let x5 : List Int := (List.take (List.length x1) x1)
 bif (decide (x2 < (((List.length x1) : Nat) : Int))) then
 bif (decide (((0:Int) ≤ x2) ∧ (x2 < (((List.length x1) : Nat) : Int)))) then
 ((F_91d x0 (List.getD x1 (Int.toNat x2) (0:Int)))).bind fun r6 =>
 bif x3 then
 bif x4 then
 (kn ((x0, (x5, (true, (true, ((IntKind.wrap .i64 (x2 + (1:Int))), ()))))), ()))
 else
 (kn ((x0, (x5, (true, ((r6 == (5:Int)), ((IntKind.wrap .i64 (x2 + (1:Int))), ()))))), ()))
 else
 bif (r6 == (4:Int)) then
 bif x4 then
 (kn ((x0, (x5, (true, (true, ((IntKind.wrap .i64 (x2 + (1:Int))), ()))))), ()))
 else
 (kn ((x0, (x5, (true, ((r6 == (5:Int)), ((IntKind.wrap .i64 (x2 + (1:Int))), ()))))), ()))
 else
 bif x4 then
 (kn ((x0, (x5, ((r6 == (5:Int)), (true, ((IntKind.wrap .i64 (x2 + (1:Int))), ()))))), ()))
 else
 (kn ((x0, (x5, ((r6 == (5:Int)), ((r6 == (5:Int)), ((IntKind.wrap .i64 (x2 + (1:Int))), ()))))), ()))
 else
 none
 else
 (ko ((x3, (x4, ())), ()))
noncomputable def ls_928_0 : St → LTr := (lsum ff_928_0 hf_928_0 X_928_0 Prod.mk id st_928_0 (hd [] [] [0, 1, 6, 7, 8] 0))
theorem lp_928_0 : LoopOk PR 0 (lpN f_928 0) ls_928_0 := loopT okO_928 mixed (L := LB_928_0) (d := 1) (bs := []) (ks := [0, 1, 6, 7, 8]) (loopsL (l := []) (by kernel_rfl) trivial) (by kernel_rfl) (inS := Prod.mk) (outS := id) (fun _ _ => rfl) (inX := id) (outX := id) (fun _ => rfl) (fun v R kn ko => by kernel_rfl) (hd_wk [] [] [0, 1, 6, 7, 8] 0)
noncomputable def L_928 : Lps := (lpB 4 (.by_ ls_928_0) L0)
noncomputable def F_928 (a0 : Int) (a1 : List Int) : Option (Bool × Bool × Unit) :=
 ((lim st_928_0 ((a0, ((List.take (List.length a1) a1), (false, (false, ((0:Int), ()))))), ()))).bind fun r0 =>
 (some r0.1)
noncomputable def G_928 : T fa_928 → TH hN0 → Option (Bool × Bool × Unit) := fun x y => F_928 x.1 x.2.1
noncomputable def c_928 : Orc := ent i_928 [] 0 (sp fa_928 hN0 fr_928 hN0 G_928 (outN fr_928))
theorem ok_928 : OrcOk PR c_928 := fnT okO_928 mixed p_928 (by kernel_rfl) (by kernel_rfl) (L := L_928) (kp := false) (by kernel_rfl) (inn := (innN fr_928)) (out := (outN fr_928)) (fun _ _ => rfl) (loopsL (l := [((lpN f_928 0), ls_928_0)]) (by kernel_rfl) ⟨lp_928_0, trivial⟩) (fun x y => by kernel_rfl)
noncomputable def O_92b : Orc := (orm c_916 c_932)
theorem okO_92b : OrcOk PR O_92b := (orm_ok ok_916 ok_932)
abbrev fa_92b : Fm := (.pair (.i .i64) (.pair .b .unit))
abbrev fr_92b : Fm := (.i .u32)
noncomputable def F_92b (a0 : Int) (a1 : Bool) : Option (Int) :=
 ((F_916 a0)).bind fun r0 =>
 ((F_932 a0 a1)).bind fun r1 =>
 bif (decide ((0:Int) ≤ r0.1)) then
 bif (decide ((0:Int) ≤ r0.2.1)) then
 (some (bits .or .u32 r1 (IntKind.wrap .u32 ((IntKind.wrap .u32 ((IntKind.wrap .u32 ((1:Int) * ((2:Int) ^ (Min.min (Int.toNat r0.1) (32:Nat))))) - (1:Int))) * ((2:Int) ^ (Min.min (Int.toNat r0.2.1) (32:Nat)))))))
 else
 none
 else
 none
noncomputable def G_92b : T fa_92b → TH hN0 → Option (Int) := fun x y => F_92b x.1 x.2.1
noncomputable def c_92b : Orc := ent i_92b [] 0 (sp fa_92b hN0 fr_92b hN0 G_92b (outN fr_92b))
theorem ok_92b : OrcOk PR c_92b := fnT okO_92b mixed p_92b (by kernel_rfl) (by kernel_rfl) (L := L0) (kp := false) (by kernel_rfl) (inn := (innN fr_92b)) (out := (outN fr_92b)) (fun _ _ => rfl) (loopsL (l := []) (by kernel_rfl) trivial) (fun x y => by kernel_rfl)
noncomputable def O_929 : Orc := (orm c_916 c_92b)
theorem okO_929 : OrcOk PR O_929 := (orm_ok ok_916 ok_92b)
abbrev fa_929 : Fm := (.pair (.i .i64) .unit)
abbrev fr_929 : Fm := (.i .u32)
noncomputable def F_929 (a0 : Int) : Option (Int) :=
 ((F_916 a0)).bind fun r0 =>
 ((F_92b a0 false)).bind fun r1 =>
 bif (decide ((0:Int) ≤ (IntKind.wrap .i64 (r0.2.1 - (1:Int))))) then
 (some (bits .or .u32 r1 (IntKind.wrap .u32 ((1:Int) * ((2:Int) ^ (Min.min (Int.toNat (IntKind.wrap .i64 (r0.2.1 - (1:Int)))) (32:Nat)))))))
 else
 none
noncomputable def G_929 : T fa_929 → TH hN0 → Option (Int) := fun x y => F_929 x.1
noncomputable def c_929 : Orc := ent i_929 [] 0 (sp fa_929 hN0 fr_929 hN0 G_929 (outN fr_929))
theorem ok_929 : OrcOk PR c_929 := fnT okO_929 mixed p_929 (by kernel_rfl) (by kernel_rfl) (L := L0) (kp := false) (by kernel_rfl) (inn := (innN fr_929)) (out := (outN fr_929)) (fun _ _ => rfl) (loopsL (l := []) (by kernel_rfl) trivial) (fun x y => by kernel_rfl)
noncomputable def O_917 : Orc := c_932
theorem okO_917 : OrcOk PR O_917 := ok_932
abbrev fa_917 : Fm := (.pair (.i .i64) (.pair .b .unit))
abbrev fr_917 : Fm := (.i .u32)
noncomputable def F_917 (a0 : Int) (a1 : Bool) : Option (Int) :=
 ((F_932 a0 a1)).bind fun r0 =>
 (some r0)
noncomputable def G_917 : T fa_917 → TH hN0 → Option (Int) := fun x y => F_917 x.1 x.2.1
noncomputable def c_917 : Orc := ent i_917 [] 0 (sp fa_917 hN0 fr_917 hN0 G_917 (outN fr_917))
theorem ok_917 : OrcOk PR c_917 := fnT okO_917 mixed p_917 (by kernel_rfl) (by kernel_rfl) (L := L0) (kp := false) (by kernel_rfl) (inn := (innN fr_917)) (out := (outN fr_917)) (fun _ _ => rfl) (loopsL (l := []) (by kernel_rfl) trivial) (fun x y => by kernel_rfl)
noncomputable def O_91e : Orc := (orm c_916 (orm c_92f c_917))
theorem okO_91e : OrcOk PR O_91e := (orm_ok ok_916 (orm_ok ok_92f ok_917))
abbrev fa_91e : Fm := (.pair (.i .i64) (.pair (.i .u32) .unit))
abbrev fr_91e : Fm := (.i .u32)
noncomputable def F_91e (a0 : Int) (a1 : Int) : Option (Int) :=
 ((F_916 a0)).bind fun r0 =>
 let x1 : Int := ((2:Int) ^ (Min.min (Int.toNat r0.2.1) (32:Nat)))
 let x2 : Int := (IntKind.wrap .u32 ((3:Int) * x1))
 let x3 : Int := (IntKind.wrap .u32 ((9:Int) * x1))
 let x4 : Int := (IntKind.wrap .u32 ((1:Int) * x1))
 let x5 : Int := (IntKind.wrap .u32 ((IntKind.wrap .u32 ((1:Int) * ((2:Int) ^ (Min.min (Int.toNat r0.1) (32:Nat))))) - (1:Int)))
 let x6 : Int := (IntKind.wrap .u32 ((x5 / (2:Int)) * x1))
 let x7 : Int := (IntKind.wrap .u32 (x5 * x1))
 bif (decide ((0:Int) ≤ r0.1)) then
 bif (decide ((0:Int) ≤ r0.2.1)) then
 bif (decide ((0:Int) ≤ r0.2.1)) then
 bif (decide ((0:Int) ≤ r0.2.1)) then
 bif (decide ((0:Int) ≤ r0.2.1)) then
 bif (decide ((0:Int) ≤ r0.2.1)) then
 bif (x2 == (0:Int)) then
 none
 else
 bif (decide ((0:Int) ≤ r0.2.1)) then
 bif (decide ((0:Int) ≤ r0.2.1)) then
 bif (decide ((0:Int) ≤ r0.2.1)) then
 bif (decide ((0:Int) ≤ r0.2.1)) then
 bif (decide ((0:Int) ≤ (IntKind.wrap .i64 (r0.2.1 - (1:Int))))) then
 bif (decide ((0:Int) ≤ r0.2.1)) then
 bif (x3 == (0:Int)) then
 none
 else
 bif (decide (((0:Int) ≤ (Int.tmod a1 (15:Int))) ∧ ((Int.tmod a1 (15:Int)) < (15:Int)))) then
 bif (decide (((0:Nat) + ((Int.toNat (Int.tmod a1 (15:Int))) * (1:Nat))) < (15:Nat))) then
 ((F_92f a0)).bind fun r8 =>
 let x9 : Int := (bits .and .u32 (List.getD [(0:Int), (1:Int), (IntKind.wrap .u32 (x4 - (1:Int))), x4, x6, (IntKind.wrap .u32 (x6 + (1:Int))), (IntKind.wrap .u32 (x6 - (1:Int))), (IntKind.wrap .u32 (x6 + x4)), (IntKind.wrap .u32 (x6 + (Int.tmod (a1 / (16:Int)) x2))), (IntKind.wrap .u32 (x7 - (1:Int))), x7, (bits .or .u32 x7 (1:Int)), (bits .or .u32 x7 (IntKind.wrap .u32 ((1:Int) * ((2:Int) ^ (Min.min (Int.toNat (IntKind.wrap .i64 (r0.2.1 - (1:Int)))) (32:Nat)))))), (IntKind.wrap .u32 (x6 - (Int.tmod (a1 / (16:Int)) x3))), (a1 / (16:Int))] ((0:Nat) + ((Int.toNat (Int.tmod a1 (15:Int))) * (1:Nat))) (0:Int)) r8)
 bif ((a1 / (2147483648:Int)) == (1:Int)) then
 ((F_917 a0 true)).bind fun r10 =>
 (some (bits .or .u32 x9 r10))
 else
 (some x9)
 else
 none
 else
 none
 else
 none
 else
 none
 else
 none
 else
 none
 else
 none
 else
 none
 else
 none
 else
 none
 else
 none
 else
 none
 else
 none
 else
 none
noncomputable def G_91e : T fa_91e → TH hN0 → Option (Int) := fun x y => F_91e x.1 x.2.1
noncomputable def c_91e : Orc := ent i_91e [] 0 (sp fa_91e hN0 fr_91e hN0 G_91e (outN fr_91e))
theorem ok_91e : OrcOk PR c_91e := fnT okO_91e mixed p_91e (by kernel_rfl) (by kernel_rfl) (L := L0) (kp := false) (by kernel_rfl) (inn := (innN fr_91e)) (out := (outN fr_91e)) (fun _ _ => rfl) (loopsL (l := []) (by kernel_rfl) trivial) (fun x y => by kernel_rfl)
noncomputable def O_92a : Orc := c_91d
theorem okO_92a : OrcOk PR O_92a := ok_91d
abbrev fa_92a : Fm := (.pair (.i .i64) (.pair (.i .u32) .unit))
abbrev fr_92a : Fm := .b
noncomputable def F_92a (a0 : Int) (a1 : Int) : Option (Bool) :=
 ((F_91d a0 a1)).bind fun r0 =>
 (some (r0 == (3:Int)))
noncomputable def G_92a : T fa_92a → TH hN0 → Option (Bool) := fun x y => F_92a x.1 x.2.1
noncomputable def c_92a : Orc := ent i_92a [] 0 (sp fa_92a hN0 fr_92a hN0 G_92a (outN fr_92a))
theorem ok_92a : OrcOk PR c_92a := fnT okO_92a mixed p_92a (by kernel_rfl) (by kernel_rfl) (L := L0) (kp := false) (by kernel_rfl) (inn := (innN fr_92a)) (out := (outN fr_92a)) (fun _ _ => rfl) (loopsL (l := []) (by kernel_rfl) trivial) (fun x y => by kernel_rfl)
noncomputable def O_946 : Orc := c_916
theorem okO_946 : OrcOk PR O_946 := ok_916
abbrev fa_946 : Fm := (.pair (.i .i64) .unit)
abbrev fr_946 : Fm := (.i .i64)
noncomputable def F_946 (a0 : Int) : Option (Int) :=
 ((F_916 a0)).bind fun r0 =>
 bif (decide ((0:Int) ≤ (IntKind.wrap .i64 (r0.1 - (1:Int))))) then
 (some (IntKind.wrap .i64 ((IntKind.wrap .i64 ((1:Int) * ((2:Int) ^ (Min.min (Int.toNat (IntKind.wrap .i64 (r0.1 - (1:Int)))) (64:Nat))))) - (1:Int))))
 else
 none
noncomputable def G_946 : T fa_946 → TH hN0 → Option (Int) := fun x y => F_946 x.1
noncomputable def c_946 : Orc := ent i_946 [] 0 (sp fa_946 hN0 fr_946 hN0 G_946 (outN fr_946))
theorem ok_946 : OrcOk PR c_946 := fnT okO_946 mixed p_946 (by kernel_rfl) (by kernel_rfl) (L := L0) (kp := false) (by kernel_rfl) (inn := (innN fr_946)) (out := (outN fr_946)) (fun _ _ => rfl) (loopsL (l := []) (by kernel_rfl) trivial) (fun x y => by kernel_rfl)
noncomputable def O_91c : Orc := (orm c_916 (orm c_945 (orm c_91d c_946)))
theorem okO_91c : OrcOk PR O_91c := (orm_ok ok_916 (orm_ok ok_945 (orm_ok ok_91d ok_946)))
abbrev fa_91c : Fm := (.pair (.i .i64) (.pair (.i .u32) .unit))
abbrev fr_91c : Fm := (.tup (.pair .b (.pair (.i .i64) (.pair (.i .u64) .unit))))
noncomputable def F_91c (a0 : Int) (a1 : Int) : Option (Bool × Int × Int × Unit) :=
 ((F_916 a0)).bind fun r0 =>
 ((F_945 a0 a1)).bind fun r1 =>
 let x2 : Int := r1.2.2.1
 ((F_91d a0 a1)).bind fun r3 =>
 bif (r3 == (2:Int)) then
 ((F_946 a0)).bind fun r4 =>
 bif (decide ((0:Int) ≤ r0.2.1)) then
 (some (r1.1, ((IntKind.wrap .i64 ((IntKind.wrap .i64 (r1.2.1 - r4)) - r0.2.1)), ((bits .or .u64 x2 (IntKind.wrap .u64 ((1:Int) * ((2:Int) ^ (Min.min (Int.toNat r0.2.1) (64:Nat)))))), ()))))
 else
 none
 else
 bif (bif (r3 == (0:Int)) then (r3 == (0:Int)) else (r3 == (1:Int))) then
 ((F_946 a0)).bind fun r5 =>
 (some (r1.1, ((IntKind.wrap .i64 ((IntKind.wrap .i64 ((1:Int) - r5)) - r0.2.1)), r1.2.2)))
 else
 (some (r1.1, ((0:Int), ((0:Int), ()))))
noncomputable def G_91c : T fa_91c → TH hN0 → Option (Bool × Int × Int × Unit) := fun x y => F_91c x.1 x.2.1
noncomputable def c_91c : Orc := ent i_91c [] 0 (sp fa_91c hN0 fr_91c hN0 G_91c (outN fr_91c))
theorem ok_91c : OrcOk PR c_91c := fnT okO_91c mixed p_91c (by kernel_rfl) (by kernel_rfl) (L := L0) (kp := false) (by kernel_rfl) (inn := (innN fr_91c)) (out := (outN fr_91c)) (fun _ _ => rfl) (loopsL (l := []) (by kernel_rfl) trivial) (fun x y => by kernel_rfl)
noncomputable def O_98a : Orc := c_92b
theorem okO_98a : OrcOk PR O_98a := ok_92b
abbrev fa_98a : Fm := (.pair (.i .i64) (.pair .b .unit))
abbrev fr_98a : Fm := (.i .u32)
noncomputable def F_98a (a0 : Int) (a1 : Bool) : Option (Int) :=
 ((F_92b a0 a1)).bind fun r0 =>
 (some (IntKind.wrap .u32 (r0 - (1:Int))))
noncomputable def G_98a : T fa_98a → TH hN0 → Option (Int) := fun x y => F_98a x.1 x.2.1
noncomputable def c_98a : Orc := ent i_98a [] 0 (sp fa_98a hN0 fr_98a hN0 G_98a (outN fr_98a))
theorem ok_98a : OrcOk PR c_98a := fnT okO_98a mixed p_98a (by kernel_rfl) (by kernel_rfl) (L := L0) (kp := false) (by kernel_rfl) (inn := (innN fr_98a)) (out := (outN fr_98a)) (fun _ _ => rfl) (loopsL (l := []) (by kernel_rfl) trivial) (fun x y => by kernel_rfl)
noncomputable def O_958 : Orc := (orm c_98a c_92b)
theorem okO_958 : OrcOk PR O_958 := (orm_ok ok_98a ok_92b)
abbrev fa_958 : Fm := (.pair (.i .i64) (.pair (.i .i64) (.pair .b .unit)))
abbrev fr_958 : Fm := (.i .u32)
noncomputable def F_958 (a0 : Int) (a1 : Int) (a2 : Bool) : Option (Int) :=
 bif (a1 == (1:Int)) then
 ((F_98a a0 a2)).bind fun r0 =>
 (some r0)
 else
 bif (a1 == (2:Int)) then
 bif a2 then
 ((F_98a a0 a2)).bind fun r1 =>
 (some r1)
 else
 bif (a1 == (3:Int)) then
 bif (!a2) then
 ((F_98a a0 a2)).bind fun r2 =>
 (some r2)
 else
 ((F_92b a0 a2)).bind fun r3 =>
 (some r3)
 else
 ((F_92b a0 a2)).bind fun r4 =>
 (some r4)
 else
 bif (a1 == (3:Int)) then
 bif (!a2) then
 ((F_98a a0 a2)).bind fun r5 =>
 (some r5)
 else
 ((F_92b a0 a2)).bind fun r6 =>
 (some r6)
 else
 ((F_92b a0 a2)).bind fun r7 =>
 (some r7)
noncomputable def G_958 : T fa_958 → TH hN0 → Option (Int) := fun x y => F_958 x.1 x.2.1 x.2.2.1
noncomputable def c_958 : Orc := ent i_958 [] 0 (sp fa_958 hN0 fr_958 hN0 G_958 (outN fr_958))
theorem ok_958 : OrcOk PR c_958 := fnT okO_958 mixed p_958 (by kernel_rfl) (by kernel_rfl) (L := L0) (kp := false) (by kernel_rfl) (inn := (innN fr_958)) (out := (outN fr_958)) (fun _ _ => rfl) (loopsL (l := []) (by kernel_rfl) trivial) (fun x y => by kernel_rfl)
noncomputable def O_9c : Orc := (orm c_916 c_917)
theorem okO_9c : OrcOk PR O_9c := (orm_ok ok_916 ok_917)
abbrev fa_9c : Fm := (.pair (.i .i64) (.pair (.i .u32) .unit))
abbrev fr_9c : Fm := (.i .u32)
noncomputable def F_9c (a0 : Int) (a1 : Int) : Option (Int) :=
 bif ((Int.tmod a1 (7:Int)) == (0:Int)) then
 (some (0:Int))
 else
 ((F_916 a0)).bind fun r0 =>
 let x1 : Int := ((2:Int) ^ (Min.min (Int.toNat r0.2.1) (32:Nat)))
 let x2 : Int := (IntKind.wrap .u32 ((4:Int) * x1))
 let x3 : Int := (IntKind.wrap .u32 ((IntKind.wrap .u32 ((IntKind.wrap .u32 (((IntKind.wrap .u32 ((IntKind.wrap .u32 ((1:Int) * ((2:Int) ^ (Min.min (Int.toNat r0.1) (32:Nat))))) - (1:Int))) / (2:Int)) * x1)) - (IntKind.wrap .u32 ((2:Int) * x1)))) + (Int.tmod (a1 / (8:Int)) x2)))
 bif (decide ((0:Int) ≤ r0.1)) then
 bif (decide ((0:Int) ≤ r0.2.1)) then
 bif (decide ((0:Int) ≤ r0.2.1)) then
 bif (decide ((0:Int) ≤ r0.2.1)) then
 bif (x2 == (0:Int)) then
 none
 else
 bif ((bits .and .u32 a1 (1:Int)) == (1:Int)) then
 ((F_917 a0 true)).bind fun r4 =>
 (some (bits .or .u32 x3 r4))
 else
 (some x3)
 else
 none
 else
 none
 else
 none
 else
 none
noncomputable def G_9c : T fa_9c → TH hN0 → Option (Int) := fun x y => F_9c x.1 x.2.1
noncomputable def c_9c : Orc := ent i_9c [] 0 (sp fa_9c hN0 fr_9c hN0 G_9c (outN fr_9c))
theorem ok_9c : OrcOk PR c_9c := fnT okO_9c mixed p_9c (by kernel_rfl) (by kernel_rfl) (L := L0) (kp := false) (by kernel_rfl) (inn := (innN fr_9c)) (out := (outN fr_9c)) (fun _ _ => rfl) (loopsL (l := []) (by kernel_rfl) trivial) (fun x y => by kernel_rfl)
noncomputable def O_99e : Orc := (orm c_96e (orm c_96c c_96b))
theorem okO_99e : OrcOk PR O_99e := (orm_ok ok_96e (orm_ok ok_96c ok_96b))
abbrev fa_99e : Fm := (.pair (.i .i64) (.pair .b .unit))
abbrev fr_99e : Fm := (.i .u32)
noncomputable def F_99e (a0 : Int) (a1 : Bool) : Option (Int) :=
 ((F_96e a0)).bind fun r0 =>
 ((F_96c a0)).bind fun r1 =>
 bif (decide ((0:Int) ≤ (IntKind.wrap .u64 r0.2.1))) then
 ((F_96b a0 a1 (IntKind.wrap .i64 (r1 - (1:Int))) (IntKind.wrap .u32 ((IntKind.wrap .u32 ((1:Int) * ((2:Int) ^ (Min.min (Int.toNat (IntKind.wrap .u64 r0.2.1)) (32:Nat))))) - (1:Int))))).bind fun r2 =>
 (some r2)
 else
 none
noncomputable def G_99e : T fa_99e → TH hN0 → Option (Int) := fun x y => F_99e x.1 x.2.1
noncomputable def c_99e : Orc := ent i_99e [] 0 (sp fa_99e hN0 fr_99e hN0 G_99e (outN fr_99e))
theorem ok_99e : OrcOk PR c_99e := fnT okO_99e mixed p_99e (by kernel_rfl) (by kernel_rfl) (L := L0) (kp := false) (by kernel_rfl) (inn := (innN fr_99e)) (out := (outN fr_99e)) (fun _ _ => rfl) (loopsL (l := []) (by kernel_rfl) trivial) (fun x y => by kernel_rfl)
noncomputable def O_96f : Orc := c_96e
theorem okO_96f : OrcOk PR O_96f := ok_96e
abbrev fa_96f : Fm := (.pair (.i .i64) .unit)
abbrev fr_96f : Fm := (.i .i64)
noncomputable def F_96f (a0 : Int) : Option (Int) :=
 ((F_96e a0)).bind fun r0 =>
 bif (decide ((0:Int) ≤ (IntKind.wrap .u64 (IntKind.wrap .i64 (r0.1 - (1:Int)))))) then
 (some (IntKind.wrap .i64 ((2:Int) - (IntKind.wrap .i64 ((1:Int) * ((2:Int) ^ (Min.min (Int.toNat (IntKind.wrap .u64 (IntKind.wrap .i64 (r0.1 - (1:Int))))) (64:Nat))))))))
 else
 none
noncomputable def G_96f : T fa_96f → TH hN0 → Option (Int) := fun x y => F_96f x.1
noncomputable def c_96f : Orc := ent i_96f [] 0 (sp fa_96f hN0 fr_96f hN0 G_96f (outN fr_96f))
theorem ok_96f : OrcOk PR c_96f := fnT okO_96f mixed p_96f (by kernel_rfl) (by kernel_rfl) (L := L0) (kp := false) (by kernel_rfl) (inn := (innN fr_96f)) (out := (outN fr_96f)) (fun _ _ => rfl) (loopsL (l := []) (by kernel_rfl) trivial) (fun x y => by kernel_rfl)
noncomputable def O_93d : Orc := (orm c_96e (orm c_96d (orm c_96f c_96c)))
theorem okO_93d : OrcOk PR O_93d := (orm_ok ok_96e (orm_ok ok_96d (orm_ok ok_96f ok_96c)))
abbrev fa_93d : Fm := (.pair (.i .i64) (.pair (.i .u32) .unit))
abbrev fr_93d : Fm := (.tup (.pair .b (.pair (.i .i64) (.pair (.i .u64) .unit))))
noncomputable def F_93d (a0 : Int) (a1 : Int) : Option (Bool × Int × Int × Unit) :=
 ((F_96e a0)).bind fun r0 =>
 ((F_96d a0 a1)).bind fun r1 =>
 let x2 : Int := r1.2.2.1
 let x3 : Int := (IntKind.wrap .u64 x2)
 bif (r1.2.1 == (0:Int)) then
 ((F_96f a0)).bind fun r4 =>
 (some (r1.1, ((IntKind.wrap .i64 (r4 - r0.2.1)), (x3, ()))))
 else
 ((F_96c a0)).bind fun r5 =>
 bif (r1.2.1 == r5) then
 (some (r1.1, ((0:Int), ((0:Int), ()))))
 else
 ((F_96f a0)).bind fun r6 =>
 bif (decide ((0:Int) ≤ (IntKind.wrap .u64 r0.2.1))) then
 (some (r1.1, ((IntKind.wrap .i64 ((IntKind.wrap .i64 ((IntKind.wrap .i64 (r6 - r0.2.1)) + r1.2.1)) - (1:Int))), ((bits .or .u64 x3 (IntKind.wrap .u64 ((1:Int) * ((2:Int) ^ (Min.min (Int.toNat (IntKind.wrap .u64 r0.2.1)) (64:Nat)))))), ()))))
 else
 none
noncomputable def G_93d : T fa_93d → TH hN0 → Option (Bool × Int × Int × Unit) := fun x y => F_93d x.1 x.2.1
noncomputable def c_93d : Orc := ent i_93d [] 0 (sp fa_93d hN0 fr_93d hN0 G_93d (outN fr_93d))
theorem ok_93d : OrcOk PR c_93d := fnT okO_93d mixed p_93d (by kernel_rfl) (by kernel_rfl) (L := L0) (kp := false) (by kernel_rfl) (inn := (innN fr_93d)) (out := (outN fr_93d)) (fun _ _ => rfl) (loopsL (l := []) (by kernel_rfl) trivial) (fun x y => by kernel_rfl)
noncomputable def O_93a : Orc := (orm c_96c c_96b)
theorem okO_93a : OrcOk PR O_93a := (orm_ok ok_96c ok_96b)
abbrev fa_93a : Fm := (.pair (.i .i64) (.pair .b .unit))
abbrev fr_93a : Fm := (.i .u32)
noncomputable def F_93a (a0 : Int) (a1 : Bool) : Option (Int) :=
 ((F_96c a0)).bind fun r0 =>
 ((F_96b a0 a1 r0 (0:Int))).bind fun r1 =>
 (some r1)
noncomputable def G_93a : T fa_93a → TH hN0 → Option (Int) := fun x y => F_93a x.1 x.2.1
noncomputable def c_93a : Orc := ent i_93a [] 0 (sp fa_93a hN0 fr_93a hN0 G_93a (outN fr_93a))
theorem ok_93a : OrcOk PR c_93a := fnT okO_93a mixed p_93a (by kernel_rfl) (by kernel_rfl) (L := L0) (kp := false) (by kernel_rfl) (inn := (innN fr_93a)) (out := (outN fr_93a)) (fun _ _ => rfl) (loopsL (l := []) (by kernel_rfl) trivial) (fun x y => by kernel_rfl)
noncomputable def O_93c : Orc := c_96a
theorem okO_93c : OrcOk PR O_93c := ok_96a
abbrev fa_93c : Fm := (.pair (.i .i64) (.pair (.i .u32) .unit))
abbrev fr_93c : Fm := .b
noncomputable def F_93c (a0 : Int) (a1 : Int) : Option (Bool) :=
 ((F_96a a0 a1)).bind fun r0 =>
 (some (r0 == (3:Int)))
noncomputable def G_93c : T fa_93c → TH hN0 → Option (Bool) := fun x y => F_93c x.1 x.2.1
noncomputable def c_93c : Orc := ent i_93c [] 0 (sp fa_93c hN0 fr_93c hN0 G_93c (outN fr_93c))
theorem ok_93c : OrcOk PR c_93c := fnT okO_93c mixed p_93c (by kernel_rfl) (by kernel_rfl) (L := L0) (kp := false) (by kernel_rfl) (inn := (innN fr_93c)) (out := (outN fr_93c)) (fun _ _ => rfl) (loopsL (l := []) (by kernel_rfl) trivial) (fun x y => by kernel_rfl)
noncomputable def O_975 : Orc := c_96b
theorem okO_975 : OrcOk PR O_975 := ok_96b
abbrev fa_975 : Fm := (.pair (.i .i64) (.pair .b .unit))
abbrev fr_975 : Fm := (.i .u32)
noncomputable def F_975 (a0 : Int) (a1 : Bool) : Option (Int) :=
 ((F_96b a0 a1 (0:Int) (0:Int))).bind fun r0 =>
 (some r0)
noncomputable def G_975 : T fa_975 → TH hN0 → Option (Int) := fun x y => F_975 x.1 x.2.1
noncomputable def c_975 : Orc := ent i_975 [] 0 (sp fa_975 hN0 fr_975 hN0 G_975 (outN fr_975))
theorem ok_975 : OrcOk PR c_975 := fnT okO_975 mixed p_975 (by kernel_rfl) (by kernel_rfl) (L := L0) (kp := false) (by kernel_rfl) (inn := (innN fr_975)) (out := (outN fr_975)) (fun _ _ => rfl) (loopsL (l := []) (by kernel_rfl) trivial) (fun x y => by kernel_rfl)
noncomputable def O_985 : Orc := (orm c_96d c_96c)
theorem okO_985 : OrcOk PR O_985 := (orm_ok ok_96d ok_96c)
abbrev fa_985 : Fm := (.pair (.i .i64) (.pair (.i .u32) .unit))
abbrev fr_985 : Fm := .b
noncomputable def F_985 (a0 : Int) (a1 : Int) : Option (Bool) :=
 ((F_96d a0 a1)).bind fun r0 =>
 ((F_96c a0)).bind fun r1 =>
 (some (decide (r0.2.1 < r1)))
noncomputable def G_985 : T fa_985 → TH hN0 → Option (Bool) := fun x y => F_985 x.1 x.2.1
noncomputable def c_985 : Orc := ent i_985 [] 0 (sp fa_985 hN0 fr_985 hN0 G_985 (outN fr_985))
theorem ok_985 : OrcOk PR c_985 := fnT okO_985 mixed p_985 (by kernel_rfl) (by kernel_rfl) (L := L0) (kp := false) (by kernel_rfl) (inn := (innN fr_985)) (out := (outN fr_985)) (fun _ _ => rfl) (loopsL (l := []) (by kernel_rfl) trivial) (fun x y => by kernel_rfl)
noncomputable def O_991 : Orc := (orm c_99e c_93a)
theorem okO_991 : OrcOk PR O_991 := (orm_ok ok_99e ok_93a)
abbrev fa_991 : Fm := (.pair (.i .i64) (.pair (.i .i64) (.pair .b .unit)))
abbrev fr_991 : Fm := (.tup (.pair (.i .u32) (.pair (.agg (.pair .b (.pair .b (.pair .b (.pair .b (.pair .b .unit)))))) .unit)))
noncomputable def F_991 (a0 : Int) (a1 : Int) (a2 : Bool) : Option (Int × (Bool × Bool × Bool × Bool × Bool × Unit) × Unit) :=
 bif (a1 == (1:Int)) then
 ((F_99e a0 a2)).bind fun r0 =>
 (some (r0, ((false, (false, (true, (false, (true, ()))))), ())))
 else
 bif (a1 == (2:Int)) then
 bif a2 then
 ((F_99e a0 a2)).bind fun r1 =>
 (some (r1, ((false, (false, (true, (false, (true, ()))))), ())))
 else
 ((F_93a a0 a2)).bind fun r2 =>
 (some (r2, ((false, (false, (true, (false, (true, ()))))), ())))
 else
 bif (a1 == (3:Int)) then
 bif (!a2) then
 ((F_99e a0 a2)).bind fun r3 =>
 (some (r3, ((false, (false, (true, (false, (true, ()))))), ())))
 else
 ((F_93a a0 a2)).bind fun r4 =>
 (some (r4, ((false, (false, (true, (false, (true, ()))))), ())))
 else
 ((F_93a a0 a2)).bind fun r5 =>
 (some (r5, ((false, (false, (true, (false, (true, ()))))), ())))
noncomputable def G_991 : T fa_991 → TH hN0 → Option (Int × (Bool × Bool × Bool × Bool × Bool × Unit) × Unit) := fun x y => F_991 x.1 x.2.1 x.2.2.1
noncomputable def c_991 : Orc := ent i_991 [] 0 (sp fa_991 hN0 fr_991 hN0 G_991 (outN fr_991))
theorem ok_991 : OrcOk PR c_991 := fnT okO_991 mixed p_991 (by kernel_rfl) (by kernel_rfl) (L := L0) (kp := false) (by kernel_rfl) (inn := (innN fr_991)) (out := (outN fr_991)) (fun _ _ => rfl) (loopsL (l := []) (by kernel_rfl) trivial) (fun x y => by kernel_rfl)
noncomputable def O_970 : Orc := orn
theorem okO_970 : OrcOk PR O_970 := (orn_ok _)
abbrev fa_970 : Fm := (.pair (.i .u64) .unit)
abbrev fr_970 : Fm := (.i .i64)
noncomputable def F_970 (a0 : Int) : Option (Int) :=
 let x0 : Int := (bif (decide (a0 ≥ (4294967296:Int))) then (32:Int) else (0:Int))
 let x1 : Int := (bif (decide ((bif (decide (a0 ≥ (4294967296:Int))) then (a0 / (4294967296:Int)) else a0) ≥ (65536:Int))) then (IntKind.wrap .i64 (x0 + (16:Int))) else x0)
 let x2 : Int := (bif (decide (a0 ≥ (4294967296:Int))) then (a0 / (4294967296:Int)) else a0)
 let x3 : Int := (bif (decide (x2 ≥ (65536:Int))) then (x2 / (65536:Int)) else x2)
 bif (decide (((0:Int) ≤ (IntKind.wrap .u8 (bif (decide (x3 ≥ (256:Int))) then (x3 / (256:Int)) else x3))) ∧ ((IntKind.wrap .u8 (bif (decide (x3 ≥ (256:Int))) then (x3 / (256:Int)) else x3)) < (256:Int)))) then
 (some (IntKind.wrap .i64 ((bif (decide (x3 ≥ (256:Int))) then (IntKind.wrap .i64 (x1 + (8:Int))) else x1) + (IntKind.wrap .i64 (((UInt8.toNat (List.getD [(0:UInt8), (1:UInt8), (2:UInt8), (2:UInt8), (3:UInt8), (3:UInt8), (3:UInt8), (3:UInt8), (4:UInt8), (4:UInt8), (4:UInt8), (4:UInt8), (4:UInt8), (4:UInt8), (4:UInt8), (4:UInt8), (5:UInt8), (5:UInt8), (5:UInt8), (5:UInt8), (5:UInt8), (5:UInt8), (5:UInt8), (5:UInt8), (5:UInt8), (5:UInt8), (5:UInt8), (5:UInt8), (5:UInt8), (5:UInt8), (5:UInt8), (5:UInt8), (6:UInt8), (6:UInt8), (6:UInt8), (6:UInt8), (6:UInt8), (6:UInt8), (6:UInt8), (6:UInt8), (6:UInt8), (6:UInt8), (6:UInt8), (6:UInt8), (6:UInt8), (6:UInt8), (6:UInt8), (6:UInt8), (6:UInt8), (6:UInt8), (6:UInt8), (6:UInt8), (6:UInt8), (6:UInt8), (6:UInt8), (6:UInt8), (6:UInt8), (6:UInt8), (6:UInt8), (6:UInt8), (6:UInt8), (6:UInt8), (6:UInt8), (6:UInt8), (7:UInt8), (7:UInt8), (7:UInt8), (7:UInt8), (7:UInt8), (7:UInt8), (7:UInt8), (7:UInt8), (7:UInt8), (7:UInt8), (7:UInt8), (7:UInt8), (7:UInt8), (7:UInt8), (7:UInt8), (7:UInt8), (7:UInt8), (7:UInt8), (7:UInt8), (7:UInt8), (7:UInt8), (7:UInt8), (7:UInt8), (7:UInt8), (7:UInt8), (7:UInt8), (7:UInt8), (7:UInt8), (7:UInt8), (7:UInt8), (7:UInt8), (7:UInt8), (7:UInt8), (7:UInt8), (7:UInt8), (7:UInt8), (7:UInt8), (7:UInt8), (7:UInt8), (7:UInt8), (7:UInt8), (7:UInt8), (7:UInt8), (7:UInt8), (7:UInt8), (7:UInt8), (7:UInt8), (7:UInt8), (7:UInt8), (7:UInt8), (7:UInt8), (7:UInt8), (7:UInt8), (7:UInt8), (7:UInt8), (7:UInt8), (7:UInt8), (7:UInt8), (7:UInt8), (7:UInt8), (7:UInt8), (7:UInt8), (7:UInt8), (7:UInt8), (8:UInt8), (8:UInt8), (8:UInt8), (8:UInt8), (8:UInt8), (8:UInt8), (8:UInt8), (8:UInt8), (8:UInt8), (8:UInt8), (8:UInt8), (8:UInt8), (8:UInt8), (8:UInt8), (8:UInt8), (8:UInt8), (8:UInt8), (8:UInt8), (8:UInt8), (8:UInt8), (8:UInt8), (8:UInt8), (8:UInt8), (8:UInt8), (8:UInt8), (8:UInt8), (8:UInt8), (8:UInt8), (8:UInt8), (8:UInt8), (8:UInt8), (8:UInt8), (8:UInt8), (8:UInt8), (8:UInt8), (8:UInt8), (8:UInt8), (8:UInt8), (8:UInt8), (8:UInt8), (8:UInt8), (8:UInt8), (8:UInt8), (8:UInt8), (8:UInt8), (8:UInt8), (8:UInt8), (8:UInt8), (8:UInt8), (8:UInt8), (8:UInt8), (8:UInt8), (8:UInt8), (8:UInt8), (8:UInt8), (8:UInt8), (8:UInt8), (8:UInt8), (8:UInt8), (8:UInt8), (8:UInt8), (8:UInt8), (8:UInt8), (8:UInt8), (8:UInt8), (8:UInt8), (8:UInt8), (8:UInt8), (8:UInt8), (8:UInt8), (8:UInt8), (8:UInt8), (8:UInt8), (8:UInt8), (8:UInt8), (8:UInt8), (8:UInt8), (8:UInt8), (8:UInt8), (8:UInt8), (8:UInt8), (8:UInt8), (8:UInt8), (8:UInt8), (8:UInt8), (8:UInt8), (8:UInt8), (8:UInt8), (8:UInt8), (8:UInt8), (8:UInt8), (8:UInt8), (8:UInt8), (8:UInt8), (8:UInt8), (8:UInt8), (8:UInt8), (8:UInt8), (8:UInt8), (8:UInt8), (8:UInt8), (8:UInt8), (8:UInt8), (8:UInt8), (8:UInt8), (8:UInt8), (8:UInt8), (8:UInt8), (8:UInt8), (8:UInt8), (8:UInt8), (8:UInt8), (8:UInt8), (8:UInt8), (8:UInt8), (8:UInt8), (8:UInt8), (8:UInt8), (8:UInt8), (8:UInt8), (8:UInt8), (8:UInt8), (8:UInt8), (8:UInt8), (8:UInt8), (8:UInt8), (8:UInt8), (8:UInt8)] (Int.toNat (IntKind.wrap .u8 (bif (decide (x3 ≥ (256:Int))) then (x3 / (256:Int)) else x3))) (0:UInt8))) : Nat) : Int)))))
 else
 none
noncomputable def G_970 : T fa_970 → TH hN0 → Option (Int) := fun x y => F_970 x.1
noncomputable def c_970 : Orc := ent i_970 [] 0 (sp fa_970 hN0 fr_970 hN0 G_970 (outN fr_970))
theorem ok_970 : OrcOk PR c_970 := fnT okO_970 mixed p_970 (by kernel_rfl) (by kernel_rfl) (L := L0) (kp := false) (by kernel_rfl) (inn := (innN fr_970)) (out := (outN fr_970)) (fun _ _ => rfl) (loopsL (l := []) (by kernel_rfl) trivial) (fun x y => by kernel_rfl)
noncomputable def O_93e : Orc := c_970
theorem okO_93e : OrcOk PR O_93e := ok_970
abbrev fa_93e : Fm := (.pair (.i .u64) .unit)
abbrev fr_93e : Fm := (.i .i64)
noncomputable def F_93e (a0 : Int) : Option (Int) :=
 ((F_970 a0)).bind fun r0 =>
 (some r0)
noncomputable def G_93e : T fa_93e → TH hN0 → Option (Int) := fun x y => F_93e x.1
noncomputable def c_93e : Orc := ent i_93e [] 0 (sp fa_93e hN0 fr_93e hN0 G_93e (outN fr_93e))
theorem ok_93e : OrcOk PR c_93e := fnT okO_93e mixed p_93e (by kernel_rfl) (by kernel_rfl) (L := L0) (kp := false) (by kernel_rfl) (inn := (innN fr_93e)) (out := (outN fr_93e)) (fun _ _ => rfl) (loopsL (l := []) (by kernel_rfl) trivial) (fun x y => by kernel_rfl)
noncomputable def O_976 : Orc := orn
theorem okO_976 : OrcOk PR O_976 := (orn_ok _)
abbrev fa_976 : Fm := (.pair (.i .u64) (.pair (.i .i64) .unit))
abbrev fr_976 : Fm := (.tup (.pair (.i .u64) (.pair .b .unit)))
noncomputable def F_976 (a0 : Int) (a1 : Int) : Option (Int × Bool × Unit) :=
 let x0 : Int := ((2:Int) ^ (Min.min (Int.toNat (IntKind.wrap .u64 a1)) (64:Nat)))
 let x1 : Int := (a0 / x0)
 let x2 : Int := ((2:Int) ^ (Min.min (Int.toNat (IntKind.wrap .u64 (IntKind.wrap .i64 ((0:Int) - a1)))) (64:Nat)))
 let x3 : Int := (IntKind.wrap .u64 (a0 * x2))
 bif (decide (a1 ≥ (64:Int))) then
 (some ((0:Int), ((a0 != (0:Int)), ())))
 else
 bif (decide (a1 ≤ (-(64:Int)))) then
 (some ((0:Int), ((a0 != (0:Int)), ())))
 else
 bif (decide (a1 ≥ (0:Int))) then
 bif (decide ((0:Int) ≤ (IntKind.wrap .u64 a1))) then
 bif (decide ((0:Int) ≤ (IntKind.wrap .u64 a1))) then
 (some (x1, (((IntKind.wrap .u64 (x1 * x0)) != a0), ())))
 else
 none
 else
 none
 else
 bif (decide ((0:Int) ≤ (IntKind.wrap .u64 (IntKind.wrap .i64 ((0:Int) - a1))))) then
 bif (decide ((0:Int) ≤ (IntKind.wrap .u64 (IntKind.wrap .i64 ((0:Int) - a1))))) then
 (some (x3, (((x3 / x2) != a0), ())))
 else
 none
 else
 none
noncomputable def G_976 : T fa_976 → TH hN0 → Option (Int × Bool × Unit) := fun x y => F_976 x.1 x.2.1
noncomputable def c_976 : Orc := ent i_976 [] 0 (sp fa_976 hN0 fr_976 hN0 G_976 (outN fr_976))
theorem ok_976 : OrcOk PR c_976 := fnT okO_976 mixed p_976 (by kernel_rfl) (by kernel_rfl) (L := L0) (kp := false) (by kernel_rfl) (inn := (innN fr_976)) (out := (outN fr_976)) (fun _ _ => rfl) (loopsL (l := []) (by kernel_rfl) trivial) (fun x y => by kernel_rfl)
noncomputable def O_988 : Orc := orn
theorem okO_988 : OrcOk PR O_988 := (orn_ok _)
abbrev fa_988 : Fm := (.pair (.i .u64) (.pair (.i .i64) .unit))
abbrev fr_988 : Fm := (.i .u64)
noncomputable def F_988 (a0 : Int) (a1 : Int) : Option (Int) :=
 bif (decide (a1 < (1:Int))) then
 (some (0:Int))
 else
 bif (decide (a1 ≥ (64:Int))) then
 (some a0)
 else
 bif (decide ((0:Int) ≤ (IntKind.wrap .u64 a1))) then
 (some (bits .and .u64 a0 (IntKind.wrap .u64 ((IntKind.wrap .u64 ((1:Int) * ((2:Int) ^ (Min.min (Int.toNat (IntKind.wrap .u64 a1)) (64:Nat))))) - (1:Int)))))
 else
 none
noncomputable def G_988 : T fa_988 → TH hN0 → Option (Int) := fun x y => F_988 x.1 x.2.1
noncomputable def c_988 : Orc := ent i_988 [] 0 (sp fa_988 hN0 fr_988 hN0 G_988 (outN fr_988))
theorem ok_988 : OrcOk PR c_988 := fnT okO_988 mixed p_988 (by kernel_rfl) (by kernel_rfl) (L := L0) (kp := false) (by kernel_rfl) (inn := (innN fr_988)) (out := (outN fr_988)) (fun _ _ => rfl) (loopsL (l := []) (by kernel_rfl) trivial) (fun x y => by kernel_rfl)
noncomputable def O_986 : Orc := (orm c_96e (orm c_96f c_93e))
theorem okO_986 : OrcOk PR O_986 := (orm_ok ok_96e (orm_ok ok_96f ok_93e))
abbrev fa_986 : Fm := (.pair (.i .i64) (.pair (.i .i64) (.pair (.i .u64) .unit)))
abbrev fr_986 : Fm := (.i .i64)
noncomputable def F_986 (a0 : Int) (a1 : Int) (a2 : Int) : Option (Int) :=
 ((F_96e a0)).bind fun r0 =>
 ((F_96f a0)).bind fun r1 =>
 bif (decide (a2 > (0:Int))) then
 ((F_93e a2)).bind fun r2 =>
 (some (IntKind.wrap .i64 ((mx r1 (IntKind.wrap .i64 ((IntKind.wrap .i64 (a1 + r2)) - (1:Int)))) - r0.2.1)))
 else
 (some (IntKind.wrap .i64 (r1 - r0.2.1)))
noncomputable def G_986 : T fa_986 → TH hN0 → Option (Int) := fun x y => F_986 x.1 x.2.1 x.2.2.1
noncomputable def c_986 : Orc := ent i_986 [] 0 (sp fa_986 hN0 fr_986 hN0 G_986 (outN fr_986))
theorem ok_986 : OrcOk PR c_986 := fnT okO_986 mixed p_986 (by kernel_rfl) (by kernel_rfl) (L := L0) (kp := false) (by kernel_rfl) (inn := (innN fr_986)) (out := (outN fr_986)) (fun _ _ => rfl) (loopsL (l := []) (by kernel_rfl) trivial) (fun x y => by kernel_rfl)
noncomputable def O_98f : Orc := c_976
theorem okO_98f : OrcOk PR O_98f := ok_976
abbrev fa_98f : Fm := (.pair (.i .u64) (.pair (.i .i64) (.pair .b .unit)))
abbrev fr_98f : Fm := (.tup (.pair (.i .u64) (.pair (.i .i64) .unit)))
noncomputable def F_98f (a0 : Int) (a1 : Int) (a2 : Bool) : Option (Int × Int × Unit) :=
 bif (decide (a1 ≤ (0:Int))) then
 ((F_976 a0 a1)).bind fun r0 =>
 bif a2 then
 (some (r0.1, ((1:Int), ())))
 else
 (some (r0.1, ((0:Int), ())))
 else
 ((F_976 a0 a1)).bind fun r1 =>
 bif (!r1.2.1) then
 bif a2 then
 (some (r1.1, ((1:Int), ())))
 else
 (some (r1.1, ((0:Int), ())))
 else
 ((F_976 a0 (IntKind.wrap .i64 (a1 - (1:Int))))).bind fun r2 =>
 bif ((bits .and .u64 r2.1 (1:Int)) == (0:Int)) then
 (some (r1.1, ((1:Int), ())))
 else
 bif r2.2.1 then
 (some (r1.1, ((3:Int), ())))
 else
 bif a2 then
 (some (r1.1, ((3:Int), ())))
 else
 (some (r1.1, ((2:Int), ())))
noncomputable def G_98f : T fa_98f → TH hN0 → Option (Int × Int × Unit) := fun x y => F_98f x.1 x.2.1 x.2.2.1
noncomputable def c_98f : Orc := ent i_98f [] 0 (sp fa_98f hN0 fr_98f hN0 G_98f (outN fr_98f))
theorem ok_98f : OrcOk PR c_98f := fnT okO_98f mixed p_98f (by kernel_rfl) (by kernel_rfl) (L := L0) (kp := false) (by kernel_rfl) (inn := (innN fr_98f)) (out := (outN fr_98f)) (fun _ _ => rfl) (loopsL (l := []) (by kernel_rfl) trivial) (fun x y => by kernel_rfl)
noncomputable def O_990 : Orc := orn
theorem okO_990 : OrcOk PR O_990 := (orn_ok _)
abbrev fa_990 : Fm := (.pair (.i .i64) (.pair .b (.pair (.i .u64) (.pair (.i .i64) .unit))))
abbrev fr_990 : Fm := .b
noncomputable def F_990 (a0 : Int) (a1 : Bool) (a2 : Int) (a3 : Int) : Option (Bool) :=
 bif (a0 == (1:Int)) then
 (some false)
 else
 bif (a0 == (2:Int)) then
 bif (!a1) then
 (some (a3 != (0:Int)))
 else
 (some false)
 else
 bif (a0 == (3:Int)) then
 bif a1 then
 (some (a3 != (0:Int)))
 else
 (some false)
 else
 bif (a0 == (4:Int)) then
 (some (decide (a3 ≥ (2:Int))))
 else
 bif (a3 == (3:Int)) then
 (some true)
 else
 bif (a3 == (2:Int)) then
 (some ((bits .and .u64 a2 (1:Int)) == (1:Int)))
 else
 (some false)
noncomputable def G_990 : T fa_990 → TH hN0 → Option (Bool) := fun x y => F_990 x.1 x.2.1 x.2.2.1 x.2.2.2.1
noncomputable def c_990 : Orc := ent i_990 [] 0 (sp fa_990 hN0 fr_990 hN0 G_990 (outN fr_990))
theorem ok_990 : OrcOk PR c_990 := fnT okO_990 mixed p_990 (by kernel_rfl) (by kernel_rfl) (L := L0) (kp := false) (by kernel_rfl) (inn := (innN fr_990)) (out := (outN fr_990)) (fun _ _ => rfl) (loopsL (l := []) (by kernel_rfl) trivial) (fun x y => by kernel_rfl)
noncomputable def O_95d : Orc := (orm c_975 (orm c_96e (orm c_986 (orm c_98f (orm c_990 (orm c_96f (orm c_96c (orm c_991 (orm c_93e (orm c_988 c_96b))))))))))
theorem okO_95d : OrcOk PR O_95d := (orm_ok ok_975 (orm_ok ok_96e (orm_ok ok_986 (orm_ok ok_98f (orm_ok ok_990 (orm_ok ok_96f (orm_ok ok_96c (orm_ok ok_991 (orm_ok ok_93e (orm_ok ok_988 ok_96b))))))))))
abbrev fa_95d : Fm := (.pair (.i .i64) (.pair (.i .i64) (.pair .b (.pair (.i .i64) (.pair (.i .u64) (.pair .b .unit))))))
abbrev fr_95d : Fm := (.tup (.pair (.i .u32) (.pair (.agg (.pair .b (.pair .b (.pair .b (.pair .b (.pair .b .unit)))))) .unit)))
noncomputable def F_95d (a0 : Int) (a1 : Int) (a2 : Bool) (a3 : Int) (a4 : Int) (a5 : Bool) : Option (Int × (Bool × Bool × Bool × Bool × Bool × Unit) × Unit) :=
 let x0 : Int := (mn (mx a3 (-(10000:Int))) (10000:Int))
 bif (a4 == (0:Int)) then
 bif (!a5) then
 ((F_975 a0 a2)).bind fun r1 =>
 (some (r1, ((false, (false, (false, (false, (false, ()))))), ())))
 else
 ((F_96e a0)).bind fun r2 =>
 ((F_986 a0 x0 a4)).bind fun r3 =>
 ((F_98f a4 (IntKind.wrap .i64 (r3 - x0)) a5)).bind fun r4 =>
 let x5 : Bool := (r4.2.1 != (0:Int))
 ((F_990 a1 a2 r4.1 r4.2.1)).bind fun r6 =>
 let x7 : Int := (bif r6 then (IntKind.wrap .u64 (r4.1 + (1:Int))) else r4.1)
 let x8 : Bool := ((x7 / ((2:Int) ^ (Min.min (Int.toNat (IntKind.wrap .u64 (IntKind.wrap .i64 (r2.2.1 + (1:Int))))) (64:Nat)))) != (0:Int))
 let x9 : Int := (bif x8 then (x7 / (2:Int)) else x7)
 bif (decide ((0:Int) ≤ (IntKind.wrap .u64 (IntKind.wrap .i64 (r2.2.1 + (1:Int)))))) then
 ((F_96f a0)).bind fun r10 =>
 let x11 : Int := (bif ((x9 / ((2:Int) ^ (Min.min (Int.toNat (IntKind.wrap .u64 r2.2.1)) (64:Nat)))) == (0:Int)) then (0:Int) else (IntKind.wrap .i64 ((IntKind.wrap .i64 ((IntKind.wrap .i64 ((bif x8 then (IntKind.wrap .i64 (r3 + (1:Int))) else r3) + r2.2.1)) - r10)) + (1:Int))))
 bif (decide ((0:Int) ≤ (IntKind.wrap .u64 r2.2.1))) then
 ((F_96c a0)).bind fun r12 =>
 bif (decide (x11 ≥ r12)) then
 ((F_991 a0 a1 a2)).bind fun r13 =>
 (some r13)
 else
 bif x5 then
 bif (a4 == (0:Int)) then
 ((F_988 x9 r2.2.1)).bind fun r14 =>
 ((F_96b a0 a2 x11 (IntKind.wrap .u32 r14))).bind fun r15 =>
 (some (r15, ((false, (false, (false, (true, (x5, ()))))), ())))
 else
 ((F_93e a4)).bind fun r16 =>
 ((F_96f a0)).bind fun r17 =>
 ((F_988 x9 r2.2.1)).bind fun r18 =>
 ((F_96b a0 a2 x11 (IntKind.wrap .u32 r18))).bind fun r19 =>
 (some (r19, ((false, (false, (false, ((decide ((IntKind.wrap .i64 ((IntKind.wrap .i64 (x0 + r16)) - (1:Int))) < r17)), (x5, ()))))), ())))
 else
 ((F_988 x9 r2.2.1)).bind fun r20 =>
 ((F_96b a0 a2 x11 (IntKind.wrap .u32 r20))).bind fun r21 =>
 (some (r21, ((false, (false, (false, (false, (x5, ()))))), ())))
 else
 none
 else
 none
 else
 ((F_96e a0)).bind fun r22 =>
 ((F_986 a0 x0 a4)).bind fun r23 =>
 ((F_98f a4 (IntKind.wrap .i64 (r23 - x0)) a5)).bind fun r24 =>
 let x25 : Bool := (r24.2.1 != (0:Int))
 ((F_990 a1 a2 r24.1 r24.2.1)).bind fun r26 =>
 let x27 : Int := (bif r26 then (IntKind.wrap .u64 (r24.1 + (1:Int))) else r24.1)
 let x28 : Bool := ((x27 / ((2:Int) ^ (Min.min (Int.toNat (IntKind.wrap .u64 (IntKind.wrap .i64 (r22.2.1 + (1:Int))))) (64:Nat)))) != (0:Int))
 let x29 : Int := (bif x28 then (x27 / (2:Int)) else x27)
 bif (decide ((0:Int) ≤ (IntKind.wrap .u64 (IntKind.wrap .i64 (r22.2.1 + (1:Int)))))) then
 ((F_96f a0)).bind fun r30 =>
 let x31 : Int := (bif ((x29 / ((2:Int) ^ (Min.min (Int.toNat (IntKind.wrap .u64 r22.2.1)) (64:Nat)))) == (0:Int)) then (0:Int) else (IntKind.wrap .i64 ((IntKind.wrap .i64 ((IntKind.wrap .i64 ((bif x28 then (IntKind.wrap .i64 (r23 + (1:Int))) else r23) + r22.2.1)) - r30)) + (1:Int))))
 bif (decide ((0:Int) ≤ (IntKind.wrap .u64 r22.2.1))) then
 ((F_96c a0)).bind fun r32 =>
 bif (decide (x31 ≥ r32)) then
 ((F_991 a0 a1 a2)).bind fun r33 =>
 (some r33)
 else
 bif x25 then
 bif (a4 == (0:Int)) then
 ((F_988 x29 r22.2.1)).bind fun r34 =>
 ((F_96b a0 a2 x31 (IntKind.wrap .u32 r34))).bind fun r35 =>
 (some (r35, ((false, (false, (false, (true, (x25, ()))))), ())))
 else
 ((F_93e a4)).bind fun r36 =>
 ((F_96f a0)).bind fun r37 =>
 ((F_988 x29 r22.2.1)).bind fun r38 =>
 ((F_96b a0 a2 x31 (IntKind.wrap .u32 r38))).bind fun r39 =>
 (some (r39, ((false, (false, (false, ((decide ((IntKind.wrap .i64 ((IntKind.wrap .i64 (x0 + r36)) - (1:Int))) < r37)), (x25, ()))))), ())))
 else
 ((F_988 x29 r22.2.1)).bind fun r40 =>
 ((F_96b a0 a2 x31 (IntKind.wrap .u32 r40))).bind fun r41 =>
 (some (r41, ((false, (false, (false, (false, (x25, ()))))), ())))
 else
 none
 else
 none
noncomputable def G_95d : T fa_95d → TH hN0 → Option (Int × (Bool × Bool × Bool × Bool × Bool × Unit) × Unit) := fun x y => F_95d x.1 x.2.1 x.2.2.1 x.2.2.2.1 x.2.2.2.2.1 x.2.2.2.2.2.1
noncomputable def c_95d : Orc := ent i_95d [] 0 (sp fa_95d hN0 fr_95d hN0 G_95d (outN fr_95d))
theorem ok_95d : OrcOk PR c_95d := fnT okO_95d mixed p_95d (by kernel_rfl) (by kernel_rfl) (L := L0) (kp := false) (by kernel_rfl) (inn := (innN fr_95d)) (out := (outN fr_95d)) (fun _ _ => rfl) (loopsL (l := []) (by kernel_rfl) trivial) (fun x y => by kernel_rfl)
noncomputable def O_955 : Orc := orn
theorem okO_955 : OrcOk PR O_955 := (orn_ok _)
abbrev fa_955 : Fm := (.pair (.i .u64) .unit)
abbrev fr_955 : Fm := (.i .i64)
abbrev ff_955_0 : Fm := (.pair (.i .u64) (.us 2 (.pair (.i .i64) (.us 7 .unit))))
abbrev hf_955_0 : List BF := []
abbrev X_955_0 : Xs := (.one (.exit 0) [3] (.us 3 (.pair (.i .i64) (.us 7 .unit))) [])
abbrev S_955_0 : Type := T ff_955_0 × TH hf_955_0
abbrev E_955_0 : Type := TX X_955_0
noncomputable def LB_955_0 : Lps := L0
noncomputable def st_955_0 : StepT S_955_0 E_955_0 := fun R v kn ko =>
 bif (decide (v.1.1 > (0:Int))) then
 (kn (((v.1.1 / (2:Int)), ((IntKind.wrap .i64 (v.1.2.1 + (1:Int))), ())), ()))
 else
 (ko (v.1.2, ()))
noncomputable def ls_955_0 : St → LTr := (lsum ff_955_0 hf_955_0 X_955_0 Prod.mk id st_955_0 (hd [] [] [0, 3] 0))
theorem lp_955_0 : LoopOk PR 0 (lpN f_955 0) ls_955_0 := loopT okO_955 mixed (L := LB_955_0) (d := 1) (bs := []) (ks := [0, 3]) (loopsL (l := []) (by kernel_rfl) trivial) (by kernel_rfl) (inS := Prod.mk) (outS := id) (fun _ _ => rfl) (inX := id) (outX := id) (fun _ => rfl) (fun v R kn ko => by kernel_rfl) (hd_wk [] [] [0, 3] 0)
noncomputable def L_955 : Lps := (lpB 3 (.by_ ls_955_0) L0)
noncomputable def F_955 (a0 : Int) : Option (Int) :=
 ((lim st_955_0 ((a0, ((0:Int), ())), ()))).bind fun r0 =>
 (some r0.1.1)
noncomputable def G_955 : T fa_955 → TH hN0 → Option (Int) := fun x y => F_955 x.1
noncomputable def c_955 : Orc := ent i_955 [] 0 (sp fa_955 hN0 fr_955 hN0 G_955 (outN fr_955))
theorem ok_955 : OrcOk PR c_955 := fnT okO_955 mixed p_955 (by kernel_rfl) (by kernel_rfl) (L := L_955) (kp := false) (by kernel_rfl) (inn := (innN fr_955)) (out := (outN fr_955)) (fun _ _ => rfl) (loopsL (l := [((lpN f_955 0), ls_955_0)]) (by kernel_rfl) ⟨lp_955_0, trivial⟩) (fun x y => by kernel_rfl)
noncomputable def O_977 : Orc := orn
theorem okO_977 : OrcOk PR O_977 := (orn_ok _)
abbrev fa_977 : Fm := (.pair (.i .u64) (.pair (.i .i64) .unit))
abbrev fr_977 : Fm := (.tup (.pair (.i .u64) (.pair .b .unit)))
abbrev ff_977_0 : Fm := (.pair (.i .u64) (.pair (.i .i64) (.us 4 (.pair .b (.us 29 .unit)))))
abbrev hf_977_0 : List BF := []
abbrev X_977_0 : Xs := (.one (.exit 0) [0, 1, 6] (.pair (.i .u64) (.pair (.i .i64) (.us 4 (.pair .b (.us 29 .unit))))) [])
abbrev S_977_0 : Type := T ff_977_0 × TH hf_977_0
abbrev E_977_0 : Type := TX X_977_0
noncomputable def LB_977_0 : Lps := L0
noncomputable def st_977_0 : StepT S_977_0 E_977_0 := fun R v kn ko =>
 let x0 : Int := v.1.1
 let x1 : Int := (x0 / (2:Int))
 let x2 : Int := (IntKind.wrap .i64 (v.1.2.1 - (1:Int)))
 bif (decide (v.1.2.1 > (0:Int))) then
 bif v.1.2.2.1 then
 (kn ((x1, (x2, (true, ()))), ()))
 else
 (kn ((x1, (x2, (((bits .and .u64 x0 (1:Int)) == (1:Int)), ()))), ()))
 else
 (ko v)
noncomputable def ls_977_0 : St → LTr := (lsum ff_977_0 hf_977_0 X_977_0 Prod.mk id st_977_0 (hd [] [] [0, 1, 6] 0))
theorem lp_977_0 : LoopOk PR 0 (lpN f_977 0) ls_977_0 := loopT okO_977 mixed (L := LB_977_0) (d := 1) (bs := []) (ks := [0, 1, 6]) (loopsL (l := []) (by kernel_rfl) trivial) (by kernel_rfl) (inS := Prod.mk) (outS := id) (fun _ _ => rfl) (inX := id) (outX := id) (fun _ => rfl) (fun v R kn ko => by kernel_rfl) (hd_wk [] [] [0, 1, 6] 0)
abbrev ff_977_1 : Fm := (.pair (.i .u64) (.pair (.i .i64) (.us 4 (.pair .b (.us 29 .unit)))))
abbrev hf_977_1 : List BF := []
abbrev X_977_1 : Xs := (.one (.exit 2) [0, 6] (.pair (.i .u64) (.us 5 (.pair .b (.us 29 .unit)))) [])
abbrev S_977_1 : Type := T ff_977_1 × TH hf_977_1
abbrev E_977_1 : Type := TX X_977_1
noncomputable def LB_977_1 : Lps := (lpB 4 (.by_ ls_977_0) L0)
noncomputable def st_977_1 : StepT S_977_1 E_977_1 := fun R v kn ko =>
 let x0 : Int := v.1.1
 let x1 : Int := (IntKind.wrap .u64 (x0 * (2:Int)))
 let x2 : Int := (IntKind.wrap .i64 (v.1.2.1 + (1:Int)))
 bif (decide (v.1.2.1 < (0:Int))) then
 bif v.1.2.2.1 then
 (kn ((x1, (x2, (true, ()))), ()))
 else
 (kn ((x1, (x2, (((x0 / (9223372036854775808:Int)) == (1:Int)), ()))), ()))
 else
 (ko ((x0, v.1.2.2), ()))
noncomputable def ls_977_1 : St → LTr := (lsum ff_977_1 hf_977_1 X_977_1 Prod.mk id st_977_1 (hd [] [] [0, 1, 6] 0))
theorem lp_977_1 : LoopOk PR 0 (lpN f_977 1) ls_977_1 := loopT okO_977 mixed (L := LB_977_1) (d := 1) (bs := []) (ks := [0, 1, 6]) (loopsL (l := []) (by kernel_rfl) trivial) (by kernel_rfl) (inS := Prod.mk) (outS := id) (fun _ _ => rfl) (inX := id) (outX := id) (fun _ => rfl) (fun v R kn ko => by kernel_rfl) (hd_wk [] [] [0, 1, 6] 0)
noncomputable def L_977 : Lps := (lpB 8 (.by_ ls_977_1) (lpB 4 (.by_ ls_977_0) L0))
noncomputable def F_977 (a0 : Int) (a1 : Int) : Option (Int × Bool × Unit) :=
 ((lim st_977_0 ((a0, ((mn (mx a1 (-(64:Int))) (64:Int)), (false, ()))), ()))).bind fun r0 =>
 ((lim st_977_1 r0)).bind fun r1 =>
 (some r1.1)
noncomputable def G_977 : T fa_977 → TH hN0 → Option (Int × Bool × Unit) := fun x y => F_977 x.1 x.2.1
noncomputable def c_977 : Orc := ent i_977 [] 0 (sp fa_977 hN0 fr_977 hN0 G_977 (outN fr_977))
theorem ok_977 : OrcOk PR c_977 := fnT okO_977 mixed p_977 (by kernel_rfl) (by kernel_rfl) (L := L_977) (kp := false) (by kernel_rfl) (inn := (innN fr_977)) (out := (outN fr_977)) (fun _ _ => rfl) (loopsL (l := [((lpN f_977 0), ls_977_0), ((lpN f_977 1), ls_977_1)]) (by kernel_rfl) ⟨lp_977_0, ⟨lp_977_1, trivial⟩⟩) (fun x y => by kernel_rfl)
noncomputable def O_956 : Orc := c_977
theorem okO_956 : OrcOk PR O_956 := ok_977
abbrev fa_956 : Fm := (.pair (.i .u64) (.pair (.i .i64) .unit))
abbrev fr_956 : Fm := (.tup (.pair (.i .u64) (.pair .b (.pair .b .unit))))
noncomputable def F_956 (a0 : Int) (a1 : Int) : Option (Int × Bool × Bool × Unit) :=
 bif (decide (a1 ≤ (0:Int))) then
 bif (decide ((0:Int) ≤ (mn (IntKind.wrap .i64 ((0:Int) - a1)) (63:Int)))) then
 (some ((IntKind.wrap .u64 (a0 * ((2:Int) ^ (Min.min (Int.toNat (mn (IntKind.wrap .i64 ((0:Int) - a1)) (63:Int))) (64:Nat))))), (false, (false, ()))))
 else
 none
 else
 bif (decide (a1 > (64:Int))) then
 (some ((0:Int), (false, ((a0 != (0:Int)), ()))))
 else
 ((F_977 a0 a1)).bind fun r0 =>
 ((F_977 a0 (IntKind.wrap .i64 (a1 - (1:Int))))).bind fun r1 =>
 ((F_977 a0 (IntKind.wrap .i64 (a1 - (1:Int))))).bind fun r2 =>
 (some (r0.1, (((bits .and .u64 r1.1 (1:Int)) == (1:Int)), r2.2)))
noncomputable def G_956 : T fa_956 → TH hN0 → Option (Int × Bool × Bool × Unit) := fun x y => F_956 x.1 x.2.1
noncomputable def c_956 : Orc := ent i_956 [] 0 (sp fa_956 hN0 fr_956 hN0 G_956 (outN fr_956))
theorem ok_956 : OrcOk PR c_956 := fnT okO_956 mixed p_956 (by kernel_rfl) (by kernel_rfl) (L := L0) (kp := false) (by kernel_rfl) (inn := (innN fr_956)) (out := (outN fr_956)) (fun _ _ => rfl) (loopsL (l := []) (by kernel_rfl) trivial) (fun x y => by kernel_rfl)
noncomputable def O_957 : Orc := orn
theorem okO_957 : OrcOk PR O_957 := (orn_ok _)
abbrev fa_957 : Fm := (.pair (.i .i64) (.pair .b (.pair .b (.pair .b (.pair .b .unit)))))
abbrev fr_957 : Fm := .b
noncomputable def F_957 (a0 : Int) (a1 : Bool) (a2 : Bool) (a3 : Bool) (a4 : Bool) : Option (Bool) :=
 bif (a0 == (1:Int)) then
 (some false)
 else
 bif (a0 == (2:Int)) then
 bif (!a1) then
 bif a3 then
 (some true)
 else
 (some a4)
 else
 (some false)
 else
 bif (a0 == (3:Int)) then
 bif a1 then
 bif a3 then
 (some true)
 else
 (some a4)
 else
 (some false)
 else
 bif (a0 == (4:Int)) then
 (some a3)
 else
 bif a3 then
 bif a4 then
 (some true)
 else
 (some a2)
 else
 (some false)
noncomputable def G_957 : T fa_957 → TH hN0 → Option (Bool) := fun x y => F_957 x.1 x.2.1 x.2.2.1 x.2.2.2.1 x.2.2.2.2.1
noncomputable def c_957 : Orc := ent i_957 [] 0 (sp fa_957 hN0 fr_957 hN0 G_957 (outN fr_957))
theorem ok_957 : OrcOk PR c_957 := fnT okO_957 mixed p_957 (by kernel_rfl) (by kernel_rfl) (L := L0) (kp := false) (by kernel_rfl) (inn := (innN fr_957)) (out := (outN fr_957)) (fun _ _ => rfl) (loopsL (l := []) (by kernel_rfl) trivial) (fun x y => by kernel_rfl)
noncomputable def O_92d : Orc := (orm c_917 (orm c_916 (orm c_946 (orm c_955 (orm c_956 (orm c_957 (orm c_932 c_958)))))))
theorem okO_92d : OrcOk PR O_92d := (orm_ok ok_917 (orm_ok ok_916 (orm_ok ok_946 (orm_ok ok_955 (orm_ok ok_956 (orm_ok ok_957 (orm_ok ok_932 ok_958)))))))
abbrev fa_92d : Fm := (.pair (.i .i64) (.pair (.i .i64) (.pair .b (.pair (.i .i64) (.pair (.i .u64) (.pair .b .unit))))))
abbrev fr_92d : Fm := (.tup (.pair (.i .u32) (.pair (.agg (.pair .b (.pair .b (.pair .b (.pair .b (.pair .b .unit)))))) .unit)))
noncomputable def F_92d (a0 : Int) (a1 : Int) (a2 : Bool) (a3 : Int) (a4 : Int) (a5 : Bool) : Option (Int × (Bool × Bool × Bool × Bool × Bool × Unit) × Unit) :=
 let x0 : Int := (mn (mx a3 (-(10000:Int))) (10000:Int))
 bif (a4 == (0:Int)) then
 bif (!a5) then
 ((F_917 a0 a2)).bind fun r1 =>
 (some (r1, ((false, (false, (false, (false, (false, ()))))), ())))
 else
 ((F_916 a0)).bind fun r2 =>
 let x3 : Int := (IntKind.wrap .u64 ((1:Int) * ((2:Int) ^ (Min.min (Int.toNat (IntKind.wrap .i64 (r2.2.1 + (1:Int)))) (64:Nat)))))
 let x4 : Nat := (Int.toNat r2.2.1)
 let x5 : Int := ((2:Int) ^ (Min.min x4 (32:Nat)))
 let x6 : Int := (IntKind.wrap .u64 ((IntKind.wrap .u64 ((1:Int) * ((2:Int) ^ (Min.min x4 (64:Nat))))) - (1:Int)))
 ((F_946 a0)).bind fun r7 =>
 ((F_955 a4)).bind fun r8 =>
 let x9 : Int := (IntKind.wrap .i64 ((mx (bif (a4 == (0:Int)) then (-(20000:Int)) else (IntKind.wrap .i64 ((IntKind.wrap .i64 (x0 + r8)) - (1:Int)))) (IntKind.wrap .i64 ((1:Int) - r7))) - r2.2.1))
 let x10 : Int := (IntKind.wrap .i64 (x9 + (1:Int)))
 ((F_956 a4 (IntKind.wrap .i64 (x9 - x0)))).bind fun r11 =>
 let x12 : Bool := r11.2.2.1
 let x13 : Bool := ((bits .and .u64 r11.1 (1:Int)) == (1:Int))
 let x14 : Int := (IntKind.wrap .u64 (r11.1 + (1:Int)))
 bif x12 then
 bif r11.2.1 then
 ((F_957 a1 a2 x13 r11.2.1 true)).bind fun r15 =>
 let x16 : Int := (bif r15 then x14 else r11.1)
 let x17 : Bool := (x16 == x3)
 let x18 : Int := (bif x17 then (x16 / (2:Int)) else x16)
 bif (decide ((0:Int) ≤ (IntKind.wrap .i64 (r2.2.1 + (1:Int))))) then
 bif (decide ((0:Int) ≤ r2.2.1)) then
 bif (decide (x18 < (IntKind.wrap .u64 ((1:Int) * ((2:Int) ^ (Min.min x4 (64:Nat))))))) then
 ((F_932 a0 a2)).bind fun r19 =>
 (some ((bits .or .u32 r19 (IntKind.wrap .u32 x18)), ((false, (false, (false, ((decide ((bif (a4 == (0:Int)) then (-(20000:Int)) else (IntKind.wrap .i64 ((IntKind.wrap .i64 (x0 + r8)) - (1:Int)))) < (IntKind.wrap .i64 ((1:Int) - r7)))), (true, ()))))), ())))
 else
 ((F_946 a0)).bind fun r20 =>
 ((F_916 a0)).bind fun r21 =>
 bif (decide ((0:Int) ≤ r21.1)) then
 bif (decide ((IntKind.wrap .i64 ((IntKind.wrap .i64 ((bif x17 then x10 else x9) + r2.2.1)) + r20)) ≥ (IntKind.wrap .i64 ((IntKind.wrap .i64 ((1:Int) * ((2:Int) ^ (Min.min (Int.toNat r21.1) (64:Nat))))) - (1:Int))))) then
 ((F_958 a0 a1 a2)).bind fun r22 =>
 (some (r22, ((false, (false, (true, (false, (true, ()))))), ())))
 else
 ((F_932 a0 a2)).bind fun r23 =>
 bif (decide ((0:Int) ≤ r2.2.1)) then
 bif (decide ((0:Int) ≤ r2.2.1)) then
 (some ((bits .or .u32 (bits .or .u32 r23 (IntKind.wrap .u32 ((IntKind.wrap .u32 (IntKind.wrap .i64 ((IntKind.wrap .i64 ((bif x17 then x10 else x9) + r2.2.1)) + r20))) * x5))) (IntKind.wrap .u32 (bits .and .u64 x18 x6))), ((false, (false, (false, ((decide ((bif (a4 == (0:Int)) then (-(20000:Int)) else (IntKind.wrap .i64 ((IntKind.wrap .i64 (x0 + r8)) - (1:Int)))) < (IntKind.wrap .i64 ((1:Int) - r7)))), (true, ()))))), ())))
 else
 none
 else
 none
 else
 none
 else
 none
 else
 none
 else
 ((F_957 a1 a2 x13 r11.2.1 true)).bind fun r24 =>
 let x25 : Int := (bif r24 then x14 else r11.1)
 let x26 : Bool := (x25 == x3)
 let x27 : Int := (bif x26 then (x25 / (2:Int)) else x25)
 bif (decide ((0:Int) ≤ (IntKind.wrap .i64 (r2.2.1 + (1:Int))))) then
 bif (decide ((0:Int) ≤ r2.2.1)) then
 bif (decide (x27 < (IntKind.wrap .u64 ((1:Int) * ((2:Int) ^ (Min.min x4 (64:Nat))))))) then
 ((F_932 a0 a2)).bind fun r28 =>
 (some ((bits .or .u32 r28 (IntKind.wrap .u32 x27)), ((false, (false, (false, ((decide ((bif (a4 == (0:Int)) then (-(20000:Int)) else (IntKind.wrap .i64 ((IntKind.wrap .i64 (x0 + r8)) - (1:Int)))) < (IntKind.wrap .i64 ((1:Int) - r7)))), (true, ()))))), ())))
 else
 ((F_946 a0)).bind fun r29 =>
 ((F_916 a0)).bind fun r30 =>
 bif (decide ((0:Int) ≤ r30.1)) then
 bif (decide ((IntKind.wrap .i64 ((IntKind.wrap .i64 ((bif x26 then x10 else x9) + r2.2.1)) + r29)) ≥ (IntKind.wrap .i64 ((IntKind.wrap .i64 ((1:Int) * ((2:Int) ^ (Min.min (Int.toNat r30.1) (64:Nat))))) - (1:Int))))) then
 ((F_958 a0 a1 a2)).bind fun r31 =>
 (some (r31, ((false, (false, (true, (false, (true, ()))))), ())))
 else
 ((F_932 a0 a2)).bind fun r32 =>
 bif (decide ((0:Int) ≤ r2.2.1)) then
 bif (decide ((0:Int) ≤ r2.2.1)) then
 (some ((bits .or .u32 (bits .or .u32 r32 (IntKind.wrap .u32 ((IntKind.wrap .u32 (IntKind.wrap .i64 ((IntKind.wrap .i64 ((bif x26 then x10 else x9) + r2.2.1)) + r29))) * x5))) (IntKind.wrap .u32 (bits .and .u64 x27 x6))), ((false, (false, (false, ((decide ((bif (a4 == (0:Int)) then (-(20000:Int)) else (IntKind.wrap .i64 ((IntKind.wrap .i64 (x0 + r8)) - (1:Int)))) < (IntKind.wrap .i64 ((1:Int) - r7)))), (true, ()))))), ())))
 else
 none
 else
 none
 else
 none
 else
 none
 else
 none
 else
 bif r11.2.1 then
 ((F_957 a1 a2 x13 r11.2.1 a5)).bind fun r33 =>
 let x34 : Int := (bif r33 then x14 else r11.1)
 let x35 : Bool := (x34 == x3)
 let x36 : Int := (bif x35 then (x34 / (2:Int)) else x34)
 bif (decide ((0:Int) ≤ (IntKind.wrap .i64 (r2.2.1 + (1:Int))))) then
 bif (decide ((0:Int) ≤ r2.2.1)) then
 bif (decide (x36 < (IntKind.wrap .u64 ((1:Int) * ((2:Int) ^ (Min.min x4 (64:Nat))))))) then
 ((F_932 a0 a2)).bind fun r37 =>
 (some ((bits .or .u32 r37 (IntKind.wrap .u32 x36)), ((false, (false, (false, ((decide ((bif (a4 == (0:Int)) then (-(20000:Int)) else (IntKind.wrap .i64 ((IntKind.wrap .i64 (x0 + r8)) - (1:Int)))) < (IntKind.wrap .i64 ((1:Int) - r7)))), (true, ()))))), ())))
 else
 ((F_946 a0)).bind fun r38 =>
 ((F_916 a0)).bind fun r39 =>
 bif (decide ((0:Int) ≤ r39.1)) then
 bif (decide ((IntKind.wrap .i64 ((IntKind.wrap .i64 ((bif x35 then x10 else x9) + r2.2.1)) + r38)) ≥ (IntKind.wrap .i64 ((IntKind.wrap .i64 ((1:Int) * ((2:Int) ^ (Min.min (Int.toNat r39.1) (64:Nat))))) - (1:Int))))) then
 ((F_958 a0 a1 a2)).bind fun r40 =>
 (some (r40, ((false, (false, (true, (false, (true, ()))))), ())))
 else
 ((F_932 a0 a2)).bind fun r41 =>
 bif (decide ((0:Int) ≤ r2.2.1)) then
 bif (decide ((0:Int) ≤ r2.2.1)) then
 (some ((bits .or .u32 (bits .or .u32 r41 (IntKind.wrap .u32 ((IntKind.wrap .u32 (IntKind.wrap .i64 ((IntKind.wrap .i64 ((bif x35 then x10 else x9) + r2.2.1)) + r38))) * x5))) (IntKind.wrap .u32 (bits .and .u64 x36 x6))), ((false, (false, (false, ((decide ((bif (a4 == (0:Int)) then (-(20000:Int)) else (IntKind.wrap .i64 ((IntKind.wrap .i64 (x0 + r8)) - (1:Int)))) < (IntKind.wrap .i64 ((1:Int) - r7)))), (true, ()))))), ())))
 else
 none
 else
 none
 else
 none
 else
 none
 else
 none
 else
 ((F_957 a1 a2 x13 r11.2.1 a5)).bind fun r42 =>
 let x43 : Int := (bif r42 then x14 else r11.1)
 let x44 : Bool := (x43 == x3)
 let x45 : Int := (bif x44 then (x43 / (2:Int)) else x43)
 let x46 : Int := (IntKind.wrap .u32 x45)
 let x47 : Int := (IntKind.wrap .i64 ((bif x44 then x10 else x9) + r2.2.1))
 let x48 : Int := (IntKind.wrap .u32 (bits .and .u64 x45 x6))
 bif a5 then
 bif (decide ((0:Int) ≤ (IntKind.wrap .i64 (r2.2.1 + (1:Int))))) then
 bif (decide ((0:Int) ≤ r2.2.1)) then
 bif (decide (x45 < (IntKind.wrap .u64 ((1:Int) * ((2:Int) ^ (Min.min x4 (64:Nat))))))) then
 ((F_932 a0 a2)).bind fun r49 =>
 (some ((bits .or .u32 r49 x46), ((false, (false, (false, ((decide ((bif (a4 == (0:Int)) then (-(20000:Int)) else (IntKind.wrap .i64 ((IntKind.wrap .i64 (x0 + r8)) - (1:Int)))) < (IntKind.wrap .i64 ((1:Int) - r7)))), (a5, ()))))), ())))
 else
 ((F_946 a0)).bind fun r50 =>
 ((F_916 a0)).bind fun r51 =>
 bif (decide ((0:Int) ≤ r51.1)) then
 bif (decide ((IntKind.wrap .i64 (x47 + r50)) ≥ (IntKind.wrap .i64 ((IntKind.wrap .i64 ((1:Int) * ((2:Int) ^ (Min.min (Int.toNat r51.1) (64:Nat))))) - (1:Int))))) then
 ((F_958 a0 a1 a2)).bind fun r52 =>
 (some (r52, ((false, (false, (true, (false, (true, ()))))), ())))
 else
 ((F_932 a0 a2)).bind fun r53 =>
 bif (decide ((0:Int) ≤ r2.2.1)) then
 bif (decide ((0:Int) ≤ r2.2.1)) then
 (some ((bits .or .u32 (bits .or .u32 r53 (IntKind.wrap .u32 ((IntKind.wrap .u32 (IntKind.wrap .i64 (x47 + r50))) * x5))) x48), ((false, (false, (false, ((decide ((bif (a4 == (0:Int)) then (-(20000:Int)) else (IntKind.wrap .i64 ((IntKind.wrap .i64 (x0 + r8)) - (1:Int)))) < (IntKind.wrap .i64 ((1:Int) - r7)))), (a5, ()))))), ())))
 else
 none
 else
 none
 else
 none
 else
 none
 else
 none
 else
 bif (decide ((0:Int) ≤ (IntKind.wrap .i64 (r2.2.1 + (1:Int))))) then
 bif (decide ((0:Int) ≤ r2.2.1)) then
 bif (decide (x45 < (IntKind.wrap .u64 ((1:Int) * ((2:Int) ^ (Min.min x4 (64:Nat))))))) then
 ((F_932 a0 a2)).bind fun r54 =>
 (some ((bits .or .u32 r54 x46), ((false, (false, (false, (false, (a5, ()))))), ())))
 else
 ((F_946 a0)).bind fun r55 =>
 ((F_916 a0)).bind fun r56 =>
 bif (decide ((0:Int) ≤ r56.1)) then
 bif (decide ((IntKind.wrap .i64 (x47 + r55)) ≥ (IntKind.wrap .i64 ((IntKind.wrap .i64 ((1:Int) * ((2:Int) ^ (Min.min (Int.toNat r56.1) (64:Nat))))) - (1:Int))))) then
 ((F_958 a0 a1 a2)).bind fun r57 =>
 (some (r57, ((false, (false, (true, (false, (true, ()))))), ())))
 else
 ((F_932 a0 a2)).bind fun r58 =>
 bif (decide ((0:Int) ≤ r2.2.1)) then
 bif (decide ((0:Int) ≤ r2.2.1)) then
 (some ((bits .or .u32 (bits .or .u32 r58 (IntKind.wrap .u32 ((IntKind.wrap .u32 (IntKind.wrap .i64 (x47 + r55))) * x5))) x48), ((false, (false, (false, (false, (a5, ()))))), ())))
 else
 none
 else
 none
 else
 none
 else
 none
 else
 none
 else
 ((F_916 a0)).bind fun r59 =>
 let x60 : Int := (IntKind.wrap .u64 ((1:Int) * ((2:Int) ^ (Min.min (Int.toNat (IntKind.wrap .i64 (r59.2.1 + (1:Int)))) (64:Nat)))))
 let x61 : Nat := (Int.toNat r59.2.1)
 let x62 : Int := ((2:Int) ^ (Min.min x61 (32:Nat)))
 let x63 : Int := (IntKind.wrap .u64 ((IntKind.wrap .u64 ((1:Int) * ((2:Int) ^ (Min.min x61 (64:Nat))))) - (1:Int)))
 ((F_946 a0)).bind fun r64 =>
 ((F_955 a4)).bind fun r65 =>
 let x66 : Int := (IntKind.wrap .i64 ((mx (bif (a4 == (0:Int)) then (-(20000:Int)) else (IntKind.wrap .i64 ((IntKind.wrap .i64 (x0 + r65)) - (1:Int)))) (IntKind.wrap .i64 ((1:Int) - r64))) - r59.2.1))
 let x67 : Int := (IntKind.wrap .i64 (x66 + (1:Int)))
 ((F_956 a4 (IntKind.wrap .i64 (x66 - x0)))).bind fun r68 =>
 let x69 : Bool := r68.2.2.1
 let x70 : Bool := ((bits .and .u64 r68.1 (1:Int)) == (1:Int))
 let x71 : Int := (IntKind.wrap .u64 (r68.1 + (1:Int)))
 bif x69 then
 bif r68.2.1 then
 ((F_957 a1 a2 x70 r68.2.1 true)).bind fun r72 =>
 let x73 : Int := (bif r72 then x71 else r68.1)
 let x74 : Bool := (x73 == x60)
 let x75 : Int := (bif x74 then (x73 / (2:Int)) else x73)
 bif (decide ((0:Int) ≤ (IntKind.wrap .i64 (r59.2.1 + (1:Int))))) then
 bif (decide ((0:Int) ≤ r59.2.1)) then
 bif (decide (x75 < (IntKind.wrap .u64 ((1:Int) * ((2:Int) ^ (Min.min x61 (64:Nat))))))) then
 ((F_932 a0 a2)).bind fun r76 =>
 (some ((bits .or .u32 r76 (IntKind.wrap .u32 x75)), ((false, (false, (false, ((decide ((bif (a4 == (0:Int)) then (-(20000:Int)) else (IntKind.wrap .i64 ((IntKind.wrap .i64 (x0 + r65)) - (1:Int)))) < (IntKind.wrap .i64 ((1:Int) - r64)))), (true, ()))))), ())))
 else
 ((F_946 a0)).bind fun r77 =>
 ((F_916 a0)).bind fun r78 =>
 bif (decide ((0:Int) ≤ r78.1)) then
 bif (decide ((IntKind.wrap .i64 ((IntKind.wrap .i64 ((bif x74 then x67 else x66) + r59.2.1)) + r77)) ≥ (IntKind.wrap .i64 ((IntKind.wrap .i64 ((1:Int) * ((2:Int) ^ (Min.min (Int.toNat r78.1) (64:Nat))))) - (1:Int))))) then
 ((F_958 a0 a1 a2)).bind fun r79 =>
 (some (r79, ((false, (false, (true, (false, (true, ()))))), ())))
 else
 ((F_932 a0 a2)).bind fun r80 =>
 bif (decide ((0:Int) ≤ r59.2.1)) then
 bif (decide ((0:Int) ≤ r59.2.1)) then
 (some ((bits .or .u32 (bits .or .u32 r80 (IntKind.wrap .u32 ((IntKind.wrap .u32 (IntKind.wrap .i64 ((IntKind.wrap .i64 ((bif x74 then x67 else x66) + r59.2.1)) + r77))) * x62))) (IntKind.wrap .u32 (bits .and .u64 x75 x63))), ((false, (false, (false, ((decide ((bif (a4 == (0:Int)) then (-(20000:Int)) else (IntKind.wrap .i64 ((IntKind.wrap .i64 (x0 + r65)) - (1:Int)))) < (IntKind.wrap .i64 ((1:Int) - r64)))), (true, ()))))), ())))
 else
 none
 else
 none
 else
 none
 else
 none
 else
 none
 else
 ((F_957 a1 a2 x70 r68.2.1 true)).bind fun r81 =>
 let x82 : Int := (bif r81 then x71 else r68.1)
 let x83 : Bool := (x82 == x60)
 let x84 : Int := (bif x83 then (x82 / (2:Int)) else x82)
 bif (decide ((0:Int) ≤ (IntKind.wrap .i64 (r59.2.1 + (1:Int))))) then
 bif (decide ((0:Int) ≤ r59.2.1)) then
 bif (decide (x84 < (IntKind.wrap .u64 ((1:Int) * ((2:Int) ^ (Min.min x61 (64:Nat))))))) then
 ((F_932 a0 a2)).bind fun r85 =>
 (some ((bits .or .u32 r85 (IntKind.wrap .u32 x84)), ((false, (false, (false, ((decide ((bif (a4 == (0:Int)) then (-(20000:Int)) else (IntKind.wrap .i64 ((IntKind.wrap .i64 (x0 + r65)) - (1:Int)))) < (IntKind.wrap .i64 ((1:Int) - r64)))), (true, ()))))), ())))
 else
 ((F_946 a0)).bind fun r86 =>
 ((F_916 a0)).bind fun r87 =>
 bif (decide ((0:Int) ≤ r87.1)) then
 bif (decide ((IntKind.wrap .i64 ((IntKind.wrap .i64 ((bif x83 then x67 else x66) + r59.2.1)) + r86)) ≥ (IntKind.wrap .i64 ((IntKind.wrap .i64 ((1:Int) * ((2:Int) ^ (Min.min (Int.toNat r87.1) (64:Nat))))) - (1:Int))))) then
 ((F_958 a0 a1 a2)).bind fun r88 =>
 (some (r88, ((false, (false, (true, (false, (true, ()))))), ())))
 else
 ((F_932 a0 a2)).bind fun r89 =>
 bif (decide ((0:Int) ≤ r59.2.1)) then
 bif (decide ((0:Int) ≤ r59.2.1)) then
 (some ((bits .or .u32 (bits .or .u32 r89 (IntKind.wrap .u32 ((IntKind.wrap .u32 (IntKind.wrap .i64 ((IntKind.wrap .i64 ((bif x83 then x67 else x66) + r59.2.1)) + r86))) * x62))) (IntKind.wrap .u32 (bits .and .u64 x84 x63))), ((false, (false, (false, ((decide ((bif (a4 == (0:Int)) then (-(20000:Int)) else (IntKind.wrap .i64 ((IntKind.wrap .i64 (x0 + r65)) - (1:Int)))) < (IntKind.wrap .i64 ((1:Int) - r64)))), (true, ()))))), ())))
 else
 none
 else
 none
 else
 none
 else
 none
 else
 none
 else
 bif r68.2.1 then
 ((F_957 a1 a2 x70 r68.2.1 a5)).bind fun r90 =>
 let x91 : Int := (bif r90 then x71 else r68.1)
 let x92 : Bool := (x91 == x60)
 let x93 : Int := (bif x92 then (x91 / (2:Int)) else x91)
 bif (decide ((0:Int) ≤ (IntKind.wrap .i64 (r59.2.1 + (1:Int))))) then
 bif (decide ((0:Int) ≤ r59.2.1)) then
 bif (decide (x93 < (IntKind.wrap .u64 ((1:Int) * ((2:Int) ^ (Min.min x61 (64:Nat))))))) then
 ((F_932 a0 a2)).bind fun r94 =>
 (some ((bits .or .u32 r94 (IntKind.wrap .u32 x93)), ((false, (false, (false, ((decide ((bif (a4 == (0:Int)) then (-(20000:Int)) else (IntKind.wrap .i64 ((IntKind.wrap .i64 (x0 + r65)) - (1:Int)))) < (IntKind.wrap .i64 ((1:Int) - r64)))), (true, ()))))), ())))
 else
 ((F_946 a0)).bind fun r95 =>
 ((F_916 a0)).bind fun r96 =>
 bif (decide ((0:Int) ≤ r96.1)) then
 bif (decide ((IntKind.wrap .i64 ((IntKind.wrap .i64 ((bif x92 then x67 else x66) + r59.2.1)) + r95)) ≥ (IntKind.wrap .i64 ((IntKind.wrap .i64 ((1:Int) * ((2:Int) ^ (Min.min (Int.toNat r96.1) (64:Nat))))) - (1:Int))))) then
 ((F_958 a0 a1 a2)).bind fun r97 =>
 (some (r97, ((false, (false, (true, (false, (true, ()))))), ())))
 else
 ((F_932 a0 a2)).bind fun r98 =>
 bif (decide ((0:Int) ≤ r59.2.1)) then
 bif (decide ((0:Int) ≤ r59.2.1)) then
 (some ((bits .or .u32 (bits .or .u32 r98 (IntKind.wrap .u32 ((IntKind.wrap .u32 (IntKind.wrap .i64 ((IntKind.wrap .i64 ((bif x92 then x67 else x66) + r59.2.1)) + r95))) * x62))) (IntKind.wrap .u32 (bits .and .u64 x93 x63))), ((false, (false, (false, ((decide ((bif (a4 == (0:Int)) then (-(20000:Int)) else (IntKind.wrap .i64 ((IntKind.wrap .i64 (x0 + r65)) - (1:Int)))) < (IntKind.wrap .i64 ((1:Int) - r64)))), (true, ()))))), ())))
 else
 none
 else
 none
 else
 none
 else
 none
 else
 none
 else
 ((F_957 a1 a2 x70 r68.2.1 a5)).bind fun r99 =>
 let x100 : Int := (bif r99 then x71 else r68.1)
 let x101 : Bool := (x100 == x60)
 let x102 : Int := (bif x101 then (x100 / (2:Int)) else x100)
 let x103 : Int := (IntKind.wrap .u32 x102)
 let x104 : Int := (IntKind.wrap .i64 ((bif x101 then x67 else x66) + r59.2.1))
 let x105 : Int := (IntKind.wrap .u32 (bits .and .u64 x102 x63))
 bif a5 then
 bif (decide ((0:Int) ≤ (IntKind.wrap .i64 (r59.2.1 + (1:Int))))) then
 bif (decide ((0:Int) ≤ r59.2.1)) then
 bif (decide (x102 < (IntKind.wrap .u64 ((1:Int) * ((2:Int) ^ (Min.min x61 (64:Nat))))))) then
 ((F_932 a0 a2)).bind fun r106 =>
 (some ((bits .or .u32 r106 x103), ((false, (false, (false, ((decide ((bif (a4 == (0:Int)) then (-(20000:Int)) else (IntKind.wrap .i64 ((IntKind.wrap .i64 (x0 + r65)) - (1:Int)))) < (IntKind.wrap .i64 ((1:Int) - r64)))), (a5, ()))))), ())))
 else
 ((F_946 a0)).bind fun r107 =>
 ((F_916 a0)).bind fun r108 =>
 bif (decide ((0:Int) ≤ r108.1)) then
 bif (decide ((IntKind.wrap .i64 (x104 + r107)) ≥ (IntKind.wrap .i64 ((IntKind.wrap .i64 ((1:Int) * ((2:Int) ^ (Min.min (Int.toNat r108.1) (64:Nat))))) - (1:Int))))) then
 ((F_958 a0 a1 a2)).bind fun r109 =>
 (some (r109, ((false, (false, (true, (false, (true, ()))))), ())))
 else
 ((F_932 a0 a2)).bind fun r110 =>
 bif (decide ((0:Int) ≤ r59.2.1)) then
 bif (decide ((0:Int) ≤ r59.2.1)) then
 (some ((bits .or .u32 (bits .or .u32 r110 (IntKind.wrap .u32 ((IntKind.wrap .u32 (IntKind.wrap .i64 (x104 + r107))) * x62))) x105), ((false, (false, (false, ((decide ((bif (a4 == (0:Int)) then (-(20000:Int)) else (IntKind.wrap .i64 ((IntKind.wrap .i64 (x0 + r65)) - (1:Int)))) < (IntKind.wrap .i64 ((1:Int) - r64)))), (a5, ()))))), ())))
 else
 none
 else
 none
 else
 none
 else
 none
 else
 none
 else
 bif (decide ((0:Int) ≤ (IntKind.wrap .i64 (r59.2.1 + (1:Int))))) then
 bif (decide ((0:Int) ≤ r59.2.1)) then
 bif (decide (x102 < (IntKind.wrap .u64 ((1:Int) * ((2:Int) ^ (Min.min x61 (64:Nat))))))) then
 ((F_932 a0 a2)).bind fun r111 =>
 (some ((bits .or .u32 r111 x103), ((false, (false, (false, (false, (a5, ()))))), ())))
 else
 ((F_946 a0)).bind fun r112 =>
 ((F_916 a0)).bind fun r113 =>
 bif (decide ((0:Int) ≤ r113.1)) then
 bif (decide ((IntKind.wrap .i64 (x104 + r112)) ≥ (IntKind.wrap .i64 ((IntKind.wrap .i64 ((1:Int) * ((2:Int) ^ (Min.min (Int.toNat r113.1) (64:Nat))))) - (1:Int))))) then
 ((F_958 a0 a1 a2)).bind fun r114 =>
 (some (r114, ((false, (false, (true, (false, (true, ()))))), ())))
 else
 ((F_932 a0 a2)).bind fun r115 =>
 bif (decide ((0:Int) ≤ r59.2.1)) then
 bif (decide ((0:Int) ≤ r59.2.1)) then
 (some ((bits .or .u32 (bits .or .u32 r115 (IntKind.wrap .u32 ((IntKind.wrap .u32 (IntKind.wrap .i64 (x104 + r112))) * x62))) x105), ((false, (false, (false, (false, (a5, ()))))), ())))
 else
 none
 else
 none
 else
 none
 else
 none
 else
 none
noncomputable def G_92d : T fa_92d → TH hN0 → Option (Int × (Bool × Bool × Bool × Bool × Bool × Unit) × Unit) := fun x y => F_92d x.1 x.2.1 x.2.2.1 x.2.2.2.1 x.2.2.2.2.1 x.2.2.2.2.2.1
noncomputable def c_92d : Orc := ent i_92d [] 0 (sp fa_92d hN0 fr_92d hN0 G_92d (outN fr_92d))
theorem ok_92d : OrcOk PR c_92d := fnT okO_92d mixed p_92d (by kernel_rfl) (by kernel_rfl) (L := L0) (kp := false) (by kernel_rfl) (inn := (innN fr_92d)) (out := (outN fr_92d)) (fun _ _ => rfl) (loopsL (l := []) (by kernel_rfl) trivial) (fun x y => by kernel_rfl)
end Go.Proofs.YtkmkhcmfpbffjaaGreat.VI
