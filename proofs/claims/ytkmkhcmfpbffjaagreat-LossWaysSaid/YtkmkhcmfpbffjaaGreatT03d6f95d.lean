import Derived.Test.YtkmkhcmfpbffjaaGreatT556e73d6
namespace Go.Proofs.YtkmkhcmfpbffjaaGreat.VI
set_option linter.unusedVariables false
set_option linter.unusedSimpArgs false
set_option maxRecDepth 100000
noncomputable def O_967 : Orc := orn
theorem okO_967 : OrcOk PR O_967 := (orn_ok _)
abbrev fa_967 : Fm := (.pair (.i .i64) .unit)
abbrev fr_967 : Fm := (.tup (.pair (.i .i64) (.pair (.i .i64) .unit)))
noncomputable def F_967 (a0 : Int) : Option (Int × Int × Unit) :=
 bif (a0 == (0:Int)) then
 (some ((5:Int), ((10:Int), ())))
 else
 bif (a0 == (1:Int)) then
 (some ((8:Int), ((7:Int), ())))
 else
 (some ((8:Int), ((23:Int), ())))
noncomputable def G_967 : T fa_967 → TH hN0 → Option (Int × Int × Unit) := fun x y => F_967 x.1
noncomputable def c_967 : Orc := ent i_967 [] 0 (sp fa_967 hN0 fr_967 hN0 G_967 (outN fr_967))
theorem ok_967 : OrcOk PR c_967 := fnT okO_967 mixed p_967 (by kernel_rfl) (by kernel_rfl) (L := L0) (kp := false) (by kernel_rfl) (inn := (innN fr_967)) (out := (outN fr_967)) (fun _ _ => rfl) (loopsL (l := []) (by kernel_rfl) trivial) (fun x y => by kernel_rfl)
noncomputable def O_966 : Orc := c_967
theorem okO_966 : OrcOk PR O_966 := ok_967
abbrev fa_966 : Fm := (.pair (.i .i64) (.pair (.i .u32) .unit))
abbrev fr_966 : Fm := (.tup (.pair .b (.pair (.i .i64) (.pair (.i .u32) .unit))))
noncomputable def F_966 (a0 : Int) (a1 : Int) : Option (Bool × Int × Int × Unit) :=
 ((F_967 a0)).bind fun r0 =>
 let x1 : Int := ((2:Int) ^ (Min.min (Int.toNat (IntKind.wrap .u64 r0.2.1)) (32:Nat)))
 bif (decide ((0:Int) ≤ (IntKind.wrap .u64 (IntKind.wrap .i64 (r0.1 + r0.2.1))))) then
 bif (decide ((0:Int) ≤ (IntKind.wrap .u64 r0.2.1))) then
 bif (decide ((0:Int) ≤ (IntKind.wrap .u64 r0.1))) then
 bif (decide ((0:Int) ≤ (IntKind.wrap .u64 r0.2.1))) then
 (some (((bits .and .u32 (a1 / ((2:Int) ^ (Min.min (Int.toNat (IntKind.wrap .u64 (IntKind.wrap .i64 (r0.1 + r0.2.1)))) (32:Nat)))) (1:Int)) == (1:Int)), ((IntKind.wrap .i64 (bits .and .u32 (a1 / x1) (IntKind.wrap .u32 ((IntKind.wrap .u32 ((1:Int) * ((2:Int) ^ (Min.min (Int.toNat (IntKind.wrap .u64 r0.1)) (32:Nat))))) - (1:Int))))), ((bits .and .u32 a1 (IntKind.wrap .u32 ((IntKind.wrap .u32 ((1:Int) * x1)) - (1:Int)))), ()))))
 else
 none
 else
 none
 else
 none
 else
 none
noncomputable def G_966 : T fa_966 → TH hN0 → Option (Bool × Int × Int × Unit) := fun x y => F_966 x.1 x.2.1
noncomputable def c_966 : Orc := ent i_966 [] 0 (sp fa_966 hN0 fr_966 hN0 G_966 (outN fr_966))
theorem ok_966 : OrcOk PR c_966 := fnT okO_966 mixed p_966 (by kernel_rfl) (by kernel_rfl) (L := L0) (kp := false) (by kernel_rfl) (inn := (innN fr_966)) (out := (outN fr_966)) (fun _ _ => rfl) (loopsL (l := []) (by kernel_rfl) trivial) (fun x y => by kernel_rfl)
noncomputable def O_965 : Orc := c_967
theorem okO_965 : OrcOk PR O_965 := ok_967
abbrev fa_965 : Fm := (.pair (.i .i64) .unit)
abbrev fr_965 : Fm := (.i .i64)
noncomputable def F_965 (a0 : Int) : Option (Int) :=
 ((F_967 a0)).bind fun r0 =>
 bif (decide ((0:Int) ≤ (IntKind.wrap .u64 r0.1))) then
 (some (IntKind.wrap .i64 ((IntKind.wrap .i64 ((1:Int) * ((2:Int) ^ (Min.min (Int.toNat (IntKind.wrap .u64 r0.1)) (64:Nat))))) - (1:Int))))
 else
 none
noncomputable def G_965 : T fa_965 → TH hN0 → Option (Int) := fun x y => F_965 x.1
noncomputable def c_965 : Orc := ent i_965 [] 0 (sp fa_965 hN0 fr_965 hN0 G_965 (outN fr_965))
theorem ok_965 : OrcOk PR c_965 := fnT okO_965 mixed p_965 (by kernel_rfl) (by kernel_rfl) (L := L0) (kp := false) (by kernel_rfl) (inn := (innN fr_965)) (out := (outN fr_965)) (fun _ _ => rfl) (loopsL (l := []) (by kernel_rfl) trivial) (fun x y => by kernel_rfl)
noncomputable def O_963 : Orc := (orm c_967 (orm c_966 c_965))
theorem okO_963 : OrcOk PR O_963 := (orm_ok ok_967 (orm_ok ok_966 ok_965))
abbrev fa_963 : Fm := (.pair (.i .i64) (.pair (.i .u32) .unit))
abbrev fr_963 : Fm := (.i .i64)
noncomputable def F_963 (a0 : Int) (a1 : Int) : Option (Int) :=
 ((F_967 a0)).bind fun r0 =>
 ((F_966 a0 a1)).bind fun r1 =>
 let x2 : Bool := (r1.2.1 == (0:Int))
 let x3 : Int := r1.2.2.1
 let x4 : Bool := (x3 == (0:Int))
 let x5 : Bool := ((x3 / ((2:Int) ^ (Min.min (Int.toNat (IntKind.wrap .u64 (IntKind.wrap .i64 (r0.2.1 - (1:Int))))) (32:Nat)))) == (1:Int))
 bif x2 then
 bif x4 then
 (some (0:Int))
 else
 bif x2 then
 (some (1:Int))
 else
 ((F_965 a0)).bind fun r6 =>
 bif (decide (r1.2.1 < r6)) then
 (some (2:Int))
 else
 bif x4 then
 (some (3:Int))
 else
 bif (decide ((0:Int) ≤ (IntKind.wrap .u64 (IntKind.wrap .i64 (r0.2.1 - (1:Int)))))) then
 bif x5 then
 (some (4:Int))
 else
 (some (5:Int))
 else
 none
 else
 bif x2 then
 (some (1:Int))
 else
 ((F_965 a0)).bind fun r7 =>
 bif (decide (r1.2.1 < r7)) then
 (some (2:Int))
 else
 bif x4 then
 (some (3:Int))
 else
 bif (decide ((0:Int) ≤ (IntKind.wrap .u64 (IntKind.wrap .i64 (r0.2.1 - (1:Int)))))) then
 bif x5 then
 (some (4:Int))
 else
 (some (5:Int))
 else
 none
noncomputable def G_963 : T fa_963 → TH hN0 → Option (Int) := fun x y => F_963 x.1 x.2.1
noncomputable def c_963 : Orc := ent i_963 [] 0 (sp fa_963 hN0 fr_963 hN0 G_963 (outN fr_963))
theorem ok_963 : OrcOk PR c_963 := fnT okO_963 mixed p_963 (by kernel_rfl) (by kernel_rfl) (L := L0) (kp := false) (by kernel_rfl) (inn := (innN fr_963)) (out := (outN fr_963)) (fun _ _ => rfl) (loopsL (l := []) (by kernel_rfl) trivial) (fun x y => by kernel_rfl)
noncomputable def O_961 : Orc := c_963
theorem okO_961 : OrcOk PR O_961 := ok_963
abbrev fa_961 : Fm := (.pair (.i .i64) (.pair (.i .u32) .unit))
abbrev fr_961 : Fm := .b
noncomputable def F_961 (a0 : Int) (a1 : Int) : Option (Bool) :=
 ((F_963 a0 a1)).bind fun r0 =>
 (some (decide (r0 ≥ (4:Int))))
noncomputable def G_961 : T fa_961 → TH hN0 → Option (Bool) := fun x y => F_961 x.1 x.2.1
noncomputable def c_961 : Orc := ent i_961 [] 0 (sp fa_961 hN0 fr_961 hN0 G_961 (outN fr_961))
theorem ok_961 : OrcOk PR c_961 := fnT okO_961 mixed p_961 (by kernel_rfl) (by kernel_rfl) (L := L0) (kp := false) (by kernel_rfl) (inn := (innN fr_961)) (out := (outN fr_961)) (fun _ _ => rfl) (loopsL (l := []) (by kernel_rfl) trivial) (fun x y => by kernel_rfl)
noncomputable def O_977 : Orc := c_967
theorem okO_977 : OrcOk PR O_977 := ok_967
abbrev fa_977 : Fm := (.pair (.i .i64) .unit)
abbrev fr_977 : Fm := (.i .u32)
noncomputable def F_977 (a0 : Int) : Option (Int) :=
 ((F_967 a0)).bind fun r0 =>
 bif (decide ((0:Int) ≤ (IntKind.wrap .u64 (IntKind.wrap .i64 ((IntKind.wrap .i64 (r0.1 + r0.2.1)) + (1:Int)))))) then
 (some (IntKind.wrap .u32 ((IntKind.wrap .u32 ((1:Int) * ((2:Int) ^ (Min.min (Int.toNat (IntKind.wrap .u64 (IntKind.wrap .i64 ((IntKind.wrap .i64 (r0.1 + r0.2.1)) + (1:Int))))) (32:Nat))))) - (1:Int))))
 else
 none
noncomputable def G_977 : T fa_977 → TH hN0 → Option (Int) := fun x y => F_977 x.1
noncomputable def c_977 : Orc := ent i_977 [] 0 (sp fa_977 hN0 fr_977 hN0 G_977 (outN fr_977))
theorem ok_977 : OrcOk PR c_977 := fnT okO_977 mixed p_977 (by kernel_rfl) (by kernel_rfl) (L := L0) (kp := false) (by kernel_rfl) (inn := (innN fr_977)) (out := (outN fr_977)) (fun _ _ => rfl) (loopsL (l := []) (by kernel_rfl) trivial) (fun x y => by kernel_rfl)
noncomputable def O_939 : Orc := c_966
theorem okO_939 : OrcOk PR O_939 := ok_966
abbrev fa_939 : Fm := (.pair (.i .i64) (.pair (.i .u32) .unit))
abbrev fr_939 : Fm := .b
noncomputable def F_939 (a0 : Int) (a1 : Int) : Option (Bool) :=
 ((F_966 a0 a1)).bind fun r0 =>
 (some r0.1)
noncomputable def G_939 : T fa_939 → TH hN0 → Option (Bool) := fun x y => F_939 x.1 x.2.1
noncomputable def c_939 : Orc := ent i_939 [] 0 (sp fa_939 hN0 fr_939 hN0 G_939 (outN fr_939))
theorem ok_939 : OrcOk PR c_939 := fnT okO_939 mixed p_939 (by kernel_rfl) (by kernel_rfl) (L := L0) (kp := false) (by kernel_rfl) (inn := (innN fr_939)) (out := (outN fr_939)) (fun _ _ => rfl) (loopsL (l := []) (by kernel_rfl) trivial) (fun x y => by kernel_rfl)
noncomputable def O_960 : Orc := (orm c_967 c_977)
theorem okO_960 : OrcOk PR O_960 := (orm_ok ok_967 ok_977)
abbrev fa_960 : Fm := (.pair (.i .i64) (.pair (.i .u32) .unit))
abbrev fr_960 : Fm := (.i .u32)
noncomputable def F_960 (a0 : Int) (a1 : Int) : Option (Int) :=
 ((F_967 a0)).bind fun r0 =>
 ((F_977 a0)).bind fun r1 =>
 bif (decide ((0:Int) ≤ (IntKind.wrap .u64 (IntKind.wrap .i64 (r0.1 + r0.2.1))))) then
 (some (bits .xor .u32 (bits .and .u32 a1 r1) (IntKind.wrap .u32 ((1:Int) * ((2:Int) ^ (Min.min (Int.toNat (IntKind.wrap .u64 (IntKind.wrap .i64 (r0.1 + r0.2.1)))) (32:Nat)))))))
 else
 none
noncomputable def G_960 : T fa_960 → TH hN0 → Option (Int) := fun x y => F_960 x.1 x.2.1
noncomputable def c_960 : Orc := ent i_960 [] 0 (sp fa_960 hN0 fr_960 hN0 G_960 (outN fr_960))
theorem ok_960 : OrcOk PR c_960 := fnT okO_960 mixed p_960 (by kernel_rfl) (by kernel_rfl) (L := L0) (kp := false) (by kernel_rfl) (inn := (innN fr_960)) (out := (outN fr_960)) (fun _ _ => rfl) (loopsL (l := []) (by kernel_rfl) trivial) (fun x y => by kernel_rfl)
noncomputable def O_958 : Orc := (orm c_977 (orm c_939 c_960))
theorem okO_958 : OrcOk PR O_958 := (orm_ok ok_977 (orm_ok ok_939 ok_960))
abbrev fa_958 : Fm := (.pair (.i .i64) (.pair (.i .u32) .unit))
abbrev fr_958 : Fm := (.i .i64)
noncomputable def F_958 (a0 : Int) (a1 : Int) : Option (Int) :=
 ((F_977 a0)).bind fun r0 =>
 ((F_939 a0 a1)).bind fun r1 =>
 bif (!r1) then
 (some (IntKind.wrap .i64 (bits .and .u32 a1 r0)))
 else
 ((F_960 a0 a1)).bind fun r2 =>
 (some (IntKind.wrap .i64 ((-(1:Int)) - (IntKind.wrap .i64 r2))))
noncomputable def G_958 : T fa_958 → TH hN0 → Option (Int) := fun x y => F_958 x.1 x.2.1
noncomputable def c_958 : Orc := ent i_958 [] 0 (sp fa_958 hN0 fr_958 hN0 G_958 (outN fr_958))
theorem ok_958 : OrcOk PR c_958 := fnT okO_958 mixed p_958 (by kernel_rfl) (by kernel_rfl) (L := L0) (kp := false) (by kernel_rfl) (inn := (innN fr_958)) (out := (outN fr_958)) (fun _ _ => rfl) (loopsL (l := []) (by kernel_rfl) trivial) (fun x y => by kernel_rfl)
noncomputable def O_937 : Orc := c_963
theorem okO_937 : OrcOk PR O_937 := ok_963
abbrev fa_937 : Fm := (.pair (.i .i64) (.pair (.i .u32) .unit))
abbrev fr_937 : Fm := .b
noncomputable def F_937 (a0 : Int) (a1 : Int) : Option (Bool) :=
 ((F_963 a0 a1)).bind fun r0 =>
 (some (r0 == (0:Int)))
noncomputable def G_937 : T fa_937 → TH hN0 → Option (Bool) := fun x y => F_937 x.1 x.2.1
noncomputable def c_937 : Orc := ent i_937 [] 0 (sp fa_937 hN0 fr_937 hN0 G_937 (outN fr_937))
theorem ok_937 : OrcOk PR c_937 := fnT okO_937 mixed p_937 (by kernel_rfl) (by kernel_rfl) (L := L0) (kp := false) (by kernel_rfl) (inn := (innN fr_937)) (out := (outN fr_937)) (fun _ _ => rfl) (loopsL (l := []) (by kernel_rfl) trivial) (fun x y => by kernel_rfl)
noncomputable def O_943 : Orc := (orm c_961 (orm c_958 c_937))
theorem okO_943 : OrcOk PR O_943 := (orm_ok ok_961 (orm_ok ok_958 ok_937))
abbrev fa_943 : Fm := (.pair (.i .i64) (.pair (.i .u32) (.pair (.i .u32) .unit)))
abbrev fr_943 : Fm := (.tup (.pair (.i .i64) (.pair .b .unit)))
noncomputable def F_943 (a0 : Int) (a1 : Int) (a2 : Int) : Option (Int × Bool × Unit) :=
 ((F_961 a0 a1)).bind fun r0 =>
 bif r0 then
 (some ((0:Int), (false, ())))
 else
 ((F_961 a0 a2)).bind fun r1 =>
 bif r1 then
 (some ((0:Int), (false, ())))
 else
 ((F_958 a0 a1)).bind fun r2 =>
 ((F_958 a0 a2)).bind fun r3 =>
 ((F_937 a0 a1)).bind fun r4 =>
 bif r4 then
 ((F_937 a0 a2)).bind fun r5 =>
 bif r5 then
 (some ((0:Int), (true, ())))
 else
 bif (decide (r2 < r3)) then
 (some ((-(1:Int)), (true, ())))
 else
 bif (decide (r2 > r3)) then
 (some ((1:Int), (true, ())))
 else
 (some ((0:Int), (true, ())))
 else
 bif (decide (r2 < r3)) then
 (some ((-(1:Int)), (true, ())))
 else
 bif (decide (r2 > r3)) then
 (some ((1:Int), (true, ())))
 else
 (some ((0:Int), (true, ())))
noncomputable def G_943 : T fa_943 → TH hN0 → Option (Int × Bool × Unit) := fun x y => F_943 x.1 x.2.1 x.2.2.1
noncomputable def c_943 : Orc := ent i_943 [] 0 (sp fa_943 hN0 fr_943 hN0 G_943 (outN fr_943))
theorem ok_943 : OrcOk PR c_943 := fnT okO_943 mixed p_943 (by kernel_rfl) (by kernel_rfl) (L := L0) (kp := false) (by kernel_rfl) (inn := (innN fr_943)) (out := (outN fr_943)) (fun _ _ => rfl) (loopsL (l := []) (by kernel_rfl) trivial) (fun x y => by kernel_rfl)
noncomputable def O_96b : Orc := c_943
theorem okO_96b : OrcOk PR O_96b := ok_943
abbrev fa_96b : Fm := (.pair (.i .i64) (.pair (.i .u32) (.pair (.i .u32) .unit)))
abbrev fr_96b : Fm := .b
noncomputable def F_96b (a0 : Int) (a1 : Int) (a2 : Int) : Option (Bool) :=
 ((F_943 a0 a1 a2)).bind fun r0 =>
 (some (decide (r0.1 < (0:Int))))
noncomputable def G_96b : T fa_96b → TH hN0 → Option (Bool) := fun x y => F_96b x.1 x.2.1 x.2.2.1
noncomputable def c_96b : Orc := ent i_96b [] 0 (sp fa_96b hN0 fr_96b hN0 G_96b (outN fr_96b))
theorem ok_96b : OrcOk PR c_96b := fnT okO_96b mixed p_96b (by kernel_rfl) (by kernel_rfl) (L := L0) (kp := false) (by kernel_rfl) (inn := (innN fr_96b)) (out := (outN fr_96b)) (fun _ _ => rfl) (loopsL (l := []) (by kernel_rfl) trivial) (fun x y => by kernel_rfl)
noncomputable def O_964 : Orc := c_967
theorem okO_964 : OrcOk PR O_964 := ok_967
abbrev fa_964 : Fm := (.pair (.i .i64) (.pair .b (.pair (.i .i64) (.pair (.i .u32) .unit))))
abbrev fr_964 : Fm := (.i .u32)
noncomputable def F_964 (a0 : Int) (a1 : Bool) (a2 : Int) (a3 : Int) : Option (Int) :=
 ((F_967 a0)).bind fun r0 =>
 let x1 : Int := (bits .or .u32 (IntKind.wrap .u32 ((IntKind.wrap .u32 a2) * ((2:Int) ^ (Min.min (Int.toNat (IntKind.wrap .u64 r0.2.1)) (32:Nat))))) a3)
 bif (decide ((0:Int) ≤ (IntKind.wrap .u64 r0.2.1))) then
 bif a1 then
 bif (decide ((0:Int) ≤ (IntKind.wrap .u64 (IntKind.wrap .i64 (r0.1 + r0.2.1))))) then
 (some (bits .or .u32 x1 (IntKind.wrap .u32 ((1:Int) * ((2:Int) ^ (Min.min (Int.toNat (IntKind.wrap .u64 (IntKind.wrap .i64 (r0.1 + r0.2.1)))) (32:Nat)))))))
 else
 none
 else
 (some x1)
 else
 none
noncomputable def G_964 : T fa_964 → TH hN0 → Option (Int) := fun x y => F_964 x.1 x.2.1 x.2.2.1 x.2.2.2.1
noncomputable def c_964 : Orc := ent i_964 [] 0 (sp fa_964 hN0 fr_964 hN0 G_964 (outN fr_964))
theorem ok_964 : OrcOk PR c_964 := fnT okO_964 mixed p_964 (by kernel_rfl) (by kernel_rfl) (L := L0) (kp := false) (by kernel_rfl) (inn := (innN fr_964)) (out := (outN fr_964)) (fun _ _ => rfl) (loopsL (l := []) (by kernel_rfl) trivial) (fun x y => by kernel_rfl)
noncomputable def O_962 : Orc := (orm c_967 (orm c_965 c_964))
theorem okO_962 : OrcOk PR O_962 := (orm_ok ok_967 (orm_ok ok_965 ok_964))
abbrev fa_962 : Fm := (.pair (.i .i64) .unit)
abbrev fr_962 : Fm := (.i .u32)
noncomputable def F_962 (a0 : Int) : Option (Int) :=
 ((F_967 a0)).bind fun r0 =>
 ((F_965 a0)).bind fun r1 =>
 bif (decide ((0:Int) ≤ (IntKind.wrap .u64 (IntKind.wrap .i64 (r0.2.1 - (1:Int)))))) then
 ((F_964 a0 false r1 (IntKind.wrap .u32 ((1:Int) * ((2:Int) ^ (Min.min (Int.toNat (IntKind.wrap .u64 (IntKind.wrap .i64 (r0.2.1 - (1:Int))))) (32:Nat))))))).bind fun r2 =>
 (some r2)
 else
 none
noncomputable def G_962 : T fa_962 → TH hN0 → Option (Int) := fun x y => F_962 x.1
noncomputable def c_962 : Orc := ent i_962 [] 0 (sp fa_962 hN0 fr_962 hN0 G_962 (outN fr_962))
theorem ok_962 : OrcOk PR c_962 := fnT okO_962 mixed p_962 (by kernel_rfl) (by kernel_rfl) (L := L0) (kp := false) (by kernel_rfl) (inn := (innN fr_962)) (out := (outN fr_962)) (fun _ _ => rfl) (loopsL (l := []) (by kernel_rfl) trivial) (fun x y => by kernel_rfl)
noncomputable def O_9f : Orc := orn
theorem okO_9f : OrcOk PR O_9f := (orn_ok _)
abbrev fa_9f : Fm := (.pair (.i .i64) .unit)
abbrev fr_9f : Fm := (.tup (.pair (.i .i64) (.pair (.i .i64) .unit)))
noncomputable def F_9f (a0 : Int) : Option (Int × Int × Unit) :=
 bif (a0 == (0:Int)) then
 (some ((5:Int), ((10:Int), ())))
 else
 bif (a0 == (1:Int)) then
 (some ((8:Int), ((7:Int), ())))
 else
 (some ((8:Int), ((23:Int), ())))
noncomputable def G_9f : T fa_9f → TH hN0 → Option (Int × Int × Unit) := fun x y => F_9f x.1
noncomputable def c_9f : Orc := ent i_9f [] 0 (sp fa_9f hN0 fr_9f hN0 G_9f (outN fr_9f))
theorem ok_9f : OrcOk PR c_9f := fnT okO_9f mixed p_9f (by kernel_rfl) (by kernel_rfl) (L := L0) (kp := false) (by kernel_rfl) (inn := (innN fr_9f)) (out := (outN fr_9f)) (fun _ _ => rfl) (loopsL (l := []) (by kernel_rfl) trivial) (fun x y => by kernel_rfl)
noncomputable def O_92c : Orc := c_9f
theorem okO_92c : OrcOk PR O_92c := ok_9f
abbrev fa_92c : Fm := (.pair (.i .i64) .unit)
abbrev fr_92c : Fm := (.i .u32)
noncomputable def F_92c (a0 : Int) : Option (Int) :=
 ((F_9f a0)).bind fun r0 =>
 bif (decide ((0:Int) ≤ (IntKind.wrap .i64 ((IntKind.wrap .i64 ((1:Int) + r0.1)) + r0.2.1)))) then
 (some (IntKind.wrap .u32 (IntKind.wrap .u64 ((IntKind.wrap .u64 ((1:Int) * ((2:Int) ^ (Min.min (Int.toNat (IntKind.wrap .i64 ((IntKind.wrap .i64 ((1:Int) + r0.1)) + r0.2.1))) (64:Nat))))) - (1:Int)))))
 else
 none
noncomputable def G_92c : T fa_92c → TH hN0 → Option (Int) := fun x y => F_92c x.1
noncomputable def c_92c : Orc := ent i_92c [] 0 (sp fa_92c hN0 fr_92c hN0 G_92c (outN fr_92c))
theorem ok_92c : OrcOk PR c_92c := fnT okO_92c mixed p_92c (by kernel_rfl) (by kernel_rfl) (L := L0) (kp := false) (by kernel_rfl) (inn := (innN fr_92c)) (out := (outN fr_92c)) (fun _ _ => rfl) (loopsL (l := []) (by kernel_rfl) trivial) (fun x y => by kernel_rfl)
noncomputable def O_92f : Orc := c_9f
theorem okO_92f : OrcOk PR O_92f := ok_9f
abbrev fa_92f : Fm := (.pair (.i .i64) (.pair .b .unit))
abbrev fr_92f : Fm := (.i .u32)
noncomputable def F_92f (a0 : Int) (a1 : Bool) : Option (Int) :=
 ((F_9f a0)).bind fun r0 =>
 bif a1 then
 bif (decide ((0:Int) ≤ (IntKind.wrap .i64 (r0.1 + r0.2.1)))) then
 (some (IntKind.wrap .u32 ((1:Int) * ((2:Int) ^ (Min.min (Int.toNat (IntKind.wrap .i64 (r0.1 + r0.2.1))) (32:Nat))))))
 else
 none
 else
 (some (0:Int))
noncomputable def G_92f : T fa_92f → TH hN0 → Option (Int) := fun x y => F_92f x.1 x.2.1
noncomputable def c_92f : Orc := ent i_92f [] 0 (sp fa_92f hN0 fr_92f hN0 G_92f (outN fr_92f))
theorem ok_92f : OrcOk PR c_92f := fnT okO_92f mixed p_92f (by kernel_rfl) (by kernel_rfl) (L := L0) (kp := false) (by kernel_rfl) (inn := (innN fr_92f)) (out := (outN fr_92f)) (fun _ _ => rfl) (loopsL (l := []) (by kernel_rfl) trivial) (fun x y => by kernel_rfl)
noncomputable def O_946 : Orc := (orm c_9f c_92c)
theorem okO_946 : OrcOk PR O_946 := (orm_ok ok_9f ok_92c)
abbrev fa_946 : Fm := (.pair (.i .i64) (.pair (.i .u32) .unit))
abbrev fr_946 : Fm := (.tup (.pair .b (.pair (.i .i64) (.pair (.i .u64) .unit))))
noncomputable def F_946 (a0 : Int) (a1 : Int) : Option (Bool × Int × Int × Unit) :=
 ((F_9f a0)).bind fun r0 =>
 let x1 : Int := ((2:Int) ^ (Min.min (Int.toNat r0.2.1) (32:Nat)))
 ((F_92c a0)).bind fun r2 =>
 let x3 : Int := (bits .and .u32 a1 r2)
 bif (decide ((0:Int) ≤ (IntKind.wrap .i64 (r0.1 + r0.2.1)))) then
 bif (decide ((0:Int) ≤ r0.2.1)) then
 bif (decide ((0:Int) ≤ r0.1)) then
 bif (decide ((0:Int) ≤ r0.2.1)) then
 (some (((x3 / ((2:Int) ^ (Min.min (Int.toNat (IntKind.wrap .i64 (r0.1 + r0.2.1))) (32:Nat)))) == (1:Int)), ((IntKind.wrap .i64 (bits .and .u32 (x3 / x1) (IntKind.wrap .u32 ((IntKind.wrap .u32 ((1:Int) * ((2:Int) ^ (Min.min (Int.toNat r0.1) (32:Nat))))) - (1:Int))))), ((IntKind.wrap .u64 (bits .and .u32 x3 (IntKind.wrap .u32 ((IntKind.wrap .u32 ((1:Int) * x1)) - (1:Int))))), ()))))
 else
 none
 else
 none
 else
 none
 else
 none
noncomputable def G_946 : T fa_946 → TH hN0 → Option (Bool × Int × Int × Unit) := fun x y => F_946 x.1 x.2.1
noncomputable def c_946 : Orc := ent i_946 [] 0 (sp fa_946 hN0 fr_946 hN0 G_946 (outN fr_946))
theorem ok_946 : OrcOk PR c_946 := fnT okO_946 mixed p_946 (by kernel_rfl) (by kernel_rfl) (L := L0) (kp := false) (by kernel_rfl) (inn := (innN fr_946)) (out := (outN fr_946)) (fun _ _ => rfl) (loopsL (l := []) (by kernel_rfl) trivial) (fun x y => by kernel_rfl)
noncomputable def O_92a : Orc := c_946
theorem okO_92a : OrcOk PR O_92a := ok_946
abbrev fa_92a : Fm := (.pair (.i .i64) (.pair (.i .u32) .unit))
abbrev fr_92a : Fm := .b
noncomputable def F_92a (a0 : Int) (a1 : Int) : Option (Bool) :=
 ((F_946 a0 a1)).bind fun r0 =>
 (some r0.1)
noncomputable def G_92a : T fa_92a → TH hN0 → Option (Bool) := fun x y => F_92a x.1 x.2.1
noncomputable def c_92a : Orc := ent i_92a [] 0 (sp fa_92a hN0 fr_92a hN0 G_92a (outN fr_92a))
theorem ok_92a : OrcOk PR c_92a := fnT okO_92a mixed p_92a (by kernel_rfl) (by kernel_rfl) (L := L0) (kp := false) (by kernel_rfl) (inn := (innN fr_92a)) (out := (outN fr_92a)) (fun _ _ => rfl) (loopsL (l := []) (by kernel_rfl) trivial) (fun x y => by kernel_rfl)
noncomputable def O_987 : Orc := (orm c_92c (orm c_92f c_92a))
theorem okO_987 : OrcOk PR O_987 := (orm_ok ok_92c (orm_ok ok_92f ok_92a))
abbrev fa_987 : Fm := (.pair (.i .i64) (.pair (.i .u32) .unit))
abbrev fr_987 : Fm := (.i .i64)
noncomputable def F_987 (a0 : Int) (a1 : Int) : Option (Int) :=
 ((F_92c a0)).bind fun r0 =>
 ((F_92f a0 true)).bind fun r1 =>
 let x2 : Int := (IntKind.wrap .i64 (bits .andNot .u32 (bits .and .u32 a1 r0) r1))
 ((F_92a a0 a1)).bind fun r3 =>
 bif r3 then
 (some (IntKind.wrap .i64 ((-(1:Int)) - x2)))
 else
 (some x2)
noncomputable def G_987 : T fa_987 → TH hN0 → Option (Int) := fun x y => F_987 x.1 x.2.1
noncomputable def c_987 : Orc := ent i_987 [] 0 (sp fa_987 hN0 fr_987 hN0 G_987 (outN fr_987))
theorem ok_987 : OrcOk PR c_987 := fnT okO_987 mixed p_987 (by kernel_rfl) (by kernel_rfl) (L := L0) (kp := false) (by kernel_rfl) (inn := (innN fr_987)) (out := (outN fr_987)) (fun _ _ => rfl) (loopsL (l := []) (by kernel_rfl) trivial) (fun x y => by kernel_rfl)
noncomputable def O_91f : Orc := (orm c_9f c_946)
theorem okO_91f : OrcOk PR O_91f := (orm_ok ok_9f ok_946)
abbrev fa_91f : Fm := (.pair (.i .i64) (.pair (.i .u32) .unit))
abbrev fr_91f : Fm := (.i .i64)
noncomputable def F_91f (a0 : Int) (a1 : Int) : Option (Int) :=
 ((F_9f a0)).bind fun r0 =>
 ((F_946 a0 a1)).bind fun r1 =>
 let x2 : Bool := (r1.2.1 == (0:Int))
 let x3 : Int := r1.2.2.1
 let x4 : Bool := (x3 == (0:Int))
 let x5 : Bool := ((x3 / ((2:Int) ^ (Min.min (Int.toNat (IntKind.wrap .i64 (r0.2.1 - (1:Int)))) (64:Nat)))) == (1:Int))
 bif x2 then
 bif x4 then
 (some (0:Int))
 else
 bif x2 then
 (some (1:Int))
 else
 bif (decide ((0:Int) ≤ r0.1)) then
 bif (decide (r1.2.1 < (IntKind.wrap .i64 ((IntKind.wrap .i64 ((1:Int) * ((2:Int) ^ (Min.min (Int.toNat r0.1) (64:Nat))))) - (1:Int))))) then
 (some (2:Int))
 else
 bif x4 then
 (some (3:Int))
 else
 bif (decide ((0:Int) ≤ (IntKind.wrap .i64 (r0.2.1 - (1:Int))))) then
 bif x5 then
 (some (4:Int))
 else
 (some (5:Int))
 else
 none
 else
 none
 else
 bif x2 then
 (some (1:Int))
 else
 bif (decide ((0:Int) ≤ r0.1)) then
 bif (decide (r1.2.1 < (IntKind.wrap .i64 ((IntKind.wrap .i64 ((1:Int) * ((2:Int) ^ (Min.min (Int.toNat r0.1) (64:Nat))))) - (1:Int))))) then
 (some (2:Int))
 else
 bif x4 then
 (some (3:Int))
 else
 bif (decide ((0:Int) ≤ (IntKind.wrap .i64 (r0.2.1 - (1:Int))))) then
 bif x5 then
 (some (4:Int))
 else
 (some (5:Int))
 else
 none
 else
 none
noncomputable def G_91f : T fa_91f → TH hN0 → Option (Int) := fun x y => F_91f x.1 x.2.1
noncomputable def c_91f : Orc := ent i_91f [] 0 (sp fa_91f hN0 fr_91f hN0 G_91f (outN fr_91f))
theorem ok_91f : OrcOk PR c_91f := fnT okO_91f mixed p_91f (by kernel_rfl) (by kernel_rfl) (L := L0) (kp := false) (by kernel_rfl) (inn := (innN fr_91f)) (out := (outN fr_91f)) (fun _ _ => rfl) (loopsL (l := []) (by kernel_rfl) trivial) (fun x y => by kernel_rfl)
noncomputable def O_926 : Orc := c_91f
theorem okO_926 : OrcOk PR O_926 := ok_91f
abbrev fa_926 : Fm := (.pair (.i .i64) (.pair (.si .u32) .unit))
abbrev fr_926 : Fm := (.tup (.pair .b (.pair .b .unit)))
abbrev ff_926_0 : Fm := (.pair (.i .i64) (.pair (.si .u32) (.us 4 (.pair .b (.pair .b (.pair (.i .i64) (.us 29 .unit)))))))
abbrev hf_926_0 : List BF := []
abbrev X_926_0 : Xs := (.one (.exit 0) [6, 7] (.us 6 (.pair .b (.pair .b (.us 30 .unit)))) [])
abbrev S_926_0 : Type := T ff_926_0 × TH hf_926_0
abbrev E_926_0 : Type := TX X_926_0
noncomputable def LB_926_0 : Lps := L0
noncomputable def st_926_0 : StepT S_926_0 E_926_0 := fun R v kn ko =>
 let x0 : Int := v.1.1
 let x1 : List Int := v.1.2.1
 let x2 : Int := v.1.2.2.2.2.1
 let x3 : Bool := v.1.2.2.1
 let x4 : Bool := v.1.2.2.2.1
 let x5 : List Int := (List.take (List.length x1) x1)
 bif (decide (x2 < (((List.length x1) : Nat) : Int))) then
 bif (decide (((0:Int) ≤ x2) ∧ (x2 < (((List.length x1) : Nat) : Int)))) then
 ((F_91f x0 (List.getD x1 (Int.toNat x2) (0:Int)))).bind fun r6 =>
 bif x3 then
 bif x4 then
 (kn ((x0, (x5, (true, (true, ((IntKind.wrap .i64 (x2 + (1:Int))), ()))))), ()))
 else
 (kn ((x0, (x5, (true, ((r6 == (5:Int)), ((IntKind.wrap .i64 (x2 + (1:Int))), ()))))), ()))
 else
 bif (r6 == (4:Int)) then
 bif x4 then
 (kn ((x0, (x5, (true, (true, ((IntKind.wrap .i64 (x2 + (1:Int))), ()))))), ()))
 else
 (kn ((x0, (x5, (true, ((r6 == (5:Int)), ((IntKind.wrap .i64 (x2 + (1:Int))), ()))))), ()))
 else
 bif x4 then
 (kn ((x0, (x5, ((r6 == (5:Int)), (true, ((IntKind.wrap .i64 (x2 + (1:Int))), ()))))), ()))
 else
 (kn ((x0, (x5, ((r6 == (5:Int)), ((r6 == (5:Int)), ((IntKind.wrap .i64 (x2 + (1:Int))), ()))))), ()))
 else
 none
 else
 (ko ((x3, (x4, ())), ()))
noncomputable def ls_926_0 : St → LTr := (lsum ff_926_0 hf_926_0 X_926_0 Prod.mk id st_926_0 (hd [] [] [0, 1, 6, 7, 8] 0))
theorem lp_926_0 : LoopOk PR 0 (lpN f_926 0) ls_926_0 := loopT okO_926 mixed (L := LB_926_0) (d := 1) (bs := []) (ks := [0, 1, 6, 7, 8]) (loopsL (l := []) (by kernel_rfl) trivial) (by kernel_rfl) (inS := Prod.mk) (outS := id) (fun _ _ => rfl) (inX := id) (outX := id) (fun _ => rfl) (fun v R kn ko => by kernel_rfl) (hd_wk [] [] [0, 1, 6, 7, 8] 0)
noncomputable def L_926 : Lps := (lpB 4 (.by_ ls_926_0) L0)
noncomputable def F_926 (a0 : Int) (a1 : List Int) : Option (Bool × Bool × Unit) :=
 ((lim st_926_0 ((a0, ((List.take (List.length a1) a1), (false, (false, ((0:Int), ()))))), ()))).bind fun r0 =>
 (some r0.1)
noncomputable def G_926 : T fa_926 → TH hN0 → Option (Bool × Bool × Unit) := fun x y => F_926 x.1 x.2.1
noncomputable def c_926 : Orc := ent i_926 [] 0 (sp fa_926 hN0 fr_926 hN0 G_926 (outN fr_926))
theorem ok_926 : OrcOk PR c_926 := fnT okO_926 mixed p_926 (by kernel_rfl) (by kernel_rfl) (L := L_926) (kp := false) (by kernel_rfl) (inn := (innN fr_926)) (out := (outN fr_926)) (fun _ _ => rfl) (loopsL (l := [((lpN f_926 0), ls_926_0)]) (by kernel_rfl) ⟨lp_926_0, trivial⟩) (fun x y => by kernel_rfl)
noncomputable def O_942 : Orc := c_91f
theorem okO_942 : OrcOk PR O_942 := ok_91f
abbrev fa_942 : Fm := (.pair (.i .i64) (.pair (.i .u32) .unit))
abbrev fr_942 : Fm := .b
noncomputable def F_942 (a0 : Int) (a1 : Int) : Option (Bool) :=
 ((F_91f a0 a1)).bind fun r0 =>
 (some (r0 == (0:Int)))
noncomputable def G_942 : T fa_942 → TH hN0 → Option (Bool) := fun x y => F_942 x.1 x.2.1
noncomputable def c_942 : Orc := ent i_942 [] 0 (sp fa_942 hN0 fr_942 hN0 G_942 (outN fr_942))
theorem ok_942 : OrcOk PR c_942 := fnT okO_942 mixed p_942 (by kernel_rfl) (by kernel_rfl) (L := L0) (kp := false) (by kernel_rfl) (inn := (innN fr_942)) (out := (outN fr_942)) (fun _ _ => rfl) (loopsL (l := []) (by kernel_rfl) trivial) (fun x y => by kernel_rfl)
noncomputable def O_972 : Orc := (orm c_926 (orm c_942 c_987))
theorem okO_972 : OrcOk PR O_972 := (orm_ok ok_926 (orm_ok ok_942 ok_987))
abbrev fa_972 : Fm := (.pair (.i .i64) (.pair (.i .u32) (.pair (.i .u32) .unit)))
abbrev fr_972 : Fm := (.tup (.pair (.i .i64) (.pair .b .unit)))
noncomputable def F_972 (a0 : Int) (a1 : Int) (a2 : Int) : Option (Int × Bool × Unit) :=
 ((F_926 a0 [a1, a2])).bind fun r0 =>
 bif r0.1 then
 (some ((0:Int), (false, ())))
 else
 ((F_942 a0 a1)).bind fun r1 =>
 bif r1 then
 ((F_942 a0 a2)).bind fun r2 =>
 bif r2 then
 (some ((0:Int), (true, ())))
 else
 ((F_987 a0 a1)).bind fun r3 =>
 ((F_987 a0 a2)).bind fun r4 =>
 bif (decide (r3 < r4)) then
 (some ((-(1:Int)), (true, ())))
 else
 bif (decide (r3 > r4)) then
 (some ((1:Int), (true, ())))
 else
 (some ((0:Int), (true, ())))
 else
 ((F_987 a0 a1)).bind fun r5 =>
 ((F_987 a0 a2)).bind fun r6 =>
 bif (decide (r5 < r6)) then
 (some ((-(1:Int)), (true, ())))
 else
 bif (decide (r5 > r6)) then
 (some ((1:Int), (true, ())))
 else
 (some ((0:Int), (true, ())))
noncomputable def G_972 : T fa_972 → TH hN0 → Option (Int × Bool × Unit) := fun x y => F_972 x.1 x.2.1 x.2.2.1
noncomputable def c_972 : Orc := ent i_972 [] 0 (sp fa_972 hN0 fr_972 hN0 G_972 (outN fr_972))
theorem ok_972 : OrcOk PR c_972 := fnT okO_972 mixed p_972 (by kernel_rfl) (by kernel_rfl) (L := L0) (kp := false) (by kernel_rfl) (inn := (innN fr_972)) (out := (outN fr_972)) (fun _ _ => rfl) (loopsL (l := []) (by kernel_rfl) trivial) (fun x y => by kernel_rfl)
noncomputable def O_948 : Orc := c_972
theorem okO_948 : OrcOk PR O_948 := ok_972
abbrev fa_948 : Fm := (.pair (.i .i64) (.pair (.i .u32) (.pair (.i .u32) .unit)))
abbrev fr_948 : Fm := .b
noncomputable def F_948 (a0 : Int) (a1 : Int) (a2 : Int) : Option (Bool) :=
 ((F_972 a0 a1 a2)).bind fun r0 =>
 bif r0.2.1 then
 (some (decide (r0.1 < (0:Int))))
 else
 (some false)
noncomputable def G_948 : T fa_948 → TH hN0 → Option (Bool) := fun x y => F_948 x.1 x.2.1 x.2.2.1
noncomputable def c_948 : Orc := ent i_948 [] 0 (sp fa_948 hN0 fr_948 hN0 G_948 (outN fr_948))
theorem ok_948 : OrcOk PR c_948 := fnT okO_948 mixed p_948 (by kernel_rfl) (by kernel_rfl) (L := L0) (kp := false) (by kernel_rfl) (inn := (innN fr_948)) (out := (outN fr_948)) (fun _ _ => rfl) (loopsL (l := []) (by kernel_rfl) trivial) (fun x y => by kernel_rfl)
noncomputable def O_929 : Orc := (orm c_9f c_92f)
theorem okO_929 : OrcOk PR O_929 := (orm_ok ok_9f ok_92f)
abbrev fa_929 : Fm := (.pair (.i .i64) (.pair .b .unit))
abbrev fr_929 : Fm := (.i .u32)
noncomputable def F_929 (a0 : Int) (a1 : Bool) : Option (Int) :=
 ((F_9f a0)).bind fun r0 =>
 ((F_92f a0 a1)).bind fun r1 =>
 bif (decide ((0:Int) ≤ r0.1)) then
 bif (decide ((0:Int) ≤ r0.2.1)) then
 (some (bits .or .u32 r1 (IntKind.wrap .u32 ((IntKind.wrap .u32 ((IntKind.wrap .u32 ((1:Int) * ((2:Int) ^ (Min.min (Int.toNat r0.1) (32:Nat))))) - (1:Int))) * ((2:Int) ^ (Min.min (Int.toNat r0.2.1) (32:Nat)))))))
 else
 none
 else
 none
noncomputable def G_929 : T fa_929 → TH hN0 → Option (Int) := fun x y => F_929 x.1 x.2.1
noncomputable def c_929 : Orc := ent i_929 [] 0 (sp fa_929 hN0 fr_929 hN0 G_929 (outN fr_929))
theorem ok_929 : OrcOk PR c_929 := fnT okO_929 mixed p_929 (by kernel_rfl) (by kernel_rfl) (L := L0) (kp := false) (by kernel_rfl) (inn := (innN fr_929)) (out := (outN fr_929)) (fun _ _ => rfl) (loopsL (l := []) (by kernel_rfl) trivial) (fun x y => by kernel_rfl)
noncomputable def O_927 : Orc := (orm c_9f c_929)
theorem okO_927 : OrcOk PR O_927 := (orm_ok ok_9f ok_929)
abbrev fa_927 : Fm := (.pair (.i .i64) .unit)
abbrev fr_927 : Fm := (.i .u32)
noncomputable def F_927 (a0 : Int) : Option (Int) :=
 ((F_9f a0)).bind fun r0 =>
 ((F_929 a0 false)).bind fun r1 =>
 bif (decide ((0:Int) ≤ (IntKind.wrap .i64 (r0.2.1 - (1:Int))))) then
 (some (bits .or .u32 r1 (IntKind.wrap .u32 ((1:Int) * ((2:Int) ^ (Min.min (Int.toNat (IntKind.wrap .i64 (r0.2.1 - (1:Int)))) (32:Nat)))))))
 else
 none
noncomputable def G_927 : T fa_927 → TH hN0 → Option (Int) := fun x y => F_927 x.1
noncomputable def c_927 : Orc := ent i_927 [] 0 (sp fa_927 hN0 fr_927 hN0 G_927 (outN fr_927))
theorem ok_927 : OrcOk PR c_927 := fnT okO_927 mixed p_927 (by kernel_rfl) (by kernel_rfl) (L := L0) (kp := false) (by kernel_rfl) (inn := (innN fr_927)) (out := (outN fr_927)) (fun _ _ => rfl) (loopsL (l := []) (by kernel_rfl) trivial) (fun x y => by kernel_rfl)
noncomputable def O_910 : Orc := c_92f
theorem okO_910 : OrcOk PR O_910 := ok_92f
abbrev fa_910 : Fm := (.pair (.i .i64) (.pair .b .unit))
abbrev fr_910 : Fm := (.i .u32)
noncomputable def F_910 (a0 : Int) (a1 : Bool) : Option (Int) :=
 ((F_92f a0 a1)).bind fun r0 =>
 (some r0)
noncomputable def G_910 : T fa_910 → TH hN0 → Option (Int) := fun x y => F_910 x.1 x.2.1
noncomputable def c_910 : Orc := ent i_910 [] 0 (sp fa_910 hN0 fr_910 hN0 G_910 (outN fr_910))
theorem ok_910 : OrcOk PR c_910 := fnT okO_910 mixed p_910 (by kernel_rfl) (by kernel_rfl) (L := L0) (kp := false) (by kernel_rfl) (inn := (innN fr_910)) (out := (outN fr_910)) (fun _ _ => rfl) (loopsL (l := []) (by kernel_rfl) trivial) (fun x y => by kernel_rfl)
noncomputable def O_928 : Orc := c_91f
theorem okO_928 : OrcOk PR O_928 := ok_91f
abbrev fa_928 : Fm := (.pair (.i .i64) (.pair (.i .u32) .unit))
abbrev fr_928 : Fm := .b
noncomputable def F_928 (a0 : Int) (a1 : Int) : Option (Bool) :=
 ((F_91f a0 a1)).bind fun r0 =>
 (some (r0 == (3:Int)))
noncomputable def G_928 : T fa_928 → TH hN0 → Option (Bool) := fun x y => F_928 x.1 x.2.1
noncomputable def c_928 : Orc := ent i_928 [] 0 (sp fa_928 hN0 fr_928 hN0 G_928 (outN fr_928))
theorem ok_928 : OrcOk PR c_928 := fnT okO_928 mixed p_928 (by kernel_rfl) (by kernel_rfl) (L := L0) (kp := false) (by kernel_rfl) (inn := (innN fr_928)) (out := (outN fr_928)) (fun _ _ => rfl) (loopsL (l := []) (by kernel_rfl) trivial) (fun x y => by kernel_rfl)
noncomputable def O_947 : Orc := c_9f
theorem okO_947 : OrcOk PR O_947 := ok_9f
abbrev fa_947 : Fm := (.pair (.i .i64) .unit)
abbrev fr_947 : Fm := (.i .i64)
noncomputable def F_947 (a0 : Int) : Option (Int) :=
 ((F_9f a0)).bind fun r0 =>
 bif (decide ((0:Int) ≤ (IntKind.wrap .i64 (r0.1 - (1:Int))))) then
 (some (IntKind.wrap .i64 ((IntKind.wrap .i64 ((1:Int) * ((2:Int) ^ (Min.min (Int.toNat (IntKind.wrap .i64 (r0.1 - (1:Int)))) (64:Nat))))) - (1:Int))))
 else
 none
noncomputable def G_947 : T fa_947 → TH hN0 → Option (Int) := fun x y => F_947 x.1
noncomputable def c_947 : Orc := ent i_947 [] 0 (sp fa_947 hN0 fr_947 hN0 G_947 (outN fr_947))
theorem ok_947 : OrcOk PR c_947 := fnT okO_947 mixed p_947 (by kernel_rfl) (by kernel_rfl) (L := L0) (kp := false) (by kernel_rfl) (inn := (innN fr_947)) (out := (outN fr_947)) (fun _ _ => rfl) (loopsL (l := []) (by kernel_rfl) trivial) (fun x y => by kernel_rfl)
noncomputable def O_91e : Orc := (orm c_9f (orm c_946 (orm c_91f c_947)))
theorem okO_91e : OrcOk PR O_91e := (orm_ok ok_9f (orm_ok ok_946 (orm_ok ok_91f ok_947)))
abbrev fa_91e : Fm := (.pair (.i .i64) (.pair (.i .u32) .unit))
abbrev fr_91e : Fm := (.tup (.pair .b (.pair (.i .i64) (.pair (.i .u64) .unit))))
noncomputable def F_91e (a0 : Int) (a1 : Int) : Option (Bool × Int × Int × Unit) :=
 ((F_9f a0)).bind fun r0 =>
 ((F_946 a0 a1)).bind fun r1 =>
 let x2 : Int := r1.2.2.1
 ((F_91f a0 a1)).bind fun r3 =>
 bif (r3 == (2:Int)) then
 ((F_947 a0)).bind fun r4 =>
 bif (decide ((0:Int) ≤ r0.2.1)) then
 (some (r1.1, ((IntKind.wrap .i64 ((IntKind.wrap .i64 (r1.2.1 - r4)) - r0.2.1)), ((bits .or .u64 x2 (IntKind.wrap .u64 ((1:Int) * ((2:Int) ^ (Min.min (Int.toNat r0.2.1) (64:Nat)))))), ()))))
 else
 none
 else
 bif (bif (r3 == (0:Int)) then (r3 == (0:Int)) else (r3 == (1:Int))) then
 ((F_947 a0)).bind fun r5 =>
 (some (r1.1, ((IntKind.wrap .i64 ((IntKind.wrap .i64 ((1:Int) - r5)) - r0.2.1)), r1.2.2)))
 else
 (some (r1.1, ((0:Int), ((0:Int), ()))))
noncomputable def G_91e : T fa_91e → TH hN0 → Option (Bool × Int × Int × Unit) := fun x y => F_91e x.1 x.2.1
noncomputable def c_91e : Orc := ent i_91e [] 0 (sp fa_91e hN0 fr_91e hN0 G_91e (outN fr_91e))
theorem ok_91e : OrcOk PR c_91e := fnT okO_91e mixed p_91e (by kernel_rfl) (by kernel_rfl) (L := L0) (kp := false) (by kernel_rfl) (inn := (innN fr_91e)) (out := (outN fr_91e)) (fun _ _ => rfl) (loopsL (l := []) (by kernel_rfl) trivial) (fun x y => by kernel_rfl)
noncomputable def O_97b : Orc := c_929
theorem okO_97b : OrcOk PR O_97b := ok_929
abbrev fa_97b : Fm := (.pair (.i .i64) (.pair .b .unit))
abbrev fr_97b : Fm := (.i .u32)
noncomputable def F_97b (a0 : Int) (a1 : Bool) : Option (Int) :=
 ((F_929 a0 a1)).bind fun r0 =>
 (some (IntKind.wrap .u32 (r0 - (1:Int))))
noncomputable def G_97b : T fa_97b → TH hN0 → Option (Int) := fun x y => F_97b x.1 x.2.1
noncomputable def c_97b : Orc := ent i_97b [] 0 (sp fa_97b hN0 fr_97b hN0 G_97b (outN fr_97b))
theorem ok_97b : OrcOk PR c_97b := fnT okO_97b mixed p_97b (by kernel_rfl) (by kernel_rfl) (L := L0) (kp := false) (by kernel_rfl) (inn := (innN fr_97b)) (out := (outN fr_97b)) (fun _ _ => rfl) (loopsL (l := []) (by kernel_rfl) trivial) (fun x y => by kernel_rfl)
noncomputable def O_951 : Orc := (orm c_97b c_929)
theorem okO_951 : OrcOk PR O_951 := (orm_ok ok_97b ok_929)
abbrev fa_951 : Fm := (.pair (.i .i64) (.pair (.i .i64) (.pair .b .unit)))
abbrev fr_951 : Fm := (.i .u32)
noncomputable def F_951 (a0 : Int) (a1 : Int) (a2 : Bool) : Option (Int) :=
 bif (a1 == (1:Int)) then
 ((F_97b a0 a2)).bind fun r0 =>
 (some r0)
 else
 bif (a1 == (2:Int)) then
 bif a2 then
 ((F_97b a0 a2)).bind fun r1 =>
 (some r1)
 else
 bif (a1 == (3:Int)) then
 bif (!a2) then
 ((F_97b a0 a2)).bind fun r2 =>
 (some r2)
 else
 ((F_929 a0 a2)).bind fun r3 =>
 (some r3)
 else
 ((F_929 a0 a2)).bind fun r4 =>
 (some r4)
 else
 bif (a1 == (3:Int)) then
 bif (!a2) then
 ((F_97b a0 a2)).bind fun r5 =>
 (some r5)
 else
 ((F_929 a0 a2)).bind fun r6 =>
 (some r6)
 else
 ((F_929 a0 a2)).bind fun r7 =>
 (some r7)
noncomputable def G_951 : T fa_951 → TH hN0 → Option (Int) := fun x y => F_951 x.1 x.2.1 x.2.2.1
noncomputable def c_951 : Orc := ent i_951 [] 0 (sp fa_951 hN0 fr_951 hN0 G_951 (outN fr_951))
theorem ok_951 : OrcOk PR c_951 := fnT okO_951 mixed p_951 (by kernel_rfl) (by kernel_rfl) (L := L0) (kp := false) (by kernel_rfl) (inn := (innN fr_951)) (out := (outN fr_951)) (fun _ _ => rfl) (loopsL (l := []) (by kernel_rfl) trivial) (fun x y => by kernel_rfl)
noncomputable def O_945 : Orc := (orm c_926 (orm c_92c c_92f))
theorem okO_945 : OrcOk PR O_945 := (orm_ok ok_926 (orm_ok ok_92c ok_92f))
abbrev fa_945 : Fm := (.pair (.i .i64) (.pair (.i .u32) .unit))
abbrev fr_945 : Fm := (.i .u32)
noncomputable def F_945 (a0 : Int) (a1 : Int) : Option (Int) :=
 ((F_926 a0 [a1])).bind fun r0 =>
 bif r0.1 then
 ((F_92c a0)).bind fun r1 =>
 (some (bits .and .u32 a1 r1))
 else
 ((F_92f a0 true)).bind fun r2 =>
 ((F_92c a0)).bind fun r3 =>
 (some (bits .and .u32 (bits .xor .u32 a1 r2) r3))
noncomputable def G_945 : T fa_945 → TH hN0 → Option (Int) := fun x y => F_945 x.1 x.2.1
noncomputable def c_945 : Orc := ent i_945 [] 0 (sp fa_945 hN0 fr_945 hN0 G_945 (outN fr_945))
theorem ok_945 : OrcOk PR c_945 := fnT okO_945 mixed p_945 (by kernel_rfl) (by kernel_rfl) (L := L0) (kp := false) (by kernel_rfl) (inn := (innN fr_945)) (out := (outN fr_945)) (fun _ _ => rfl) (loopsL (l := []) (by kernel_rfl) trivial) (fun x y => by kernel_rfl)
noncomputable def O_9d : Orc := c_91f
theorem okO_9d : OrcOk PR O_9d := ok_91f
abbrev fa_9d : Fm := (.pair (.i .i64) (.pair (.i .u32) .unit))
abbrev fr_9d : Fm := .b
noncomputable def F_9d (a0 : Int) (a1 : Int) : Option (Bool) :=
 ((F_91f a0 a1)).bind fun r0 =>
 (some (decide (r0 < (3:Int))))
noncomputable def G_9d : T fa_9d → TH hN0 → Option (Bool) := fun x y => F_9d x.1 x.2.1
noncomputable def c_9d : Orc := ent i_9d [] 0 (sp fa_9d hN0 fr_9d hN0 G_9d (outN fr_9d))
theorem ok_9d : OrcOk PR c_9d := fnT okO_9d mixed p_9d (by kernel_rfl) (by kernel_rfl) (L := L0) (kp := false) (by kernel_rfl) (inn := (innN fr_9d)) (out := (outN fr_9d)) (fun _ _ => rfl) (loopsL (l := []) (by kernel_rfl) trivial) (fun x y => by kernel_rfl)
noncomputable def O_96 : Orc := (orm c_9f c_910)
theorem okO_96 : OrcOk PR O_96 := (orm_ok ok_9f ok_910)
abbrev fa_96 : Fm := (.pair (.i .i64) (.pair (.i .u32) .unit))
abbrev fr_96 : Fm := (.i .u32)
noncomputable def F_96 (a0 : Int) (a1 : Int) : Option (Int) :=
 bif ((Int.tmod a1 (7:Int)) == (0:Int)) then
 (some (0:Int))
 else
 ((F_9f a0)).bind fun r0 =>
 let x1 : Int := ((2:Int) ^ (Min.min (Int.toNat r0.2.1) (32:Nat)))
 let x2 : Int := (IntKind.wrap .u32 ((4:Int) * x1))
 let x3 : Int := (IntKind.wrap .u32 ((IntKind.wrap .u32 ((IntKind.wrap .u32 (((IntKind.wrap .u32 ((IntKind.wrap .u32 ((1:Int) * ((2:Int) ^ (Min.min (Int.toNat r0.1) (32:Nat))))) - (1:Int))) / (2:Int)) * x1)) - (IntKind.wrap .u32 ((2:Int) * x1)))) + (Int.tmod (a1 / (8:Int)) x2)))
 bif (decide ((0:Int) ≤ r0.1)) then
 bif (decide ((0:Int) ≤ r0.2.1)) then
 bif (decide ((0:Int) ≤ r0.2.1)) then
 bif (decide ((0:Int) ≤ r0.2.1)) then
 bif (x2 == (0:Int)) then
 none
 else
 bif ((bits .and .u32 a1 (1:Int)) == (1:Int)) then
 ((F_910 a0 true)).bind fun r4 =>
 (some (bits .or .u32 x3 r4))
 else
 (some x3)
 else
 none
 else
 none
 else
 none
 else
 none
noncomputable def G_96 : T fa_96 → TH hN0 → Option (Int) := fun x y => F_96 x.1 x.2.1
noncomputable def c_96 : Orc := ent i_96 [] 0 (sp fa_96 hN0 fr_96 hN0 G_96 (outN fr_96))
theorem ok_96 : OrcOk PR c_96 := fnT okO_96 mixed p_96 (by kernel_rfl) (by kernel_rfl) (L := L0) (kp := false) (by kernel_rfl) (inn := (innN fr_96)) (out := (outN fr_96)) (fun _ _ => rfl) (loopsL (l := []) (by kernel_rfl) trivial) (fun x y => by kernel_rfl)
noncomputable def O_989 : Orc := (orm c_967 (orm c_965 c_964))
theorem okO_989 : OrcOk PR O_989 := (orm_ok ok_967 (orm_ok ok_965 ok_964))
abbrev fa_989 : Fm := (.pair (.i .i64) (.pair .b .unit))
abbrev fr_989 : Fm := (.i .u32)
noncomputable def F_989 (a0 : Int) (a1 : Bool) : Option (Int) :=
 ((F_967 a0)).bind fun r0 =>
 ((F_965 a0)).bind fun r1 =>
 bif (decide ((0:Int) ≤ (IntKind.wrap .u64 r0.2.1))) then
 ((F_964 a0 a1 (IntKind.wrap .i64 (r1 - (1:Int))) (IntKind.wrap .u32 ((IntKind.wrap .u32 ((1:Int) * ((2:Int) ^ (Min.min (Int.toNat (IntKind.wrap .u64 r0.2.1)) (32:Nat))))) - (1:Int))))).bind fun r2 =>
 (some r2)
 else
 none
noncomputable def G_989 : T fa_989 → TH hN0 → Option (Int) := fun x y => F_989 x.1 x.2.1
noncomputable def c_989 : Orc := ent i_989 [] 0 (sp fa_989 hN0 fr_989 hN0 G_989 (outN fr_989))
theorem ok_989 : OrcOk PR c_989 := fnT okO_989 mixed p_989 (by kernel_rfl) (by kernel_rfl) (L := L0) (kp := false) (by kernel_rfl) (inn := (innN fr_989)) (out := (outN fr_989)) (fun _ _ => rfl) (loopsL (l := []) (by kernel_rfl) trivial) (fun x y => by kernel_rfl)
noncomputable def O_968 : Orc := c_967
theorem okO_968 : OrcOk PR O_968 := ok_967
abbrev fa_968 : Fm := (.pair (.i .i64) .unit)
abbrev fr_968 : Fm := (.i .i64)
noncomputable def F_968 (a0 : Int) : Option (Int) :=
 ((F_967 a0)).bind fun r0 =>
 bif (decide ((0:Int) ≤ (IntKind.wrap .u64 (IntKind.wrap .i64 (r0.1 - (1:Int)))))) then
 (some (IntKind.wrap .i64 ((2:Int) - (IntKind.wrap .i64 ((1:Int) * ((2:Int) ^ (Min.min (Int.toNat (IntKind.wrap .u64 (IntKind.wrap .i64 (r0.1 - (1:Int))))) (64:Nat))))))))
 else
 none
noncomputable def G_968 : T fa_968 → TH hN0 → Option (Int) := fun x y => F_968 x.1
noncomputable def c_968 : Orc := ent i_968 [] 0 (sp fa_968 hN0 fr_968 hN0 G_968 (outN fr_968))
theorem ok_968 : OrcOk PR c_968 := fnT okO_968 mixed p_968 (by kernel_rfl) (by kernel_rfl) (L := L0) (kp := false) (by kernel_rfl) (inn := (innN fr_968)) (out := (outN fr_968)) (fun _ _ => rfl) (loopsL (l := []) (by kernel_rfl) trivial) (fun x y => by kernel_rfl)
noncomputable def O_93b : Orc := (orm c_967 (orm c_966 (orm c_968 c_965)))
theorem okO_93b : OrcOk PR O_93b := (orm_ok ok_967 (orm_ok ok_966 (orm_ok ok_968 ok_965)))
abbrev fa_93b : Fm := (.pair (.i .i64) (.pair (.i .u32) .unit))
abbrev fr_93b : Fm := (.tup (.pair .b (.pair (.i .i64) (.pair (.i .u64) .unit))))
noncomputable def F_93b (a0 : Int) (a1 : Int) : Option (Bool × Int × Int × Unit) :=
 ((F_967 a0)).bind fun r0 =>
 ((F_966 a0 a1)).bind fun r1 =>
 let x2 : Int := r1.2.2.1
 let x3 : Int := (IntKind.wrap .u64 x2)
 bif (r1.2.1 == (0:Int)) then
 ((F_968 a0)).bind fun r4 =>
 (some (r1.1, ((IntKind.wrap .i64 (r4 - r0.2.1)), (x3, ()))))
 else
 ((F_965 a0)).bind fun r5 =>
 bif (r1.2.1 == r5) then
 (some (r1.1, ((0:Int), ((0:Int), ()))))
 else
 ((F_968 a0)).bind fun r6 =>
 bif (decide ((0:Int) ≤ (IntKind.wrap .u64 r0.2.1))) then
 (some (r1.1, ((IntKind.wrap .i64 ((IntKind.wrap .i64 ((IntKind.wrap .i64 (r6 - r0.2.1)) + r1.2.1)) - (1:Int))), ((bits .or .u64 x3 (IntKind.wrap .u64 ((1:Int) * ((2:Int) ^ (Min.min (Int.toNat (IntKind.wrap .u64 r0.2.1)) (64:Nat)))))), ()))))
 else
 none
noncomputable def G_93b : T fa_93b → TH hN0 → Option (Bool × Int × Int × Unit) := fun x y => F_93b x.1 x.2.1
noncomputable def c_93b : Orc := ent i_93b [] 0 (sp fa_93b hN0 fr_93b hN0 G_93b (outN fr_93b))
theorem ok_93b : OrcOk PR c_93b := fnT okO_93b mixed p_93b (by kernel_rfl) (by kernel_rfl) (L := L0) (kp := false) (by kernel_rfl) (inn := (innN fr_93b)) (out := (outN fr_93b)) (fun _ _ => rfl) (loopsL (l := []) (by kernel_rfl) trivial) (fun x y => by kernel_rfl)
noncomputable def O_938 : Orc := (orm c_965 c_964)
theorem okO_938 : OrcOk PR O_938 := (orm_ok ok_965 ok_964)
abbrev fa_938 : Fm := (.pair (.i .i64) (.pair .b .unit))
abbrev fr_938 : Fm := (.i .u32)
noncomputable def F_938 (a0 : Int) (a1 : Bool) : Option (Int) :=
 ((F_965 a0)).bind fun r0 =>
 ((F_964 a0 a1 r0 (0:Int))).bind fun r1 =>
 (some r1)
noncomputable def G_938 : T fa_938 → TH hN0 → Option (Int) := fun x y => F_938 x.1 x.2.1
noncomputable def c_938 : Orc := ent i_938 [] 0 (sp fa_938 hN0 fr_938 hN0 G_938 (outN fr_938))
theorem ok_938 : OrcOk PR c_938 := fnT okO_938 mixed p_938 (by kernel_rfl) (by kernel_rfl) (L := L0) (kp := false) (by kernel_rfl) (inn := (innN fr_938)) (out := (outN fr_938)) (fun _ _ => rfl) (loopsL (l := []) (by kernel_rfl) trivial) (fun x y => by kernel_rfl)
noncomputable def O_93a : Orc := c_963
theorem okO_93a : OrcOk PR O_93a := ok_963
abbrev fa_93a : Fm := (.pair (.i .i64) (.pair (.i .u32) .unit))
abbrev fr_93a : Fm := .b
noncomputable def F_93a (a0 : Int) (a1 : Int) : Option (Bool) :=
 ((F_963 a0 a1)).bind fun r0 =>
 (some (r0 == (3:Int)))
noncomputable def G_93a : T fa_93a → TH hN0 → Option (Bool) := fun x y => F_93a x.1 x.2.1
noncomputable def c_93a : Orc := ent i_93a [] 0 (sp fa_93a hN0 fr_93a hN0 G_93a (outN fr_93a))
theorem ok_93a : OrcOk PR c_93a := fnT okO_93a mixed p_93a (by kernel_rfl) (by kernel_rfl) (L := L0) (kp := false) (by kernel_rfl) (inn := (innN fr_93a)) (out := (outN fr_93a)) (fun _ _ => rfl) (loopsL (l := []) (by kernel_rfl) trivial) (fun x y => by kernel_rfl)
noncomputable def O_96e : Orc := c_964
theorem okO_96e : OrcOk PR O_96e := ok_964
abbrev fa_96e : Fm := (.pair (.i .i64) (.pair .b .unit))
abbrev fr_96e : Fm := (.i .u32)
noncomputable def F_96e (a0 : Int) (a1 : Bool) : Option (Int) :=
 ((F_964 a0 a1 (0:Int) (0:Int))).bind fun r0 =>
 (some r0)
noncomputable def G_96e : T fa_96e → TH hN0 → Option (Int) := fun x y => F_96e x.1 x.2.1
noncomputable def c_96e : Orc := ent i_96e [] 0 (sp fa_96e hN0 fr_96e hN0 G_96e (outN fr_96e))
theorem ok_96e : OrcOk PR c_96e := fnT okO_96e mixed p_96e (by kernel_rfl) (by kernel_rfl) (L := L0) (kp := false) (by kernel_rfl) (inn := (innN fr_96e)) (out := (outN fr_96e)) (fun _ _ => rfl) (loopsL (l := []) (by kernel_rfl) trivial) (fun x y => by kernel_rfl)
noncomputable def O_978 : Orc := (orm c_966 c_965)
theorem okO_978 : OrcOk PR O_978 := (orm_ok ok_966 ok_965)
abbrev fa_978 : Fm := (.pair (.i .i64) (.pair (.i .u32) .unit))
abbrev fr_978 : Fm := .b
noncomputable def F_978 (a0 : Int) (a1 : Int) : Option (Bool) :=
 ((F_966 a0 a1)).bind fun r0 =>
 ((F_965 a0)).bind fun r1 =>
 (some (decide (r0.2.1 < r1)))
noncomputable def G_978 : T fa_978 → TH hN0 → Option (Bool) := fun x y => F_978 x.1 x.2.1
noncomputable def c_978 : Orc := ent i_978 [] 0 (sp fa_978 hN0 fr_978 hN0 G_978 (outN fr_978))
theorem ok_978 : OrcOk PR c_978 := fnT okO_978 mixed p_978 (by kernel_rfl) (by kernel_rfl) (L := L0) (kp := false) (by kernel_rfl) (inn := (innN fr_978)) (out := (outN fr_978)) (fun _ _ => rfl) (loopsL (l := []) (by kernel_rfl) trivial) (fun x y => by kernel_rfl)
noncomputable def O_980 : Orc := (orm c_989 c_938)
theorem okO_980 : OrcOk PR O_980 := (orm_ok ok_989 ok_938)
abbrev fa_980 : Fm := (.pair (.i .i64) (.pair (.i .i64) (.pair .b .unit)))
abbrev fr_980 : Fm := (.tup (.pair (.i .u32) (.pair (.agg (.pair .b (.pair .b (.pair .b (.pair .b (.pair .b .unit)))))) .unit)))
noncomputable def F_980 (a0 : Int) (a1 : Int) (a2 : Bool) : Option (Int × (Bool × Bool × Bool × Bool × Bool × Unit) × Unit) :=
 bif (a1 == (1:Int)) then
 ((F_989 a0 a2)).bind fun r0 =>
 (some (r0, ((false, (false, (true, (false, (true, ()))))), ())))
 else
 bif (a1 == (2:Int)) then
 bif a2 then
 ((F_989 a0 a2)).bind fun r1 =>
 (some (r1, ((false, (false, (true, (false, (true, ()))))), ())))
 else
 ((F_938 a0 a2)).bind fun r2 =>
 (some (r2, ((false, (false, (true, (false, (true, ()))))), ())))
 else
 bif (a1 == (3:Int)) then
 bif (!a2) then
 ((F_989 a0 a2)).bind fun r3 =>
 (some (r3, ((false, (false, (true, (false, (true, ()))))), ())))
 else
 ((F_938 a0 a2)).bind fun r4 =>
 (some (r4, ((false, (false, (true, (false, (true, ()))))), ())))
 else
 ((F_938 a0 a2)).bind fun r5 =>
 (some (r5, ((false, (false, (true, (false, (true, ()))))), ())))
noncomputable def G_980 : T fa_980 → TH hN0 → Option (Int × (Bool × Bool × Bool × Bool × Bool × Unit) × Unit) := fun x y => F_980 x.1 x.2.1 x.2.2.1
noncomputable def c_980 : Orc := ent i_980 [] 0 (sp fa_980 hN0 fr_980 hN0 G_980 (outN fr_980))
theorem ok_980 : OrcOk PR c_980 := fnT okO_980 mixed p_980 (by kernel_rfl) (by kernel_rfl) (L := L0) (kp := false) (by kernel_rfl) (inn := (innN fr_980)) (out := (outN fr_980)) (fun _ _ => rfl) (loopsL (l := []) (by kernel_rfl) trivial) (fun x y => by kernel_rfl)
noncomputable def O_969 : Orc := orn
theorem okO_969 : OrcOk PR O_969 := (orn_ok _)
abbrev fa_969 : Fm := (.pair (.i .u64) .unit)
abbrev fr_969 : Fm := (.i .i64)
noncomputable def F_969 (a0 : Int) : Option (Int) :=
 let x0 : Int := (bif (decide (a0 ≥ (4294967296:Int))) then (32:Int) else (0:Int))
 let x1 : Int := (bif (decide ((bif (decide (a0 ≥ (4294967296:Int))) then (a0 / (4294967296:Int)) else a0) ≥ (65536:Int))) then (IntKind.wrap .i64 (x0 + (16:Int))) else x0)
 let x2 : Int := (bif (decide (a0 ≥ (4294967296:Int))) then (a0 / (4294967296:Int)) else a0)
 let x3 : Int := (bif (decide (x2 ≥ (65536:Int))) then (x2 / (65536:Int)) else x2)
 bif (decide (((0:Int) ≤ (IntKind.wrap .u8 (bif (decide (x3 ≥ (256:Int))) then (x3 / (256:Int)) else x3))) ∧ ((IntKind.wrap .u8 (bif (decide (x3 ≥ (256:Int))) then (x3 / (256:Int)) else x3)) < (256:Int)))) then
 (some (IntKind.wrap .i64 ((bif (decide (x3 ≥ (256:Int))) then (IntKind.wrap .i64 (x1 + (8:Int))) else x1) + (IntKind.wrap .i64 (((UInt8.toNat (List.getD [(0:UInt8), (1:UInt8), (2:UInt8), (2:UInt8), (3:UInt8), (3:UInt8), (3:UInt8), (3:UInt8), (4:UInt8), (4:UInt8), (4:UInt8), (4:UInt8), (4:UInt8), (4:UInt8), (4:UInt8), (4:UInt8), (5:UInt8), (5:UInt8), (5:UInt8), (5:UInt8), (5:UInt8), (5:UInt8), (5:UInt8), (5:UInt8), (5:UInt8), (5:UInt8), (5:UInt8), (5:UInt8), (5:UInt8), (5:UInt8), (5:UInt8), (5:UInt8), (6:UInt8), (6:UInt8), (6:UInt8), (6:UInt8), (6:UInt8), (6:UInt8), (6:UInt8), (6:UInt8), (6:UInt8), (6:UInt8), (6:UInt8), (6:UInt8), (6:UInt8), (6:UInt8), (6:UInt8), (6:UInt8), (6:UInt8), (6:UInt8), (6:UInt8), (6:UInt8), (6:UInt8), (6:UInt8), (6:UInt8), (6:UInt8), (6:UInt8), (6:UInt8), (6:UInt8), (6:UInt8), (6:UInt8), (6:UInt8), (6:UInt8), (6:UInt8), (7:UInt8), (7:UInt8), (7:UInt8), (7:UInt8), (7:UInt8), (7:UInt8), (7:UInt8), (7:UInt8), (7:UInt8), (7:UInt8), (7:UInt8), (7:UInt8), (7:UInt8), (7:UInt8), (7:UInt8), (7:UInt8), (7:UInt8), (7:UInt8), (7:UInt8), (7:UInt8), (7:UInt8), (7:UInt8), (7:UInt8), (7:UInt8), (7:UInt8), (7:UInt8), (7:UInt8), (7:UInt8), (7:UInt8), (7:UInt8), (7:UInt8), (7:UInt8), (7:UInt8), (7:UInt8), (7:UInt8), (7:UInt8), (7:UInt8), (7:UInt8), (7:UInt8), (7:UInt8), (7:UInt8), (7:UInt8), (7:UInt8), (7:UInt8), (7:UInt8), (7:UInt8), (7:UInt8), (7:UInt8), (7:UInt8), (7:UInt8), (7:UInt8), (7:UInt8), (7:UInt8), (7:UInt8), (7:UInt8), (7:UInt8), (7:UInt8), (7:UInt8), (7:UInt8), (7:UInt8), (7:UInt8), (7:UInt8), (7:UInt8), (7:UInt8), (8:UInt8), (8:UInt8), (8:UInt8), (8:UInt8), (8:UInt8), (8:UInt8), (8:UInt8), (8:UInt8), (8:UInt8), (8:UInt8), (8:UInt8), (8:UInt8), (8:UInt8), (8:UInt8), (8:UInt8), (8:UInt8), (8:UInt8), (8:UInt8), (8:UInt8), (8:UInt8), (8:UInt8), (8:UInt8), (8:UInt8), (8:UInt8), (8:UInt8), (8:UInt8), (8:UInt8), (8:UInt8), (8:UInt8), (8:UInt8), (8:UInt8), (8:UInt8), (8:UInt8), (8:UInt8), (8:UInt8), (8:UInt8), (8:UInt8), (8:UInt8), (8:UInt8), (8:UInt8), (8:UInt8), (8:UInt8), (8:UInt8), (8:UInt8), (8:UInt8), (8:UInt8), (8:UInt8), (8:UInt8), (8:UInt8), (8:UInt8), (8:UInt8), (8:UInt8), (8:UInt8), (8:UInt8), (8:UInt8), (8:UInt8), (8:UInt8), (8:UInt8), (8:UInt8), (8:UInt8), (8:UInt8), (8:UInt8), (8:UInt8), (8:UInt8), (8:UInt8), (8:UInt8), (8:UInt8), (8:UInt8), (8:UInt8), (8:UInt8), (8:UInt8), (8:UInt8), (8:UInt8), (8:UInt8), (8:UInt8), (8:UInt8), (8:UInt8), (8:UInt8), (8:UInt8), (8:UInt8), (8:UInt8), (8:UInt8), (8:UInt8), (8:UInt8), (8:UInt8), (8:UInt8), (8:UInt8), (8:UInt8), (8:UInt8), (8:UInt8), (8:UInt8), (8:UInt8), (8:UInt8), (8:UInt8), (8:UInt8), (8:UInt8), (8:UInt8), (8:UInt8), (8:UInt8), (8:UInt8), (8:UInt8), (8:UInt8), (8:UInt8), (8:UInt8), (8:UInt8), (8:UInt8), (8:UInt8), (8:UInt8), (8:UInt8), (8:UInt8), (8:UInt8), (8:UInt8), (8:UInt8), (8:UInt8), (8:UInt8), (8:UInt8), (8:UInt8), (8:UInt8), (8:UInt8), (8:UInt8), (8:UInt8), (8:UInt8), (8:UInt8), (8:UInt8), (8:UInt8), (8:UInt8), (8:UInt8), (8:UInt8)] (Int.toNat (IntKind.wrap .u8 (bif (decide (x3 ≥ (256:Int))) then (x3 / (256:Int)) else x3))) (0:UInt8))) : Nat) : Int)))))
 else
 none
noncomputable def G_969 : T fa_969 → TH hN0 → Option (Int) := fun x y => F_969 x.1
noncomputable def c_969 : Orc := ent i_969 [] 0 (sp fa_969 hN0 fr_969 hN0 G_969 (outN fr_969))
theorem ok_969 : OrcOk PR c_969 := fnT okO_969 mixed p_969 (by kernel_rfl) (by kernel_rfl) (L := L0) (kp := false) (by kernel_rfl) (inn := (innN fr_969)) (out := (outN fr_969)) (fun _ _ => rfl) (loopsL (l := []) (by kernel_rfl) trivial) (fun x y => by kernel_rfl)
noncomputable def O_93c : Orc := c_969
theorem okO_93c : OrcOk PR O_93c := ok_969
abbrev fa_93c : Fm := (.pair (.i .u64) .unit)
abbrev fr_93c : Fm := (.i .i64)
noncomputable def F_93c (a0 : Int) : Option (Int) :=
 ((F_969 a0)).bind fun r0 =>
 (some r0)
noncomputable def G_93c : T fa_93c → TH hN0 → Option (Int) := fun x y => F_93c x.1
noncomputable def c_93c : Orc := ent i_93c [] 0 (sp fa_93c hN0 fr_93c hN0 G_93c (outN fr_93c))
theorem ok_93c : OrcOk PR c_93c := fnT okO_93c mixed p_93c (by kernel_rfl) (by kernel_rfl) (L := L0) (kp := false) (by kernel_rfl) (inn := (innN fr_93c)) (out := (outN fr_93c)) (fun _ _ => rfl) (loopsL (l := []) (by kernel_rfl) trivial) (fun x y => by kernel_rfl)
noncomputable def O_96f : Orc := orn
theorem okO_96f : OrcOk PR O_96f := (orn_ok _)
abbrev fa_96f : Fm := (.pair (.i .u64) (.pair (.i .i64) .unit))
abbrev fr_96f : Fm := (.tup (.pair (.i .u64) (.pair .b .unit)))
noncomputable def F_96f (a0 : Int) (a1 : Int) : Option (Int × Bool × Unit) :=
 let x0 : Int := ((2:Int) ^ (Min.min (Int.toNat (IntKind.wrap .u64 a1)) (64:Nat)))
 let x1 : Int := (a0 / x0)
 let x2 : Int := ((2:Int) ^ (Min.min (Int.toNat (IntKind.wrap .u64 (IntKind.wrap .i64 ((0:Int) - a1)))) (64:Nat)))
 let x3 : Int := (IntKind.wrap .u64 (a0 * x2))
 bif (decide (a1 ≥ (64:Int))) then
 (some ((0:Int), ((a0 != (0:Int)), ())))
 else
 bif (decide (a1 ≤ (-(64:Int)))) then
 (some ((0:Int), ((a0 != (0:Int)), ())))
 else
 bif (decide (a1 ≥ (0:Int))) then
 bif (decide ((0:Int) ≤ (IntKind.wrap .u64 a1))) then
 bif (decide ((0:Int) ≤ (IntKind.wrap .u64 a1))) then
 (some (x1, (((IntKind.wrap .u64 (x1 * x0)) != a0), ())))
 else
 none
 else
 none
 else
 bif (decide ((0:Int) ≤ (IntKind.wrap .u64 (IntKind.wrap .i64 ((0:Int) - a1))))) then
 bif (decide ((0:Int) ≤ (IntKind.wrap .u64 (IntKind.wrap .i64 ((0:Int) - a1))))) then
 (some (x3, (((x3 / x2) != a0), ())))
 else
 none
 else
 none
noncomputable def G_96f : T fa_96f → TH hN0 → Option (Int × Bool × Unit) := fun x y => F_96f x.1 x.2.1
noncomputable def c_96f : Orc := ent i_96f [] 0 (sp fa_96f hN0 fr_96f hN0 G_96f (outN fr_96f))
theorem ok_96f : OrcOk PR c_96f := fnT okO_96f mixed p_96f (by kernel_rfl) (by kernel_rfl) (L := L0) (kp := false) (by kernel_rfl) (inn := (innN fr_96f)) (out := (outN fr_96f)) (fun _ _ => rfl) (loopsL (l := []) (by kernel_rfl) trivial) (fun x y => by kernel_rfl)
noncomputable def O_97a : Orc := orn
theorem okO_97a : OrcOk PR O_97a := (orn_ok _)
abbrev fa_97a : Fm := (.pair (.i .u64) (.pair (.i .i64) .unit))
abbrev fr_97a : Fm := (.i .u64)
noncomputable def F_97a (a0 : Int) (a1 : Int) : Option (Int) :=
 bif (decide (a1 < (1:Int))) then
 (some (0:Int))
 else
 bif (decide (a1 ≥ (64:Int))) then
 (some a0)
 else
 bif (decide ((0:Int) ≤ (IntKind.wrap .u64 a1))) then
 (some (bits .and .u64 a0 (IntKind.wrap .u64 ((IntKind.wrap .u64 ((1:Int) * ((2:Int) ^ (Min.min (Int.toNat (IntKind.wrap .u64 a1)) (64:Nat))))) - (1:Int)))))
 else
 none
noncomputable def G_97a : T fa_97a → TH hN0 → Option (Int) := fun x y => F_97a x.1 x.2.1
noncomputable def c_97a : Orc := ent i_97a [] 0 (sp fa_97a hN0 fr_97a hN0 G_97a (outN fr_97a))
theorem ok_97a : OrcOk PR c_97a := fnT okO_97a mixed p_97a (by kernel_rfl) (by kernel_rfl) (L := L0) (kp := false) (by kernel_rfl) (inn := (innN fr_97a)) (out := (outN fr_97a)) (fun _ _ => rfl) (loopsL (l := []) (by kernel_rfl) trivial) (fun x y => by kernel_rfl)
noncomputable def O_979 : Orc := (orm c_967 (orm c_968 c_93c))
theorem okO_979 : OrcOk PR O_979 := (orm_ok ok_967 (orm_ok ok_968 ok_93c))
abbrev fa_979 : Fm := (.pair (.i .i64) (.pair (.i .i64) (.pair (.i .u64) .unit)))
abbrev fr_979 : Fm := (.i .i64)
noncomputable def F_979 (a0 : Int) (a1 : Int) (a2 : Int) : Option (Int) :=
 ((F_967 a0)).bind fun r0 =>
 ((F_968 a0)).bind fun r1 =>
 bif (decide (a2 > (0:Int))) then
 ((F_93c a2)).bind fun r2 =>
 (some (IntKind.wrap .i64 ((mx r1 (IntKind.wrap .i64 ((IntKind.wrap .i64 (a1 + r2)) - (1:Int)))) - r0.2.1)))
 else
 (some (IntKind.wrap .i64 (r1 - r0.2.1)))
noncomputable def G_979 : T fa_979 → TH hN0 → Option (Int) := fun x y => F_979 x.1 x.2.1 x.2.2.1
noncomputable def c_979 : Orc := ent i_979 [] 0 (sp fa_979 hN0 fr_979 hN0 G_979 (outN fr_979))
theorem ok_979 : OrcOk PR c_979 := fnT okO_979 mixed p_979 (by kernel_rfl) (by kernel_rfl) (L := L0) (kp := false) (by kernel_rfl) (inn := (innN fr_979)) (out := (outN fr_979)) (fun _ _ => rfl) (loopsL (l := []) (by kernel_rfl) trivial) (fun x y => by kernel_rfl)
noncomputable def O_97e : Orc := c_96f
theorem okO_97e : OrcOk PR O_97e := ok_96f
abbrev fa_97e : Fm := (.pair (.i .u64) (.pair (.i .i64) (.pair .b .unit)))
abbrev fr_97e : Fm := (.tup (.pair (.i .u64) (.pair (.i .i64) .unit)))
noncomputable def F_97e (a0 : Int) (a1 : Int) (a2 : Bool) : Option (Int × Int × Unit) :=
 bif (decide (a1 ≤ (0:Int))) then
 ((F_96f a0 a1)).bind fun r0 =>
 bif a2 then
 (some (r0.1, ((1:Int), ())))
 else
 (some (r0.1, ((0:Int), ())))
 else
 ((F_96f a0 a1)).bind fun r1 =>
 bif (!r1.2.1) then
 bif a2 then
 (some (r1.1, ((1:Int), ())))
 else
 (some (r1.1, ((0:Int), ())))
 else
 ((F_96f a0 (IntKind.wrap .i64 (a1 - (1:Int))))).bind fun r2 =>
 bif ((bits .and .u64 r2.1 (1:Int)) == (0:Int)) then
 (some (r1.1, ((1:Int), ())))
 else
 bif r2.2.1 then
 (some (r1.1, ((3:Int), ())))
 else
 bif a2 then
 (some (r1.1, ((3:Int), ())))
 else
 (some (r1.1, ((2:Int), ())))
noncomputable def G_97e : T fa_97e → TH hN0 → Option (Int × Int × Unit) := fun x y => F_97e x.1 x.2.1 x.2.2.1
noncomputable def c_97e : Orc := ent i_97e [] 0 (sp fa_97e hN0 fr_97e hN0 G_97e (outN fr_97e))
theorem ok_97e : OrcOk PR c_97e := fnT okO_97e mixed p_97e (by kernel_rfl) (by kernel_rfl) (L := L0) (kp := false) (by kernel_rfl) (inn := (innN fr_97e)) (out := (outN fr_97e)) (fun _ _ => rfl) (loopsL (l := []) (by kernel_rfl) trivial) (fun x y => by kernel_rfl)
noncomputable def O_97f : Orc := orn
theorem okO_97f : OrcOk PR O_97f := (orn_ok _)
abbrev fa_97f : Fm := (.pair (.i .i64) (.pair .b (.pair (.i .u64) (.pair (.i .i64) .unit))))
abbrev fr_97f : Fm := .b
noncomputable def F_97f (a0 : Int) (a1 : Bool) (a2 : Int) (a3 : Int) : Option (Bool) :=
 bif (a0 == (1:Int)) then
 (some false)
 else
 bif (a0 == (2:Int)) then
 bif (!a1) then
 (some (a3 != (0:Int)))
 else
 (some false)
 else
 bif (a0 == (3:Int)) then
 bif a1 then
 (some (a3 != (0:Int)))
 else
 (some false)
 else
 bif (a0 == (4:Int)) then
 (some (decide (a3 ≥ (2:Int))))
 else
 bif (a3 == (3:Int)) then
 (some true)
 else
 bif (a3 == (2:Int)) then
 (some ((bits .and .u64 a2 (1:Int)) == (1:Int)))
 else
 (some false)
noncomputable def G_97f : T fa_97f → TH hN0 → Option (Bool) := fun x y => F_97f x.1 x.2.1 x.2.2.1 x.2.2.2.1
noncomputable def c_97f : Orc := ent i_97f [] 0 (sp fa_97f hN0 fr_97f hN0 G_97f (outN fr_97f))
theorem ok_97f : OrcOk PR c_97f := fnT okO_97f mixed p_97f (by kernel_rfl) (by kernel_rfl) (L := L0) (kp := false) (by kernel_rfl) (inn := (innN fr_97f)) (out := (outN fr_97f)) (fun _ _ => rfl) (loopsL (l := []) (by kernel_rfl) trivial) (fun x y => by kernel_rfl)
noncomputable def O_955 : Orc := (orm c_96e (orm c_967 (orm c_979 (orm c_97e (orm c_97f (orm c_968 (orm c_965 (orm c_980 (orm c_93c (orm c_97a c_964))))))))))
theorem okO_955 : OrcOk PR O_955 := (orm_ok ok_96e (orm_ok ok_967 (orm_ok ok_979 (orm_ok ok_97e (orm_ok ok_97f (orm_ok ok_968 (orm_ok ok_965 (orm_ok ok_980 (orm_ok ok_93c (orm_ok ok_97a ok_964))))))))))
abbrev fa_955 : Fm := (.pair (.i .i64) (.pair (.i .i64) (.pair .b (.pair (.i .i64) (.pair (.i .u64) (.pair .b .unit))))))
abbrev fr_955 : Fm := (.tup (.pair (.i .u32) (.pair (.agg (.pair .b (.pair .b (.pair .b (.pair .b (.pair .b .unit)))))) .unit)))
noncomputable def F_955 (a0 : Int) (a1 : Int) (a2 : Bool) (a3 : Int) (a4 : Int) (a5 : Bool) : Option (Int × (Bool × Bool × Bool × Bool × Bool × Unit) × Unit) :=
 let x0 : Int := (mn (mx a3 (-(10000:Int))) (10000:Int))
 bif (a4 == (0:Int)) then
 bif (!a5) then
 ((F_96e a0 a2)).bind fun r1 =>
 (some (r1, ((false, (false, (false, (false, (false, ()))))), ())))
 else
 ((F_967 a0)).bind fun r2 =>
 ((F_979 a0 x0 a4)).bind fun r3 =>
 ((F_97e a4 (IntKind.wrap .i64 (r3 - x0)) a5)).bind fun r4 =>
 let x5 : Bool := (r4.2.1 != (0:Int))
 ((F_97f a1 a2 r4.1 r4.2.1)).bind fun r6 =>
 let x7 : Int := (bif r6 then (IntKind.wrap .u64 (r4.1 + (1:Int))) else r4.1)
 let x8 : Bool := ((x7 / ((2:Int) ^ (Min.min (Int.toNat (IntKind.wrap .u64 (IntKind.wrap .i64 (r2.2.1 + (1:Int))))) (64:Nat)))) != (0:Int))
 let x9 : Int := (bif x8 then (x7 / (2:Int)) else x7)
 bif (decide ((0:Int) ≤ (IntKind.wrap .u64 (IntKind.wrap .i64 (r2.2.1 + (1:Int)))))) then
 ((F_968 a0)).bind fun r10 =>
 let x11 : Int := (bif ((x9 / ((2:Int) ^ (Min.min (Int.toNat (IntKind.wrap .u64 r2.2.1)) (64:Nat)))) == (0:Int)) then (0:Int) else (IntKind.wrap .i64 ((IntKind.wrap .i64 ((IntKind.wrap .i64 ((bif x8 then (IntKind.wrap .i64 (r3 + (1:Int))) else r3) + r2.2.1)) - r10)) + (1:Int))))
 bif (decide ((0:Int) ≤ (IntKind.wrap .u64 r2.2.1))) then
 ((F_965 a0)).bind fun r12 =>
 bif (decide (x11 ≥ r12)) then
 ((F_980 a0 a1 a2)).bind fun r13 =>
 (some r13)
 else
 bif x5 then
 bif (a4 == (0:Int)) then
 ((F_97a x9 r2.2.1)).bind fun r14 =>
 ((F_964 a0 a2 x11 (IntKind.wrap .u32 r14))).bind fun r15 =>
 (some (r15, ((false, (false, (false, (true, (x5, ()))))), ())))
 else
 ((F_93c a4)).bind fun r16 =>
 ((F_968 a0)).bind fun r17 =>
 ((F_97a x9 r2.2.1)).bind fun r18 =>
 ((F_964 a0 a2 x11 (IntKind.wrap .u32 r18))).bind fun r19 =>
 (some (r19, ((false, (false, (false, ((decide ((IntKind.wrap .i64 ((IntKind.wrap .i64 (x0 + r16)) - (1:Int))) < r17)), (x5, ()))))), ())))
 else
 ((F_97a x9 r2.2.1)).bind fun r20 =>
 ((F_964 a0 a2 x11 (IntKind.wrap .u32 r20))).bind fun r21 =>
 (some (r21, ((false, (false, (false, (false, (x5, ()))))), ())))
 else
 none
 else
 none
 else
 ((F_967 a0)).bind fun r22 =>
 ((F_979 a0 x0 a4)).bind fun r23 =>
 ((F_97e a4 (IntKind.wrap .i64 (r23 - x0)) a5)).bind fun r24 =>
 let x25 : Bool := (r24.2.1 != (0:Int))
 ((F_97f a1 a2 r24.1 r24.2.1)).bind fun r26 =>
 let x27 : Int := (bif r26 then (IntKind.wrap .u64 (r24.1 + (1:Int))) else r24.1)
 let x28 : Bool := ((x27 / ((2:Int) ^ (Min.min (Int.toNat (IntKind.wrap .u64 (IntKind.wrap .i64 (r22.2.1 + (1:Int))))) (64:Nat)))) != (0:Int))
 let x29 : Int := (bif x28 then (x27 / (2:Int)) else x27)
 bif (decide ((0:Int) ≤ (IntKind.wrap .u64 (IntKind.wrap .i64 (r22.2.1 + (1:Int)))))) then
 ((F_968 a0)).bind fun r30 =>
 let x31 : Int := (bif ((x29 / ((2:Int) ^ (Min.min (Int.toNat (IntKind.wrap .u64 r22.2.1)) (64:Nat)))) == (0:Int)) then (0:Int) else (IntKind.wrap .i64 ((IntKind.wrap .i64 ((IntKind.wrap .i64 ((bif x28 then (IntKind.wrap .i64 (r23 + (1:Int))) else r23) + r22.2.1)) - r30)) + (1:Int))))
 bif (decide ((0:Int) ≤ (IntKind.wrap .u64 r22.2.1))) then
 ((F_965 a0)).bind fun r32 =>
 bif (decide (x31 ≥ r32)) then
 ((F_980 a0 a1 a2)).bind fun r33 =>
 (some r33)
 else
 bif x25 then
 bif (a4 == (0:Int)) then
 ((F_97a x29 r22.2.1)).bind fun r34 =>
 ((F_964 a0 a2 x31 (IntKind.wrap .u32 r34))).bind fun r35 =>
 (some (r35, ((false, (false, (false, (true, (x25, ()))))), ())))
 else
 ((F_93c a4)).bind fun r36 =>
 ((F_968 a0)).bind fun r37 =>
 ((F_97a x29 r22.2.1)).bind fun r38 =>
 ((F_964 a0 a2 x31 (IntKind.wrap .u32 r38))).bind fun r39 =>
 (some (r39, ((false, (false, (false, ((decide ((IntKind.wrap .i64 ((IntKind.wrap .i64 (x0 + r36)) - (1:Int))) < r37)), (x25, ()))))), ())))
 else
 ((F_97a x29 r22.2.1)).bind fun r40 =>
 ((F_964 a0 a2 x31 (IntKind.wrap .u32 r40))).bind fun r41 =>
 (some (r41, ((false, (false, (false, (false, (x25, ()))))), ())))
 else
 none
 else
 none
noncomputable def G_955 : T fa_955 → TH hN0 → Option (Int × (Bool × Bool × Bool × Bool × Bool × Unit) × Unit) := fun x y => F_955 x.1 x.2.1 x.2.2.1 x.2.2.2.1 x.2.2.2.2.1 x.2.2.2.2.2.1
noncomputable def c_955 : Orc := ent i_955 [] 0 (sp fa_955 hN0 fr_955 hN0 G_955 (outN fr_955))
theorem ok_955 : OrcOk PR c_955 := fnT okO_955 mixed p_955 (by kernel_rfl) (by kernel_rfl) (L := L0) (kp := false) (by kernel_rfl) (inn := (innN fr_955)) (out := (outN fr_955)) (fun _ _ => rfl) (loopsL (l := []) (by kernel_rfl) trivial) (fun x y => by kernel_rfl)
noncomputable def O_94e : Orc := orn
theorem okO_94e : OrcOk PR O_94e := (orn_ok _)
abbrev fa_94e : Fm := (.pair (.i .u64) .unit)
abbrev fr_94e : Fm := (.i .i64)
abbrev ff_94e_0 : Fm := (.pair (.i .u64) (.us 2 (.pair (.i .i64) (.us 7 .unit))))
abbrev hf_94e_0 : List BF := []
abbrev X_94e_0 : Xs := (.one (.exit 0) [3] (.us 3 (.pair (.i .i64) (.us 7 .unit))) [])
abbrev S_94e_0 : Type := T ff_94e_0 × TH hf_94e_0
abbrev E_94e_0 : Type := TX X_94e_0
noncomputable def LB_94e_0 : Lps := L0
noncomputable def st_94e_0 : StepT S_94e_0 E_94e_0 := fun R v kn ko =>
 bif (decide (v.1.1 > (0:Int))) then
 (kn (((v.1.1 / (2:Int)), ((IntKind.wrap .i64 (v.1.2.1 + (1:Int))), ())), ()))
 else
 (ko (v.1.2, ()))
noncomputable def ls_94e_0 : St → LTr := (lsum ff_94e_0 hf_94e_0 X_94e_0 Prod.mk id st_94e_0 (hd [] [] [0, 3] 0))
theorem lp_94e_0 : LoopOk PR 0 (lpN f_94e 0) ls_94e_0 := loopT okO_94e mixed (L := LB_94e_0) (d := 1) (bs := []) (ks := [0, 3]) (loopsL (l := []) (by kernel_rfl) trivial) (by kernel_rfl) (inS := Prod.mk) (outS := id) (fun _ _ => rfl) (inX := id) (outX := id) (fun _ => rfl) (fun v R kn ko => by kernel_rfl) (hd_wk [] [] [0, 3] 0)
noncomputable def L_94e : Lps := (lpB 3 (.by_ ls_94e_0) L0)
noncomputable def F_94e (a0 : Int) : Option (Int) :=
 ((lim st_94e_0 ((a0, ((0:Int), ())), ()))).bind fun r0 =>
 (some r0.1.1)
noncomputable def G_94e : T fa_94e → TH hN0 → Option (Int) := fun x y => F_94e x.1
noncomputable def c_94e : Orc := ent i_94e [] 0 (sp fa_94e hN0 fr_94e hN0 G_94e (outN fr_94e))
theorem ok_94e : OrcOk PR c_94e := fnT okO_94e mixed p_94e (by kernel_rfl) (by kernel_rfl) (L := L_94e) (kp := false) (by kernel_rfl) (inn := (innN fr_94e)) (out := (outN fr_94e)) (fun _ _ => rfl) (loopsL (l := [((lpN f_94e 0), ls_94e_0)]) (by kernel_rfl) ⟨lp_94e_0, trivial⟩) (fun x y => by kernel_rfl)
noncomputable def O_973 : Orc := orn
theorem okO_973 : OrcOk PR O_973 := (orn_ok _)
abbrev fa_973 : Fm := (.pair (.i .u64) (.pair (.i .i64) .unit))
abbrev fr_973 : Fm := (.tup (.pair (.i .u64) (.pair .b .unit)))
abbrev ff_973_0 : Fm := (.pair (.i .u64) (.pair (.i .i64) (.us 4 (.pair .b (.us 29 .unit)))))
abbrev hf_973_0 : List BF := []
abbrev X_973_0 : Xs := (.one (.exit 0) [0, 1, 6] (.pair (.i .u64) (.pair (.i .i64) (.us 4 (.pair .b (.us 29 .unit))))) [])
abbrev S_973_0 : Type := T ff_973_0 × TH hf_973_0
abbrev E_973_0 : Type := TX X_973_0
noncomputable def LB_973_0 : Lps := L0
noncomputable def st_973_0 : StepT S_973_0 E_973_0 := fun R v kn ko =>
 let x0 : Int := v.1.1
 let x1 : Int := (x0 / (2:Int))
 let x2 : Int := (IntKind.wrap .i64 (v.1.2.1 - (1:Int)))
 bif (decide (v.1.2.1 > (0:Int))) then
 bif v.1.2.2.1 then
 (kn ((x1, (x2, (true, ()))), ()))
 else
 (kn ((x1, (x2, (((bits .and .u64 x0 (1:Int)) == (1:Int)), ()))), ()))
 else
 (ko v)
noncomputable def ls_973_0 : St → LTr := (lsum ff_973_0 hf_973_0 X_973_0 Prod.mk id st_973_0 (hd [] [] [0, 1, 6] 0))
theorem lp_973_0 : LoopOk PR 0 (lpN f_973 0) ls_973_0 := loopT okO_973 mixed (L := LB_973_0) (d := 1) (bs := []) (ks := [0, 1, 6]) (loopsL (l := []) (by kernel_rfl) trivial) (by kernel_rfl) (inS := Prod.mk) (outS := id) (fun _ _ => rfl) (inX := id) (outX := id) (fun _ => rfl) (fun v R kn ko => by kernel_rfl) (hd_wk [] [] [0, 1, 6] 0)
abbrev ff_973_1 : Fm := (.pair (.i .u64) (.pair (.i .i64) (.us 4 (.pair .b (.us 29 .unit)))))
abbrev hf_973_1 : List BF := []
abbrev X_973_1 : Xs := (.one (.exit 2) [0, 6] (.pair (.i .u64) (.us 5 (.pair .b (.us 29 .unit)))) [])
abbrev S_973_1 : Type := T ff_973_1 × TH hf_973_1
abbrev E_973_1 : Type := TX X_973_1
noncomputable def LB_973_1 : Lps := (lpB 4 (.by_ ls_973_0) L0)
noncomputable def st_973_1 : StepT S_973_1 E_973_1 := fun R v kn ko =>
 let x0 : Int := v.1.1
 let x1 : Int := (IntKind.wrap .u64 (x0 * (2:Int)))
 let x2 : Int := (IntKind.wrap .i64 (v.1.2.1 + (1:Int)))
 bif (decide (v.1.2.1 < (0:Int))) then
 bif v.1.2.2.1 then
 (kn ((x1, (x2, (true, ()))), ()))
 else
 (kn ((x1, (x2, (((x0 / (9223372036854775808:Int)) == (1:Int)), ()))), ()))
 else
 (ko ((x0, v.1.2.2), ()))
noncomputable def ls_973_1 : St → LTr := (lsum ff_973_1 hf_973_1 X_973_1 Prod.mk id st_973_1 (hd [] [] [0, 1, 6] 0))
theorem lp_973_1 : LoopOk PR 0 (lpN f_973 1) ls_973_1 := loopT okO_973 mixed (L := LB_973_1) (d := 1) (bs := []) (ks := [0, 1, 6]) (loopsL (l := []) (by kernel_rfl) trivial) (by kernel_rfl) (inS := Prod.mk) (outS := id) (fun _ _ => rfl) (inX := id) (outX := id) (fun _ => rfl) (fun v R kn ko => by kernel_rfl) (hd_wk [] [] [0, 1, 6] 0)
noncomputable def L_973 : Lps := (lpB 8 (.by_ ls_973_1) (lpB 4 (.by_ ls_973_0) L0))
noncomputable def F_973 (a0 : Int) (a1 : Int) : Option (Int × Bool × Unit) :=
 ((lim st_973_0 ((a0, ((mn (mx a1 (-(64:Int))) (64:Int)), (false, ()))), ()))).bind fun r0 =>
 ((lim st_973_1 r0)).bind fun r1 =>
 (some r1.1)
noncomputable def G_973 : T fa_973 → TH hN0 → Option (Int × Bool × Unit) := fun x y => F_973 x.1 x.2.1
noncomputable def c_973 : Orc := ent i_973 [] 0 (sp fa_973 hN0 fr_973 hN0 G_973 (outN fr_973))
theorem ok_973 : OrcOk PR c_973 := fnT okO_973 mixed p_973 (by kernel_rfl) (by kernel_rfl) (L := L_973) (kp := false) (by kernel_rfl) (inn := (innN fr_973)) (out := (outN fr_973)) (fun _ _ => rfl) (loopsL (l := [((lpN f_973 0), ls_973_0), ((lpN f_973 1), ls_973_1)]) (by kernel_rfl) ⟨lp_973_0, ⟨lp_973_1, trivial⟩⟩) (fun x y => by kernel_rfl)
noncomputable def O_94f : Orc := c_973
theorem okO_94f : OrcOk PR O_94f := ok_973
abbrev fa_94f : Fm := (.pair (.i .u64) (.pair (.i .i64) .unit))
abbrev fr_94f : Fm := (.tup (.pair (.i .u64) (.pair .b (.pair .b .unit))))
noncomputable def F_94f (a0 : Int) (a1 : Int) : Option (Int × Bool × Bool × Unit) :=
 bif (decide (a1 ≤ (0:Int))) then
 bif (decide ((0:Int) ≤ (mn (IntKind.wrap .i64 ((0:Int) - a1)) (63:Int)))) then
 (some ((IntKind.wrap .u64 (a0 * ((2:Int) ^ (Min.min (Int.toNat (mn (IntKind.wrap .i64 ((0:Int) - a1)) (63:Int))) (64:Nat))))), (false, (false, ()))))
 else
 none
 else
 bif (decide (a1 > (64:Int))) then
 (some ((0:Int), (false, ((a0 != (0:Int)), ()))))
 else
 ((F_973 a0 a1)).bind fun r0 =>
 ((F_973 a0 (IntKind.wrap .i64 (a1 - (1:Int))))).bind fun r1 =>
 ((F_973 a0 (IntKind.wrap .i64 (a1 - (1:Int))))).bind fun r2 =>
 (some (r0.1, (((bits .and .u64 r1.1 (1:Int)) == (1:Int)), r2.2)))
noncomputable def G_94f : T fa_94f → TH hN0 → Option (Int × Bool × Bool × Unit) := fun x y => F_94f x.1 x.2.1
noncomputable def c_94f : Orc := ent i_94f [] 0 (sp fa_94f hN0 fr_94f hN0 G_94f (outN fr_94f))
theorem ok_94f : OrcOk PR c_94f := fnT okO_94f mixed p_94f (by kernel_rfl) (by kernel_rfl) (L := L0) (kp := false) (by kernel_rfl) (inn := (innN fr_94f)) (out := (outN fr_94f)) (fun _ _ => rfl) (loopsL (l := []) (by kernel_rfl) trivial) (fun x y => by kernel_rfl)
noncomputable def O_950 : Orc := orn
theorem okO_950 : OrcOk PR O_950 := (orn_ok _)
abbrev fa_950 : Fm := (.pair (.i .i64) (.pair .b (.pair .b (.pair .b (.pair .b .unit)))))
abbrev fr_950 : Fm := .b
noncomputable def F_950 (a0 : Int) (a1 : Bool) (a2 : Bool) (a3 : Bool) (a4 : Bool) : Option (Bool) :=
 bif (a0 == (1:Int)) then
 (some false)
 else
 bif (a0 == (2:Int)) then
 bif (!a1) then
 bif a3 then
 (some true)
 else
 (some a4)
 else
 (some false)
 else
 bif (a0 == (3:Int)) then
 bif a1 then
 bif a3 then
 (some true)
 else
 (some a4)
 else
 (some false)
 else
 bif (a0 == (4:Int)) then
 (some a3)
 else
 bif a3 then
 bif a4 then
 (some true)
 else
 (some a2)
 else
 (some false)
noncomputable def G_950 : T fa_950 → TH hN0 → Option (Bool) := fun x y => F_950 x.1 x.2.1 x.2.2.1 x.2.2.2.1 x.2.2.2.2.1
noncomputable def c_950 : Orc := ent i_950 [] 0 (sp fa_950 hN0 fr_950 hN0 G_950 (outN fr_950))
theorem ok_950 : OrcOk PR c_950 := fnT okO_950 mixed p_950 (by kernel_rfl) (by kernel_rfl) (L := L0) (kp := false) (by kernel_rfl) (inn := (innN fr_950)) (out := (outN fr_950)) (fun _ _ => rfl) (loopsL (l := []) (by kernel_rfl) trivial) (fun x y => by kernel_rfl)
noncomputable def O_92b : Orc := (orm c_910 (orm c_9f (orm c_947 (orm c_94e (orm c_94f (orm c_950 (orm c_92f c_951)))))))
theorem okO_92b : OrcOk PR O_92b := (orm_ok ok_910 (orm_ok ok_9f (orm_ok ok_947 (orm_ok ok_94e (orm_ok ok_94f (orm_ok ok_950 (orm_ok ok_92f ok_951)))))))
abbrev fa_92b : Fm := (.pair (.i .i64) (.pair (.i .i64) (.pair .b (.pair (.i .i64) (.pair (.i .u64) (.pair .b .unit))))))
abbrev fr_92b : Fm := (.tup (.pair (.i .u32) (.pair (.agg (.pair .b (.pair .b (.pair .b (.pair .b (.pair .b .unit)))))) .unit)))
noncomputable def F_92b (a0 : Int) (a1 : Int) (a2 : Bool) (a3 : Int) (a4 : Int) (a5 : Bool) : Option (Int × (Bool × Bool × Bool × Bool × Bool × Unit) × Unit) :=
 let x0 : Int := (mn (mx a3 (-(10000:Int))) (10000:Int))
 bif (a4 == (0:Int)) then
 bif (!a5) then
 ((F_910 a0 a2)).bind fun r1 =>
 (some (r1, ((false, (false, (false, (false, (false, ()))))), ())))
 else
 ((F_9f a0)).bind fun r2 =>
 let x3 : Int := (IntKind.wrap .u64 ((1:Int) * ((2:Int) ^ (Min.min (Int.toNat (IntKind.wrap .i64 (r2.2.1 + (1:Int)))) (64:Nat)))))
 let x4 : Nat := (Int.toNat r2.2.1)
 let x5 : Int := ((2:Int) ^ (Min.min x4 (32:Nat)))
 let x6 : Int := (IntKind.wrap .u64 ((IntKind.wrap .u64 ((1:Int) * ((2:Int) ^ (Min.min x4 (64:Nat))))) - (1:Int)))
 ((F_947 a0)).bind fun r7 =>
 ((F_94e a4)).bind fun r8 =>
 let x9 : Int := (IntKind.wrap .i64 ((mx (bif (a4 == (0:Int)) then (-(20000:Int)) else (IntKind.wrap .i64 ((IntKind.wrap .i64 (x0 + r8)) - (1:Int)))) (IntKind.wrap .i64 ((1:Int) - r7))) - r2.2.1))
 let x10 : Int := (IntKind.wrap .i64 (x9 + (1:Int)))
 ((F_94f a4 (IntKind.wrap .i64 (x9 - x0)))).bind fun r11 =>
 let x12 : Bool := r11.2.2.1
 let x13 : Bool := ((bits .and .u64 r11.1 (1:Int)) == (1:Int))
 let x14 : Int := (IntKind.wrap .u64 (r11.1 + (1:Int)))
 bif x12 then
 bif r11.2.1 then
 ((F_950 a1 a2 x13 r11.2.1 true)).bind fun r15 =>
 let x16 : Int := (bif r15 then x14 else r11.1)
 let x17 : Bool := (x16 == x3)
 let x18 : Int := (bif x17 then (x16 / (2:Int)) else x16)
 bif (decide ((0:Int) ≤ (IntKind.wrap .i64 (r2.2.1 + (1:Int))))) then
 bif (decide ((0:Int) ≤ r2.2.1)) then
 bif (decide (x18 < (IntKind.wrap .u64 ((1:Int) * ((2:Int) ^ (Min.min x4 (64:Nat))))))) then
 ((F_92f a0 a2)).bind fun r19 =>
 (some ((bits .or .u32 r19 (IntKind.wrap .u32 x18)), ((false, (false, (false, ((decide ((bif (a4 == (0:Int)) then (-(20000:Int)) else (IntKind.wrap .i64 ((IntKind.wrap .i64 (x0 + r8)) - (1:Int)))) < (IntKind.wrap .i64 ((1:Int) - r7)))), (true, ()))))), ())))
 else
 ((F_947 a0)).bind fun r20 =>
 ((F_9f a0)).bind fun r21 =>
 bif (decide ((0:Int) ≤ r21.1)) then
 bif (decide ((IntKind.wrap .i64 ((IntKind.wrap .i64 ((bif x17 then x10 else x9) + r2.2.1)) + r20)) ≥ (IntKind.wrap .i64 ((IntKind.wrap .i64 ((1:Int) * ((2:Int) ^ (Min.min (Int.toNat r21.1) (64:Nat))))) - (1:Int))))) then
 ((F_951 a0 a1 a2)).bind fun r22 =>
 (some (r22, ((false, (false, (true, (false, (true, ()))))), ())))
 else
 ((F_92f a0 a2)).bind fun r23 =>
 bif (decide ((0:Int) ≤ r2.2.1)) then
 bif (decide ((0:Int) ≤ r2.2.1)) then
 (some ((bits .or .u32 (bits .or .u32 r23 (IntKind.wrap .u32 ((IntKind.wrap .u32 (IntKind.wrap .i64 ((IntKind.wrap .i64 ((bif x17 then x10 else x9) + r2.2.1)) + r20))) * x5))) (IntKind.wrap .u32 (bits .and .u64 x18 x6))), ((false, (false, (false, ((decide ((bif (a4 == (0:Int)) then (-(20000:Int)) else (IntKind.wrap .i64 ((IntKind.wrap .i64 (x0 + r8)) - (1:Int)))) < (IntKind.wrap .i64 ((1:Int) - r7)))), (true, ()))))), ())))
 else
 none
 else
 none
 else
 none
 else
 none
 else
 none
 else
 ((F_950 a1 a2 x13 r11.2.1 true)).bind fun r24 =>
 let x25 : Int := (bif r24 then x14 else r11.1)
 let x26 : Bool := (x25 == x3)
 let x27 : Int := (bif x26 then (x25 / (2:Int)) else x25)
 bif (decide ((0:Int) ≤ (IntKind.wrap .i64 (r2.2.1 + (1:Int))))) then
 bif (decide ((0:Int) ≤ r2.2.1)) then
 bif (decide (x27 < (IntKind.wrap .u64 ((1:Int) * ((2:Int) ^ (Min.min x4 (64:Nat))))))) then
 ((F_92f a0 a2)).bind fun r28 =>
 (some ((bits .or .u32 r28 (IntKind.wrap .u32 x27)), ((false, (false, (false, ((decide ((bif (a4 == (0:Int)) then (-(20000:Int)) else (IntKind.wrap .i64 ((IntKind.wrap .i64 (x0 + r8)) - (1:Int)))) < (IntKind.wrap .i64 ((1:Int) - r7)))), (true, ()))))), ())))
 else
 ((F_947 a0)).bind fun r29 =>
 ((F_9f a0)).bind fun r30 =>
 bif (decide ((0:Int) ≤ r30.1)) then
 bif (decide ((IntKind.wrap .i64 ((IntKind.wrap .i64 ((bif x26 then x10 else x9) + r2.2.1)) + r29)) ≥ (IntKind.wrap .i64 ((IntKind.wrap .i64 ((1:Int) * ((2:Int) ^ (Min.min (Int.toNat r30.1) (64:Nat))))) - (1:Int))))) then
 ((F_951 a0 a1 a2)).bind fun r31 =>
 (some (r31, ((false, (false, (true, (false, (true, ()))))), ())))
 else
 ((F_92f a0 a2)).bind fun r32 =>
 bif (decide ((0:Int) ≤ r2.2.1)) then
 bif (decide ((0:Int) ≤ r2.2.1)) then
 (some ((bits .or .u32 (bits .or .u32 r32 (IntKind.wrap .u32 ((IntKind.wrap .u32 (IntKind.wrap .i64 ((IntKind.wrap .i64 ((bif x26 then x10 else x9) + r2.2.1)) + r29))) * x5))) (IntKind.wrap .u32 (bits .and .u64 x27 x6))), ((false, (false, (false, ((decide ((bif (a4 == (0:Int)) then (-(20000:Int)) else (IntKind.wrap .i64 ((IntKind.wrap .i64 (x0 + r8)) - (1:Int)))) < (IntKind.wrap .i64 ((1:Int) - r7)))), (true, ()))))), ())))
 else
 none
 else
 none
 else
 none
 else
 none
 else
 none
 else
 bif r11.2.1 then
 ((F_950 a1 a2 x13 r11.2.1 a5)).bind fun r33 =>
 let x34 : Int := (bif r33 then x14 else r11.1)
 let x35 : Bool := (x34 == x3)
 let x36 : Int := (bif x35 then (x34 / (2:Int)) else x34)
 bif (decide ((0:Int) ≤ (IntKind.wrap .i64 (r2.2.1 + (1:Int))))) then
 bif (decide ((0:Int) ≤ r2.2.1)) then
 bif (decide (x36 < (IntKind.wrap .u64 ((1:Int) * ((2:Int) ^ (Min.min x4 (64:Nat))))))) then
 ((F_92f a0 a2)).bind fun r37 =>
 (some ((bits .or .u32 r37 (IntKind.wrap .u32 x36)), ((false, (false, (false, ((decide ((bif (a4 == (0:Int)) then (-(20000:Int)) else (IntKind.wrap .i64 ((IntKind.wrap .i64 (x0 + r8)) - (1:Int)))) < (IntKind.wrap .i64 ((1:Int) - r7)))), (true, ()))))), ())))
 else
 ((F_947 a0)).bind fun r38 =>
 ((F_9f a0)).bind fun r39 =>
 bif (decide ((0:Int) ≤ r39.1)) then
 bif (decide ((IntKind.wrap .i64 ((IntKind.wrap .i64 ((bif x35 then x10 else x9) + r2.2.1)) + r38)) ≥ (IntKind.wrap .i64 ((IntKind.wrap .i64 ((1:Int) * ((2:Int) ^ (Min.min (Int.toNat r39.1) (64:Nat))))) - (1:Int))))) then
 ((F_951 a0 a1 a2)).bind fun r40 =>
 (some (r40, ((false, (false, (true, (false, (true, ()))))), ())))
 else
 ((F_92f a0 a2)).bind fun r41 =>
 bif (decide ((0:Int) ≤ r2.2.1)) then
 bif (decide ((0:Int) ≤ r2.2.1)) then
 (some ((bits .or .u32 (bits .or .u32 r41 (IntKind.wrap .u32 ((IntKind.wrap .u32 (IntKind.wrap .i64 ((IntKind.wrap .i64 ((bif x35 then x10 else x9) + r2.2.1)) + r38))) * x5))) (IntKind.wrap .u32 (bits .and .u64 x36 x6))), ((false, (false, (false, ((decide ((bif (a4 == (0:Int)) then (-(20000:Int)) else (IntKind.wrap .i64 ((IntKind.wrap .i64 (x0 + r8)) - (1:Int)))) < (IntKind.wrap .i64 ((1:Int) - r7)))), (true, ()))))), ())))
 else
 none
 else
 none
 else
 none
 else
 none
 else
 none
 else
 ((F_950 a1 a2 x13 r11.2.1 a5)).bind fun r42 =>
 let x43 : Int := (bif r42 then x14 else r11.1)
 let x44 : Bool := (x43 == x3)
 let x45 : Int := (bif x44 then (x43 / (2:Int)) else x43)
 let x46 : Int := (IntKind.wrap .u32 x45)
 let x47 : Int := (IntKind.wrap .i64 ((bif x44 then x10 else x9) + r2.2.1))
 let x48 : Int := (IntKind.wrap .u32 (bits .and .u64 x45 x6))
 bif a5 then
 bif (decide ((0:Int) ≤ (IntKind.wrap .i64 (r2.2.1 + (1:Int))))) then
 bif (decide ((0:Int) ≤ r2.2.1)) then
 bif (decide (x45 < (IntKind.wrap .u64 ((1:Int) * ((2:Int) ^ (Min.min x4 (64:Nat))))))) then
 ((F_92f a0 a2)).bind fun r49 =>
 (some ((bits .or .u32 r49 x46), ((false, (false, (false, ((decide ((bif (a4 == (0:Int)) then (-(20000:Int)) else (IntKind.wrap .i64 ((IntKind.wrap .i64 (x0 + r8)) - (1:Int)))) < (IntKind.wrap .i64 ((1:Int) - r7)))), (a5, ()))))), ())))
 else
 ((F_947 a0)).bind fun r50 =>
 ((F_9f a0)).bind fun r51 =>
 bif (decide ((0:Int) ≤ r51.1)) then
 bif (decide ((IntKind.wrap .i64 (x47 + r50)) ≥ (IntKind.wrap .i64 ((IntKind.wrap .i64 ((1:Int) * ((2:Int) ^ (Min.min (Int.toNat r51.1) (64:Nat))))) - (1:Int))))) then
 ((F_951 a0 a1 a2)).bind fun r52 =>
 (some (r52, ((false, (false, (true, (false, (true, ()))))), ())))
 else
 ((F_92f a0 a2)).bind fun r53 =>
 bif (decide ((0:Int) ≤ r2.2.1)) then
 bif (decide ((0:Int) ≤ r2.2.1)) then
 (some ((bits .or .u32 (bits .or .u32 r53 (IntKind.wrap .u32 ((IntKind.wrap .u32 (IntKind.wrap .i64 (x47 + r50))) * x5))) x48), ((false, (false, (false, ((decide ((bif (a4 == (0:Int)) then (-(20000:Int)) else (IntKind.wrap .i64 ((IntKind.wrap .i64 (x0 + r8)) - (1:Int)))) < (IntKind.wrap .i64 ((1:Int) - r7)))), (a5, ()))))), ())))
 else
 none
 else
 none
 else
 none
 else
 none
 else
 none
 else
 bif (decide ((0:Int) ≤ (IntKind.wrap .i64 (r2.2.1 + (1:Int))))) then
 bif (decide ((0:Int) ≤ r2.2.1)) then
 bif (decide (x45 < (IntKind.wrap .u64 ((1:Int) * ((2:Int) ^ (Min.min x4 (64:Nat))))))) then
 ((F_92f a0 a2)).bind fun r54 =>
 (some ((bits .or .u32 r54 x46), ((false, (false, (false, (false, (a5, ()))))), ())))
 else
 ((F_947 a0)).bind fun r55 =>
 ((F_9f a0)).bind fun r56 =>
 bif (decide ((0:Int) ≤ r56.1)) then
 bif (decide ((IntKind.wrap .i64 (x47 + r55)) ≥ (IntKind.wrap .i64 ((IntKind.wrap .i64 ((1:Int) * ((2:Int) ^ (Min.min (Int.toNat r56.1) (64:Nat))))) - (1:Int))))) then
 ((F_951 a0 a1 a2)).bind fun r57 =>
 (some (r57, ((false, (false, (true, (false, (true, ()))))), ())))
 else
 ((F_92f a0 a2)).bind fun r58 =>
 bif (decide ((0:Int) ≤ r2.2.1)) then
 bif (decide ((0:Int) ≤ r2.2.1)) then
 (some ((bits .or .u32 (bits .or .u32 r58 (IntKind.wrap .u32 ((IntKind.wrap .u32 (IntKind.wrap .i64 (x47 + r55))) * x5))) x48), ((false, (false, (false, (false, (a5, ()))))), ())))
 else
 none
 else
 none
 else
 none
 else
 none
 else
 none
 else
 ((F_9f a0)).bind fun r59 =>
 let x60 : Int := (IntKind.wrap .u64 ((1:Int) * ((2:Int) ^ (Min.min (Int.toNat (IntKind.wrap .i64 (r59.2.1 + (1:Int)))) (64:Nat)))))
 let x61 : Nat := (Int.toNat r59.2.1)
 let x62 : Int := ((2:Int) ^ (Min.min x61 (32:Nat)))
 let x63 : Int := (IntKind.wrap .u64 ((IntKind.wrap .u64 ((1:Int) * ((2:Int) ^ (Min.min x61 (64:Nat))))) - (1:Int)))
 ((F_947 a0)).bind fun r64 =>
 ((F_94e a4)).bind fun r65 =>
 let x66 : Int := (IntKind.wrap .i64 ((mx (bif (a4 == (0:Int)) then (-(20000:Int)) else (IntKind.wrap .i64 ((IntKind.wrap .i64 (x0 + r65)) - (1:Int)))) (IntKind.wrap .i64 ((1:Int) - r64))) - r59.2.1))
 let x67 : Int := (IntKind.wrap .i64 (x66 + (1:Int)))
 ((F_94f a4 (IntKind.wrap .i64 (x66 - x0)))).bind fun r68 =>
 let x69 : Bool := r68.2.2.1
 let x70 : Bool := ((bits .and .u64 r68.1 (1:Int)) == (1:Int))
 let x71 : Int := (IntKind.wrap .u64 (r68.1 + (1:Int)))
 bif x69 then
 bif r68.2.1 then
 ((F_950 a1 a2 x70 r68.2.1 true)).bind fun r72 =>
 let x73 : Int := (bif r72 then x71 else r68.1)
 let x74 : Bool := (x73 == x60)
 let x75 : Int := (bif x74 then (x73 / (2:Int)) else x73)
 bif (decide ((0:Int) ≤ (IntKind.wrap .i64 (r59.2.1 + (1:Int))))) then
 bif (decide ((0:Int) ≤ r59.2.1)) then
 bif (decide (x75 < (IntKind.wrap .u64 ((1:Int) * ((2:Int) ^ (Min.min x61 (64:Nat))))))) then
 ((F_92f a0 a2)).bind fun r76 =>
 (some ((bits .or .u32 r76 (IntKind.wrap .u32 x75)), ((false, (false, (false, ((decide ((bif (a4 == (0:Int)) then (-(20000:Int)) else (IntKind.wrap .i64 ((IntKind.wrap .i64 (x0 + r65)) - (1:Int)))) < (IntKind.wrap .i64 ((1:Int) - r64)))), (true, ()))))), ())))
 else
 ((F_947 a0)).bind fun r77 =>
 ((F_9f a0)).bind fun r78 =>
 bif (decide ((0:Int) ≤ r78.1)) then
 bif (decide ((IntKind.wrap .i64 ((IntKind.wrap .i64 ((bif x74 then x67 else x66) + r59.2.1)) + r77)) ≥ (IntKind.wrap .i64 ((IntKind.wrap .i64 ((1:Int) * ((2:Int) ^ (Min.min (Int.toNat r78.1) (64:Nat))))) - (1:Int))))) then
 ((F_951 a0 a1 a2)).bind fun r79 =>
 (some (r79, ((false, (false, (true, (false, (true, ()))))), ())))
 else
 ((F_92f a0 a2)).bind fun r80 =>
 bif (decide ((0:Int) ≤ r59.2.1)) then
 bif (decide ((0:Int) ≤ r59.2.1)) then
 (some ((bits .or .u32 (bits .or .u32 r80 (IntKind.wrap .u32 ((IntKind.wrap .u32 (IntKind.wrap .i64 ((IntKind.wrap .i64 ((bif x74 then x67 else x66) + r59.2.1)) + r77))) * x62))) (IntKind.wrap .u32 (bits .and .u64 x75 x63))), ((false, (false, (false, ((decide ((bif (a4 == (0:Int)) then (-(20000:Int)) else (IntKind.wrap .i64 ((IntKind.wrap .i64 (x0 + r65)) - (1:Int)))) < (IntKind.wrap .i64 ((1:Int) - r64)))), (true, ()))))), ())))
 else
 none
 else
 none
 else
 none
 else
 none
 else
 none
 else
 ((F_950 a1 a2 x70 r68.2.1 true)).bind fun r81 =>
 let x82 : Int := (bif r81 then x71 else r68.1)
 let x83 : Bool := (x82 == x60)
 let x84 : Int := (bif x83 then (x82 / (2:Int)) else x82)
 bif (decide ((0:Int) ≤ (IntKind.wrap .i64 (r59.2.1 + (1:Int))))) then
 bif (decide ((0:Int) ≤ r59.2.1)) then
 bif (decide (x84 < (IntKind.wrap .u64 ((1:Int) * ((2:Int) ^ (Min.min x61 (64:Nat))))))) then
 ((F_92f a0 a2)).bind fun r85 =>
 (some ((bits .or .u32 r85 (IntKind.wrap .u32 x84)), ((false, (false, (false, ((decide ((bif (a4 == (0:Int)) then (-(20000:Int)) else (IntKind.wrap .i64 ((IntKind.wrap .i64 (x0 + r65)) - (1:Int)))) < (IntKind.wrap .i64 ((1:Int) - r64)))), (true, ()))))), ())))
 else
 ((F_947 a0)).bind fun r86 =>
 ((F_9f a0)).bind fun r87 =>
 bif (decide ((0:Int) ≤ r87.1)) then
 bif (decide ((IntKind.wrap .i64 ((IntKind.wrap .i64 ((bif x83 then x67 else x66) + r59.2.1)) + r86)) ≥ (IntKind.wrap .i64 ((IntKind.wrap .i64 ((1:Int) * ((2:Int) ^ (Min.min (Int.toNat r87.1) (64:Nat))))) - (1:Int))))) then
 ((F_951 a0 a1 a2)).bind fun r88 =>
 (some (r88, ((false, (false, (true, (false, (true, ()))))), ())))
 else
 ((F_92f a0 a2)).bind fun r89 =>
 bif (decide ((0:Int) ≤ r59.2.1)) then
 bif (decide ((0:Int) ≤ r59.2.1)) then
 (some ((bits .or .u32 (bits .or .u32 r89 (IntKind.wrap .u32 ((IntKind.wrap .u32 (IntKind.wrap .i64 ((IntKind.wrap .i64 ((bif x83 then x67 else x66) + r59.2.1)) + r86))) * x62))) (IntKind.wrap .u32 (bits .and .u64 x84 x63))), ((false, (false, (false, ((decide ((bif (a4 == (0:Int)) then (-(20000:Int)) else (IntKind.wrap .i64 ((IntKind.wrap .i64 (x0 + r65)) - (1:Int)))) < (IntKind.wrap .i64 ((1:Int) - r64)))), (true, ()))))), ())))
 else
 none
 else
 none
 else
 none
 else
 none
 else
 none
 else
 bif r68.2.1 then
 ((F_950 a1 a2 x70 r68.2.1 a5)).bind fun r90 =>
 let x91 : Int := (bif r90 then x71 else r68.1)
 let x92 : Bool := (x91 == x60)
 let x93 : Int := (bif x92 then (x91 / (2:Int)) else x91)
 bif (decide ((0:Int) ≤ (IntKind.wrap .i64 (r59.2.1 + (1:Int))))) then
 bif (decide ((0:Int) ≤ r59.2.1)) then
 bif (decide (x93 < (IntKind.wrap .u64 ((1:Int) * ((2:Int) ^ (Min.min x61 (64:Nat))))))) then
 ((F_92f a0 a2)).bind fun r94 =>
 (some ((bits .or .u32 r94 (IntKind.wrap .u32 x93)), ((false, (false, (false, ((decide ((bif (a4 == (0:Int)) then (-(20000:Int)) else (IntKind.wrap .i64 ((IntKind.wrap .i64 (x0 + r65)) - (1:Int)))) < (IntKind.wrap .i64 ((1:Int) - r64)))), (true, ()))))), ())))
 else
 ((F_947 a0)).bind fun r95 =>
 ((F_9f a0)).bind fun r96 =>
 bif (decide ((0:Int) ≤ r96.1)) then
 bif (decide ((IntKind.wrap .i64 ((IntKind.wrap .i64 ((bif x92 then x67 else x66) + r59.2.1)) + r95)) ≥ (IntKind.wrap .i64 ((IntKind.wrap .i64 ((1:Int) * ((2:Int) ^ (Min.min (Int.toNat r96.1) (64:Nat))))) - (1:Int))))) then
 ((F_951 a0 a1 a2)).bind fun r97 =>
 (some (r97, ((false, (false, (true, (false, (true, ()))))), ())))
 else
 ((F_92f a0 a2)).bind fun r98 =>
 bif (decide ((0:Int) ≤ r59.2.1)) then
 bif (decide ((0:Int) ≤ r59.2.1)) then
 (some ((bits .or .u32 (bits .or .u32 r98 (IntKind.wrap .u32 ((IntKind.wrap .u32 (IntKind.wrap .i64 ((IntKind.wrap .i64 ((bif x92 then x67 else x66) + r59.2.1)) + r95))) * x62))) (IntKind.wrap .u32 (bits .and .u64 x93 x63))), ((false, (false, (false, ((decide ((bif (a4 == (0:Int)) then (-(20000:Int)) else (IntKind.wrap .i64 ((IntKind.wrap .i64 (x0 + r65)) - (1:Int)))) < (IntKind.wrap .i64 ((1:Int) - r64)))), (true, ()))))), ())))
 else
 none
 else
 none
 else
 none
 else
 none
 else
 none
 else
 ((F_950 a1 a2 x70 r68.2.1 a5)).bind fun r99 =>
 let x100 : Int := (bif r99 then x71 else r68.1)
 let x101 : Bool := (x100 == x60)
 let x102 : Int := (bif x101 then (x100 / (2:Int)) else x100)
 let x103 : Int := (IntKind.wrap .u32 x102)
 let x104 : Int := (IntKind.wrap .i64 ((bif x101 then x67 else x66) + r59.2.1))
 let x105 : Int := (IntKind.wrap .u32 (bits .and .u64 x102 x63))
 bif a5 then
 bif (decide ((0:Int) ≤ (IntKind.wrap .i64 (r59.2.1 + (1:Int))))) then
 bif (decide ((0:Int) ≤ r59.2.1)) then
 bif (decide (x102 < (IntKind.wrap .u64 ((1:Int) * ((2:Int) ^ (Min.min x61 (64:Nat))))))) then
 ((F_92f a0 a2)).bind fun r106 =>
 (some ((bits .or .u32 r106 x103), ((false, (false, (false, ((decide ((bif (a4 == (0:Int)) then (-(20000:Int)) else (IntKind.wrap .i64 ((IntKind.wrap .i64 (x0 + r65)) - (1:Int)))) < (IntKind.wrap .i64 ((1:Int) - r64)))), (a5, ()))))), ())))
 else
 ((F_947 a0)).bind fun r107 =>
 ((F_9f a0)).bind fun r108 =>
 bif (decide ((0:Int) ≤ r108.1)) then
 bif (decide ((IntKind.wrap .i64 (x104 + r107)) ≥ (IntKind.wrap .i64 ((IntKind.wrap .i64 ((1:Int) * ((2:Int) ^ (Min.min (Int.toNat r108.1) (64:Nat))))) - (1:Int))))) then
 ((F_951 a0 a1 a2)).bind fun r109 =>
 (some (r109, ((false, (false, (true, (false, (true, ()))))), ())))
 else
 ((F_92f a0 a2)).bind fun r110 =>
 bif (decide ((0:Int) ≤ r59.2.1)) then
 bif (decide ((0:Int) ≤ r59.2.1)) then
 (some ((bits .or .u32 (bits .or .u32 r110 (IntKind.wrap .u32 ((IntKind.wrap .u32 (IntKind.wrap .i64 (x104 + r107))) * x62))) x105), ((false, (false, (false, ((decide ((bif (a4 == (0:Int)) then (-(20000:Int)) else (IntKind.wrap .i64 ((IntKind.wrap .i64 (x0 + r65)) - (1:Int)))) < (IntKind.wrap .i64 ((1:Int) - r64)))), (a5, ()))))), ())))
 else
 none
 else
 none
 else
 none
 else
 none
 else
 none
 else
 bif (decide ((0:Int) ≤ (IntKind.wrap .i64 (r59.2.1 + (1:Int))))) then
 bif (decide ((0:Int) ≤ r59.2.1)) then
 bif (decide (x102 < (IntKind.wrap .u64 ((1:Int) * ((2:Int) ^ (Min.min x61 (64:Nat))))))) then
 ((F_92f a0 a2)).bind fun r111 =>
 (some ((bits .or .u32 r111 x103), ((false, (false, (false, (false, (a5, ()))))), ())))
 else
 ((F_947 a0)).bind fun r112 =>
 ((F_9f a0)).bind fun r113 =>
 bif (decide ((0:Int) ≤ r113.1)) then
 bif (decide ((IntKind.wrap .i64 (x104 + r112)) ≥ (IntKind.wrap .i64 ((IntKind.wrap .i64 ((1:Int) * ((2:Int) ^ (Min.min (Int.toNat r113.1) (64:Nat))))) - (1:Int))))) then
 ((F_951 a0 a1 a2)).bind fun r114 =>
 (some (r114, ((false, (false, (true, (false, (true, ()))))), ())))
 else
 ((F_92f a0 a2)).bind fun r115 =>
 bif (decide ((0:Int) ≤ r59.2.1)) then
 bif (decide ((0:Int) ≤ r59.2.1)) then
 (some ((bits .or .u32 (bits .or .u32 r115 (IntKind.wrap .u32 ((IntKind.wrap .u32 (IntKind.wrap .i64 (x104 + r112))) * x62))) x105), ((false, (false, (false, (false, (a5, ()))))), ())))
 else
 none
 else
 none
 else
 none
 else
 none
 else
 none
noncomputable def G_92b : T fa_92b → TH hN0 → Option (Int × (Bool × Bool × Bool × Bool × Bool × Unit) × Unit) := fun x y => F_92b x.1 x.2.1 x.2.2.1 x.2.2.2.1 x.2.2.2.2.1 x.2.2.2.2.2.1
noncomputable def c_92b : Orc := ent i_92b [] 0 (sp fa_92b hN0 fr_92b hN0 G_92b (outN fr_92b))
theorem ok_92b : OrcOk PR c_92b := fnT okO_92b mixed p_92b (by kernel_rfl) (by kernel_rfl) (L := L0) (kp := false) (by kernel_rfl) (inn := (innN fr_92b)) (out := (outN fr_92b)) (fun _ _ => rfl) (loopsL (l := []) (by kernel_rfl) trivial) (fun x y => by kernel_rfl)
end Go.Proofs.YtkmkhcmfpbffjaaGreat.VI
