import Derived.Test.YtkknnloamidaiaaGreatT57239688
namespace Go.Proofs.YtkknnloamidaiaaGreat.VI
set_option linter.unusedVariables false
set_option linter.unusedSimpArgs false
set_option linter.unusedSimpArgs false
set_option linter.unusedVariables false
set_option maxRecDepth 100000
set_option maxHeartbeats 8000000
theorem rfma_eq {a b c : Int} (ha : w32 a) (hb : w32 b) (hc : w32 c) : F_annealref10_Fma a b c = some (fma a b c) := by
  unfold F_annealref10_Fma; rw [fmar_eq 2 0 ha hb hc]; rfl
theorem tor_eq (f g mode : Int) {a : Int} (ha : w32 a) : F_annealref1_To f g mode a = some (toS f g mode a) := by
  have xa := xp_bd f a
  unfold F_annealref1_To toS
  rw [nans_eq f [a] (by simp) (by simpa using ha), nanr_w, infr_c f ha, negr_eq f ha, unpackr_eq f ha]
  simp only [Option.bind_some, List.any_cons, List.any_nil, Bool.or_false, infr_eq]
  rw [packr_eq g mode _ _ (sig_w64 f a), show min (max (xp f a) (-10000)) 10000 = xp f a by omega]
  cases nan f a <;> cases inff f a <;> rfl
theorem wider_eq (t : TsT) {i : Nat} (hl : wl t.2.2.2.1) (hi : i < t.2.2.2.1.length) : F_annealref13_wide t (i : Int) = some (gl (wideL t) i) := by
  obtain ⟨r, c, f, l, ⟨⟩⟩ := t
  simp only at hl hi
  unfold F_annealref13_wide F_annealref1_Widen
  dsimp only
  rw [bif_dec, if_pos (by omega), Int.toNat_natCast, tor_eq f 2 0 (wl_get hl i)]
  simp only [Option.bind_some]
  unfold wideL
  have : gl ((List.range l.length).map fun i => widen f (l.getD i 0)) i = widen f (l.getD i 0) := by
    unfold gl; rw [List.getD_eq_getElem?_getD, List.getElem?_map, List.getElem?_range hi]; rfl
  rw [this]; rfl
def tk (a : TsT) : TsT := (a.1, (a.2.1, (a.2.2.1, ((List.take (List.length a.2.2.2.1) a.2.2.2.1), ()))))
theorem tk_id (a : TsT) : tk a = a := by unfold tk; rw [List.take_length]
theorem light_len {a : TsT} (h : F_annealhelp_Light a = some true) : a.2.2.2.1.length ≤ 60 := by
  unfold F_annealhelp_Light at h
  rw [bif_dec] at h
  by_cases k : ((List.length a.2.2.2.1 : Nat) : Int) ≤ 60
  · omega
  · rw [if_neg k] at h; cases h
theorem light_some (a : TsT) : ∃ b, F_annealhelp_Light a = some b := by
  unfold F_annealhelp_Light
  simp only [bif_dec]
  (repeat' split) <;> exact ⟨_, rfl⟩
theorem tmod5 {a : Int} (h : 0 ≤ a) : ∃ n : Nat, IntKind.wrap .i64 (Int.tmod a 5) = n ∧ n ≤ 4 := by
  refine ⟨(a % 5).toNat, ?_, by omega⟩
  rw [tmod_nn h, wi64 (by omega)]; omega
end Go.Proofs.YtkknnloamidaiaaGreat.VI

namespace Go.Proofs.YtkknnloamidaiaaGreat.VI
set_option linter.unusedVariables false
set_option linter.unusedSimpArgs false
set_option maxRecDepth 100000
set_option linter.unusedSimpArgs false
set_option linter.unusedVariables false
noncomputable def O_annealref1_Mul : Orc := (orm c_annealref1_nans (orm c_annealref1_Nan (orm c_annealref1_neg (orm c_annealref1_zero (orm c_annealref1_inf (orm c_annealref1_Inf (orm c_annealref1_Unpack c_annealref1_Pack)))))))
theorem okO_annealref1_Mul : OrcOk PR O_annealref1_Mul := (orm_ok ok_annealref1_nans (orm_ok ok_annealref1_Nan (orm_ok ok_annealref1_neg (orm_ok ok_annealref1_zero (orm_ok ok_annealref1_inf (orm_ok ok_annealref1_Inf (orm_ok ok_annealref1_Unpack ok_annealref1_Pack)))))))
abbrev fa_annealref1_Mul : Fm := (.pair (.i .i64) (.pair (.i .i64) (.pair (.i .u32) (.pair (.i .u32) .unit))))
abbrev ha_annealref1_Mul : List BF := []
abbrev fr_annealref1_Mul : Fm := (.tup (.pair (.i .u32) (.pair (.agg (.pair .b (.pair .b (.pair .b (.pair .b (.pair .b .unit)))))) .unit)))
abbrev hr_annealref1_Mul : List BF := []
noncomputable def L_annealref1_Mul : Lps := L0
def inn_annealref1_Mul : T fr_annealref1_Mul → TH hr_annealref1_Mul → Int × (Bool × Bool × Bool × Bool × Bool × Unit) × Unit := (fun z w => z)
def out_annealref1_Mul : Int × (Bool × Bool × Bool × Bool × Bool × Unit) × Unit → T fr_annealref1_Mul × TH hr_annealref1_Mul := fun r => (r, ())
noncomputable def F_annealref1_Mul (a0 : Int) (a1 : Int) (a2 : Int) (a3 : Int) : Option (Int × (Bool × Bool × Bool × Bool × Bool × Unit) × Unit) :=
 ((F_annealref1_nans a0 [a2, a3])).bind fun r0 =>
 bif r0.1 then
 ((F_annealref1_Nan a0)).bind fun r1 =>
 (some (r1, ((r0.2.1, (false, (false, (false, (false, ()))))), ())))
 else
 ((F_annealref1_neg a0 a2)).bind fun r2 =>
 ((F_annealref1_neg a0 a3)).bind fun r3 =>
 let x4 : Bool := (!(r2 == r3))
 ((F_annealref1_zero a0 a2)).bind fun r5 =>
 bif r5 then
 ((F_annealref1_inf a0 a3)).bind fun r6 =>
 bif r6 then
 ((F_annealref1_Nan a0)).bind fun r7 =>
 (some (r7, ((true, (false, (false, (false, (false, ()))))), ())))
 else
 ((F_annealref1_inf a0 a2)).bind fun r8 =>
 bif r8 then
 ((F_annealref1_zero a0 a3)).bind fun r9 =>
 bif r9 then
 ((F_annealref1_Nan a0)).bind fun r10 =>
 (some (r10, ((true, (false, (false, (false, (false, ()))))), ())))
 else
 ((F_annealref1_inf a0 a2)).bind fun r11 =>
 bif r11 then
 ((F_annealref1_Inf a0 x4)).bind fun r12 =>
 (some (r12, ((false, (false, (false, (false, (false, ()))))), ())))
 else
 ((F_annealref1_inf a0 a3)).bind fun r13 =>
 bif r13 then
 ((F_annealref1_Inf a0 x4)).bind fun r14 =>
 (some (r14, ((false, (false, (false, (false, (false, ()))))), ())))
 else
 ((F_annealref1_Unpack a0 a2)).bind fun r15 =>
 let x16 : Int := r15.2.2.1
 ((F_annealref1_Unpack a0 a3)).bind fun r17 =>
 let x18 : Int := r17.2.2.1
 ((F_annealref1_Pack a0 a1 x4 (IntKind.wrap .i64 (r15.2.1 + r17.2.1)) (IntKind.wrap .u64 (x16 * x18)) false)).bind fun r19 =>
 (some r19)
 else
 ((F_annealref1_inf a0 a2)).bind fun r20 =>
 bif r20 then
 ((F_annealref1_Inf a0 x4)).bind fun r21 =>
 (some (r21, ((false, (false, (false, (false, (false, ()))))), ())))
 else
 ((F_annealref1_inf a0 a3)).bind fun r22 =>
 bif r22 then
 ((F_annealref1_Inf a0 x4)).bind fun r23 =>
 (some (r23, ((false, (false, (false, (false, (false, ()))))), ())))
 else
 ((F_annealref1_Unpack a0 a2)).bind fun r24 =>
 let x25 : Int := r24.2.2.1
 ((F_annealref1_Unpack a0 a3)).bind fun r26 =>
 let x27 : Int := r26.2.2.1
 ((F_annealref1_Pack a0 a1 x4 (IntKind.wrap .i64 (r24.2.1 + r26.2.1)) (IntKind.wrap .u64 (x25 * x27)) false)).bind fun r28 =>
 (some r28)
 else
 ((F_annealref1_inf a0 a2)).bind fun r29 =>
 bif r29 then
 ((F_annealref1_zero a0 a3)).bind fun r30 =>
 bif r30 then
 ((F_annealref1_Nan a0)).bind fun r31 =>
 (some (r31, ((true, (false, (false, (false, (false, ()))))), ())))
 else
 ((F_annealref1_inf a0 a2)).bind fun r32 =>
 bif r32 then
 ((F_annealref1_Inf a0 x4)).bind fun r33 =>
 (some (r33, ((false, (false, (false, (false, (false, ()))))), ())))
 else
 ((F_annealref1_inf a0 a3)).bind fun r34 =>
 bif r34 then
 ((F_annealref1_Inf a0 x4)).bind fun r35 =>
 (some (r35, ((false, (false, (false, (false, (false, ()))))), ())))
 else
 ((F_annealref1_Unpack a0 a2)).bind fun r36 =>
 let x37 : Int := r36.2.2.1
 ((F_annealref1_Unpack a0 a3)).bind fun r38 =>
 let x39 : Int := r38.2.2.1
 ((F_annealref1_Pack a0 a1 x4 (IntKind.wrap .i64 (r36.2.1 + r38.2.1)) (IntKind.wrap .u64 (x37 * x39)) false)).bind fun r40 =>
 (some r40)
 else
 ((F_annealref1_inf a0 a2)).bind fun r41 =>
 bif r41 then
 ((F_annealref1_Inf a0 x4)).bind fun r42 =>
 (some (r42, ((false, (false, (false, (false, (false, ()))))), ())))
 else
 ((F_annealref1_inf a0 a3)).bind fun r43 =>
 bif r43 then
 ((F_annealref1_Inf a0 x4)).bind fun r44 =>
 (some (r44, ((false, (false, (false, (false, (false, ()))))), ())))
 else
 ((F_annealref1_Unpack a0 a2)).bind fun r45 =>
 let x46 : Int := r45.2.2.1
 ((F_annealref1_Unpack a0 a3)).bind fun r47 =>
 let x48 : Int := r47.2.2.1
 ((F_annealref1_Pack a0 a1 x4 (IntKind.wrap .i64 (r45.2.1 + r47.2.1)) (IntKind.wrap .u64 (x46 * x48)) false)).bind fun r49 =>
 (some r49)
noncomputable def G_annealref1_Mul : T fa_annealref1_Mul → TH ha_annealref1_Mul → Option (Int × (Bool × Bool × Bool × Bool × Bool × Unit) × Unit) := fun x y => F_annealref1_Mul x.1 x.2.1 x.2.2.1 x.2.2.2.1
noncomputable def c_annealref1_Mul : Orc := ent i_annealref1_Mul [] 0 (sp fa_annealref1_Mul ha_annealref1_Mul fr_annealref1_Mul hr_annealref1_Mul G_annealref1_Mul out_annealref1_Mul)
theorem ok_annealref1_Mul : OrcOk PR c_annealref1_Mul := fnT okO_annealref1_Mul mixed p_annealref1_Mul (by kernel_rfl) (by kernel_rfl) (L := L_annealref1_Mul) (kp := false) (by kernel_rfl) (inn := inn_annealref1_Mul) (out := out_annealref1_Mul) (fun _ _ => rfl) (loopsL (l := []) (by kernel_rfl) trivial) (fun x y => by kernel_rfl)
noncomputable def O_annealref1_Add : Orc := (orm c_annealref1_nans (orm c_annealref1_Nan (orm c_annealref1_inf (orm c_annealref1_neg (orm c_annealref1_Mask (orm c_annealref1_zero (orm c_annealref1_Unpack (orm c_annealref1_spread c_annealref1_total))))))))
theorem okO_annealref1_Add : OrcOk PR O_annealref1_Add := (orm_ok ok_annealref1_nans (orm_ok ok_annealref1_Nan (orm_ok ok_annealref1_inf (orm_ok ok_annealref1_neg (orm_ok ok_annealref1_Mask (orm_ok ok_annealref1_zero (orm_ok ok_annealref1_Unpack (orm_ok ok_annealref1_spread ok_annealref1_total))))))))
abbrev fa_annealref1_Add : Fm := (.pair (.i .i64) (.pair (.i .i64) (.pair (.i .u32) (.pair (.i .u32) .unit))))
abbrev ha_annealref1_Add : List BF := []
abbrev fr_annealref1_Add : Fm := (.tup (.pair (.i .u32) (.pair (.agg (.pair .b (.pair .b (.pair .b (.pair .b (.pair .b .unit)))))) .unit)))
abbrev hr_annealref1_Add : List BF := []
noncomputable def L_annealref1_Add : Lps := L0
def inn_annealref1_Add : T fr_annealref1_Add → TH hr_annealref1_Add → Int × (Bool × Bool × Bool × Bool × Bool × Unit) × Unit := (fun z w => z)
def out_annealref1_Add : Int × (Bool × Bool × Bool × Bool × Bool × Unit) × Unit → T fr_annealref1_Add × TH hr_annealref1_Add := fun r => (r, ())
noncomputable def F_annealref1_Add (a0 : Int) (a1 : Int) (a2 : Int) (a3 : Int) : Option (Int × (Bool × Bool × Bool × Bool × Bool × Unit) × Unit) :=
 ((F_annealref1_nans a0 [a2, a3])).bind fun r0 =>
 bif r0.1 then
 ((F_annealref1_Nan a0)).bind fun r1 =>
 (some (r1, ((r0.2.1, (false, (false, (false, (false, ()))))), ())))
 else
 ((F_annealref1_inf a0 a2)).bind fun r2 =>
 bif r2 then
 ((F_annealref1_inf a0 a3)).bind fun r3 =>
 bif r3 then
 ((F_annealref1_neg a0 a2)).bind fun r4 =>
 ((F_annealref1_neg a0 a3)).bind fun r5 =>
 bif (!(r4 == r5)) then
 ((F_annealref1_Nan a0)).bind fun r6 =>
 (some (r6, ((true, (false, (false, (false, (false, ()))))), ())))
 else
 ((F_annealref1_inf a0 a2)).bind fun r7 =>
 bif r7 then
 ((F_annealref1_Mask a0)).bind fun r8 =>
 (some ((bits .and .u32 a2 r8), ((false, (false, (false, (false, (false, ()))))), ())))
 else
 ((F_annealref1_inf a0 a3)).bind fun r9 =>
 bif r9 then
 ((F_annealref1_Mask a0)).bind fun r10 =>
 (some ((bits .and .u32 a3 r10), ((false, (false, (false, (false, (false, ()))))), ())))
 else
 ((F_annealref1_zero a0 a2)).bind fun r11 =>
 bif r11 then
 ((F_annealref1_zero a0 a3)).bind fun r12 =>
 bif r12 then
 ((F_annealref1_neg a0 a2)).bind fun r13 =>
 ((F_annealref1_neg a0 a3)).bind fun r14 =>
 bif (r13 == r14) then
 ((F_annealref1_Mask a0)).bind fun r15 =>
 (some ((bits .and .u32 a2 r15), ((false, (false, (false, (false, (false, ()))))), ())))
 else
 ((F_annealref1_Unpack a0 a2)).bind fun r16 =>
 let x17 : Int := r16.2.2.1
 ((F_annealref1_spread r16.1 r16.2.1 x17)).bind fun r18 =>
 ((F_annealref1_Unpack a0 a3)).bind fun r19 =>
 let x20 : Int := r19.2.2.1
 ((F_annealref1_spread r19.1 r19.2.1 x20)).bind fun r21 =>
 ((F_annealref1_total a0 a1 (r18.1, ([(List.getD r18.2.1 (0:Nat) (0:Int)), (List.getD r18.2.1 (1:Nat) (0:Int)), (List.getD r18.2.1 (2:Nat) (0:Int)), (List.getD r18.2.1 (3:Nat) (0:Int)), (List.getD r18.2.1 (4:Nat) (0:Int)), (List.getD r18.2.1 (5:Nat) (0:Int)), (List.getD r18.2.1 (6:Nat) (0:Int)), (List.getD r18.2.1 (7:Nat) (0:Int)), (List.getD r18.2.1 (8:Nat) (0:Int)), (List.getD r18.2.1 (9:Nat) (0:Int))], ())) (r21.1, ([(List.getD r21.2.1 (0:Nat) (0:Int)), (List.getD r21.2.1 (1:Nat) (0:Int)), (List.getD r21.2.1 (2:Nat) (0:Int)), (List.getD r21.2.1 (3:Nat) (0:Int)), (List.getD r21.2.1 (4:Nat) (0:Int)), (List.getD r21.2.1 (5:Nat) (0:Int)), (List.getD r21.2.1 (6:Nat) (0:Int)), (List.getD r21.2.1 (7:Nat) (0:Int)), (List.getD r21.2.1 (8:Nat) (0:Int)), (List.getD r21.2.1 (9:Nat) (0:Int))], ())))).bind fun r22 =>
 (some r22)
 else
 ((F_annealref1_Unpack a0 a2)).bind fun r23 =>
 let x24 : Int := r23.2.2.1
 ((F_annealref1_spread r23.1 r23.2.1 x24)).bind fun r25 =>
 ((F_annealref1_Unpack a0 a3)).bind fun r26 =>
 let x27 : Int := r26.2.2.1
 ((F_annealref1_spread r26.1 r26.2.1 x27)).bind fun r28 =>
 ((F_annealref1_total a0 a1 (r25.1, ([(List.getD r25.2.1 (0:Nat) (0:Int)), (List.getD r25.2.1 (1:Nat) (0:Int)), (List.getD r25.2.1 (2:Nat) (0:Int)), (List.getD r25.2.1 (3:Nat) (0:Int)), (List.getD r25.2.1 (4:Nat) (0:Int)), (List.getD r25.2.1 (5:Nat) (0:Int)), (List.getD r25.2.1 (6:Nat) (0:Int)), (List.getD r25.2.1 (7:Nat) (0:Int)), (List.getD r25.2.1 (8:Nat) (0:Int)), (List.getD r25.2.1 (9:Nat) (0:Int))], ())) (r28.1, ([(List.getD r28.2.1 (0:Nat) (0:Int)), (List.getD r28.2.1 (1:Nat) (0:Int)), (List.getD r28.2.1 (2:Nat) (0:Int)), (List.getD r28.2.1 (3:Nat) (0:Int)), (List.getD r28.2.1 (4:Nat) (0:Int)), (List.getD r28.2.1 (5:Nat) (0:Int)), (List.getD r28.2.1 (6:Nat) (0:Int)), (List.getD r28.2.1 (7:Nat) (0:Int)), (List.getD r28.2.1 (8:Nat) (0:Int)), (List.getD r28.2.1 (9:Nat) (0:Int))], ())))).bind fun r29 =>
 (some r29)
 else
 ((F_annealref1_Unpack a0 a2)).bind fun r30 =>
 let x31 : Int := r30.2.2.1
 ((F_annealref1_spread r30.1 r30.2.1 x31)).bind fun r32 =>
 ((F_annealref1_Unpack a0 a3)).bind fun r33 =>
 let x34 : Int := r33.2.2.1
 ((F_annealref1_spread r33.1 r33.2.1 x34)).bind fun r35 =>
 ((F_annealref1_total a0 a1 (r32.1, ([(List.getD r32.2.1 (0:Nat) (0:Int)), (List.getD r32.2.1 (1:Nat) (0:Int)), (List.getD r32.2.1 (2:Nat) (0:Int)), (List.getD r32.2.1 (3:Nat) (0:Int)), (List.getD r32.2.1 (4:Nat) (0:Int)), (List.getD r32.2.1 (5:Nat) (0:Int)), (List.getD r32.2.1 (6:Nat) (0:Int)), (List.getD r32.2.1 (7:Nat) (0:Int)), (List.getD r32.2.1 (8:Nat) (0:Int)), (List.getD r32.2.1 (9:Nat) (0:Int))], ())) (r35.1, ([(List.getD r35.2.1 (0:Nat) (0:Int)), (List.getD r35.2.1 (1:Nat) (0:Int)), (List.getD r35.2.1 (2:Nat) (0:Int)), (List.getD r35.2.1 (3:Nat) (0:Int)), (List.getD r35.2.1 (4:Nat) (0:Int)), (List.getD r35.2.1 (5:Nat) (0:Int)), (List.getD r35.2.1 (6:Nat) (0:Int)), (List.getD r35.2.1 (7:Nat) (0:Int)), (List.getD r35.2.1 (8:Nat) (0:Int)), (List.getD r35.2.1 (9:Nat) (0:Int))], ())))).bind fun r36 =>
 (some r36)
 else
 ((F_annealref1_inf a0 a2)).bind fun r37 =>
 bif r37 then
 ((F_annealref1_Mask a0)).bind fun r38 =>
 (some ((bits .and .u32 a2 r38), ((false, (false, (false, (false, (false, ()))))), ())))
 else
 ((F_annealref1_inf a0 a3)).bind fun r39 =>
 bif r39 then
 ((F_annealref1_Mask a0)).bind fun r40 =>
 (some ((bits .and .u32 a3 r40), ((false, (false, (false, (false, (false, ()))))), ())))
 else
 ((F_annealref1_zero a0 a2)).bind fun r41 =>
 bif r41 then
 ((F_annealref1_zero a0 a3)).bind fun r42 =>
 bif r42 then
 ((F_annealref1_neg a0 a2)).bind fun r43 =>
 ((F_annealref1_neg a0 a3)).bind fun r44 =>
 bif (r43 == r44) then
 ((F_annealref1_Mask a0)).bind fun r45 =>
 (some ((bits .and .u32 a2 r45), ((false, (false, (false, (false, (false, ()))))), ())))
 else
 ((F_annealref1_Unpack a0 a2)).bind fun r46 =>
 let x47 : Int := r46.2.2.1
 ((F_annealref1_spread r46.1 r46.2.1 x47)).bind fun r48 =>
 ((F_annealref1_Unpack a0 a3)).bind fun r49 =>
 let x50 : Int := r49.2.2.1
 ((F_annealref1_spread r49.1 r49.2.1 x50)).bind fun r51 =>
 ((F_annealref1_total a0 a1 (r48.1, ([(List.getD r48.2.1 (0:Nat) (0:Int)), (List.getD r48.2.1 (1:Nat) (0:Int)), (List.getD r48.2.1 (2:Nat) (0:Int)), (List.getD r48.2.1 (3:Nat) (0:Int)), (List.getD r48.2.1 (4:Nat) (0:Int)), (List.getD r48.2.1 (5:Nat) (0:Int)), (List.getD r48.2.1 (6:Nat) (0:Int)), (List.getD r48.2.1 (7:Nat) (0:Int)), (List.getD r48.2.1 (8:Nat) (0:Int)), (List.getD r48.2.1 (9:Nat) (0:Int))], ())) (r51.1, ([(List.getD r51.2.1 (0:Nat) (0:Int)), (List.getD r51.2.1 (1:Nat) (0:Int)), (List.getD r51.2.1 (2:Nat) (0:Int)), (List.getD r51.2.1 (3:Nat) (0:Int)), (List.getD r51.2.1 (4:Nat) (0:Int)), (List.getD r51.2.1 (5:Nat) (0:Int)), (List.getD r51.2.1 (6:Nat) (0:Int)), (List.getD r51.2.1 (7:Nat) (0:Int)), (List.getD r51.2.1 (8:Nat) (0:Int)), (List.getD r51.2.1 (9:Nat) (0:Int))], ())))).bind fun r52 =>
 (some r52)
 else
 ((F_annealref1_Unpack a0 a2)).bind fun r53 =>
 let x54 : Int := r53.2.2.1
 ((F_annealref1_spread r53.1 r53.2.1 x54)).bind fun r55 =>
 ((F_annealref1_Unpack a0 a3)).bind fun r56 =>
 let x57 : Int := r56.2.2.1
 ((F_annealref1_spread r56.1 r56.2.1 x57)).bind fun r58 =>
 ((F_annealref1_total a0 a1 (r55.1, ([(List.getD r55.2.1 (0:Nat) (0:Int)), (List.getD r55.2.1 (1:Nat) (0:Int)), (List.getD r55.2.1 (2:Nat) (0:Int)), (List.getD r55.2.1 (3:Nat) (0:Int)), (List.getD r55.2.1 (4:Nat) (0:Int)), (List.getD r55.2.1 (5:Nat) (0:Int)), (List.getD r55.2.1 (6:Nat) (0:Int)), (List.getD r55.2.1 (7:Nat) (0:Int)), (List.getD r55.2.1 (8:Nat) (0:Int)), (List.getD r55.2.1 (9:Nat) (0:Int))], ())) (r58.1, ([(List.getD r58.2.1 (0:Nat) (0:Int)), (List.getD r58.2.1 (1:Nat) (0:Int)), (List.getD r58.2.1 (2:Nat) (0:Int)), (List.getD r58.2.1 (3:Nat) (0:Int)), (List.getD r58.2.1 (4:Nat) (0:Int)), (List.getD r58.2.1 (5:Nat) (0:Int)), (List.getD r58.2.1 (6:Nat) (0:Int)), (List.getD r58.2.1 (7:Nat) (0:Int)), (List.getD r58.2.1 (8:Nat) (0:Int)), (List.getD r58.2.1 (9:Nat) (0:Int))], ())))).bind fun r59 =>
 (some r59)
 else
 ((F_annealref1_Unpack a0 a2)).bind fun r60 =>
 let x61 : Int := r60.2.2.1
 ((F_annealref1_spread r60.1 r60.2.1 x61)).bind fun r62 =>
 ((F_annealref1_Unpack a0 a3)).bind fun r63 =>
 let x64 : Int := r63.2.2.1
 ((F_annealref1_spread r63.1 r63.2.1 x64)).bind fun r65 =>
 ((F_annealref1_total a0 a1 (r62.1, ([(List.getD r62.2.1 (0:Nat) (0:Int)), (List.getD r62.2.1 (1:Nat) (0:Int)), (List.getD r62.2.1 (2:Nat) (0:Int)), (List.getD r62.2.1 (3:Nat) (0:Int)), (List.getD r62.2.1 (4:Nat) (0:Int)), (List.getD r62.2.1 (5:Nat) (0:Int)), (List.getD r62.2.1 (6:Nat) (0:Int)), (List.getD r62.2.1 (7:Nat) (0:Int)), (List.getD r62.2.1 (8:Nat) (0:Int)), (List.getD r62.2.1 (9:Nat) (0:Int))], ())) (r65.1, ([(List.getD r65.2.1 (0:Nat) (0:Int)), (List.getD r65.2.1 (1:Nat) (0:Int)), (List.getD r65.2.1 (2:Nat) (0:Int)), (List.getD r65.2.1 (3:Nat) (0:Int)), (List.getD r65.2.1 (4:Nat) (0:Int)), (List.getD r65.2.1 (5:Nat) (0:Int)), (List.getD r65.2.1 (6:Nat) (0:Int)), (List.getD r65.2.1 (7:Nat) (0:Int)), (List.getD r65.2.1 (8:Nat) (0:Int)), (List.getD r65.2.1 (9:Nat) (0:Int))], ())))).bind fun r66 =>
 (some r66)
 else
 ((F_annealref1_inf a0 a2)).bind fun r67 =>
 bif r67 then
 ((F_annealref1_Mask a0)).bind fun r68 =>
 (some ((bits .and .u32 a2 r68), ((false, (false, (false, (false, (false, ()))))), ())))
 else
 ((F_annealref1_inf a0 a3)).bind fun r69 =>
 bif r69 then
 ((F_annealref1_Mask a0)).bind fun r70 =>
 (some ((bits .and .u32 a3 r70), ((false, (false, (false, (false, (false, ()))))), ())))
 else
 ((F_annealref1_zero a0 a2)).bind fun r71 =>
 bif r71 then
 ((F_annealref1_zero a0 a3)).bind fun r72 =>
 bif r72 then
 ((F_annealref1_neg a0 a2)).bind fun r73 =>
 ((F_annealref1_neg a0 a3)).bind fun r74 =>
 bif (r73 == r74) then
 ((F_annealref1_Mask a0)).bind fun r75 =>
 (some ((bits .and .u32 a2 r75), ((false, (false, (false, (false, (false, ()))))), ())))
 else
 ((F_annealref1_Unpack a0 a2)).bind fun r76 =>
 let x77 : Int := r76.2.2.1
 ((F_annealref1_spread r76.1 r76.2.1 x77)).bind fun r78 =>
 ((F_annealref1_Unpack a0 a3)).bind fun r79 =>
 let x80 : Int := r79.2.2.1
 ((F_annealref1_spread r79.1 r79.2.1 x80)).bind fun r81 =>
 ((F_annealref1_total a0 a1 (r78.1, ([(List.getD r78.2.1 (0:Nat) (0:Int)), (List.getD r78.2.1 (1:Nat) (0:Int)), (List.getD r78.2.1 (2:Nat) (0:Int)), (List.getD r78.2.1 (3:Nat) (0:Int)), (List.getD r78.2.1 (4:Nat) (0:Int)), (List.getD r78.2.1 (5:Nat) (0:Int)), (List.getD r78.2.1 (6:Nat) (0:Int)), (List.getD r78.2.1 (7:Nat) (0:Int)), (List.getD r78.2.1 (8:Nat) (0:Int)), (List.getD r78.2.1 (9:Nat) (0:Int))], ())) (r81.1, ([(List.getD r81.2.1 (0:Nat) (0:Int)), (List.getD r81.2.1 (1:Nat) (0:Int)), (List.getD r81.2.1 (2:Nat) (0:Int)), (List.getD r81.2.1 (3:Nat) (0:Int)), (List.getD r81.2.1 (4:Nat) (0:Int)), (List.getD r81.2.1 (5:Nat) (0:Int)), (List.getD r81.2.1 (6:Nat) (0:Int)), (List.getD r81.2.1 (7:Nat) (0:Int)), (List.getD r81.2.1 (8:Nat) (0:Int)), (List.getD r81.2.1 (9:Nat) (0:Int))], ())))).bind fun r82 =>
 (some r82)
 else
 ((F_annealref1_Unpack a0 a2)).bind fun r83 =>
 let x84 : Int := r83.2.2.1
 ((F_annealref1_spread r83.1 r83.2.1 x84)).bind fun r85 =>
 ((F_annealref1_Unpack a0 a3)).bind fun r86 =>
 let x87 : Int := r86.2.2.1
 ((F_annealref1_spread r86.1 r86.2.1 x87)).bind fun r88 =>
 ((F_annealref1_total a0 a1 (r85.1, ([(List.getD r85.2.1 (0:Nat) (0:Int)), (List.getD r85.2.1 (1:Nat) (0:Int)), (List.getD r85.2.1 (2:Nat) (0:Int)), (List.getD r85.2.1 (3:Nat) (0:Int)), (List.getD r85.2.1 (4:Nat) (0:Int)), (List.getD r85.2.1 (5:Nat) (0:Int)), (List.getD r85.2.1 (6:Nat) (0:Int)), (List.getD r85.2.1 (7:Nat) (0:Int)), (List.getD r85.2.1 (8:Nat) (0:Int)), (List.getD r85.2.1 (9:Nat) (0:Int))], ())) (r88.1, ([(List.getD r88.2.1 (0:Nat) (0:Int)), (List.getD r88.2.1 (1:Nat) (0:Int)), (List.getD r88.2.1 (2:Nat) (0:Int)), (List.getD r88.2.1 (3:Nat) (0:Int)), (List.getD r88.2.1 (4:Nat) (0:Int)), (List.getD r88.2.1 (5:Nat) (0:Int)), (List.getD r88.2.1 (6:Nat) (0:Int)), (List.getD r88.2.1 (7:Nat) (0:Int)), (List.getD r88.2.1 (8:Nat) (0:Int)), (List.getD r88.2.1 (9:Nat) (0:Int))], ())))).bind fun r89 =>
 (some r89)
 else
 ((F_annealref1_Unpack a0 a2)).bind fun r90 =>
 let x91 : Int := r90.2.2.1
 ((F_annealref1_spread r90.1 r90.2.1 x91)).bind fun r92 =>
 ((F_annealref1_Unpack a0 a3)).bind fun r93 =>
 let x94 : Int := r93.2.2.1
 ((F_annealref1_spread r93.1 r93.2.1 x94)).bind fun r95 =>
 ((F_annealref1_total a0 a1 (r92.1, ([(List.getD r92.2.1 (0:Nat) (0:Int)), (List.getD r92.2.1 (1:Nat) (0:Int)), (List.getD r92.2.1 (2:Nat) (0:Int)), (List.getD r92.2.1 (3:Nat) (0:Int)), (List.getD r92.2.1 (4:Nat) (0:Int)), (List.getD r92.2.1 (5:Nat) (0:Int)), (List.getD r92.2.1 (6:Nat) (0:Int)), (List.getD r92.2.1 (7:Nat) (0:Int)), (List.getD r92.2.1 (8:Nat) (0:Int)), (List.getD r92.2.1 (9:Nat) (0:Int))], ())) (r95.1, ([(List.getD r95.2.1 (0:Nat) (0:Int)), (List.getD r95.2.1 (1:Nat) (0:Int)), (List.getD r95.2.1 (2:Nat) (0:Int)), (List.getD r95.2.1 (3:Nat) (0:Int)), (List.getD r95.2.1 (4:Nat) (0:Int)), (List.getD r95.2.1 (5:Nat) (0:Int)), (List.getD r95.2.1 (6:Nat) (0:Int)), (List.getD r95.2.1 (7:Nat) (0:Int)), (List.getD r95.2.1 (8:Nat) (0:Int)), (List.getD r95.2.1 (9:Nat) (0:Int))], ())))).bind fun r96 =>
 (some r96)
noncomputable def G_annealref1_Add : T fa_annealref1_Add → TH ha_annealref1_Add → Option (Int × (Bool × Bool × Bool × Bool × Bool × Unit) × Unit) := fun x y => F_annealref1_Add x.1 x.2.1 x.2.2.1 x.2.2.2.1
noncomputable def c_annealref1_Add : Orc := ent i_annealref1_Add [] 0 (sp fa_annealref1_Add ha_annealref1_Add fr_annealref1_Add hr_annealref1_Add G_annealref1_Add out_annealref1_Add)
theorem ok_annealref1_Add : OrcOk PR c_annealref1_Add := fnT okO_annealref1_Add mixed p_annealref1_Add (by kernel_rfl) (by kernel_rfl) (L := L_annealref1_Add) (kp := false) (by kernel_rfl) (inn := inn_annealref1_Add) (out := out_annealref1_Add) (fun _ _ => rfl) (loopsL (l := []) (by kernel_rfl) trivial) (fun x y => by kernel_rfl)
noncomputable def O_annealref10_Mul : Orc := c_annealref1_Mul
theorem okO_annealref10_Mul : OrcOk PR O_annealref10_Mul := ok_annealref1_Mul
abbrev fa_annealref10_Mul : Fm := (.pair (.i .u32) (.pair (.i .u32) .unit))
abbrev ha_annealref10_Mul : List BF := []
abbrev fr_annealref10_Mul : Fm := (.i .u32)
abbrev hr_annealref10_Mul : List BF := []
noncomputable def L_annealref10_Mul : Lps := L0
def inn_annealref10_Mul : T fr_annealref10_Mul → TH hr_annealref10_Mul → Int := (fun z w => z)
def out_annealref10_Mul : Int → T fr_annealref10_Mul × TH hr_annealref10_Mul := fun r => (r, ())
noncomputable def F_annealref10_Mul (a0 : Int) (a1 : Int) : Option (Int) :=
 ((F_annealref1_Mul (2:Int) (0:Int) a0 a1)).bind fun r0 =>
 (some r0.1)
noncomputable def G_annealref10_Mul : T fa_annealref10_Mul → TH ha_annealref10_Mul → Option (Int) := fun x y => F_annealref10_Mul x.1 x.2.1
noncomputable def c_annealref10_Mul : Orc := ent i_annealref10_Mul [] 0 (sp fa_annealref10_Mul ha_annealref10_Mul fr_annealref10_Mul hr_annealref10_Mul G_annealref10_Mul out_annealref10_Mul)
theorem ok_annealref10_Mul : OrcOk PR c_annealref10_Mul := fnT okO_annealref10_Mul mixed p_annealref10_Mul (by kernel_rfl) (by kernel_rfl) (L := L_annealref10_Mul) (kp := false) (by kernel_rfl) (inn := inn_annealref10_Mul) (out := out_annealref10_Mul) (fun _ _ => rfl) (loopsL (l := []) (by kernel_rfl) trivial) (fun x y => by kernel_rfl)
noncomputable def O_annealref10_Add : Orc := c_annealref1_Add
theorem okO_annealref10_Add : OrcOk PR O_annealref10_Add := ok_annealref1_Add
abbrev fa_annealref10_Add : Fm := (.pair (.i .u32) (.pair (.i .u32) .unit))
abbrev ha_annealref10_Add : List BF := []
abbrev fr_annealref10_Add : Fm := (.i .u32)
abbrev hr_annealref10_Add : List BF := []
noncomputable def L_annealref10_Add : Lps := L0
def inn_annealref10_Add : T fr_annealref10_Add → TH hr_annealref10_Add → Int := (fun z w => z)
def out_annealref10_Add : Int → T fr_annealref10_Add × TH hr_annealref10_Add := fun r => (r, ())
noncomputable def F_annealref10_Add (a0 : Int) (a1 : Int) : Option (Int) :=
 ((F_annealref1_Add (2:Int) (0:Int) a0 a1)).bind fun r0 =>
 (some r0.1)
noncomputable def G_annealref10_Add : T fa_annealref10_Add → TH ha_annealref10_Add → Option (Int) := fun x y => F_annealref10_Add x.1 x.2.1
noncomputable def c_annealref10_Add : Orc := ent i_annealref10_Add [] 0 (sp fa_annealref10_Add ha_annealref10_Add fr_annealref10_Add hr_annealref10_Add G_annealref10_Add out_annealref10_Add)
theorem ok_annealref10_Add : OrcOk PR c_annealref10_Add := fnT okO_annealref10_Add mixed p_annealref10_Add (by kernel_rfl) (by kernel_rfl) (L := L_annealref10_Add) (kp := false) (by kernel_rfl) (inn := inn_annealref10_Add) (out := out_annealref10_Add) (fun _ _ => rfl) (loopsL (l := []) (by kernel_rfl) trivial) (fun x y => by kernel_rfl)
noncomputable def O_annealref13_Bias : Orc := (orm c_annealref13_Right (orm c_annealref13_wide c_annealref10_Add))
theorem okO_annealref13_Bias : OrcOk PR O_annealref13_Bias := (orm_ok ok_annealref13_Right (orm_ok ok_annealref13_wide ok_annealref10_Add))
abbrev fa_annealref13_Bias : Fm := (.pair (.agg (.pair (.i .i64) (.pair (.i .i64) (.pair (.i .i64) (.pair (.si .u32) .unit))))) (.pair (.agg (.pair (.i .i64) (.pair (.i .i64) (.pair (.i .i64) (.pair (.si .u32) .unit))))) .unit))
abbrev ha_annealref13_Bias : List BF := []
abbrev fr_annealref13_Bias : Fm := (.tup (.pair (.agg (.pair (.i .i64) (.pair (.i .i64) (.pair (.i .i64) (.pair (.si .u32) .unit))))) (.pair (.i .i64) .unit)))
abbrev hr_annealref13_Bias : List BF := []
abbrev ff_annealref13_Bias_0 : Fm := (.us 2 (.cst (.ref 0 1 0) (.cst (.ref 1 1 0) (.cst (.ref 2 1 0) (.us 1 (.cst (.ref 3 1 0) (.pair (.i .i64) (.us 52 .unit))))))))
abbrev hf_annealref13_Bias_0 : List BF := [(.list 1 y_api_Tensor true (.pair (.i .i64) (.pair (.i .i64) (.pair (.i .i64) (.pair (.si .u32) .unit))))), (.list 1 y_api_Tensor true (.pair (.i .i64) (.pair (.i .i64) (.pair (.i .i64) (.pair (.si .u32) .unit))))), (.list 1 y_api_Tensor true (.pair (.i .i64) (.pair (.i .i64) (.pair (.i .i64) (.cst .nils .unit))))), (.list 1 y_api_Tensor true (.pair (.i .i64) (.pair (.i .i64) (.pair (.i .i64) (.pair (.own 4 1 0 1) .unit))))), (.ints 1 y_uint32 true .u32)]
abbrev X_annealref13_Bias_0 : Xs := (.one (.exit 0) [4, 6] (.us 4 (.cst (.ref 0 1 0) (.us 1 (.cst (.ref 1 1 0) (.us 53 .unit))))) [(.list 1 y_api_Tensor true (.pair (.i .i64) (.pair (.i .i64) (.pair (.i .i64) (.cst .nils .unit))))), (.list 1 y_api_Tensor true (.pair (.i .i64) (.pair (.i .i64) (.pair (.i .i64) (.pair (.own 2 1 0 1) .unit))))), (.ints 1 y_uint32 true .u32)])
abbrev S_annealref13_Bias_0 : Type := T ff_annealref13_Bias_0 × TH hf_annealref13_Bias_0
abbrev E_annealref13_Bias_0 : Type := TX X_annealref13_Bias_0
noncomputable def LB_annealref13_Bias_0 : Lps := L0
noncomputable def st_annealref13_Bias_0 : StepT S_annealref13_Bias_0 E_annealref13_Bias_0 := fun R v kn ko =>
 let x0 : Int := v.2.1.2.1
 let x1 : List Int := v.2.1.2.2.2.1
 let x2 : Int := v.1.1
 let x3 : List Int := v.2.2.1.2.2.2.1
 bif (decide (x2 < (((List.length x1) : Nat) : Int))) then
 ((F_annealref13_wide (v.2.1.1, (x0, (v.2.1.2.2.1, ((List.take (List.length x1) x1), ())))) x2)).bind fun r4 =>
 bif (x0 == (0:Int)) then
 none
 else
 ((F_annealref13_wide (v.2.2.1.1, (v.2.2.1.2.1, (v.2.2.1.2.2.1, ((List.take (List.length x3) x3), ())))) (Int.tmod x2 x0))).bind fun r5 =>
 ((F_annealref10_Add r4 r5)).bind fun r6 =>
 bif (decide (((0:Int) ≤ x2) ∧ (x2 < ((v.2.2.2.2.1.2.2.2.1 : Nat) : Int)))) then
 bif (decide (((0:Nat) + ((Int.toNat x2) * (1:Nat))) < (List.length v.2.2.2.2.2.1))) then
 (kn (((IntKind.wrap .i64 (x2 + (1:Int))), ()), ((v.2.1.1, (x0, (v.2.1.2.2.1, ((List.take (List.length x1) x1), ())))), ((v.2.2.1.1, (v.2.2.1.2.1, (v.2.2.1.2.2.1, ((List.take (List.length x3) x3), ())))), (v.2.2.2.1, (v.2.2.2.2.1, ((List.set v.2.2.2.2.2.1 ((0:Nat) + ((Int.toNat x2) * (1:Nat))) r6), ())))))))
 else
 none
 else
 none
 else
 (ko ((), v.2.2.2))
noncomputable def ls_annealref13_Bias_0 : St → LTr := (lsum ff_annealref13_Bias_0 hf_annealref13_Bias_0 X_annealref13_Bias_0 Prod.mk id st_annealref13_Bias_0 (hd [] [] [2, 3, 4, 6, 7] 0))
theorem lp_annealref13_Bias_0 : LoopOk PR 0 (lpN f_annealref13_Bias 0) ls_annealref13_Bias_0 := loopT okO_annealref13_Bias mixed (L := LB_annealref13_Bias_0) (d := 1) (bs := []) (ks := [2, 3, 4, 6, 7]) (loopsL (l := []) (by kernel_rfl) trivial) (by kernel_rfl) (inS := Prod.mk) (outS := id) (fun _ _ => rfl) (inX := id) (outX := id) (fun _ => rfl) (fun v R kn ko => by kernel_rfl) (hd_wk [] [] [2, 3, 4, 6, 7] 0)
noncomputable def L_annealref13_Bias : Lps := (lpB 6 (.by_ ls_annealref13_Bias_0) L0)
def inn_annealref13_Bias : T fr_annealref13_Bias → TH hr_annealref13_Bias → (Int × Int × Int × List Int × Unit) × Int × Unit := (fun z w => z)
def out_annealref13_Bias : (Int × Int × Int × List Int × Unit) × Int × Unit → T fr_annealref13_Bias × TH hr_annealref13_Bias := fun r => (r, ())
noncomputable def F_annealref13_Bias (a0 : Int × Int × Int × List Int × Unit) (a1 : Int × Int × Int × List Int × Unit) : Option ((Int × Int × Int × List Int × Unit) × Int × Unit) :=
 let x0 : Int := a0.2.2.1
 let x1 : List Int := a0.2.2.2.1
 let x2 : Nat := (List.length x1)
 let x3 : Int := a1.2.2.1
 let x4 : List Int := a1.2.2.2.1
 let x5 : Nat := (Int.toNat ((x2 : Nat) : Int))
 ((F_annealref13_Right (a0.1, (a0.2.1, (x0, ((List.take x2 x1), ())))))).bind fun r6 =>
 bif (!r6) then
 (some (((0:Int), ((0:Int), ((0:Int), ([], ())))), ((21:Int), ())))
 else
 ((F_annealref13_Right (a1.1, (a1.2.1, (x3, ((List.take (List.length x4) x4), ())))))).bind fun r7 =>
 bif (!r7) then
 (some (((0:Int), ((0:Int), ((0:Int), ([], ())))), ((21:Int), ())))
 else
 bif (a1.1 != (1:Int)) then
 (some (((0:Int), ((0:Int), ((0:Int), ([], ())))), ((21:Int), ())))
 else
 bif (a1.2.1 != a0.2.1) then
 (some (((0:Int), ((0:Int), ((0:Int), ([], ())))), ((21:Int), ())))
 else
 bif (decide (((0:Int) ≤ ((x2 : Nat) : Int)) ∧ (((x2 : Nat) : Int) ≤ (1073741824:Int)))) then
 ((lim st_annealref13_Bias_0 (((0:Int), ()), ((a0.1, (a0.2.1, (x0, ((List.take x2 x1), ())))), ((a1.1, (a1.2.1, (x3, ((List.take (List.length x4) x4), ())))), (((0:Int), ((0:Int), ((0:Int), ()))), ((a0.1, (a0.2.1, ((2:Int), (x5, ())))), ((List.replicate x5 (0:Int)), ())))))))).bind fun r8 =>
 (some ((r8.2.2.1.1, (r8.2.2.1.2.1, (r8.2.2.1.2.2.1, ((List.take r8.2.2.1.2.2.2.1 (List.drop (0:Nat) r8.2.2.2.1)), ())))), ((0:Int), ())))
 else
 none
noncomputable def G_annealref13_Bias : T fa_annealref13_Bias → TH ha_annealref13_Bias → Option ((Int × Int × Int × List Int × Unit) × Int × Unit) := fun x y => F_annealref13_Bias x.1 x.2.1
noncomputable def c_annealref13_Bias : Orc := ent i_annealref13_Bias [] 0 (sp fa_annealref13_Bias ha_annealref13_Bias fr_annealref13_Bias hr_annealref13_Bias G_annealref13_Bias out_annealref13_Bias)
theorem ok_annealref13_Bias : OrcOk PR c_annealref13_Bias := fnT okO_annealref13_Bias mixed p_annealref13_Bias (by kernel_rfl) (by kernel_rfl) (L := L_annealref13_Bias) (kp := false) (by kernel_rfl) (inn := inn_annealref13_Bias) (out := out_annealref13_Bias) (fun _ _ => rfl) (loopsL (l := [((lpN f_annealref13_Bias 0), ls_annealref13_Bias_0)]) (by kernel_rfl) ⟨lp_annealref13_Bias_0, trivial⟩) (fun x y => by kernel_rfl)
noncomputable def O_kern_Sums : Orc := (orm c_kern_Wide c_funcs_Add)
theorem okO_kern_Sums : OrcOk PR O_kern_Sums := (orm_ok ok_kern_Wide ok_funcs_Add)
abbrev fa_kern_Sums : Fm := (.pair (.agg (.pair (.i .i64) (.pair (.i .i64) (.pair (.i .i64) (.pair (.si .u32) .unit))))) .unit)
abbrev ha_kern_Sums : List BF := []
abbrev fr_kern_Sums : Fm := (.tup (.pair (.agg (.pair (.i .i64) (.pair (.i .i64) (.pair (.i .i64) (.pair (.si .u32) .unit))))) (.pair (.i .i64) .unit)))
abbrev hr_kern_Sums : List BF := []
abbrev ff_kern_Sums_0 : Fm := (.us 2 (.cst (.ref 0 1 0) (.us 1 (.cst (.ref 1 1 0) (.us 1 (.cst (.ref 2 1 0) (.us 18 (.pair (.si .u32) (.pair (.i .i64) (.pair (.i .i64) (.us 23 .unit)))))))))))
abbrev hf_kern_Sums_0 : List BF := [(.list 1 y_api_Tensor true (.pair (.i .i64) (.pair (.i .i64) (.pair (.i .i64) (.cst .nils .unit))))), (.list 1 y_api_Tensor true (.pair (.i .i64) (.pair (.i .i64) (.pair (.i .i64) (.pair (.si .u32) .unit))))), (.list 1 y_api_Tensor true (.pair (.i .i64) (.pair (.i .i64) (.pair (.i .i64) (.pair (.own 3 1 0 1) .unit))))), (.ints 1 y_uint32 true .u32)]
abbrev X_kern_Sums_0 : Xs := (.one (.exit 0) [2, 6] (.us 2 (.cst (.ref 0 1 0) (.us 3 (.cst (.ref 1 1 0) (.us 44 .unit))))) [(.list 1 y_api_Tensor true (.pair (.i .i64) (.pair (.i .i64) (.pair (.i .i64) (.cst .nils .unit))))), (.list 1 y_api_Tensor true (.pair (.i .i64) (.pair (.i .i64) (.pair (.i .i64) (.pair (.own 2 1 0 1) .unit))))), (.ints 1 y_uint32 true .u32)])
abbrev S_kern_Sums_0 : Type := T ff_kern_Sums_0 × TH hf_kern_Sums_0
abbrev E_kern_Sums_0 : Type := TX X_kern_Sums_0
noncomputable def LB_kern_Sums_0 : Lps := L0
noncomputable def st_kern_Sums_0 : StepT S_kern_Sums_0 E_kern_Sums_0 := fun R v kn ko =>
 let x0 : Int := v.2.2.1.2.1
 let x1 : Bool := (x0 == (0:Int))
 let x2 : List Int := v.2.2.2.2.1
 let x3 : Int := v.1.2.2.1
 let x4 : Nat := ((0:Nat) + ((Int.toNat (Int.tmod x3 x0)) * (1:Nat)))
 let x5 : List Int := v.1.1
 let x6 : List Int := v.2.2.1.2.2.2.1
 bif (decide (x3 < v.1.2.1)) then
 bif (decide (((0:Int) ≤ x3) ∧ (x3 < (((List.length x5) : Nat) : Int)))) then
 bif x1 then
 none
 else
 bif x1 then
 none
 else
 bif (decide (((0:Int) ≤ (Int.tmod x3 x0)) ∧ ((Int.tmod x3 x0) < ((v.2.2.2.1.2.2.2.1 : Nat) : Int)))) then
 bif (decide (x4 < (List.length x2))) then
 ((F_funcs_Add (List.getD x2 x4 (0:Int)) (List.getD x5 (Int.toNat x3) (0:Int)))).bind fun r7 =>
 bif (decide (((0:Int) ≤ (Int.tmod x3 x0)) ∧ ((Int.tmod x3 x0) < ((v.2.2.2.1.2.2.2.1 : Nat) : Int)))) then
 bif (decide (x4 < (List.length x2))) then
 (kn (((List.take (List.length x5) x5), (v.1.2.1, ((IntKind.wrap .i64 (x3 + (1:Int))), ()))), (v.2.1, ((v.2.2.1.1, (x0, (v.2.2.1.2.2.1, ((List.take (List.length x6) x6), ())))), (v.2.2.2.1, ((List.set x2 x4 r7), ()))))))
 else
 none
 else
 none
 else
 none
 else
 none
 else
 none
 else
 (ko ((), (v.2.1, v.2.2.2)))
noncomputable def ls_kern_Sums_0 : St → LTr := (lsum ff_kern_Sums_0 hf_kern_Sums_0 X_kern_Sums_0 Prod.mk id st_kern_Sums_0 (hd [] [] [2, 4, 6, 25, 26, 27] 0))
theorem lp_kern_Sums_0 : LoopOk PR 0 (lpN f_kern_Sums 0) ls_kern_Sums_0 := loopT okO_kern_Sums mixed (L := LB_kern_Sums_0) (d := 1) (bs := []) (ks := [2, 4, 6, 25, 26, 27]) (loopsL (l := []) (by kernel_rfl) trivial) (by kernel_rfl) (inS := Prod.mk) (outS := id) (fun _ _ => rfl) (inX := id) (outX := id) (fun _ => rfl) (fun v R kn ko => by kernel_rfl) (hd_wk [] [] [2, 4, 6, 25, 26, 27] 0)
noncomputable def L_kern_Sums : Lps := (lpB 7 (.by_ ls_kern_Sums_0) L0)
def inn_kern_Sums : T fr_kern_Sums → TH hr_kern_Sums → (Int × Int × Int × List Int × Unit) × Int × Unit := (fun z w => z)
def out_kern_Sums : (Int × Int × Int × List Int × Unit) × Int × Unit → T fr_kern_Sums × TH hr_kern_Sums := fun r => (r, ())
noncomputable def F_kern_Sums (a0 : Int × Int × Int × List Int × Unit) : Option ((Int × Int × Int × List Int × Unit) × Int × Unit) :=
 let x0 : Int := a0.2.2.1
 let x1 : List Int := a0.2.2.2.1
 ((F_kern_Wide (a0.1, (a0.2.1, (x0, ((List.take (List.length x1) x1), ())))))).bind fun r2 =>
 let x3 : List Int := r2.1.2.2.2.1
 let x4 : Nat := (List.length x3)
 let x5 : List Int := (List.take x4 x3)
 let x6 : Int := r2.1.2.1
 let x7 : Int := r2.1.2.2.1
 let x8 : Nat := (Int.toNat x6)
 bif (r2.2.1 != (0:Int)) then
 (some (((0:Int), ((0:Int), ((0:Int), ([], ())))), r2.2))
 else
 bif (decide (((0:Int) ≤ x6) ∧ (x6 ≤ (1073741824:Int)))) then
 ((lim st_kern_Sums_0 ((x5, (((x4 : Nat) : Int), ((0:Int), ()))), (((0:Int), ((0:Int), ((0:Int), ()))), ((r2.1.1, (x6, (x7, (x5, ())))), (((1:Int), (x6, ((2:Int), (x8, ())))), ((List.replicate x8 (0:Int)), ()))))))).bind fun r9 =>
 (some ((r9.2.2.1.1, (r9.2.2.1.2.1, (r9.2.2.1.2.2.1, ((List.take r9.2.2.1.2.2.2.1 (List.drop (0:Nat) r9.2.2.2.1)), ())))), ((0:Int), ())))
 else
 none
noncomputable def G_kern_Sums : T fa_kern_Sums → TH ha_kern_Sums → Option ((Int × Int × Int × List Int × Unit) × Int × Unit) := fun x y => F_kern_Sums x.1
noncomputable def c_kern_Sums : Orc := ent i_kern_Sums [] 0 (sp fa_kern_Sums ha_kern_Sums fr_kern_Sums hr_kern_Sums G_kern_Sums out_kern_Sums)
theorem ok_kern_Sums : OrcOk PR c_kern_Sums := fnT okO_kern_Sums mixed p_kern_Sums (by kernel_rfl) (by kernel_rfl) (L := L_kern_Sums) (kp := false) (by kernel_rfl) (inn := inn_kern_Sums) (out := out_kern_Sums) (fun _ _ => rfl) (loopsL (l := [((lpN f_kern_Sums 0), ls_kern_Sums_0)]) (by kernel_rfl) ⟨lp_kern_Sums_0, trivial⟩) (fun x y => by kernel_rfl)
noncomputable def O_annealref13_Sums : Orc := (orm c_annealref13_Right (orm c_annealref13_wide c_annealref10_Add))
theorem okO_annealref13_Sums : OrcOk PR O_annealref13_Sums := (orm_ok ok_annealref13_Right (orm_ok ok_annealref13_wide ok_annealref10_Add))
abbrev fa_annealref13_Sums : Fm := (.pair (.agg (.pair (.i .i64) (.pair (.i .i64) (.pair (.i .i64) (.pair (.si .u32) .unit))))) .unit)
abbrev ha_annealref13_Sums : List BF := []
abbrev fr_annealref13_Sums : Fm := (.tup (.pair (.agg (.pair (.i .i64) (.pair (.i .i64) (.pair (.i .i64) (.pair (.si .u32) .unit))))) (.pair (.i .i64) .unit)))
abbrev hr_annealref13_Sums : List BF := []
abbrev ff_annealref13_Sums_0 : Fm := (.us 1 (.cst (.ref 0 1 0) (.cst (.ref 1 1 0) (.us 1 (.cst (.ref 2 1 0) (.pair (.i .i64) (.us 37 .unit)))))))
abbrev hf_annealref13_Sums_0 : List BF := [(.list 1 y_api_Tensor true (.pair (.i .i64) (.pair (.i .i64) (.pair (.i .i64) (.pair (.si .u32) .unit))))), (.list 1 y_api_Tensor true (.pair (.i .i64) (.pair (.i .i64) (.pair (.i .i64) (.cst .nils .unit))))), (.list 1 y_api_Tensor true (.pair (.i .i64) (.pair (.i .i64) (.pair (.i .i64) (.pair (.own 3 1 0 1) .unit))))), (.ints 1 y_uint32 true .u32)]
abbrev X_annealref13_Sums_0 : Xs := (.one (.exit 0) [2, 4] (.us 2 (.cst (.ref 0 1 0) (.us 1 (.cst (.ref 1 1 0) (.us 38 .unit))))) [(.list 1 y_api_Tensor true (.pair (.i .i64) (.pair (.i .i64) (.pair (.i .i64) (.cst .nils .unit))))), (.list 1 y_api_Tensor true (.pair (.i .i64) (.pair (.i .i64) (.pair (.i .i64) (.pair (.own 2 1 0 1) .unit))))), (.ints 1 y_uint32 true .u32)])
abbrev S_annealref13_Sums_0 : Type := T ff_annealref13_Sums_0 × TH hf_annealref13_Sums_0
abbrev E_annealref13_Sums_0 : Type := TX X_annealref13_Sums_0
noncomputable def LB_annealref13_Sums_0 : Lps := L0
noncomputable def st_annealref13_Sums_0 : StepT S_annealref13_Sums_0 E_annealref13_Sums_0 := fun R v kn ko =>
 let x0 : Int := v.2.1.2.1
 let x1 : Bool := (x0 == (0:Int))
 let x2 : List Int := v.2.1.2.2.2.1
 let x3 : Int := v.1.1
 let x4 : List Int := v.2.2.2.2.1
 let x5 : Nat := ((0:Nat) + ((Int.toNat (Int.tmod x3 x0)) * (1:Nat)))
 bif (decide (x3 < (((List.length x2) : Nat) : Int))) then
 bif x1 then
 none
 else
 bif x1 then
 none
 else
 bif (decide (((0:Int) ≤ (Int.tmod x3 x0)) ∧ ((Int.tmod x3 x0) < ((v.2.2.2.1.2.2.2.1 : Nat) : Int)))) then
 bif (decide (x5 < (List.length x4))) then
 ((F_annealref13_wide (v.2.1.1, (x0, (v.2.1.2.2.1, ((List.take (List.length x2) x2), ())))) x3)).bind fun r6 =>
 ((F_annealref10_Add (List.getD x4 x5 (0:Int)) r6)).bind fun r7 =>
 bif (decide (((0:Int) ≤ (Int.tmod x3 x0)) ∧ ((Int.tmod x3 x0) < ((v.2.2.2.1.2.2.2.1 : Nat) : Int)))) then
 bif (decide (x5 < (List.length x4))) then
 (kn (((IntKind.wrap .i64 (x3 + (1:Int))), ()), ((v.2.1.1, (x0, (v.2.1.2.2.1, ((List.take (List.length x2) x2), ())))), (v.2.2.1, (v.2.2.2.1, ((List.set x4 x5 r7), ()))))))
 else
 none
 else
 none
 else
 none
 else
 none
 else
 (ko ((), v.2.2))
noncomputable def ls_annealref13_Sums_0 : St → LTr := (lsum ff_annealref13_Sums_0 hf_annealref13_Sums_0 X_annealref13_Sums_0 Prod.mk id st_annealref13_Sums_0 (hd [] [] [1, 2, 4, 5] 0))
theorem lp_annealref13_Sums_0 : LoopOk PR 0 (lpN f_annealref13_Sums 0) ls_annealref13_Sums_0 := loopT okO_annealref13_Sums mixed (L := LB_annealref13_Sums_0) (d := 1) (bs := []) (ks := [1, 2, 4, 5]) (loopsL (l := []) (by kernel_rfl) trivial) (by kernel_rfl) (inS := Prod.mk) (outS := id) (fun _ _ => rfl) (inX := id) (outX := id) (fun _ => rfl) (fun v R kn ko => by kernel_rfl) (hd_wk [] [] [1, 2, 4, 5] 0)
noncomputable def L_annealref13_Sums : Lps := (lpB 6 (.by_ ls_annealref13_Sums_0) L0)
def inn_annealref13_Sums : T fr_annealref13_Sums → TH hr_annealref13_Sums → (Int × Int × Int × List Int × Unit) × Int × Unit := (fun z w => z)
def out_annealref13_Sums : (Int × Int × Int × List Int × Unit) × Int × Unit → T fr_annealref13_Sums × TH hr_annealref13_Sums := fun r => (r, ())
noncomputable def F_annealref13_Sums (a0 : Int × Int × Int × List Int × Unit) : Option ((Int × Int × Int × List Int × Unit) × Int × Unit) :=
 let x0 : Int := a0.2.2.1
 let x1 : List Int := a0.2.2.2.1
 let x2 : Nat := (Int.toNat a0.2.1)
 ((F_annealref13_Right (a0.1, (a0.2.1, (x0, ((List.take (List.length x1) x1), ())))))).bind fun r3 =>
 bif (!r3) then
 (some (((0:Int), ((0:Int), ((0:Int), ([], ())))), ((21:Int), ())))
 else
 bif (decide (((0:Int) ≤ a0.2.1) ∧ (a0.2.1 ≤ (1073741824:Int)))) then
 ((lim st_annealref13_Sums_0 (((0:Int), ()), ((a0.1, (a0.2.1, (x0, ((List.take (List.length x1) x1), ())))), (((0:Int), ((0:Int), ((0:Int), ()))), (((1:Int), (a0.2.1, ((2:Int), (x2, ())))), ((List.replicate x2 (0:Int)), ()))))))).bind fun r4 =>
 (some ((r4.2.2.1.1, (r4.2.2.1.2.1, (r4.2.2.1.2.2.1, ((List.take r4.2.2.1.2.2.2.1 (List.drop (0:Nat) r4.2.2.2.1)), ())))), ((0:Int), ())))
 else
 none
noncomputable def G_annealref13_Sums : T fa_annealref13_Sums → TH ha_annealref13_Sums → Option ((Int × Int × Int × List Int × Unit) × Int × Unit) := fun x y => F_annealref13_Sums x.1
noncomputable def c_annealref13_Sums : Orc := ent i_annealref13_Sums [] 0 (sp fa_annealref13_Sums ha_annealref13_Sums fr_annealref13_Sums hr_annealref13_Sums G_annealref13_Sums out_annealref13_Sums)
theorem ok_annealref13_Sums : OrcOk PR c_annealref13_Sums := fnT okO_annealref13_Sums mixed p_annealref13_Sums (by kernel_rfl) (by kernel_rfl) (L := L_annealref13_Sums) (kp := false) (by kernel_rfl) (inn := inn_annealref13_Sums) (out := out_annealref13_Sums) (fun _ _ => rfl) (loopsL (l := [((lpN f_annealref13_Sums 0), ls_annealref13_Sums_0)]) (by kernel_rfl) ⟨lp_annealref13_Sums_0, trivial⟩) (fun x y => by kernel_rfl)
noncomputable def O_annealref13_Each : Orc := (orm c_annealref13_Right (orm c_annealref13_wide (orm c_annealref10_Mul c_annealref10_Add)))
theorem okO_annealref13_Each : OrcOk PR O_annealref13_Each := (orm_ok ok_annealref13_Right (orm_ok ok_annealref13_wide (orm_ok ok_annealref10_Mul ok_annealref10_Add)))
abbrev fa_annealref13_Each : Fm := (.pair (.agg (.pair (.i .i64) (.pair (.i .i64) (.pair (.i .i64) (.pair (.si .u32) .unit))))) (.pair (.agg (.pair (.i .i64) (.pair (.i .i64) (.pair (.i .i64) (.pair (.si .u32) .unit))))) (.pair .b .unit)))
abbrev ha_annealref13_Each : List BF := []
abbrev fr_annealref13_Each : Fm := (.tup (.pair (.agg (.pair (.i .i64) (.pair (.i .i64) (.pair (.i .i64) (.pair (.si .u32) .unit))))) (.pair (.i .i64) .unit)))
abbrev hr_annealref13_Each : List BF := []
abbrev ff_annealref13_Each_0 : Fm := (.us 2 (.pair .b (.cst (.ref 0 1 0) (.cst (.ref 1 1 0) (.us 1 (.cst (.ref 2 1 0) (.us 1 (.cst (.ref 3 1 0) (.pair (.i .i64) (.us 63 .unit))))))))))
abbrev hf_annealref13_Each_0 : List BF := [(.list 1 y_api_Tensor true (.pair (.i .i64) (.pair (.i .i64) (.pair (.i .i64) (.pair (.si .u32) .unit))))), (.list 1 y_api_Tensor true (.pair (.i .i64) (.pair (.i .i64) (.pair (.i .i64) (.pair (.si .u32) .unit))))), (.list 1 y_api_Tensor true (.pair (.i .i64) (.pair (.i .i64) (.pair (.i .i64) (.cst .nils .unit))))), (.list 1 y_api_Tensor true (.pair (.i .i64) (.pair (.i .i64) (.pair (.i .i64) (.pair (.own 4 1 0 1) .unit))))), (.ints 1 y_uint32 true .u32)]
abbrev X_annealref13_Each_0 : Xs := (.one (.exit 0) [6, 8] (.us 6 (.cst (.ref 0 1 0) (.us 1 (.cst (.ref 1 1 0) (.us 64 .unit))))) [(.list 1 y_api_Tensor true (.pair (.i .i64) (.pair (.i .i64) (.pair (.i .i64) (.cst .nils .unit))))), (.list 1 y_api_Tensor true (.pair (.i .i64) (.pair (.i .i64) (.pair (.i .i64) (.pair (.own 2 1 0 1) .unit))))), (.ints 1 y_uint32 true .u32)])
abbrev S_annealref13_Each_0 : Type := T ff_annealref13_Each_0 × TH hf_annealref13_Each_0
abbrev E_annealref13_Each_0 : Type := TX X_annealref13_Each_0
noncomputable def LB_annealref13_Each_0 : Lps := L0
noncomputable def st_annealref13_Each_0 : StepT S_annealref13_Each_0 E_annealref13_Each_0 := fun R v kn ko =>
 let x0 : Bool := v.1.1
 let x1 : List Int := v.2.1.2.2.2.1
 let x2 : Int := v.1.2.1
 let x3 : List Int := v.2.2.1.2.2.2.1
 let x4 : List Int := v.2.2.2.2.2.1
 let x5 : Nat := ((0:Nat) + ((Int.toNat x2) * (1:Nat)))
 bif (decide (x2 < (((List.length x1) : Nat) : Int))) then
 bif x0 then
 ((F_annealref13_wide (v.2.1.1, (v.2.1.2.1, (v.2.1.2.2.1, ((List.take (List.length x1) x1), ())))) x2)).bind fun r6 =>
 ((F_annealref13_wide (v.2.2.1.1, (v.2.2.1.2.1, (v.2.2.1.2.2.1, ((List.take (List.length x3) x3), ())))) x2)).bind fun r7 =>
 ((F_annealref10_Mul r6 r7)).bind fun r8 =>
 bif (decide (((0:Int) ≤ x2) ∧ (x2 < ((v.2.2.2.2.1.2.2.2.1 : Nat) : Int)))) then
 bif (decide (x5 < (List.length x4))) then
 (kn ((x0, ((IntKind.wrap .i64 (x2 + (1:Int))), ())), ((v.2.1.1, (v.2.1.2.1, (v.2.1.2.2.1, ((List.take (List.length x1) x1), ())))), ((v.2.2.1.1, (v.2.2.1.2.1, (v.2.2.1.2.2.1, ((List.take (List.length x3) x3), ())))), (v.2.2.2.1, (v.2.2.2.2.1, ((List.set x4 x5 r8), ())))))))
 else
 none
 else
 none
 else
 ((F_annealref13_wide (v.2.1.1, (v.2.1.2.1, (v.2.1.2.2.1, ((List.take (List.length x1) x1), ())))) x2)).bind fun r9 =>
 ((F_annealref13_wide (v.2.2.1.1, (v.2.2.1.2.1, (v.2.2.1.2.2.1, ((List.take (List.length x3) x3), ())))) x2)).bind fun r10 =>
 ((F_annealref10_Add r9 r10)).bind fun r11 =>
 bif (decide (((0:Int) ≤ x2) ∧ (x2 < ((v.2.2.2.2.1.2.2.2.1 : Nat) : Int)))) then
 bif (decide (x5 < (List.length x4))) then
 (kn ((x0, ((IntKind.wrap .i64 (x2 + (1:Int))), ())), ((v.2.1.1, (v.2.1.2.1, (v.2.1.2.2.1, ((List.take (List.length x1) x1), ())))), ((v.2.2.1.1, (v.2.2.1.2.1, (v.2.2.1.2.2.1, ((List.take (List.length x3) x3), ())))), (v.2.2.2.1, (v.2.2.2.2.1, ((List.set x4 x5 r11), ())))))))
 else
 none
 else
 none
 else
 (ko ((), v.2.2.2))
noncomputable def ls_annealref13_Each_0 : St → LTr := (lsum ff_annealref13_Each_0 hf_annealref13_Each_0 X_annealref13_Each_0 Prod.mk id st_annealref13_Each_0 (hd [] [] [2, 3, 4, 6, 8, 9] 0))
theorem lp_annealref13_Each_0 : LoopOk PR 0 (lpN f_annealref13_Each 0) ls_annealref13_Each_0 := loopT okO_annealref13_Each mixed (L := LB_annealref13_Each_0) (d := 1) (bs := []) (ks := [2, 3, 4, 6, 8, 9]) (loopsL (l := []) (by kernel_rfl) trivial) (by kernel_rfl) (inS := Prod.mk) (outS := id) (fun _ _ => rfl) (inX := id) (outX := id) (fun _ => rfl) (fun v R kn ko => by kernel_rfl) (hd_wk [] [] [2, 3, 4, 6, 8, 9] 0)
noncomputable def L_annealref13_Each : Lps := (lpB 6 (.by_ ls_annealref13_Each_0) L0)
def inn_annealref13_Each : T fr_annealref13_Each → TH hr_annealref13_Each → (Int × Int × Int × List Int × Unit) × Int × Unit := (fun z w => z)
def out_annealref13_Each : (Int × Int × Int × List Int × Unit) × Int × Unit → T fr_annealref13_Each × TH hr_annealref13_Each := fun r => (r, ())
noncomputable def F_annealref13_Each (a0 : Int × Int × Int × List Int × Unit) (a1 : Int × Int × Int × List Int × Unit) (a2 : Bool) : Option ((Int × Int × Int × List Int × Unit) × Int × Unit) :=
 let x0 : Int := a0.2.2.1
 let x1 : List Int := a0.2.2.2.1
 let x2 : Nat := (List.length x1)
 let x3 : Int := a1.2.2.1
 let x4 : List Int := a1.2.2.2.1
 let x5 : Nat := (Int.toNat ((x2 : Nat) : Int))
 ((F_annealref13_Right (a0.1, (a0.2.1, (x0, ((List.take x2 x1), ())))))).bind fun r6 =>
 bif (!r6) then
 (some (((0:Int), ((0:Int), ((0:Int), ([], ())))), ((21:Int), ())))
 else
 ((F_annealref13_Right (a1.1, (a1.2.1, (x3, ((List.take (List.length x4) x4), ())))))).bind fun r7 =>
 bif (!r7) then
 (some (((0:Int), ((0:Int), ((0:Int), ([], ())))), ((21:Int), ())))
 else
 bif (a0.1 != a1.1) then
 (some (((0:Int), ((0:Int), ((0:Int), ([], ())))), ((21:Int), ())))
 else
 bif (a0.2.1 != a1.2.1) then
 (some (((0:Int), ((0:Int), ((0:Int), ([], ())))), ((21:Int), ())))
 else
 bif (decide (((0:Int) ≤ ((x2 : Nat) : Int)) ∧ (((x2 : Nat) : Int) ≤ (1073741824:Int)))) then
 ((lim st_annealref13_Each_0 ((a2, ((0:Int), ())), ((a0.1, (a0.2.1, (x0, ((List.take x2 x1), ())))), ((a1.1, (a1.2.1, (x3, ((List.take (List.length x4) x4), ())))), (((0:Int), ((0:Int), ((0:Int), ()))), ((a0.1, (a0.2.1, ((2:Int), (x5, ())))), ((List.replicate x5 (0:Int)), ())))))))).bind fun r8 =>
 (some ((r8.2.2.1.1, (r8.2.2.1.2.1, (r8.2.2.1.2.2.1, ((List.take r8.2.2.1.2.2.2.1 (List.drop (0:Nat) r8.2.2.2.1)), ())))), ((0:Int), ())))
 else
 none
noncomputable def G_annealref13_Each : T fa_annealref13_Each → TH ha_annealref13_Each → Option ((Int × Int × Int × List Int × Unit) × Int × Unit) := fun x y => F_annealref13_Each x.1 x.2.1 x.2.2.1
noncomputable def c_annealref13_Each : Orc := ent i_annealref13_Each [] 0 (sp fa_annealref13_Each ha_annealref13_Each fr_annealref13_Each hr_annealref13_Each G_annealref13_Each out_annealref13_Each)
theorem ok_annealref13_Each : OrcOk PR c_annealref13_Each := fnT okO_annealref13_Each mixed p_annealref13_Each (by kernel_rfl) (by kernel_rfl) (L := L_annealref13_Each) (kp := false) (by kernel_rfl) (inn := inn_annealref13_Each) (out := out_annealref13_Each) (fun _ _ => rfl) (loopsL (l := [((lpN f_annealref13_Each 0), ls_annealref13_Each_0)]) (by kernel_rfl) ⟨lp_annealref13_Each_0, trivial⟩) (fun x y => by kernel_rfl)
noncomputable def O_annealref13_By : Orc := (orm c_annealref13_Right (orm c_annealref13_wide c_annealref10_Mul))
theorem okO_annealref13_By : OrcOk PR O_annealref13_By := (orm_ok ok_annealref13_Right (orm_ok ok_annealref13_wide ok_annealref10_Mul))
abbrev fa_annealref13_By : Fm := (.pair (.agg (.pair (.i .i64) (.pair (.i .i64) (.pair (.i .i64) (.pair (.si .u32) .unit))))) (.pair (.i .u32) .unit))
abbrev ha_annealref13_By : List BF := []
abbrev fr_annealref13_By : Fm := (.tup (.pair (.agg (.pair (.i .i64) (.pair (.i .i64) (.pair (.i .i64) (.pair (.si .u32) .unit))))) (.pair (.i .i64) .unit)))
abbrev hr_annealref13_By : List BF := []
abbrev ff_annealref13_By_0 : Fm := (.us 1 (.pair (.i .u32) (.cst (.ref 0 1 0) (.us 1 (.cst (.ref 1 1 0) (.us 1 (.cst (.ref 2 1 0) (.pair (.i .i64) (.us 30 .unit)))))))))
abbrev hf_annealref13_By_0 : List BF := [(.list 1 y_api_Tensor true (.pair (.i .i64) (.pair (.i .i64) (.pair (.i .i64) (.pair (.si .u32) .unit))))), (.list 1 y_api_Tensor true (.pair (.i .i64) (.pair (.i .i64) (.pair (.i .i64) (.cst .nils .unit))))), (.list 1 y_api_Tensor true (.pair (.i .i64) (.pair (.i .i64) (.pair (.i .i64) (.pair (.own 3 1 0 1) .unit))))), (.ints 1 y_uint32 true .u32)]
abbrev X_annealref13_By_0 : Xs := (.one (.exit 0) [4, 6] (.us 4 (.cst (.ref 0 1 0) (.us 1 (.cst (.ref 1 1 0) (.us 31 .unit))))) [(.list 1 y_api_Tensor true (.pair (.i .i64) (.pair (.i .i64) (.pair (.i .i64) (.cst .nils .unit))))), (.list 1 y_api_Tensor true (.pair (.i .i64) (.pair (.i .i64) (.pair (.i .i64) (.pair (.own 2 1 0 1) .unit))))), (.ints 1 y_uint32 true .u32)])
abbrev S_annealref13_By_0 : Type := T ff_annealref13_By_0 × TH hf_annealref13_By_0
abbrev E_annealref13_By_0 : Type := TX X_annealref13_By_0
noncomputable def LB_annealref13_By_0 : Lps := L0
noncomputable def st_annealref13_By_0 : StepT S_annealref13_By_0 E_annealref13_By_0 := fun R v kn ko =>
 let x0 : List Int := v.2.1.2.2.2.1
 let x1 : Int := v.1.2.1
 let x2 : Int := v.1.1
 bif (decide (x1 < (((List.length x0) : Nat) : Int))) then
 ((F_annealref13_wide (v.2.1.1, (v.2.1.2.1, (v.2.1.2.2.1, ((List.take (List.length x0) x0), ())))) x1)).bind fun r3 =>
 ((F_annealref10_Mul r3 x2)).bind fun r4 =>
 bif (decide (((0:Int) ≤ x1) ∧ (x1 < ((v.2.2.2.1.2.2.2.1 : Nat) : Int)))) then
 bif (decide (((0:Nat) + ((Int.toNat x1) * (1:Nat))) < (List.length v.2.2.2.2.1))) then
 (kn ((x2, ((IntKind.wrap .i64 (x1 + (1:Int))), ())), ((v.2.1.1, (v.2.1.2.1, (v.2.1.2.2.1, ((List.take (List.length x0) x0), ())))), (v.2.2.1, (v.2.2.2.1, ((List.set v.2.2.2.2.1 ((0:Nat) + ((Int.toNat x1) * (1:Nat))) r4), ()))))))
 else
 none
 else
 none
 else
 (ko ((), v.2.2))
noncomputable def ls_annealref13_By_0 : St → LTr := (lsum ff_annealref13_By_0 hf_annealref13_By_0 X_annealref13_By_0 Prod.mk id st_annealref13_By_0 (hd [] [] [1, 2, 4, 6, 7] 0))
theorem lp_annealref13_By_0 : LoopOk PR 0 (lpN f_annealref13_By 0) ls_annealref13_By_0 := loopT okO_annealref13_By mixed (L := LB_annealref13_By_0) (d := 1) (bs := []) (ks := [1, 2, 4, 6, 7]) (loopsL (l := []) (by kernel_rfl) trivial) (by kernel_rfl) (inS := Prod.mk) (outS := id) (fun _ _ => rfl) (inX := id) (outX := id) (fun _ => rfl) (fun v R kn ko => by kernel_rfl) (hd_wk [] [] [1, 2, 4, 6, 7] 0)
noncomputable def L_annealref13_By : Lps := (lpB 6 (.by_ ls_annealref13_By_0) L0)
def inn_annealref13_By : T fr_annealref13_By → TH hr_annealref13_By → (Int × Int × Int × List Int × Unit) × Int × Unit := (fun z w => z)
def out_annealref13_By : (Int × Int × Int × List Int × Unit) × Int × Unit → T fr_annealref13_By × TH hr_annealref13_By := fun r => (r, ())
noncomputable def F_annealref13_By (a0 : Int × Int × Int × List Int × Unit) (a1 : Int) : Option ((Int × Int × Int × List Int × Unit) × Int × Unit) :=
 let x0 : Int := a0.2.2.1
 let x1 : List Int := a0.2.2.2.1
 let x2 : Nat := (List.length x1)
 let x3 : Nat := (Int.toNat ((x2 : Nat) : Int))
 ((F_annealref13_Right (a0.1, (a0.2.1, (x0, ((List.take x2 x1), ())))))).bind fun r4 =>
 bif (!r4) then
 (some (((0:Int), ((0:Int), ((0:Int), ([], ())))), ((21:Int), ())))
 else
 bif (decide (((0:Int) ≤ ((x2 : Nat) : Int)) ∧ (((x2 : Nat) : Int) ≤ (1073741824:Int)))) then
 ((lim st_annealref13_By_0 ((a1, ((0:Int), ())), ((a0.1, (a0.2.1, (x0, ((List.take x2 x1), ())))), (((0:Int), ((0:Int), ((0:Int), ()))), ((a0.1, (a0.2.1, ((2:Int), (x3, ())))), ((List.replicate x3 (0:Int)), ()))))))).bind fun r5 =>
 (some ((r5.2.2.1.1, (r5.2.2.1.2.1, (r5.2.2.1.2.2.1, ((List.take r5.2.2.1.2.2.2.1 (List.drop (0:Nat) r5.2.2.2.1)), ())))), ((0:Int), ())))
 else
 none
noncomputable def G_annealref13_By : T fa_annealref13_By → TH ha_annealref13_By → Option ((Int × Int × Int × List Int × Unit) × Int × Unit) := fun x y => F_annealref13_By x.1 x.2.1
noncomputable def c_annealref13_By : Orc := ent i_annealref13_By [] 0 (sp fa_annealref13_By ha_annealref13_By fr_annealref13_By hr_annealref13_By G_annealref13_By out_annealref13_By)
theorem ok_annealref13_By : OrcOk PR c_annealref13_By := fnT okO_annealref13_By mixed p_annealref13_By (by kernel_rfl) (by kernel_rfl) (L := L_annealref13_By) (kp := false) (by kernel_rfl) (inn := inn_annealref13_By) (out := out_annealref13_By) (fun _ _ => rfl) (loopsL (l := [((lpN f_annealref13_By 0), ls_annealref13_By_0)]) (by kernel_rfl) ⟨lp_annealref13_By_0, trivial⟩) (fun x y => by kernel_rfl)
noncomputable def O_kern_pairsc1__funcs_Mul : Orc := c_funcs_Mul
theorem okO_kern_pairsc1__funcs_Mul : OrcOk PR O_kern_pairsc1__funcs_Mul := ok_funcs_Mul
abbrev fa_kern_pairsc1__funcs_Mul : Fm := (.pair (.i .i64) (.pair (.i .u32) (.cst (.ref 0 1 0) (.cst (.ref 1 1 0) .unit))))
abbrev ha_kern_pairsc1__funcs_Mul : List BF := [(.list 1 y_func_uint32__uint32__uint32 true (.pair (.fn i_funcs_Mul .unit) .unit)), (.list 1 y_api_Tensor true (.pair (.i .i64) (.pair (.i .i64) (.pair (.i .i64) (.pair (.si .u32) .unit)))))]
abbrev fr_kern_pairsc1__funcs_Mul : Fm := (.i .u32)
abbrev hr_kern_pairsc1__funcs_Mul : List BF := [(.list 1 y_func_uint32__uint32__uint32 true (.pair (.fn i_funcs_Mul .unit) .unit)), (.list 1 y_api_Tensor true (.pair (.i .i64) (.pair (.i .i64) (.pair (.i .i64) (.pair (.si .u32) .unit)))))]
noncomputable def L_kern_pairsc1__funcs_Mul : Lps := L0
def inn_kern_pairsc1__funcs_Mul : T fr_kern_pairsc1__funcs_Mul → TH hr_kern_pairsc1__funcs_Mul → (Int) × ((Unit × Unit) × (Int × Int × Int × List Int × Unit) × Unit) := Prod.mk
def out_kern_pairsc1__funcs_Mul : (Int) × ((Unit × Unit) × (Int × Int × Int × List Int × Unit) × Unit) → T fr_kern_pairsc1__funcs_Mul × TH hr_kern_pairsc1__funcs_Mul := id
noncomputable def F_kern_pairsc1__funcs_Mul (a0 : Int) (a1 : Int) (a2 : Int × Int × Int × List Int × Unit) : Option ((Int) × ((Unit × Unit) × (Int × Int × Int × List Int × Unit) × Unit)) :=
 let x0 : List Int := a2.2.2.2.1
 let x1 : Int := a2.2.2.1
 bif (decide (((0:Int) ≤ a0) ∧ (a0 < (((List.length x0) : Nat) : Int)))) then
 ((F_funcs_Mul a1 (List.getD x0 (Int.toNat a0) (0:Int)))).bind fun r2 =>
 (some (r2, (((), ()), ((a2.1, (a2.2.1, (x1, ((List.take (List.length x0) x0), ())))), ()))))
 else
 none
noncomputable def G_kern_pairsc1__funcs_Mul : T fa_kern_pairsc1__funcs_Mul → TH ha_kern_pairsc1__funcs_Mul → Option ((Int) × ((Unit × Unit) × (Int × Int × Int × List Int × Unit) × Unit)) := fun x y => F_kern_pairsc1__funcs_Mul x.1 x.2.1 y.2.1
noncomputable def c_kern_pairsc1__funcs_Mul : Orc := ent i_kern_pairsc1 [false, false, true, true] 0 (sp fa_kern_pairsc1__funcs_Mul ha_kern_pairsc1__funcs_Mul fr_kern_pairsc1__funcs_Mul hr_kern_pairsc1__funcs_Mul G_kern_pairsc1__funcs_Mul out_kern_pairsc1__funcs_Mul)
theorem ok_kern_pairsc1__funcs_Mul : OrcOk PR c_kern_pairsc1__funcs_Mul := fnT okO_kern_pairsc1__funcs_Mul mixed p_kern_pairsc1 (by kernel_rfl) (by kernel_rfl) (L := L_kern_pairsc1__funcs_Mul) (kp := false) (by kernel_rfl) (inn := inn_kern_pairsc1__funcs_Mul) (out := out_kern_pairsc1__funcs_Mul) (fun _ _ => rfl) (loopsL (l := []) (by kernel_rfl) trivial) (fun x y => by kernel_rfl)
noncomputable def O_tensor_Each__pairs_Mul : Orc := c_kern_pairsc1__funcs_Mul
theorem okO_tensor_Each__pairs_Mul : OrcOk PR O_tensor_Each__pairs_Mul := ok_kern_pairsc1__funcs_Mul
abbrev fa_tensor_Each__pairs_Mul : Fm := (.pair (.agg (.pair (.i .i64) (.pair (.i .i64) (.pair (.i .i64) (.pair (.si .u32) .unit))))) (.pair (.i .i64) (.pair (.fn i_kern_pairsc1 (.pair (.ref 0 1 0) (.pair (.ref 1 1 0) .unit))) .unit)))
abbrev ha_tensor_Each__pairs_Mul : List BF := [(.list 1 y_func_uint32__uint32__uint32 true (.pair (.fn i_funcs_Mul .unit) .unit)), (.list 1 y_api_Tensor true (.pair (.i .i64) (.pair (.i .i64) (.pair (.i .i64) (.pair (.si .u32) .unit)))))]
abbrev fr_tensor_Each__pairs_Mul : Fm := (.agg (.pair (.i .i64) (.pair (.i .i64) (.pair (.i .i64) (.pair (.si .u32) .unit)))))
abbrev hr_tensor_Each__pairs_Mul : List BF := [(.list 1 y_func_uint32__uint32__uint32 true (.pair (.fn i_funcs_Mul .unit) .unit)), (.list 1 y_api_Tensor true (.pair (.i .i64) (.pair (.i .i64) (.pair (.i .i64) (.pair (.si .u32) .unit)))))]
abbrev ff_tensor_Each__pairs_Mul_0 : Fm := (.us 2 (.cst (.fn i_kern_pairsc1 (.cst (.ref 0 1 0) (.cst (.ref 1 1 0) .unit))) (.us 3 (.cst (.ref 2 1 0) (.cst (.ref 3 1 0) (.us 13 (.pair (.si .u32) (.pair (.i .i64) (.pair (.i .i64) (.us 14 .unit))))))))))
abbrev hf_tensor_Each__pairs_Mul_0 : List BF := [(.list 1 y_func_uint32__uint32__uint32 true (.cst (.fn i_funcs_Mul .unit) .unit)), (.list 1 y_api_Tensor true (.pair (.i .i64) (.pair (.i .i64) (.pair (.i .i64) (.pair (.si .u32) .unit))))), (.list 1 y_api_Tensor true (.pair (.i .i64) (.pair (.i .i64) (.pair (.i .i64) (.cst .nils .unit))))), (.list 1 y_api_Tensor true (.pair (.i .i64) (.pair (.i .i64) (.pair (.i .i64) (.pair (.own 4 1 0 1) .unit))))), (.ints 1 y_uint32 true .u32)]
abbrev X_tensor_Each__pairs_Mul_0 : Xs := (.one (.exit 0) [6, 7] (.us 6 (.cst (.ref 2 1 0) (.cst (.ref 3 1 0) (.us 30 .unit)))) [(.list 1 y_func_uint32__uint32__uint32 true (.cst (.fn i_funcs_Mul .unit) .unit)), (.list 1 y_api_Tensor true (.pair (.i .i64) (.pair (.i .i64) (.pair (.i .i64) (.pair (.si .u32) .unit))))), (.list 1 y_api_Tensor true (.pair (.i .i64) (.pair (.i .i64) (.pair (.i .i64) (.cst .nils .unit))))), (.list 1 y_api_Tensor true (.pair (.i .i64) (.pair (.i .i64) (.pair (.i .i64) (.pair (.own 4 1 0 1) .unit))))), (.ints 1 y_uint32 true .u32)])
abbrev S_tensor_Each__pairs_Mul_0 : Type := T ff_tensor_Each__pairs_Mul_0 × TH hf_tensor_Each__pairs_Mul_0
abbrev E_tensor_Each__pairs_Mul_0 : Type := TX X_tensor_Each__pairs_Mul_0
noncomputable def LB_tensor_Each__pairs_Mul_0 : Lps := L0
noncomputable def st_tensor_Each__pairs_Mul_0 : StepT S_tensor_Each__pairs_Mul_0 E_tensor_Each__pairs_Mul_0 := fun R v kn ko =>
 let x0 : Int := v.1.2.2.1
 let x1 : List Int := v.1.1
 let x2 : Nat := (Int.toNat x0)
 let x3 : List Int := v.2.2.1.2.2.2.1
 bif (decide (x0 < v.1.2.1)) then
 bif (decide (((0:Int) ≤ x0) ∧ (x0 < (((List.length x1) : Nat) : Int)))) then
 ((F_kern_pairsc1__funcs_Mul x0 (List.getD x1 x2 (0:Int)) (v.2.2.1.1, (v.2.2.1.2.1, (v.2.2.1.2.2.1, ((List.take (List.length x3) x3), ())))))).bind fun r4 =>
 let x5 : List Int := r4.2.2.1.2.2.2.1
 bif (decide (((0:Int) ≤ x0) ∧ (x0 < ((v.2.2.2.2.1.2.2.2.1 : Nat) : Int)))) then
 bif (decide (((0:Nat) + (x2 * (1:Nat))) < (List.length v.2.2.2.2.2.1))) then
 (kn (((List.take (List.length x1) x1), (v.1.2.1, ((IntKind.wrap .i64 (x0 + (1:Int))), ()))), ((), ((r4.2.2.1.1, (r4.2.2.1.2.1, (r4.2.2.1.2.2.1, ((List.take (List.length x5) x5), ())))), (v.2.2.2.1, (v.2.2.2.2.1, ((List.set v.2.2.2.2.2.1 ((0:Nat) + (x2 * (1:Nat))) r4.1), ())))))))
 else
 none
 else
 none
 else
 none
 else
 (ko ((), ((), ((v.2.2.1.1, (v.2.2.1.2.1, (v.2.2.1.2.2.1, ((List.take (List.length x3) x3), ())))), v.2.2.2))))
noncomputable def ls_tensor_Each__pairs_Mul_0 : St → LTr := (lsum ff_tensor_Each__pairs_Mul_0 hf_tensor_Each__pairs_Mul_0 X_tensor_Each__pairs_Mul_0 Prod.mk id st_tensor_Each__pairs_Mul_0 (hd [] [] [2, 6, 7, 21, 22, 23] 2))
theorem lp_tensor_Each__pairs_Mul_0 : LoopOk PR 2 (lpN f_tensor_Each 0) ls_tensor_Each__pairs_Mul_0 := loopT okO_tensor_Each__pairs_Mul mixed (L := LB_tensor_Each__pairs_Mul_0) (d := 1) (bs := []) (ks := [2, 6, 7, 21, 22, 23]) (loopsL (l := []) (by kernel_rfl) trivial) (by kernel_rfl) (inS := Prod.mk) (outS := id) (fun _ _ => rfl) (inX := id) (outX := id) (fun _ => rfl) (fun v R kn ko => by kernel_rfl) (hd_wk [] [] [2, 6, 7, 21, 22, 23] 2)
noncomputable def L_tensor_Each__pairs_Mul : Lps := (lpB 4 (.by_ ls_tensor_Each__pairs_Mul_0) L0)
def inn_tensor_Each__pairs_Mul : T fr_tensor_Each__pairs_Mul → TH hr_tensor_Each__pairs_Mul → (Int × Int × Int × List Int × Unit) × ((Unit × Unit) × (Int × Int × Int × List Int × Unit) × Unit) := Prod.mk
def out_tensor_Each__pairs_Mul : (Int × Int × Int × List Int × Unit) × ((Unit × Unit) × (Int × Int × Int × List Int × Unit) × Unit) → T fr_tensor_Each__pairs_Mul × TH hr_tensor_Each__pairs_Mul := id
noncomputable def F_tensor_Each__pairs_Mul (a0 : Int × Int × Int × List Int × Unit) (a1 : Int) (a2 : Int × Int × Int × List Int × Unit) : Option ((Int × Int × Int × List Int × Unit) × ((Unit × Unit) × (Int × Int × Int × List Int × Unit) × Unit)) :=
 let x0 : List Int := a0.2.2.2.1
 let x1 : Nat := (List.length x0)
 let x2 : Int := ((x1 : Nat) : Int)
 let x3 : Int := a2.2.2.1
 let x4 : List Int := a2.2.2.2.1
 let x5 : Nat := (Int.toNat x2)
 bif (decide (((0:Int) ≤ x2) ∧ (x2 ≤ (1073741824:Int)))) then
 ((lim st_tensor_Each__pairs_Mul_0 (((List.take x1 x0), (x2, ((0:Int), ()))), ((), ((a2.1, (a2.2.1, (x3, ((List.take (List.length x4) x4), ())))), (((0:Int), ((0:Int), ((0:Int), ()))), ((a0.1, (a0.2.1, (a1, (x5, ())))), ((List.replicate x5 (0:Int)), ())))))))).bind fun r6 =>
 let x7 : List Int := r6.2.2.1.2.2.2.1
 (some ((r6.2.2.2.2.1.1, (r6.2.2.2.2.1.2.1, (r6.2.2.2.2.1.2.2.1, ((List.take r6.2.2.2.2.1.2.2.2.1 (List.drop (0:Nat) r6.2.2.2.2.2.1)), ())))), (((), ()), ((r6.2.2.1.1, (r6.2.2.1.2.1, (r6.2.2.1.2.2.1, ((List.take (List.length x7) x7), ())))), ()))))
 else
 none
noncomputable def G_tensor_Each__pairs_Mul : T fa_tensor_Each__pairs_Mul → TH ha_tensor_Each__pairs_Mul → Option ((Int × Int × Int × List Int × Unit) × ((Unit × Unit) × (Int × Int × Int × List Int × Unit) × Unit)) := fun x y => F_tensor_Each__pairs_Mul x.1 x.2.1 y.2.1
noncomputable def c_tensor_Each__pairs_Mul : Orc := ent i_tensor_Each [false, false, true] 0 (sp fa_tensor_Each__pairs_Mul ha_tensor_Each__pairs_Mul fr_tensor_Each__pairs_Mul hr_tensor_Each__pairs_Mul G_tensor_Each__pairs_Mul out_tensor_Each__pairs_Mul)
theorem ok_tensor_Each__pairs_Mul : OrcOk PR c_tensor_Each__pairs_Mul := fnT okO_tensor_Each__pairs_Mul mixed p_tensor_Each (by kernel_rfl) (by kernel_rfl) (L := L_tensor_Each__pairs_Mul) (kp := false) (by kernel_rfl) (inn := inn_tensor_Each__pairs_Mul) (out := out_tensor_Each__pairs_Mul) (fun _ _ => rfl) (loopsL (l := [((lpN f_tensor_Each 0), ls_tensor_Each__pairs_Mul_0)]) (by kernel_rfl) ⟨lp_tensor_Each__pairs_Mul_0, trivial⟩) (fun x y => by kernel_rfl)
noncomputable def O_kern_pairs__funcs_Mul : Orc := (orm c_kern_both c_tensor_Each__pairs_Mul)
theorem okO_kern_pairs__funcs_Mul : OrcOk PR O_kern_pairs__funcs_Mul := (orm_ok ok_kern_both ok_tensor_Each__pairs_Mul)
abbrev fa_kern_pairs__funcs_Mul : Fm := (.pair (.agg (.pair (.i .i64) (.pair (.i .i64) (.pair (.i .i64) (.pair (.si .u32) .unit))))) (.pair (.agg (.pair (.i .i64) (.pair (.i .i64) (.pair (.i .i64) (.pair (.si .u32) .unit))))) (.cst (.fn i_funcs_Mul .unit) .unit)))
abbrev ha_kern_pairs__funcs_Mul : List BF := []
abbrev fr_kern_pairs__funcs_Mul : Fm := (.tup (.pair (.agg (.pair (.i .i64) (.pair (.i .i64) (.pair (.i .i64) (.pair (.si .u32) .unit))))) (.pair (.i .i64) .unit)))
abbrev hr_kern_pairs__funcs_Mul : List BF := []
noncomputable def L_kern_pairs__funcs_Mul : Lps := L0
def inn_kern_pairs__funcs_Mul : T fr_kern_pairs__funcs_Mul → TH hr_kern_pairs__funcs_Mul → (Int × Int × Int × List Int × Unit) × Int × Unit := (fun z w => z)
def out_kern_pairs__funcs_Mul : (Int × Int × Int × List Int × Unit) × Int × Unit → T fr_kern_pairs__funcs_Mul × TH hr_kern_pairs__funcs_Mul := fun r => (r, ())
noncomputable def F_kern_pairs__funcs_Mul (a0 : Int × Int × Int × List Int × Unit) (a1 : Int × Int × Int × List Int × Unit) : Option ((Int × Int × Int × List Int × Unit) × Int × Unit) :=
 let x0 : Int := a0.2.2.1
 let x1 : List Int := a0.2.2.2.1
 let x2 : Int := a1.2.2.1
 let x3 : List Int := a1.2.2.2.1
 ((F_kern_both (a0.1, (a0.2.1, (x0, ((List.take (List.length x1) x1), ())))) (a1.1, (a1.2.1, (x2, ((List.take (List.length x3) x3), ())))))).bind fun r4 =>
 let x5 : Bool := r4.2.2.1
 let x6 : Int := r4.2.1.1
 let x7 : Int := r4.1.2.1
 let x8 : Int := r4.2.1.2.1
 let x9 : Int := r4.1.2.2.1
 let x10 : List Int := r4.1.2.2.2.1
 let x11 : Int := r4.2.1.2.2.1
 let x12 : List Int := r4.2.1.2.2.2.1
 bif (!x5) then
 (some (((0:Int), ((0:Int), ((0:Int), ([], ())))), ((21:Int), ())))
 else
 bif (r4.1.1 != x6) then
 (some (((0:Int), ((0:Int), ((0:Int), ([], ())))), ((21:Int), ())))
 else
 bif (x7 != x8) then
 (some (((0:Int), ((0:Int), ((0:Int), ([], ())))), ((21:Int), ())))
 else
 ((F_tensor_Each__pairs_Mul (r4.1.1, (x7, (x9, ((List.take (List.length x10) x10), ())))) (2:Int) (x6, (x8, (x11, ((List.take (List.length x12) x12), ())))))).bind fun r13 =>
 let x14 : List Int := r13.1.2.2.2.1
 (some ((r13.1.1, (r13.1.2.1, (r13.1.2.2.1, ((List.take (List.length x14) x14), ())))), ((0:Int), ())))
noncomputable def G_kern_pairs__funcs_Mul : T fa_kern_pairs__funcs_Mul → TH ha_kern_pairs__funcs_Mul → Option ((Int × Int × Int × List Int × Unit) × Int × Unit) := fun x y => F_kern_pairs__funcs_Mul x.1 x.2.1
noncomputable def c_kern_pairs__funcs_Mul : Orc := ent i_kern_pairs [false, false, true] 0 (sp fa_kern_pairs__funcs_Mul ha_kern_pairs__funcs_Mul fr_kern_pairs__funcs_Mul hr_kern_pairs__funcs_Mul G_kern_pairs__funcs_Mul out_kern_pairs__funcs_Mul)
theorem ok_kern_pairs__funcs_Mul : OrcOk PR c_kern_pairs__funcs_Mul := fnT okO_kern_pairs__funcs_Mul mixed p_kern_pairs (by kernel_rfl) (by kernel_rfl) (L := L_kern_pairs__funcs_Mul) (kp := false) (by kernel_rfl) (inn := inn_kern_pairs__funcs_Mul) (out := out_kern_pairs__funcs_Mul) (fun _ _ => rfl) (loopsL (l := []) (by kernel_rfl) trivial) (fun x y => by kernel_rfl)
noncomputable def O_kern_Mul : Orc := (orm c_kern_pairs__funcs_Mul c_funcs_Mul)
theorem okO_kern_Mul : OrcOk PR O_kern_Mul := (orm_ok ok_kern_pairs__funcs_Mul ok_funcs_Mul)
abbrev fa_kern_Mul : Fm := (.pair (.agg (.pair (.i .i64) (.pair (.i .i64) (.pair (.i .i64) (.pair (.si .u32) .unit))))) (.pair (.agg (.pair (.i .i64) (.pair (.i .i64) (.pair (.i .i64) (.pair (.si .u32) .unit))))) .unit))
abbrev ha_kern_Mul : List BF := []
abbrev fr_kern_Mul : Fm := (.tup (.pair (.agg (.pair (.i .i64) (.pair (.i .i64) (.pair (.i .i64) (.pair (.si .u32) .unit))))) (.pair (.i .i64) .unit)))
abbrev hr_kern_Mul : List BF := []
noncomputable def L_kern_Mul : Lps := L0
def inn_kern_Mul : T fr_kern_Mul → TH hr_kern_Mul → (Int × Int × Int × List Int × Unit) × Int × Unit := (fun z w => z)
def out_kern_Mul : (Int × Int × Int × List Int × Unit) × Int × Unit → T fr_kern_Mul × TH hr_kern_Mul := fun r => (r, ())
noncomputable def F_kern_Mul (a0 : Int × Int × Int × List Int × Unit) (a1 : Int × Int × Int × List Int × Unit) : Option ((Int × Int × Int × List Int × Unit) × Int × Unit) :=
 let x0 : Int := a0.2.2.1
 let x1 : List Int := a0.2.2.2.1
 let x2 : Int := a1.2.2.1
 let x3 : List Int := a1.2.2.2.1
 ((F_kern_pairs__funcs_Mul (a0.1, (a0.2.1, (x0, ((List.take (List.length x1) x1), ())))) (a1.1, (a1.2.1, (x2, ((List.take (List.length x3) x3), ())))))).bind fun r4 =>
 let x5 : Int := r4.1.2.1
 let x6 : Int := r4.1.2.2.1
 let x7 : List Int := r4.1.2.2.2.1
 (some ((r4.1.1, (x5, (x6, ((List.take (List.length x7) x7), ())))), r4.2))
noncomputable def G_kern_Mul : T fa_kern_Mul → TH ha_kern_Mul → Option ((Int × Int × Int × List Int × Unit) × Int × Unit) := fun x y => F_kern_Mul x.1 x.2.1
noncomputable def c_kern_Mul : Orc := ent i_kern_Mul [] 0 (sp fa_kern_Mul ha_kern_Mul fr_kern_Mul hr_kern_Mul G_kern_Mul out_kern_Mul)
theorem ok_kern_Mul : OrcOk PR c_kern_Mul := fnT okO_kern_Mul mixed p_kern_Mul (by kernel_rfl) (by kernel_rfl) (L := L_kern_Mul) (kp := false) (by kernel_rfl) (inn := inn_kern_Mul) (out := out_kern_Mul) (fun _ _ => rfl) (loopsL (l := []) (by kernel_rfl) trivial) (fun x y => by kernel_rfl)
noncomputable def O_kern_Byc1 : Orc := c_funcs_Mul
theorem okO_kern_Byc1 : OrcOk PR O_kern_Byc1 := ok_funcs_Mul
abbrev fa_kern_Byc1 : Fm := (.pair (.i .i64) (.pair (.i .u32) (.cst (.ref 0 1 0) .unit)))
abbrev ha_kern_Byc1 : List BF := [(.ints 1 y_uint32 true .u32)]
abbrev fr_kern_Byc1 : Fm := (.i .u32)
abbrev hr_kern_Byc1 : List BF := [(.ints 1 y_uint32 true .u32)]
noncomputable def L_kern_Byc1 : Lps := L0
def inn_kern_Byc1 : T fr_kern_Byc1 → TH hr_kern_Byc1 → (Int) × (List Int × Unit) := Prod.mk
def out_kern_Byc1 : (Int) × (List Int × Unit) → T fr_kern_Byc1 × TH hr_kern_Byc1 := id
noncomputable def F_kern_Byc1 (a0 : Int) (a1 : Int) (a2 : List Int) : Option ((Int) × (List Int × Unit)) :=
 bif (decide ((0:Nat) < (List.length a2))) then
 ((F_funcs_Mul a1 (List.getD a2 (0:Nat) (0:Int)))).bind fun r0 =>
 (some (r0, (a2, ())))
 else
 none
noncomputable def G_kern_Byc1 : T fa_kern_Byc1 → TH ha_kern_Byc1 → Option ((Int) × (List Int × Unit)) := fun x y => F_kern_Byc1 x.1 x.2.1 y.1
noncomputable def c_kern_Byc1 : Orc := ent i_kern_Byc1 [false, false, true] 0 (sp fa_kern_Byc1 ha_kern_Byc1 fr_kern_Byc1 hr_kern_Byc1 G_kern_Byc1 out_kern_Byc1)
theorem ok_kern_Byc1 : OrcOk PR c_kern_Byc1 := fnT okO_kern_Byc1 mixed p_kern_Byc1 (by kernel_rfl) (by kernel_rfl) (L := L_kern_Byc1) (kp := false) (by kernel_rfl) (inn := inn_kern_Byc1) (out := out_kern_Byc1) (fun _ _ => rfl) (loopsL (l := []) (by kernel_rfl) trivial) (fun x y => by kernel_rfl)
noncomputable def O_tensor_Each__kern_Byc1 : Orc := c_kern_Byc1
theorem okO_tensor_Each__kern_Byc1 : OrcOk PR O_tensor_Each__kern_Byc1 := ok_kern_Byc1
abbrev fa_tensor_Each__kern_Byc1 : Fm := (.pair (.agg (.pair (.i .i64) (.pair (.i .i64) (.pair (.i .i64) (.pair (.si .u32) .unit))))) (.pair (.i .i64) (.pair (.fn i_kern_Byc1 (.pair (.ref 0 1 0) .unit)) .unit)))
abbrev ha_tensor_Each__kern_Byc1 : List BF := [(.ints 1 y_uint32 true .u32)]
abbrev fr_tensor_Each__kern_Byc1 : Fm := (.agg (.pair (.i .i64) (.pair (.i .i64) (.pair (.i .i64) (.pair (.si .u32) .unit)))))
abbrev hr_tensor_Each__kern_Byc1 : List BF := [(.ints 1 y_uint32 true .u32)]
abbrev ff_tensor_Each__kern_Byc1_0 : Fm := (.us 2 (.cst (.fn i_kern_Byc1 (.cst (.ref 0 1 0) .unit)) (.us 3 (.cst (.ref 1 1 0) (.cst (.ref 2 1 0) (.us 13 (.pair (.si .u32) (.pair (.i .i64) (.pair (.i .i64) (.us 14 .unit))))))))))
abbrev hf_tensor_Each__kern_Byc1_0 : List BF := [(.ints 1 y_uint32 true .u32), (.list 1 y_api_Tensor true (.pair (.i .i64) (.pair (.i .i64) (.pair (.i .i64) (.cst .nils .unit))))), (.list 1 y_api_Tensor true (.pair (.i .i64) (.pair (.i .i64) (.pair (.i .i64) (.pair (.own 3 1 0 1) .unit))))), (.ints 1 y_uint32 true .u32)]
abbrev X_tensor_Each__kern_Byc1_0 : Xs := (.one (.exit 0) [6, 7] (.us 6 (.cst (.ref 1 1 0) (.cst (.ref 2 1 0) (.us 30 .unit)))) [(.ints 1 y_uint32 true .u32), (.list 1 y_api_Tensor true (.pair (.i .i64) (.pair (.i .i64) (.pair (.i .i64) (.cst .nils .unit))))), (.list 1 y_api_Tensor true (.pair (.i .i64) (.pair (.i .i64) (.pair (.i .i64) (.pair (.own 3 1 0 1) .unit))))), (.ints 1 y_uint32 true .u32)])
abbrev S_tensor_Each__kern_Byc1_0 : Type := T ff_tensor_Each__kern_Byc1_0 × TH hf_tensor_Each__kern_Byc1_0
abbrev E_tensor_Each__kern_Byc1_0 : Type := TX X_tensor_Each__kern_Byc1_0
noncomputable def LB_tensor_Each__kern_Byc1_0 : Lps := L0
noncomputable def st_tensor_Each__kern_Byc1_0 : StepT S_tensor_Each__kern_Byc1_0 E_tensor_Each__kern_Byc1_0 := fun R v kn ko =>
 let x0 : Int := v.1.2.2.1
 let x1 : List Int := v.1.1
 let x2 : Nat := (Int.toNat x0)
 bif (decide (x0 < v.1.2.1)) then
 bif (decide (((0:Int) ≤ x0) ∧ (x0 < (((List.length x1) : Nat) : Int)))) then
 ((F_kern_Byc1 x0 (List.getD x1 x2 (0:Int)) v.2.1)).bind fun r3 =>
 bif (decide (((0:Int) ≤ x0) ∧ (x0 < ((v.2.2.2.1.2.2.2.1 : Nat) : Int)))) then
 bif (decide (((0:Nat) + (x2 * (1:Nat))) < (List.length v.2.2.2.2.1))) then
 (kn (((List.take (List.length x1) x1), (v.1.2.1, ((IntKind.wrap .i64 (x0 + (1:Int))), ()))), (r3.2.1, (v.2.2.1, (v.2.2.2.1, ((List.set v.2.2.2.2.1 ((0:Nat) + (x2 * (1:Nat))) r3.1), ()))))))
 else
 none
 else
 none
 else
 none
 else
 (ko ((), v.2))
noncomputable def ls_tensor_Each__kern_Byc1_0 : St → LTr := (lsum ff_tensor_Each__kern_Byc1_0 hf_tensor_Each__kern_Byc1_0 X_tensor_Each__kern_Byc1_0 Prod.mk id st_tensor_Each__kern_Byc1_0 (hd [] [] [2, 6, 7, 21, 22, 23] 1))
theorem lp_tensor_Each__kern_Byc1_0 : LoopOk PR 1 (lpN f_tensor_Each 0) ls_tensor_Each__kern_Byc1_0 := loopT okO_tensor_Each__kern_Byc1 mixed (L := LB_tensor_Each__kern_Byc1_0) (d := 1) (bs := []) (ks := [2, 6, 7, 21, 22, 23]) (loopsL (l := []) (by kernel_rfl) trivial) (by kernel_rfl) (inS := Prod.mk) (outS := id) (fun _ _ => rfl) (inX := id) (outX := id) (fun _ => rfl) (fun v R kn ko => by kernel_rfl) (hd_wk [] [] [2, 6, 7, 21, 22, 23] 1)
noncomputable def L_tensor_Each__kern_Byc1 : Lps := (lpB 4 (.by_ ls_tensor_Each__kern_Byc1_0) L0)
def inn_tensor_Each__kern_Byc1 : T fr_tensor_Each__kern_Byc1 → TH hr_tensor_Each__kern_Byc1 → (Int × Int × Int × List Int × Unit) × (List Int × Unit) := Prod.mk
def out_tensor_Each__kern_Byc1 : (Int × Int × Int × List Int × Unit) × (List Int × Unit) → T fr_tensor_Each__kern_Byc1 × TH hr_tensor_Each__kern_Byc1 := id
noncomputable def F_tensor_Each__kern_Byc1 (a0 : Int × Int × Int × List Int × Unit) (a1 : Int) (a2 : List Int) : Option ((Int × Int × Int × List Int × Unit) × (List Int × Unit)) :=
 let x0 : List Int := a0.2.2.2.1
 let x1 : Nat := (List.length x0)
 let x2 : Int := ((x1 : Nat) : Int)
 let x3 : Nat := (Int.toNat x2)
 bif (decide (((0:Int) ≤ x2) ∧ (x2 ≤ (1073741824:Int)))) then
 ((lim st_tensor_Each__kern_Byc1_0 (((List.take x1 x0), (x2, ((0:Int), ()))), (a2, (((0:Int), ((0:Int), ((0:Int), ()))), ((a0.1, (a0.2.1, (a1, (x3, ())))), ((List.replicate x3 (0:Int)), ()))))))).bind fun r4 =>
 (some ((r4.2.2.2.1.1, (r4.2.2.2.1.2.1, (r4.2.2.2.1.2.2.1, ((List.take r4.2.2.2.1.2.2.2.1 (List.drop (0:Nat) r4.2.2.2.2.1)), ())))), (r4.2.1, ())))
 else
 none
noncomputable def G_tensor_Each__kern_Byc1 : T fa_tensor_Each__kern_Byc1 → TH ha_tensor_Each__kern_Byc1 → Option ((Int × Int × Int × List Int × Unit) × (List Int × Unit)) := fun x y => F_tensor_Each__kern_Byc1 x.1 x.2.1 y.1
noncomputable def c_tensor_Each__kern_Byc1 : Orc := ent i_tensor_Each [false, false, true] 0 (sp fa_tensor_Each__kern_Byc1 ha_tensor_Each__kern_Byc1 fr_tensor_Each__kern_Byc1 hr_tensor_Each__kern_Byc1 G_tensor_Each__kern_Byc1 out_tensor_Each__kern_Byc1)
theorem ok_tensor_Each__kern_Byc1 : OrcOk PR c_tensor_Each__kern_Byc1 := fnT okO_tensor_Each__kern_Byc1 mixed p_tensor_Each (by kernel_rfl) (by kernel_rfl) (L := L_tensor_Each__kern_Byc1) (kp := false) (by kernel_rfl) (inn := inn_tensor_Each__kern_Byc1) (out := out_tensor_Each__kern_Byc1) (fun _ _ => rfl) (loopsL (l := [((lpN f_tensor_Each 0), ls_tensor_Each__kern_Byc1_0)]) (by kernel_rfl) ⟨lp_tensor_Each__kern_Byc1_0, trivial⟩) (fun x y => by kernel_rfl)
noncomputable def O_kern_By : Orc := (orm c_kern_Wide (orm c_tensor_Each__kern_Byc1 c_kern_Byc1))
theorem okO_kern_By : OrcOk PR O_kern_By := (orm_ok ok_kern_Wide (orm_ok ok_tensor_Each__kern_Byc1 ok_kern_Byc1))
abbrev fa_kern_By : Fm := (.pair (.agg (.pair (.i .i64) (.pair (.i .i64) (.pair (.i .i64) (.pair (.si .u32) .unit))))) (.pair (.i .u32) .unit))
abbrev ha_kern_By : List BF := []
abbrev fr_kern_By : Fm := (.tup (.pair (.agg (.pair (.i .i64) (.pair (.i .i64) (.pair (.i .i64) (.pair (.si .u32) .unit))))) (.pair (.i .i64) .unit)))
abbrev hr_kern_By : List BF := []
noncomputable def L_kern_By : Lps := L0
def inn_kern_By : T fr_kern_By → TH hr_kern_By → (Int × Int × Int × List Int × Unit) × Int × Unit := (fun z w => z)
def out_kern_By : (Int × Int × Int × List Int × Unit) × Int × Unit → T fr_kern_By × TH hr_kern_By := fun r => (r, ())
noncomputable def F_kern_By (a0 : Int × Int × Int × List Int × Unit) (a1 : Int) : Option ((Int × Int × Int × List Int × Unit) × Int × Unit) :=
 let x0 : Int := a0.2.2.1
 let x1 : List Int := a0.2.2.2.1
 ((F_kern_Wide (a0.1, (a0.2.1, (x0, ((List.take (List.length x1) x1), ())))))).bind fun r2 =>
 let x3 : Int := r2.1.2.1
 let x4 : Int := r2.1.2.2.1
 let x5 : List Int := r2.1.2.2.2.1
 bif (r2.2.1 != (0:Int)) then
 (some (((0:Int), ((0:Int), ((0:Int), ([], ())))), r2.2))
 else
 ((F_tensor_Each__kern_Byc1 (r2.1.1, (x3, (x4, ((List.take (List.length x5) x5), ())))) (2:Int) [a1])).bind fun r6 =>
 let x7 : List Int := r6.1.2.2.2.1
 (some ((r6.1.1, (r6.1.2.1, (r6.1.2.2.1, ((List.take (List.length x7) x7), ())))), ((0:Int), ())))
noncomputable def G_kern_By : T fa_kern_By → TH ha_kern_By → Option ((Int × Int × Int × List Int × Unit) × Int × Unit) := fun x y => F_kern_By x.1 x.2.1
noncomputable def c_kern_By : Orc := ent i_kern_By [] 0 (sp fa_kern_By ha_kern_By fr_kern_By hr_kern_By G_kern_By out_kern_By)
theorem ok_kern_By : OrcOk PR c_kern_By := fnT okO_kern_By mixed p_kern_By (by kernel_rfl) (by kernel_rfl) (L := L_kern_By) (kp := false) (by kernel_rfl) (inn := inn_kern_By) (out := out_kern_By) (fun _ _ => rfl) (loopsL (l := []) (by kernel_rfl) trivial) (fun x y => by kernel_rfl)
noncomputable def O_anneallaw14_KernParts : Orc := (orm c_anneallaw14_known (orm c_annealhelp_Light (orm c_annealseat_Tensor (orm c_kern_Bias (orm c_annealref13_Bias (orm c_kern_Sums (orm c_annealref13_Sums (orm c_kern_Add (orm c_annealref13_Each (orm c_kern_Mul (orm c_kern_By (orm c_annealref13_By c_annealhelp_Tensor))))))))))))
theorem okO_anneallaw14_KernParts : OrcOk PR O_anneallaw14_KernParts := (orm_ok ok_anneallaw14_known (orm_ok ok_annealhelp_Light (orm_ok ok_annealseat_Tensor (orm_ok ok_kern_Bias (orm_ok ok_annealref13_Bias (orm_ok ok_kern_Sums (orm_ok ok_annealref13_Sums (orm_ok ok_kern_Add (orm_ok ok_annealref13_Each (orm_ok ok_kern_Mul (orm_ok ok_kern_By (orm_ok ok_annealref13_By ok_annealhelp_Tensor))))))))))))
abbrev fa_anneallaw14_KernParts : Fm := (.pair (.agg (.pair (.i .i64) (.pair (.i .i64) (.pair (.i .i64) (.pair (.si .u32) .unit))))) (.pair (.agg (.pair (.i .i64) (.pair (.i .i64) (.pair (.i .i64) (.pair (.si .u32) .unit))))) (.pair (.i .u8) (.pair (.i .u8) (.pair (.i .u8) (.pair (.i .u8) (.pair (.si .u32) (.pair (.si .u32) (.pair (.i .u32) .unit)))))))))
abbrev ha_anneallaw14_KernParts : List BF := []
abbrev fr_anneallaw14_KernParts : Fm := .b
abbrev hr_anneallaw14_KernParts : List BF := []
noncomputable def L_anneallaw14_KernParts : Lps := (lpB 9 (.un 5 [8, 103, 104, 105]) L0)
def inn_anneallaw14_KernParts : T fr_anneallaw14_KernParts → TH hr_anneallaw14_KernParts → Bool := (fun z w => z)
def out_anneallaw14_KernParts : Bool → T fr_anneallaw14_KernParts × TH hr_anneallaw14_KernParts := fun r => (r, ())
noncomputable def F_anneallaw14_KernParts (a0 : Int × Int × Int × List Int × Unit) (a1 : Int × Int × Int × List Int × Unit) (a2 : Int) (a3 : Int) (a4 : Int) (a5 : Int) (a6 : List Int) (a7 : List Int) (a8 : Int) : Option (Bool) :=
 let x0 : Int := a0.2.2.1
 let x1 : List Int := a0.2.2.2.1
 let x2 : Int := a1.2.2.1
 let x3 : List Int := a1.2.2.2.1
 let x4 : Int := (IntKind.wrap .i64 (Int.tmod a2 (5:Int)))
 let x5 : Int := (IntKind.wrap .i64 (Int.tmod a3 (5:Int)))
 let x6 : Int := (IntKind.wrap .i64 (Int.tmod a5 (3:Int)))
 let x7 : List Int := (List.take (List.length a7) a7)
 (F_anneallaw14_known).bind fun r8 =>
 bif (!r8) then
 (some false)
 else
 ((F_annealhelp_Light (a0.1, (a0.2.1, (x0, ((List.take (List.length x1) x1), ())))))).bind fun r9 =>
 bif (!r9) then
 (some true)
 else
 ((F_annealhelp_Light (a1.1, (a1.2.1, (x2, ((List.take (List.length x3) x3), ())))))).bind fun r10 =>
 bif (!r10) then
 (some true)
 else
 bif (decide ((((List.length a6) : Nat) : Int) > (30:Int))) then
 (some true)
 else
 bif (decide ((((List.length a7) : Nat) : Int) > (30:Int))) then
 (some true)
 else
 ((F_annealseat_Tensor x4 x5 (IntKind.wrap .i64 (Int.tmod a4 (3:Int))) (List.take (List.length a6) a6) ((Int.tmod a8 (2:Int)) == (0:Int)))).bind fun r11 =>
 let x12 : Int := r11.2.2.1
 let x13 : List Int := r11.2.2.2.1
 ((F_annealseat_Tensor (1:Int) x5 x6 x7 true)).bind fun r14 =>
 let x15 : Int := r14.2.2.1
 let x16 : List Int := r14.2.2.2.1
 ((F_annealseat_Tensor x4 x5 x6 x7 false)).bind fun r17 =>
 let x18 : Int := r17.2.2.1
 let x19 : List Int := r17.2.2.2.1
 ((F_kern_Bias (a0.1, (a0.2.1, (x0, ((List.take (List.length x1) x1), ())))) (a1.1, (a1.2.1, (x2, ((List.take (List.length x3) x3), ())))))).bind fun r20 =>
 let x21 : Int := r20.1.2.1
 let x22 : Int := r20.1.2.2.1
 let x23 : List Int := r20.1.2.2.2.1
 ((F_annealref13_Bias (a0.1, (a0.2.1, (x0, ((List.take (List.length x1) x1), ())))) (a1.1, (a1.2.1, (x2, ((List.take (List.length x3) x3), ())))))).bind fun r24 =>
 let x25 : Int := r24.1.2.1
 let x26 : Int := r24.1.2.2.1
 let x27 : List Int := r24.1.2.2.2.1
 ((F_kern_Sums (a0.1, (a0.2.1, (x0, ((List.take (List.length x1) x1), ())))))).bind fun r28 =>
 let x29 : Int := r28.1.2.1
 let x30 : Int := r28.1.2.2.1
 let x31 : List Int := r28.1.2.2.2.1
 ((F_annealref13_Sums (a0.1, (a0.2.1, (x0, ((List.take (List.length x1) x1), ())))))).bind fun r32 =>
 let x33 : Int := r32.1.2.1
 let x34 : Int := r32.1.2.2.1
 let x35 : List Int := r32.1.2.2.2.1
 ((F_kern_Add (a0.1, (a0.2.1, (x0, ((List.take (List.length x1) x1), ())))) (a1.1, (a1.2.1, (x2, ((List.take (List.length x3) x3), ())))))).bind fun r36 =>
 let x37 : Int := r36.1.2.1
 let x38 : Int := r36.1.2.2.1
 let x39 : List Int := r36.1.2.2.2.1
 ((F_annealref13_Each (a0.1, (a0.2.1, (x0, ((List.take (List.length x1) x1), ())))) (a1.1, (a1.2.1, (x2, ((List.take (List.length x3) x3), ())))) false)).bind fun r40 =>
 let x41 : Int := r40.1.2.1
 let x42 : Int := r40.1.2.2.1
 let x43 : List Int := r40.1.2.2.2.1
 ((F_kern_Mul (a0.1, (a0.2.1, (x0, ((List.take (List.length x1) x1), ())))) (a1.1, (a1.2.1, (x2, ((List.take (List.length x3) x3), ())))))).bind fun r44 =>
 let x45 : Int := r44.1.2.1
 let x46 : Int := r44.1.2.2.1
 let x47 : List Int := r44.1.2.2.2.1
 ((F_annealref13_Each (a0.1, (a0.2.1, (x0, ((List.take (List.length x1) x1), ())))) (a1.1, (a1.2.1, (x2, ((List.take (List.length x3) x3), ())))) true)).bind fun r48 =>
 let x49 : Int := r48.1.2.1
 let x50 : Int := r48.1.2.2.1
 let x51 : List Int := r48.1.2.2.2.1
 ((F_kern_By (a0.1, (a0.2.1, (x0, ((List.take (List.length x1) x1), ())))) a8)).bind fun r52 =>
 let x53 : Int := r52.1.2.1
 let x54 : Int := r52.1.2.2.1
 let x55 : List Int := r52.1.2.2.2.1
 ((F_annealref13_By (a0.1, (a0.2.1, (x0, ((List.take (List.length x1) x1), ())))) a8)).bind fun r56 =>
 let x57 : Int := r56.1.2.1
 let x58 : Int := r56.1.2.2.1
 let x59 : List Int := r56.1.2.2.2.1
 bif (r20.2.1 != r24.2.1) then
 (some false)
 else
 ((F_annealhelp_Tensor (r20.1.1, (x21, (x22, ((List.take (List.length x23) x23), ())))) (r24.1.1, (x25, (x26, ((List.take (List.length x27) x27), ())))))).bind fun r60 =>
 bif (!r60) then
 (some false)
 else
 bif (r28.2.1 != r32.2.1) then
 (some false)
 else
 ((F_annealhelp_Tensor (r28.1.1, (x29, (x30, ((List.take (List.length x31) x31), ())))) (r32.1.1, (x33, (x34, ((List.take (List.length x35) x35), ())))))).bind fun r61 =>
 bif (!r61) then
 (some false)
 else
 bif (r36.2.1 != r40.2.1) then
 (some false)
 else
 ((F_annealhelp_Tensor (r36.1.1, (x37, (x38, ((List.take (List.length x39) x39), ())))) (r40.1.1, (x41, (x42, ((List.take (List.length x43) x43), ())))))).bind fun r62 =>
 bif (!r62) then
 (some false)
 else
 bif (r44.2.1 != r48.2.1) then
 (some false)
 else
 ((F_annealhelp_Tensor (r44.1.1, (x45, (x46, ((List.take (List.length x47) x47), ())))) (r48.1.1, (x49, (x50, ((List.take (List.length x51) x51), ())))))).bind fun r63 =>
 bif (!r63) then
 (some false)
 else
 bif (r52.2.1 != r56.2.1) then
 (some false)
 else
 ((F_annealhelp_Tensor (r52.1.1, (x53, (x54, ((List.take (List.length x55) x55), ())))) (r56.1.1, (x57, (x58, ((List.take (List.length x59) x59), ())))))).bind fun r64 =>
 bif (!r64) then
 (some false)
 else
 ((F_kern_Bias (r11.1, (r11.2.1, (x12, ((List.take (List.length x13) x13), ())))) (r14.1, (r14.2.1, (x15, ((List.take (List.length x16) x16), ())))))).bind fun r65 =>
 let x66 : Int := r65.1.2.1
 let x67 : Int := r65.1.2.2.1
 let x68 : List Int := r65.1.2.2.2.1
 ((F_annealref13_Bias (r11.1, (r11.2.1, (x12, ((List.take (List.length x13) x13), ())))) (r14.1, (r14.2.1, (x15, ((List.take (List.length x16) x16), ())))))).bind fun r69 =>
 let x70 : Int := r69.1.2.1
 let x71 : Int := r69.1.2.2.1
 let x72 : List Int := r69.1.2.2.2.1
 ((F_kern_Sums (r11.1, (r11.2.1, (x12, ((List.take (List.length x13) x13), ())))))).bind fun r73 =>
 let x74 : Int := r73.1.2.1
 let x75 : Int := r73.1.2.2.1
 let x76 : List Int := r73.1.2.2.2.1
 ((F_annealref13_Sums (r11.1, (r11.2.1, (x12, ((List.take (List.length x13) x13), ())))))).bind fun r77 =>
 let x78 : Int := r77.1.2.1
 let x79 : Int := r77.1.2.2.1
 let x80 : List Int := r77.1.2.2.2.1
 ((F_kern_Add (r11.1, (r11.2.1, (x12, ((List.take (List.length x13) x13), ())))) (r14.1, (r14.2.1, (x15, ((List.take (List.length x16) x16), ())))))).bind fun r81 =>
 let x82 : Int := r81.1.2.1
 let x83 : Int := r81.1.2.2.1
 let x84 : List Int := r81.1.2.2.2.1
 ((F_annealref13_Each (r11.1, (r11.2.1, (x12, ((List.take (List.length x13) x13), ())))) (r14.1, (r14.2.1, (x15, ((List.take (List.length x16) x16), ())))) false)).bind fun r85 =>
 let x86 : Int := r85.1.2.1
 let x87 : Int := r85.1.2.2.1
 let x88 : List Int := r85.1.2.2.2.1
 ((F_kern_Mul (r11.1, (r11.2.1, (x12, ((List.take (List.length x13) x13), ())))) (r14.1, (r14.2.1, (x15, ((List.take (List.length x16) x16), ())))))).bind fun r89 =>
 let x90 : Int := r89.1.2.1
 let x91 : Int := r89.1.2.2.1
 let x92 : List Int := r89.1.2.2.2.1
 ((F_annealref13_Each (r11.1, (r11.2.1, (x12, ((List.take (List.length x13) x13), ())))) (r14.1, (r14.2.1, (x15, ((List.take (List.length x16) x16), ())))) true)).bind fun r93 =>
 let x94 : Int := r93.1.2.1
 let x95 : Int := r93.1.2.2.1
 let x96 : List Int := r93.1.2.2.2.1
 ((F_kern_By (r11.1, (r11.2.1, (x12, ((List.take (List.length x13) x13), ())))) a8)).bind fun r97 =>
 let x98 : Int := r97.1.2.1
 let x99 : Int := r97.1.2.2.1
 let x100 : List Int := r97.1.2.2.2.1
 ((F_annealref13_By (r11.1, (r11.2.1, (x12, ((List.take (List.length x13) x13), ())))) a8)).bind fun r101 =>
 let x102 : Int := r101.1.2.1
 let x103 : Int := r101.1.2.2.1
 let x104 : List Int := r101.1.2.2.2.1
 bif (r65.2.1 != r69.2.1) then
 (some false)
 else
 ((F_annealhelp_Tensor (r65.1.1, (x66, (x67, ((List.take (List.length x68) x68), ())))) (r69.1.1, (x70, (x71, ((List.take (List.length x72) x72), ())))))).bind fun r105 =>
 bif (!r105) then
 (some false)
 else
 bif (r73.2.1 != r77.2.1) then
 (some false)
 else
 ((F_annealhelp_Tensor (r73.1.1, (x74, (x75, ((List.take (List.length x76) x76), ())))) (r77.1.1, (x78, (x79, ((List.take (List.length x80) x80), ())))))).bind fun r106 =>
 bif (!r106) then
 (some false)
 else
 bif (r81.2.1 != r85.2.1) then
 (some false)
 else
 ((F_annealhelp_Tensor (r81.1.1, (x82, (x83, ((List.take (List.length x84) x84), ())))) (r85.1.1, (x86, (x87, ((List.take (List.length x88) x88), ())))))).bind fun r107 =>
 bif (!r107) then
 (some false)
 else
 bif (r89.2.1 != r93.2.1) then
 (some false)
 else
 ((F_annealhelp_Tensor (r89.1.1, (x90, (x91, ((List.take (List.length x92) x92), ())))) (r93.1.1, (x94, (x95, ((List.take (List.length x96) x96), ())))))).bind fun r108 =>
 bif (!r108) then
 (some false)
 else
 bif (r97.2.1 != r101.2.1) then
 (some false)
 else
 ((F_annealhelp_Tensor (r97.1.1, (x98, (x99, ((List.take (List.length x100) x100), ())))) (r101.1.1, (x102, (x103, ((List.take (List.length x104) x104), ())))))).bind fun r109 =>
 bif (!r109) then
 (some false)
 else
 ((F_kern_Bias (r11.1, (r11.2.1, (x12, ((List.take (List.length x13) x13), ())))) (r17.1, (r17.2.1, (x18, ((List.take (List.length x19) x19), ())))))).bind fun r110 =>
 let x111 : Int := r110.1.2.1
 let x112 : Int := r110.1.2.2.1
 let x113 : List Int := r110.1.2.2.2.1
 ((F_annealref13_Bias (r11.1, (r11.2.1, (x12, ((List.take (List.length x13) x13), ())))) (r17.1, (r17.2.1, (x18, ((List.take (List.length x19) x19), ())))))).bind fun r114 =>
 let x115 : Int := r114.1.2.1
 let x116 : Int := r114.1.2.2.1
 let x117 : List Int := r114.1.2.2.2.1
 ((F_kern_Sums (r11.1, (r11.2.1, (x12, ((List.take (List.length x13) x13), ())))))).bind fun r118 =>
 let x119 : Int := r118.1.2.1
 let x120 : Int := r118.1.2.2.1
 let x121 : List Int := r118.1.2.2.2.1
 ((F_annealref13_Sums (r11.1, (r11.2.1, (x12, ((List.take (List.length x13) x13), ())))))).bind fun r122 =>
 let x123 : Int := r122.1.2.1
 let x124 : Int := r122.1.2.2.1
 let x125 : List Int := r122.1.2.2.2.1
 ((F_kern_Add (r11.1, (r11.2.1, (x12, ((List.take (List.length x13) x13), ())))) (r17.1, (r17.2.1, (x18, ((List.take (List.length x19) x19), ())))))).bind fun r126 =>
 let x127 : Int := r126.1.2.1
 let x128 : Int := r126.1.2.2.1
 let x129 : List Int := r126.1.2.2.2.1
 ((F_annealref13_Each (r11.1, (r11.2.1, (x12, ((List.take (List.length x13) x13), ())))) (r17.1, (r17.2.1, (x18, ((List.take (List.length x19) x19), ())))) false)).bind fun r130 =>
 let x131 : Int := r130.1.2.1
 let x132 : Int := r130.1.2.2.1
 let x133 : List Int := r130.1.2.2.2.1
 ((F_kern_Mul (r11.1, (r11.2.1, (x12, ((List.take (List.length x13) x13), ())))) (r17.1, (r17.2.1, (x18, ((List.take (List.length x19) x19), ())))))).bind fun r134 =>
 let x135 : Int := r134.1.2.1
 let x136 : Int := r134.1.2.2.1
 let x137 : List Int := r134.1.2.2.2.1
 ((F_annealref13_Each (r11.1, (r11.2.1, (x12, ((List.take (List.length x13) x13), ())))) (r17.1, (r17.2.1, (x18, ((List.take (List.length x19) x19), ())))) true)).bind fun r138 =>
 let x139 : Int := r138.1.2.1
 let x140 : Int := r138.1.2.2.1
 let x141 : List Int := r138.1.2.2.2.1
 ((F_kern_By (r11.1, (r11.2.1, (x12, ((List.take (List.length x13) x13), ())))) a8)).bind fun r142 =>
 let x143 : Int := r142.1.2.1
 let x144 : Int := r142.1.2.2.1
 let x145 : List Int := r142.1.2.2.2.1
 ((F_annealref13_By (r11.1, (r11.2.1, (x12, ((List.take (List.length x13) x13), ())))) a8)).bind fun r146 =>
 let x147 : Int := r146.1.2.1
 let x148 : Int := r146.1.2.2.1
 let x149 : List Int := r146.1.2.2.2.1
 bif (r110.2.1 != r114.2.1) then
 (some false)
 else
 ((F_annealhelp_Tensor (r110.1.1, (x111, (x112, ((List.take (List.length x113) x113), ())))) (r114.1.1, (x115, (x116, ((List.take (List.length x117) x117), ())))))).bind fun r150 =>
 bif (!r150) then
 (some false)
 else
 bif (r118.2.1 != r122.2.1) then
 (some false)
 else
 ((F_annealhelp_Tensor (r118.1.1, (x119, (x120, ((List.take (List.length x121) x121), ())))) (r122.1.1, (x123, (x124, ((List.take (List.length x125) x125), ())))))).bind fun r151 =>
 bif (!r151) then
 (some false)
 else
 bif (r126.2.1 != r130.2.1) then
 (some false)
 else
 ((F_annealhelp_Tensor (r126.1.1, (x127, (x128, ((List.take (List.length x129) x129), ())))) (r130.1.1, (x131, (x132, ((List.take (List.length x133) x133), ())))))).bind fun r152 =>
 bif (!r152) then
 (some false)
 else
 bif (r134.2.1 != r138.2.1) then
 (some false)
 else
 ((F_annealhelp_Tensor (r134.1.1, (x135, (x136, ((List.take (List.length x137) x137), ())))) (r138.1.1, (x139, (x140, ((List.take (List.length x141) x141), ())))))).bind fun r153 =>
 bif (!r153) then
 (some false)
 else
 bif (r142.2.1 != r146.2.1) then
 (some false)
 else
 ((F_annealhelp_Tensor (r142.1.1, (x143, (x144, ((List.take (List.length x145) x145), ())))) (r146.1.1, (x147, (x148, ((List.take (List.length x149) x149), ())))))).bind fun r154 =>
 bif (!r154) then
 (some false)
 else
 ((F_kern_Bias (a0.1, (a0.2.1, (x0, ((List.take (List.length x1) x1), ())))) (r11.1, (r11.2.1, (x12, ((List.take (List.length x13) x13), ())))))).bind fun r155 =>
 let x156 : Int := r155.1.2.1
 let x157 : Int := r155.1.2.2.1
 let x158 : List Int := r155.1.2.2.2.1
 ((F_annealref13_Bias (a0.1, (a0.2.1, (x0, ((List.take (List.length x1) x1), ())))) (r11.1, (r11.2.1, (x12, ((List.take (List.length x13) x13), ())))))).bind fun r159 =>
 let x160 : Int := r159.1.2.1
 let x161 : Int := r159.1.2.2.1
 let x162 : List Int := r159.1.2.2.2.1
 ((F_kern_Sums (a0.1, (a0.2.1, (x0, ((List.take (List.length x1) x1), ())))))).bind fun r163 =>
 let x164 : Int := r163.1.2.1
 let x165 : Int := r163.1.2.2.1
 let x166 : List Int := r163.1.2.2.2.1
 ((F_annealref13_Sums (a0.1, (a0.2.1, (x0, ((List.take (List.length x1) x1), ())))))).bind fun r167 =>
 let x168 : Int := r167.1.2.1
 let x169 : Int := r167.1.2.2.1
 let x170 : List Int := r167.1.2.2.2.1
 ((F_kern_Add (a0.1, (a0.2.1, (x0, ((List.take (List.length x1) x1), ())))) (r11.1, (r11.2.1, (x12, ((List.take (List.length x13) x13), ())))))).bind fun r171 =>
 let x172 : Int := r171.1.2.1
 let x173 : Int := r171.1.2.2.1
 let x174 : List Int := r171.1.2.2.2.1
 ((F_annealref13_Each (a0.1, (a0.2.1, (x0, ((List.take (List.length x1) x1), ())))) (r11.1, (r11.2.1, (x12, ((List.take (List.length x13) x13), ())))) false)).bind fun r175 =>
 let x176 : Int := r175.1.2.1
 let x177 : Int := r175.1.2.2.1
 let x178 : List Int := r175.1.2.2.2.1
 ((F_kern_Mul (a0.1, (a0.2.1, (x0, ((List.take (List.length x1) x1), ())))) (r11.1, (r11.2.1, (x12, ((List.take (List.length x13) x13), ())))))).bind fun r179 =>
 let x180 : Int := r179.1.2.1
 let x181 : Int := r179.1.2.2.1
 let x182 : List Int := r179.1.2.2.2.1
 ((F_annealref13_Each (a0.1, (a0.2.1, (x0, ((List.take (List.length x1) x1), ())))) (r11.1, (r11.2.1, (x12, ((List.take (List.length x13) x13), ())))) true)).bind fun r183 =>
 let x184 : Int := r183.1.2.1
 let x185 : Int := r183.1.2.2.1
 let x186 : List Int := r183.1.2.2.2.1
 ((F_kern_By (a0.1, (a0.2.1, (x0, ((List.take (List.length x1) x1), ())))) a8)).bind fun r187 =>
 let x188 : Int := r187.1.2.1
 let x189 : Int := r187.1.2.2.1
 let x190 : List Int := r187.1.2.2.2.1
 ((F_annealref13_By (a0.1, (a0.2.1, (x0, ((List.take (List.length x1) x1), ())))) a8)).bind fun r191 =>
 let x192 : Int := r191.1.2.1
 let x193 : Int := r191.1.2.2.1
 let x194 : List Int := r191.1.2.2.2.1
 bif (r155.2.1 != r159.2.1) then
 (some false)
 else
 ((F_annealhelp_Tensor (r155.1.1, (x156, (x157, ((List.take (List.length x158) x158), ())))) (r159.1.1, (x160, (x161, ((List.take (List.length x162) x162), ())))))).bind fun r195 =>
 bif (!r195) then
 (some false)
 else
 bif (r163.2.1 != r167.2.1) then
 (some false)
 else
 ((F_annealhelp_Tensor (r163.1.1, (x164, (x165, ((List.take (List.length x166) x166), ())))) (r167.1.1, (x168, (x169, ((List.take (List.length x170) x170), ())))))).bind fun r196 =>
 bif (!r196) then
 (some false)
 else
 bif (r171.2.1 != r175.2.1) then
 (some false)
 else
 ((F_annealhelp_Tensor (r171.1.1, (x172, (x173, ((List.take (List.length x174) x174), ())))) (r175.1.1, (x176, (x177, ((List.take (List.length x178) x178), ())))))).bind fun r197 =>
 bif (!r197) then
 (some false)
 else
 bif (r179.2.1 != r183.2.1) then
 (some false)
 else
 ((F_annealhelp_Tensor (r179.1.1, (x180, (x181, ((List.take (List.length x182) x182), ())))) (r183.1.1, (x184, (x185, ((List.take (List.length x186) x186), ())))))).bind fun r198 =>
 bif (!r198) then
 (some false)
 else
 bif (r187.2.1 != r191.2.1) then
 (some false)
 else
 ((F_annealhelp_Tensor (r187.1.1, (x188, (x189, ((List.take (List.length x190) x190), ())))) (r191.1.1, (x192, (x193, ((List.take (List.length x194) x194), ())))))).bind fun r199 =>
 bif (!r199) then
 (some false)
 else
 (some true)
noncomputable def G_anneallaw14_KernParts : T fa_anneallaw14_KernParts → TH ha_anneallaw14_KernParts → Option (Bool) := fun x y => F_anneallaw14_KernParts x.1 x.2.1 x.2.2.1 x.2.2.2.1 x.2.2.2.2.1 x.2.2.2.2.2.1 x.2.2.2.2.2.2.1 x.2.2.2.2.2.2.2.1 x.2.2.2.2.2.2.2.2.1
noncomputable def c_anneallaw14_KernParts : Orc := ent i_anneallaw14_KernParts [] 0 (sp fa_anneallaw14_KernParts ha_anneallaw14_KernParts fr_anneallaw14_KernParts hr_anneallaw14_KernParts G_anneallaw14_KernParts out_anneallaw14_KernParts)
theorem ok_anneallaw14_KernParts : OrcOk PR c_anneallaw14_KernParts := fnT okO_anneallaw14_KernParts mixed p_anneallaw14_KernParts (by kernel_rfl) (by kernel_rfl) (L := L_anneallaw14_KernParts) (kp := false) (by kernel_rfl) (inn := inn_anneallaw14_KernParts) (out := out_anneallaw14_KernParts) (fun _ _ => rfl) (loopsL (l := []) (by kernel_rfl) trivial) (fun x y => by kernel_rfl)
end Go.Proofs.YtkknnloamidaiaaGreat.VI

namespace Go.Proofs.YtkknnloamidaiaaGreat.VI
set_option linter.unusedVariables false
set_option linter.unusedSimpArgs false
set_option linter.unusedSimpArgs false
set_option linter.unusedVariables false
set_option maxRecDepth 100000
set_option maxHeartbeats 8000000
theorem mulr_eq (f mode : Int) {a b : Int} (ha : w32 a) (hb : w32 b) : F_annealref1_Mul f mode a b = some (mulS f mode a b) := by
  have sm := sig_mul f a b
  have xa := xp_bd f a
  have xb := xp_bd f b
  have w1 : IntKind.i64.wrap (xp f a + xp f b) = xp f a + xp f b := wi64 (by omega)
  have w2 : IntKind.u64.wrap (sig f a * sig f b) = sig f a * sig f b := wu64 (by have := sm.1; omega)
  have hp := packr_eq f mode (!(sg f a == sg f b)) (xp f a + xp f b) sm.1 false
  rw [show min (max (xp f a + xp f b) (-10000)) 10000 = xp f a + xp f b by omega] at hp
  unfold F_annealref1_Mul mulS
  simp only [nans_eq f [a, b] (by simp) (by simpa using ⟨ha, hb⟩), zeror_eq f ha, zeror_eq f hb, infr_c f ha, infr_c f hb, negr_eq f ha, negr_eq f hb, nanr_w, infr_eq, unpackr_eq f ha, unpackr_eq f hb, Option.bind_some, List.any_cons, List.any_nil, Bool.or_false, w1, w2, hp]
  generalize pk f mode (!(sg f a == sg f b)) (xp f a + xp f b) (sig f a * sig f b) false = W
  rcases cls f a with ⟨a1, a3, a4⟩ | ⟨a1, a2, a3, a4⟩ | ⟨a1, a2, a3, a4⟩ | ⟨a1, a2, a3, a4⟩ <;> rcases cls f b with ⟨b1, b3, b4⟩ | ⟨b1, b2, b3, b4⟩ | ⟨b1, b2, b3, b4⟩ | ⟨b1, b2, b3, b4⟩ <;> simp only [a1, a3, a4, b1, b3, b4] <;> rfl
theorem zero_bits (f : Int) {a : Int} (ha : w32 a) (h : zr f a = true) : a % (2 * TT f) = sgn f (sg f a) := by
  have e : a % TT f = 0 := by unfold zr at h; simpa using h
  have s := sg_iff f a ha.1
  have b := mod_bd f a
  unfold sgn
  cases hs : sg f a
  · rw [hs] at s; simp at s ⊢; omega
  · have := s.1 hs; simp; omega
theorem addr_eq (f mode : Int) {a b : Int} (ha : w32 a) (hb : w32 b) : F_annealref1_Add f mode a b = some (addS f mode a b) := by
  have xa := xp_bd f a
  have xb := xp_bd f b
  obtain ⟨L, K, hL, hK, lL, lK, ht⟩ := rsum_eq f mode (sg f a) (sg f b) (N := sig f a) (M := sig f b) (sig_48 f a) (sig_48 f b) (show -298 ≤ xp f a ∧ xp f a ≤ 260 by omega) (show -298 ≤ xp f b ∧ xp f b ≤ 260 by omega)
  have hst := sum_tot f mode (sg f a) (sg f b) (e := xp f a) (d := xp f b) (sig_48 f a).1 (sig_48 f b).1
  have hfin : nan f a = false → inff f a = false → nan f b = false → inff f b = false →
      sumS f mode (sg f a) (xp f a) (sig f a) (sg f b) (xp f b) (sig f b) = bif zr f a && (zr f b && (sg f a == sg f b)) then (sgn f (sg f a), EXC0, ()) else totS f mode (sv (sg f a) (sig f a * 2 ^ (xp f a + 298).toNat) + sv (sg f b) (sig f b * 2 ^ (xp f b + 298).toNat)) := by
    intro a1 a4 b1 b4
    rw [hst]
    have ea := sig_zero f a a1 a4
    have eb := sig_zero f b b1 b4
    by_cases h : sig f a = 0 ∧ sig f b = 0 ∧ sg f a = sg f b
    · rw [if_pos h, ea.1 h.1, eb.1 h.2.1, h.2.2]; simp
    · rw [if_neg h]
      have : (zr f a && (zr f b && (sg f a == sg f b))) = false := by
        apply Bool.eq_false_iff.2; intro k; apply h
        simp only [Bool.and_eq_true, beq_iff_eq] at k
        exact ⟨ea.2 k.1, eb.2 k.2.1, k.2.2⟩
      rw [this]; rfl
  have ia := inf_bits f ha
  have ib := inf_bits f hb
  have za := zero_bits f ha
  unfold F_annealref1_Add addS
  simp only [nans_eq f [a, b] (by simp) (by simpa using ⟨ha, hb⟩), zeror_eq f ha, zeror_eq f hb, infr_c f ha, infr_c f hb, negr_eq f ha, negr_eq f hb, nanr_w, infr_eq, maskr_eq, unpackr_eq f ha, unpackr_eq f hb, Option.bind_some, List.any_cons, List.any_nil, Bool.or_false, hL, hK, len10 lL, len10 lK, ht, and_TT f ha.1 ha.2, and_TT f hb.1 hb.2]
  generalize totS f mode _ = W at *
  generalize sumS f mode _ _ _ _ _ _ = SW at *
  rcases cls f a with ⟨a1, a3, a4⟩ | ⟨a1, a2, a3, a4⟩ | ⟨a1, a2, a3, a4⟩ | ⟨a1, a2, a3, a4⟩ <;> rcases cls f b with ⟨b1, b3, b4⟩ | ⟨b1, b2, b3, b4⟩ | ⟨b1, b2, b3, b4⟩ | ⟨b1, b2, b3, b4⟩ <;> simp only [a1, a3, a4, b1, b3, b4, cond_true, cond_false, Bool.or_true, Bool.true_or, Bool.or_false, Bool.false_or, Bool.and_true, Bool.and_false, Bool.true_and, Bool.false_and, if_true, if_false, Bool.false_eq_true] at hfin ⊢
  all_goals first
    | rfl
    | (rw [ia a4]; done)
    | (rw [ib b4]; done)
    | (rw [ia a4]; rfl)
    | (rw [ib b4]; rfl)
    | (rw [hfin trivial trivial trivial trivial]; done)
    | (rw [ia a4]; cases sg f a <;> cases sg f b <;> rfl)
    | (rw [hfin trivial trivial trivial trivial, za a3]; cases (sg f a == sg f b) <;> rfl)
    | (rw [hfin trivial trivial trivial trivial]; rfl)
end Go.Proofs.YtkknnloamidaiaaGreat.VI
